/- TableAll: behind any ops a table is the document's rows. -/
import Derived.Test.YtmpccjkdfdgedaaPrint3
import Derived.Test.YtmpccjkdfdgedaaYtabB
namespace Go.Proofs.Ytmpccjkdfdgedaa.Pure
open Go.RowKit Go.Proofs.Ytmpccjkdfdgedaa.Print Go.Proofs.YtmpccjkdfdgedaaW.PrintWords Go.Proofs.YtmpccjkdfdgedaaW.PrintLast Go.Proofs.YtmpccjkdfdgedaaW.PrintMore Go.Proofs.Ytmpccjkdfdgedaa.Y

theorem TableAll : cracknellaw14_TableAll.Pure := by
  intro l hw
  have halive : law14_alive.f = some true := rfl
  by_cases hb : (l.length : Int) > 60
  · exact ⟨0, by unfold cracknellaw14_TableAll.f; rw [if_pos hb]; rfl⟩
  suffices h : ∀ n j, l.length - j = n → j ≤ l.length → Ev (fun k => cracknellaw14_TableAll.l0 k l (l.length : Int) (j : Int)) true by
    obtain ⟨K, h⟩ := h _ 0 rfl (Nat.zero_le _)
    exact ⟨K, by unfold cracknellaw14_TableAll.f; rw [if_neg hb]; exact h K (Nat.le_refl _)⟩
  intro n
  induction n with
  | zero =>
    intro j hn hj
    obtain rfl : j = l.length := by omega
    refine ev_succ ?_
    simp only [cracknellaw14_TableAll.l0]
    exact ev_neg (by omega) (ev_now true)
  | succ n ih =>
    intro j hn hj
    refine ev_succ ?_
    simp only [cracknellaw14_TableAll.l0]
    rw [next1 (by omega)]
    refine ev_pos (by omega) (ev_pos (by omega) (ev_pos (by omega) ?_))
    rw [Int.toNat_natCast]
    have hl : (l.take (j + 1)).length ≤ 500 := by rw [List.length_take]; omega
    refine ev_bind_some (fun _ => rfl) (ev_bind (made_ev _ hl) (ev_bind (model_ev _ hl) ?_))
    have hs := same_f (t := behind (l.take (j + 1))) (by have := behind_len (l.take (j + 1)); omega) rfl
    simp only [hs, Option.bind_some]
    exact ev_pos trivial (ih (j + 1) (by omega) (by omega))

end Go.Proofs.Ytmpccjkdfdgedaa.Pure
