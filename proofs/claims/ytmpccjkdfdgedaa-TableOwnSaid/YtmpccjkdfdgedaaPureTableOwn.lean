/- TableOwn: what is put, dropped, or written into the keys changes nothing of a table. -/
import Derived.Test.YtmpccjkdfdgedaaPrint9
import Derived.Test.YtmpccjkdfdgedaaYtabB
namespace Go.Proofs.Ytmpccjkdfdgedaa.Pure
open Go.RowKit Go.Proofs.Ytmpccjkdfdgedaa.Print Go.Proofs.YtmpccjkdfdgedaaW.PrintWords Go.Proofs.YtmpccjkdfdgedaaW.PrintLast Go.Proofs.YtmpccjkdfdgedaaW.PrintMore Go.Proofs.Ytmpccjkdfdgedaa.Y

theorem TableOwn : cracknellaw14_TableOwn.Pure := by
  intro l more hw hw2
  have halive : law14_alive.f = some true := rfl
  by_cases hb : (l.length : Int) > 60
  · exact ⟨1, by unfold cracknellaw14_TableOwn.f; rw [if_pos hb]; rfl⟩
  by_cases hb2 : (more.length : Int) > 60
  · exact ⟨1, by unfold cracknellaw14_TableOwn.f; rw [if_neg hb, decide_eq_true hb2]; rfl⟩
  have hr := behind_rises l
  have hlen := behind_len l
  suffices h : Ev (fun k => cracknellaw14_TableOwn.j0 k l more false) true by
    obtain ⟨K, h⟩ := h
    exact ⟨K, by unfold cracknellaw14_TableOwn.f; rw [if_neg hb, decide_eq_false hb2]; exact h K (Nat.le_refl _)⟩
  refine ev_succ ?_
  simp only [cracknellaw14_TableOwn.j0]
  refine ev_neg (by decide) (ev_bind (made_ev _ (by omega)) (ev_bind (model_ev _ (by omega)) ?_))
  have last : ∀ n j (ks : List Int), ks.length - j = n → j ≤ ks.length → ks.length ≤ 1000 → Ev (fun k => cracknellaw14_TableOwn.l1 k ((behind l).map cv) ks (ks.length : Int) (j : Int) (behind l)) true := by
    intro n
    induction n with
    | zero =>
      intro j ks hn hj hk
      obtain rfl : j = ks.length := by omega
      refine ev_succ ?_
      simp only [cracknellaw14_TableOwn.l1]
      refine ev_neg (by omega) ?_
      have hs := same_f (t := behind l) (by omega) rfl
      simp only [halive, hs, Option.bind_some]
      exact ev_pos trivial (ev_now true)
    | succ n ih =>
      intro j ks hn hj hk
      refine ev_succ ?_
      simp only [cracknellaw14_TableOwn.l1]
      rw [next1 (by omega)]
      refine ev_pos (by omega) (ev_pos (by omega) (ev_pos (by omega) ?_))
      have := ih (j + 1) (ks.set ((j : Int)).toNat (wrap64 (-(rd ks (j : Int))))) (by rw [List.length_set]; omega) (by rw [List.length_set]; omega) (by rw [List.length_set]; omega)
      rw [List.length_set] at this
      exact this
  suffices h : ∀ n j, more.length - j = n → j ≤ more.length → Ev (fun k => cracknellaw14_TableOwn.l0 k ((behind l).map cv) more (more.length : Int) (j : Int) (behind l)) true from h _ 0 rfl (Nat.zero_le _)
  intro n
  induction n with
  | zero =>
    intro j hn hj
    obtain rfl : j = more.length := by omega
    refine ev_succ ?_
    simp only [cracknellaw14_TableOwn.l0]
    refine ev_neg (by omega) ?_
    have hk : table_Keys_Int.f (behind l) = some ((behind l).map (·.f0)) := by unfold table_Keys_Int.f; rw [if_pos (by omega)]
    simp only [hk, Option.bind_some]
    exact last _ 0 _ rfl (Nat.zero_le _) (by rw [List.length_map]; omega)
  | succ n ih =>
    intro j hn hj
    refine ev_succ ?_
    simp only [cracknellaw14_TableOwn.l0]
    rw [next1 (by omega), rdO (by omega)]
    refine ev_pos (by omega) (ev_pos (by omega) (ev_pos (by omega) ?_))
    have hp := rises_put (k := more[j].f1) (y := (⟨more[j].f1, more[j].f2⟩ : SR)) hr rfl
    have hpl := put_len more[j].f1 (⟨more[j].f1, more[j].f2⟩ : SR) hr
    refine ev_bind (put_ev _ _ hr (by omega)) (ev_bind (drop_ev _ hr (by omega)) (ev_bind (put_ev _ _ hr (by omega)) (ev_bind (put_ev _ _ hp (by omega)) ?_)))
    have hg := get_f more[j].f1 hp (by omega)
    rw [look_put (k := more[j].f1) (y := (⟨more[j].f1, more[j].f2⟩ : SR)) hr rfl, if_pos rfl] at hg
    simp only [hg, Option.bind_some]
    exact ev_pos trivial (ev_pos trivial (ih (j + 1) (by omega) (by omega)))

end Go.Proofs.Ytmpccjkdfdgedaa.Pure
