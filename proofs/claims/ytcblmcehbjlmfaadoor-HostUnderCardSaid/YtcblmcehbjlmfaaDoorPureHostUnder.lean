/- HostUnder: a part and a dot ahead of a host make a host that matches it, if both are hosts, and it is no address. -/
import Derived.Test.YtcblmcehbjlmfaaDoorPrint12
import Derived.Test.YtcblmcehbjlmfaaDoorYhostB
namespace Go.Proofs.YtcblmcehbjlmfaaDoor.Pure
open Go.RowKit Go.Proofs.YtcblmcehbjlmfaaDoor.Print Go.Proofs.YtcblmcehbjlmfaaDoorW.PrintWords Go.Proofs.YtcblmcehbjlmfaaDoorW.PrintLast Go.Proofs.YtcblmcehbjlmfaaDoorW.PrintMore Go.Proofs.YtcblmcehbjlmfaaDoor.Y

theorem dot_bytes (a b : ByteArray) : bytesOf ((a ++ (⟨#[46]⟩ : ByteArray)) ++ b) = bytesOf a ++ 46 :: bytesOf b := by
  rw [bytesOf_append, bytesOf_append, List.append_assoc]
  rfl
theorem HostUnder : cracknellaw11_HostUnder.Pure := by
  intro a b ha hb
  apply Ev.rounds
  simp only [cracknellaw11_HostUnder.f]
  have no : Ev (fun k => cracknellaw11_HostUnder.j0 k a b true) true := by
    apply ev_succ
    simp only [cracknellaw11_HostUnder.j0]
    exact ev_pos (by trivial) (ev_bind alive11_ev (ev_now _))
  have no1 : ∀ x y : ByteArray, Ev (fun k => cracknellaw11_HostUnder.j1 k a b x y true) true := by
    intro x y
    apply ev_succ
    simp only [cracknellaw11_HostUnder.j1]
    exact ev_pos (by trivial) (ev_bind alive11_ev (ev_now _))
  by_cases h : (a.size : Int) > 200
  · exact ev_pos h no
  · refine ev_neg h ?_
    by_cases h2 : (b.size : Int) > 200
    · rw [decide_eq_true h2]; exact no
    · rw [decide_eq_false h2]
      apply ev_succ
      simp only [cracknellaw11_HostUnder.j0]
      refine ev_neg (by simp) (ev_bind (canon_ev a) (ev_bind (canon_ev b) ?_))
      by_cases ca : (canonB a).2 = true
      · refine ev_pos ca ?_
        by_cases cb : (canonB b).2 = true
        · refine ev_pos cb ?_
          obtain ⟨a1, a2, a3⟩ := canon_yes (s := a) (t := (canonB a).1) (by rw [← ca])
          obtain ⟨b1, b2, b3⟩ := canon_yes (s := b) (t := (canonB b).1) (by rw [← cb])
          have za : (canonB a).1.size = a.size := by rw [a1, low_size]
          have zb : (canonB b).1.size = b.size := by rw [b1, low_size]
          rw [w64 (by omega) (by omega)]
          by_cases hz : ((canonB a).1.size : Int) + ((canonB b).1.size : Int) ≥ 64
          · rw [decide_eq_true hz]; exact no1 _ _
          · rw [decide_eq_false hz]
            apply ev_succ
            simp only [cracknellaw11_HostUnder.j1]
            have hd := dot_bytes a b
            have hd2 := dot_bytes (canonB a).1 (canonB b).1
            have s1 : (a ++ (⟨#[46]⟩ : ByteArray)).size = a.size + 1 := ByteArray.size_append
            have s2 : ((canonB a).1 ++ (⟨#[46]⟩ : ByteArray)).size = (canonB a).1.size + 1 := ByteArray.size_append
            have hlow : lowB ((a ++ (⟨#[46]⟩ : ByteArray)) ++ b) = ((canonB a).1 ++ (⟨#[46]⟩ : ByteArray)) ++ (canonB b).1 := by
              apply bytesOf_inj
              rw [bytesOf_low, hd, hd2, List.map_append, List.map_cons, a1, b1, bytesOf_low, bytesOf_low]
              rfl
            have hu : canonB ((a ++ (⟨#[46]⟩ : ByteArray)) ++ b) = (((canonB a).1 ++ (⟨#[46]⟩ : ByteArray)) ++ (canonB b).1, true) := by
              conv => lhs; unfold canonB
              rw [hlow, if_pos]
              refine ⟨by rw [ByteArray.size_append, s1]; omega, ?_⟩
              unfold parts at a3 b3 ⊢
              rw [hd2, splitL_join, List.map_append, List.all_append, Bool.and_eq_true, a1, b1]
              exact ⟨a3, b3⟩
            have hsuf : sufP (((canonB a).1 ++ (⟨#[46]⟩ : ByteArray)) ++ (canonB b).1) (canonB b).1 := by
              unfold sufP
              rw [hd2]
              exact List.suffix_append _ _
            have hzu : (((canonB a).1 ++ (⟨#[46]⟩ : ByteArray)) ++ (canonB b).1).size = (canonB a).1.size + 1 + (canonB b).1.size := by rw [ByteArray.size_append, s2]
            refine ev_neg (by simp) (ev_pos (by omega) (ev_pos (by omega) (ev_bind (canon_ev _) (ev_bind alive11_ev (ev_pos rfl ?_)))))
            rw [hu]
            dsimp only
            refine ev_pos rfl (ev_pos (by omega) (ev_pos (by omega) (ev_pos rfl (ev_bind (match_ev (by omega) (by omega)) (ev_bind (ip_ev (by omega)) (ev_pos ?_ (ev_bind (match_ev (by omega) (by omega)) (ev_eq (ev_now _) ?_))))))))
            · rw [beq_iff_eq]
              cases hip : ipB (((canonB a).1 ++ (⟨#[46]⟩ : ByteArray)) ++ (canonB b).1) with
              | false => exact match_of hsuf hip
              | true =>
                rw [Bool.not_true, ← Bool.not_eq_true]
                intro e
                rcases match_cases e with e | ⟨_, e⟩
                · have := congrArg ByteArray.size e
                  omega
                · rw [hip] at e; cases e
            · rw [Bool.not_eq_true', ← Bool.not_eq_true]
              intro e
              rcases match_cases e with e | ⟨e, _⟩
              · have := congrArg ByteArray.size e
                omega
              · have := suf_size e
                omega
        · exact ev_neg cb (no1 _ _)
      · exact ev_neg ca (no1 _ _)

end Go.Proofs.YtcblmcehbjlmfaaDoor.Pure
