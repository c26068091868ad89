/- HostTransitive: what a host matches is matched by each that matches the host. -/
import Derived.Test.YtcblmcehbjlmfaaDoorPrint11
import Derived.Test.YtcblmcehbjlmfaaDoorYhostB
namespace Go.Proofs.YtcblmcehbjlmfaaDoor.Pure
open Go.RowKit Go.Proofs.YtcblmcehbjlmfaaDoor.Print Go.Proofs.YtcblmcehbjlmfaaDoorW.PrintWords Go.Proofs.YtcblmcehbjlmfaaDoorW.PrintLast Go.Proofs.YtcblmcehbjlmfaaDoorW.PrintMore Go.Proofs.YtcblmcehbjlmfaaDoor.Y

theorem match_trans {a b c : ByteArray} (h : matchB a b = true) (h2 : matchB b c = true) : matchB a c = true := by
  rcases match_cases h with rfl | ⟨e, hi⟩
  · exact h2
  · rcases match_cases h2 with rfl | ⟨e2, _⟩
    · exact h
    · exact match_of (List.IsSuffix.trans e2 ((List.suffix_cons _ _).trans e)) hi
theorem HostTransitive : cracknellaw11_HostTransitive.Pure := by
  intro a b c ha hb hc
  apply Ev.rounds
  simp only [cracknellaw11_HostTransitive.f]
  have no : Ev (fun k => cracknellaw11_HostTransitive.j0 k a b c true) true := by
    apply ev_succ
    simp only [cracknellaw11_HostTransitive.j0]
    exact ev_pos (by trivial) (ev_bind alive11_ev (ev_now _))
  by_cases h : (a.size : Int) > 200
  · exact ev_pos h no
  · refine ev_neg h ?_
    by_cases h2 : (b.size : Int) > 200
    · exact ev_pos h2 no
    · refine ev_neg h2 ?_
      by_cases h3 : (c.size : Int) > 200
      · rw [decide_eq_true h3]; exact no
      · rw [decide_eq_false h3]
        apply ev_succ
        simp only [cracknellaw11_HostTransitive.j0]
        refine ev_neg (by simp) (ev_bind alive11_ev (ev_pos rfl (ev_bind (match_ev (by omega) (by omega)) ?_)))
        by_cases hp : matchB a b = true
        · refine ev_pos hp (ev_bind (match_ev (by omega) (by omega)) ?_)
          by_cases hq : matchB b c = true
          · exact ev_pos hq (ev_bind (match_ev (by omega) (by omega)) (ev_eq (ev_now _) (match_trans hp hq)))
          · exact ev_neg hq (ev_now _)
        · exact ev_neg hp (ev_now _)

end Go.Proofs.YtcblmcehbjlmfaaDoor.Pure
