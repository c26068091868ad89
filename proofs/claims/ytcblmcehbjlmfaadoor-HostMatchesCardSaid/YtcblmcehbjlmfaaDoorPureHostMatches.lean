/- HostMatches: whether any text matches any other one is the reference's; each matches itself, and two that match one another are the same. -/
import Derived.Test.YtcblmcehbjlmfaaDoorPrint8
import Derived.Test.YtcblmcehbjlmfaaDoorYhostB
namespace Go.Proofs.YtcblmcehbjlmfaaDoor.Pure
open Go.RowKit Go.Proofs.YtcblmcehbjlmfaaDoor.Print Go.Proofs.YtcblmcehbjlmfaaDoorW.PrintWords Go.Proofs.YtcblmcehbjlmfaaDoorW.PrintLast Go.Proofs.YtcblmcehbjlmfaaDoorW.PrintMore Go.Proofs.YtcblmcehbjlmfaaDoor.Y

theorem HostMatches : cracknellaw11_HostMatches.Pure := by
  intro a b ha hb
  apply Ev.rounds
  simp only [cracknellaw11_HostMatches.f]
  have no : Ev (fun k => cracknellaw11_HostMatches.j0 k a b true) true := by
    apply ev_succ
    simp only [cracknellaw11_HostMatches.j0]
    exact ev_pos (by trivial) (ev_bind alive11_ev (ev_now _))
  by_cases h : (a.size : Int) > 200
  · exact ev_pos h no
  · refine ev_neg h ?_
    by_cases h2 : (b.size : Int) > 200
    · rw [decide_eq_true h2]; exact no
    · rw [decide_eq_false h2]
      apply ev_succ
      simp only [cracknellaw11_HostMatches.j0]
      refine ev_neg (by simp) (ev_bind (match_ev (by omega) (by omega)) (ev_bind (match_ev (by omega) (by omega)) (ev_bind alive11_ev (ev_pos rfl (ev_bind (ref_match_ev (by omega) (by omega)) (ev_pos (by simp) (ev_bind (match_ev (by omega) (by omega)) (ev_pos (match_self a) ?_))))))))
      by_cases hp : matchB a b = true
      · refine ev_pos hp ?_
        by_cases hq : matchB b a = true
        · refine ev_pos hq (ev_eq (ev_now _) ?_)
          rw [beq_iff_eq, toList_inj]
          rcases match_cases hp with e | ⟨e, _⟩
          · exact e
          · rcases match_cases hq with e2 | ⟨e2, _⟩
            · exact e2.symm
            · have := suf_size e
              have := suf_size e2
              omega
        · exact ev_neg hq (ev_now _)
      · exact ev_neg hp (ev_now _)

end Go.Proofs.YtcblmcehbjlmfaaDoor.Pure
