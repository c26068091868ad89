/- CookieRight: which cookies may be is the reference's. -/
import Derived.Test.YtpcakfldmcfhlaaGreatDoorPrint13
import Derived.Test.YtpcakfldmcfhlaaGreatDoorYcookie
import Derived.Test.YtpcakfldmcfhlaaGreatDoorYrightR
namespace Go.Proofs.YtpcakfldmcfhlaaGreatDoor.Pure
open Go.RowKit Go.Proofs.YtpcakfldmcfhlaaGreatDoor.Print Go.Proofs.YtpcakfldmcfhlaaGreatDoorW.PrintWords Go.Proofs.YtpcakfldmcfhlaaGreatDoorW.PrintLast Go.Proofs.YtpcakfldmcfhlaaGreatDoorW.PrintMore Go.Proofs.YtpcakfldmcfhlaaGreatDoor.Y

theorem CookieRight : cracknellaw13_CookieRight.Pure := by
  intro d p n v c4 c5 c6 ho se ht ss _ _ _ _ _ _ _ _
  apply Ev.rounds
  have hT : Ev (fun k => cracknellaw13_CookieRight.j0 k true d p n v c4 c5 c6 ho se ht ss) true := by
    apply ev_succ
    simp only [cracknellaw13_CookieRight.j0]
    exact ev_pos (by trivial) (ev_bind alive13_ev (ev_now _))
  simp only [cracknellaw13_CookieRight.f]
  by_cases h1 : (d.size : Int) > 500
  · exact ev_pos h1 hT
  by_cases h2 : (p.size : Int) > 500
  · exact ev_neg h1 (ev_pos h2 hT)
  by_cases h3 : (n.size : Int) > 500
  · exact ev_neg h1 (ev_neg h2 (ev_pos h3 hT))
  refine ev_neg h1 (ev_neg h2 (ev_neg h3 ?_))
  by_cases h4 : (v.size : Int) > 500
  · rw [decide_eq_true h4]; exact hT
  rw [decide_eq_false h4]
  apply ev_succ
  simp only [cracknellaw13_CookieRight.j0]
  exact ev_neg (by decide) (ev_bind alive13_ev (ev_pos rfl (ev_bind (cookR_ev (by omega) (by omega) (by omega) (by omega)) (ev_bind (ref_cookR_ev (by omega) (by omega) (by omega) (by omega)) (ev_eq (ev_now _) (by simp))))))

end Go.Proofs.YtpcakfldmcfhlaaGreatDoor.Pure
