/- CookieTransitive: what is not greater than what is not greater than a third cookie is not greater than that. -/
import Derived.Test.YtpcakfldmcfhlaaDoorPrint18
import Derived.Test.YtpcakfldmcfhlaaDoorYcookie
namespace Go.Proofs.YtpcakfldmcfhlaaDoor.Pure
open Go.RowKit Go.Proofs.YtpcakfldmcfhlaaDoor.Print Go.Proofs.YtpcakfldmcfhlaaDoorW.PrintWords Go.Proofs.YtpcakfldmcfhlaaDoorW.PrintLast Go.Proofs.YtpcakfldmcfhlaaDoorW.PrintMore Go.Proofs.YtpcakfldmcfhlaaDoor.Y

theorem CookieTransitive : cracknellaw13_CookieTransitive.Pure := by
  intro a0 a1 a2 a3 a4 a5 a6 a7 a8 a9 a10 b0 b1 b2 b3 b4 b5 b6 b7 b8 b9 b10 c0 c1 c2 c3 c4 c5 c6 c7 c8 c9 c10 _ _ _ _ _ _ _ _ _ _ _ _ _ _ _ _ _ _ _ _ _ _ _ _
  apply Ev.rounds
  simp only [cracknellaw13_CookieTransitive.f, cookie_cmp_f]
  refine ev_bind alive13_ev (ev_pos rfl (ev_bind (ev_now _) ?_))
  by_cases h : cookC (a0, a1, a2, a3, a4, a5, a6, a7, a8, a9, a10) (b0, b1, b2, b3, b4, b5, b6, b7, b8, b9, b10) > 0
  · exact ev_pos h (ev_now _)
  · refine ev_neg h (ev_bind (ev_now _) ?_)
    by_cases h2 : cookC (b0, b1, b2, b3, b4, b5, b6, b7, b8, b9, b10) (c0, c1, c2, c3, c4, c5, c6, c7, c8, c9, c10) > 0
    · exact ev_pos h2 (ev_now _)
    · refine ev_neg h2 (ev_bind (ev_now _) (ev_eq (ev_now _) (decide_eq_true ?_)))
      exact rank_cook.trans _ _ _ (Int.not_lt.mp h) (Int.not_lt.mp h2)

end Go.Proofs.YtpcakfldmcfhlaaDoor.Pure
