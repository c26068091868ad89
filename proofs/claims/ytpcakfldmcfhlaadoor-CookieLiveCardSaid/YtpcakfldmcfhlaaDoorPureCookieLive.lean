/- CookieLive: whether a cookie has not expired is the reference's; once it has, it stays so. -/
import Derived.Test.YtpcakfldmcfhlaaDoorPrint12
import Derived.Test.YtpcakfldmcfhlaaDoorYcookie
import Derived.Test.YtpcakfldmcfhlaaDoorYpath
namespace Go.Proofs.YtpcakfldmcfhlaaDoor.Pure
open Go.RowKit Go.Proofs.YtpcakfldmcfhlaaDoor.Print Go.Proofs.YtpcakfldmcfhlaaDoorW.PrintWords Go.Proofs.YtpcakfldmcfhlaaDoorW.PrintLast Go.Proofs.YtpcakfldmcfhlaaDoorW.PrintMore Go.Proofs.YtpcakfldmcfhlaaDoor.Y

theorem CookieLive : cracknellaw13_CookieLive.Pure := by
  intro d p n v c4 c5 ex ho se ht ss now later _ _ _ _ _ _ _ _ _ _
  apply Ev.rounds
  simp only [cracknellaw13_CookieLive.f, live_f, ref_live_f]
  refine ev_bind (ev_now _) (ev_bind alive13_ev (ev_pos rfl (ev_bind (ev_now _) (ev_pos (by simp) ?_))))
  by_cases h : liveB ex now = true
  · exact ev_pos h (ev_now _)
  · refine ev_neg h ?_
    by_cases h2 : later < now
    · exact ev_pos h2 (ev_now _)
    · refine ev_neg h2 (ev_bind (ev_now _) (ev_eq (ev_now _) ?_))
      unfold liveB at h ⊢
      simp only [Bool.or_eq_true, decide_eq_true_iff, not_or] at h
      rw [decide_eq_false h.1, decide_eq_false (show ¬ ex > later by omega)]
      rfl

end Go.Proofs.YtpcakfldmcfhlaaDoor.Pure
