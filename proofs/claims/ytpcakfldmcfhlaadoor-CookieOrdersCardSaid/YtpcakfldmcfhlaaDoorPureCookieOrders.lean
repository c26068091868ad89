/- CookieOrders: how two cookies compare is the reference's; they compare as 0 just if they are the same. -/
import Derived.Test.YtpcakfldmcfhlaaDoorPrint13
import Derived.Test.YtpcakfldmcfhlaaDoorYcookie
import Derived.Test.YtpcakfldmcfhlaaDoorYcookieC
namespace Go.Proofs.YtpcakfldmcfhlaaDoor.Pure
open Go.RowKit Go.Proofs.YtpcakfldmcfhlaaDoor.Print Go.Proofs.YtpcakfldmcfhlaaDoorW.PrintWords Go.Proofs.YtpcakfldmcfhlaaDoorW.PrintLast Go.Proofs.YtpcakfldmcfhlaaDoorW.PrintMore Go.Proofs.YtpcakfldmcfhlaaDoor.Y

theorem CookieOrders : cracknellaw13_CookieOrders.Pure := by
  intro a0 a1 a2 a3 a4 a5 a6 a7 a8 a9 a10 b0 b1 b2 b3 b4 b5 b6 b7 b8 b9 b10 ha0 ha1 ha2 ha3 _ _ _ _ hb0 hb1 hb2 hb3 _ _ _ _
  apply Ev.rounds
  simp only [cracknellaw13_CookieOrders.f, cookie_cmp_f]
  refine ev_bind (ev_now _) (ev_bind alive13_ev (ev_pos rfl (ev_bind (ref_cmp_ev ha0 ha1 ha2 ha3 hb0 hb1 hb2 hb3) (ev_pos rfl (ev_bind (ev_now _) ?_)))))
  have hv := rank_cook.val (a0, a1, a2, a3, a4, a5, a6, a7, a8, a9, a10) (b0, b1, b2, b3, b4, b5, b6, b7, b8, b9, b10)
  have ha := rank_cook.anti (a0, a1, a2, a3, a4, a5, a6, a7, a8, a9, a10) (b0, b1, b2, b3, b4, b5, b6, b7, b8, b9, b10)
  have hs := rank_cook.same (a0, a1, a2, a3, a4, a5, a6, a7, a8, a9, a10) (b0, b1, b2, b3, b4, b5, b6, b7, b8, b9, b10)
  refine ev_pos (by rw [w64 (by omega) (by omega)]; exact ha) (ev_eq (ev_now _) ?_)
  rw [beq_iff_eq, Bool.eq_iff_iff, beq_iff_eq, hs]
  simp only [Prod.mk.injEq, Bool.and_eq_true, beq_iff_eq, toList_inj]

end Go.Proofs.YtpcakfldmcfhlaaDoor.Pure
