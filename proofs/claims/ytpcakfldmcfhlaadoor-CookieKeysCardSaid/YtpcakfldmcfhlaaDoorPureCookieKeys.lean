/- CookieKeys: by what a jar has a cookie once, and how two such compare, is the reference's; they compare as 0 just if they are the same. -/
import Derived.Test.YtpcakfldmcfhlaaDoorPrint10
import Derived.Test.YtpcakfldmcfhlaaDoorYcookie
import Derived.Test.YtpcakfldmcfhlaaDoorYcookieR
namespace Go.Proofs.YtpcakfldmcfhlaaDoor.Pure
open Go.RowKit Go.Proofs.YtpcakfldmcfhlaaDoor.Print Go.Proofs.YtpcakfldmcfhlaaDoorW.PrintWords Go.Proofs.YtpcakfldmcfhlaaDoorW.PrintLast Go.Proofs.YtpcakfldmcfhlaaDoorW.PrintMore Go.Proofs.YtpcakfldmcfhlaaDoor.Y

theorem CookieKeys : cracknellaw13_CookieKeys.Pure := by
  intro a0 a1 a2 a3 a4 a5 a6 a7 a8 a9 a10 b0 b1 b2 b3 b4 b5 b6 b7 b8 b9 b10 ha0 ha1 ha2 _ _ _ _ _ hb0 hb1 hb2 _ _ _ _ _
  apply Ev.rounds
  simp only [cracknellaw13_CookieKeys.f, PrintC.cookie_Of.f, cracknelref13_Of.f]
  refine ev_bind (ev_now _) (ev_bind (ev_now _) (ev_bind (key_ev _ _ _ _ _ _) (ev_bind alive13_ev (ev_pos rfl (ev_bind (ev_now _) (ev_pos (by simp) (ev_bind (ev_now _) (ev_bind (ev_now _) (ev_bind (ref_keys_ev ha0 ha1 ha2 hb0 hb1 hb2) (ev_pos (cmpK_key _ _ _ _ _ _) (ev_bind (key_ev _ _ _ _ _ _) ?_)))))))))))
  rw [cmpK_key, cmpK_key]
  dsimp only
  have hv := rank_key.val (a0, a1, a2) (b0, b1, b2)
  have ha := rank_key.anti (a0, a1, a2) (b0, b1, b2)
  have hs := rank_key.same (a0, a1, a2) (b0, b1, b2)
  refine ev_pos (by rw [w64 (by omega) (by omega)]; exact ha) (ev_eq (ev_now _) ?_)
  rw [beq_iff_eq, Bool.eq_iff_iff, beq_iff_eq, hs]
  simp only [Prod.mk.injEq, Bool.and_eq_true, beq_iff_eq, toList_inj]

end Go.Proofs.YtpcakfldmcfhlaaDoor.Pure
