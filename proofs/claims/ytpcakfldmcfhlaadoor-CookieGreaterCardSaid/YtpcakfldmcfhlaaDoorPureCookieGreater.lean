/- CookieGreater: the greater of two, or three, cookies hangs neither on their order, nor on how they are put together, and is the reference's; it is one of them, and none is above it. -/
import Derived.Test.YtpcakfldmcfhlaaDoorPrint9
import Derived.Test.YtpcakfldmcfhlaaDoorYcookie
import Derived.Test.YtpcakfldmcfhlaaDoorYgreater
namespace Go.Proofs.YtpcakfldmcfhlaaDoor.Pure
open Go.RowKit Go.Proofs.YtpcakfldmcfhlaaDoor.Print Go.Proofs.YtpcakfldmcfhlaaDoorW.PrintWords Go.Proofs.YtpcakfldmcfhlaaDoorW.PrintLast Go.Proofs.YtpcakfldmcfhlaaDoorW.PrintMore Go.Proofs.YtpcakfldmcfhlaaDoor.Y

set_option maxRecDepth 20000 in
theorem greater_law (A B C : CookT) (hA : Small A) (hB : Small B) : Ev (fun k => cracknellaw13_CookieGreater.f k A.1 A.2.1 A.2.2.1 A.2.2.2.1 A.2.2.2.2.1 A.2.2.2.2.2.1 A.2.2.2.2.2.2.1 A.2.2.2.2.2.2.2.1 A.2.2.2.2.2.2.2.2.1 A.2.2.2.2.2.2.2.2.2.1 A.2.2.2.2.2.2.2.2.2.2 B.1 B.2.1 B.2.2.1 B.2.2.2.1 B.2.2.2.2.1 B.2.2.2.2.2.1 B.2.2.2.2.2.2.1 B.2.2.2.2.2.2.2.1 B.2.2.2.2.2.2.2.2.1 B.2.2.2.2.2.2.2.2.2.1 B.2.2.2.2.2.2.2.2.2.2 C.1 C.2.1 C.2.2.1 C.2.2.2.1 C.2.2.2.2.1 C.2.2.2.2.2.1 C.2.2.2.2.2.2.1 C.2.2.2.2.2.2.2.1 C.2.2.2.2.2.2.2.2.1 C.2.2.2.2.2.2.2.2.2.1 C.2.2.2.2.2.2.2.2.2.2) true := by
  have g2 : cookC (gtC A B) A ≥ 0 := by have := gt_left rank_cook A B; have := rank_cook.anti A (gtC A B); unfold gtC at *; omega
  have g3 : cookC (gtC A B) B ≥ 0 := by have := gt_right rank_cook A B; have := rank_cook.anti B (gtC A B); unfold gtC at *; omega
  unfold cracknellaw13_CookieGreater.f
  simp only [gt_p, cmp_p, Option.bind_some]
  refine ev_bind alive13_ev (ev_pos rfl (ev_bind (ref_gt_p hA hB) (ev_pos ((same_p _ _).mpr rfl) (ev_pos ((same_p _ _).mpr (gt_comm rank_cook B A)) (ev_pos ((same_p _ _).mpr (gt_self rank_cook A)) ?_)))))
  by_cases e : gtC A B = A
  · exact ev_pos ((same_p _ _).mpr e) (ev_pos g2 (ev_pos g3 (ev_eq (ev_now _) ((same_p _ _).mpr (gt_assoc rank_cook A B C)))))
  · exact ev_neg (fun h => e ((same_p _ _).mp h)) (ev_pos ((same_p _ _).mpr ((gt_or rank_cook A B).resolve_left e)) (ev_pos g2 (ev_pos g3 (ev_eq (ev_now _) ((same_p _ _).mpr (gt_assoc rank_cook A B C))))))
theorem CookieGreater : cracknellaw13_CookieGreater.Pure := by
  intro a0 a1 a2 a3 a4 a5 a6 a7 a8 a9 a10 b0 b1 b2 b3 b4 b5 b6 b7 b8 b9 b10 c0 c1 c2 c3 c4 c5 c6 c7 c8 c9 c10 ha0 ha1 ha2 ha3 _ _ _ _ hb0 hb1 hb2 hb3 _ _ _ _ _ _ _ _ _ _ _ _
  exact (greater_law (a0, a1, a2, a3, a4, a5, a6, a7, a8, a9, a10) (b0, b1, b2, b3, b4, b5, b6, b7, b8, b9, b10) (c0, c1, c2, c3, c4, c5, c6, c7, c8, c9, c10) ⟨ha0, ha1, ha2, ha3⟩ ⟨hb0, hb1, hb2, hb3⟩).rounds

end Go.Proofs.YtpcakfldmcfhlaaDoor.Pure
