/- The greater of cookies: what it comes to, and what a greater one is like under any order; that the printed functions, and the reference's, tell it. Texts are no longer than a row may be. -/
import Derived.Test.YtpcakfldmcfhlaaDoorYcookieC
import Derived.Test.YtpcakfldmcfhlaaDoorPrint3
import Derived.Test.YtpcakfldmcfhlaaDoorPrint8
namespace Go.Proofs.YtpcakfldmcfhlaaDoor.Y
set_option linter.unusedVariables false
set_option linter.unusedSimpArgs false
open Go.RowKit Go.Proofs.YtpcakfldmcfhlaaDoor.Print Go.Proofs.YtpcakfldmcfhlaaDoorW.PrintWords Go.Proofs.YtpcakfldmcfhlaaDoorW.PrintLast Go.Proofs.YtpcakfldmcfhlaaDoorW.PrintMore

section
variable {α : Type} {f : α → α → Int} (hf : Rank f)
def gtO (f : α → α → Int) (x y : α) : α := if f x y < 0 then y else x
include hf
theorem rank_self (x : α) : f x x = 0 := (hf.same x x).mpr rfl
theorem gt_self (x : α) : gtO f x x = x := by have _ := hf; unfold gtO; split <;> rfl
theorem gt_or (x y : α) : gtO f x y = x ∨ gtO f x y = y := by
  have _ := hf
  unfold gtO; split
  · exact .inr rfl
  · exact .inl rfl
theorem gt_left (x y : α) : f x (gtO f x y) ≤ 0 := by
  unfold gtO; split
  · omega
  · rw [rank_self hf]; exact Int.le_refl 0
theorem gt_right (x y : α) : f y (gtO f x y) ≤ 0 := by
  unfold gtO; split
  · rw [rank_self hf]; exact Int.le_refl 0
  · have := hf.anti x y; omega
theorem rank_both {x y : α} (h : f x y ≤ 0) (h' : f y x ≤ 0) : x = y := (hf.same x y).mp (by have := hf.anti x y; omega)
theorem gt_most {x y z : α} (h : f x z ≤ 0) (h' : f y z ≤ 0) : f (gtO f x y) z ≤ 0 := by
  rcases gt_or hf x y with e | e <;> rw [e] <;> assumption
theorem gt_comm (x y : α) : gtO f x y = gtO f y x := rank_both hf (gt_most hf (gt_right hf _ _) (gt_left hf _ _)) (gt_most hf (gt_right hf _ _) (gt_left hf _ _))
theorem gt_assoc (x y z : α) : gtO f x (gtO f y z) = gtO f (gtO f x y) z :=
  rank_both hf
    (gt_most hf (hf.trans _ _ _ (gt_left hf x y) (gt_left hf _ _)) (gt_most hf (hf.trans _ _ _ (gt_right hf x y) (gt_left hf _ _)) (gt_right hf _ _)))
    (gt_most hf (gt_most hf (gt_left hf _ _) (hf.trans _ _ _ (gt_left hf y z) (gt_right hf _ _))) (hf.trans _ _ _ (gt_right hf y z) (gt_right hf _ _)))
end
def gtC (x y : CookT) : CookT := gtO cookC x y
theorem cmp_p (x y : CookT) : cookie_Cmp.f x.1 x.2.1 x.2.2.1 x.2.2.2.1 x.2.2.2.2.1 x.2.2.2.2.2.1 x.2.2.2.2.2.2.1 x.2.2.2.2.2.2.2.1 x.2.2.2.2.2.2.2.2.1 x.2.2.2.2.2.2.2.2.2.1 x.2.2.2.2.2.2.2.2.2.2 y.1 y.2.1 y.2.2.1 y.2.2.2.1 y.2.2.2.2.1 y.2.2.2.2.2.1 y.2.2.2.2.2.2.1 y.2.2.2.2.2.2.2.1 y.2.2.2.2.2.2.2.2.1 y.2.2.2.2.2.2.2.2.2.1 y.2.2.2.2.2.2.2.2.2.2 = some (cookC x y) := cookie_cmp_f _ _ _ _ _ _ _ _ _ _ _ _ _ _ _ _ _ _ _ _ _ _
theorem gt_p (x y : CookT) : cookie_Greater.f x.1 x.2.1 x.2.2.1 x.2.2.2.1 x.2.2.2.2.1 x.2.2.2.2.2.1 x.2.2.2.2.2.2.1 x.2.2.2.2.2.2.2.1 x.2.2.2.2.2.2.2.2.1 x.2.2.2.2.2.2.2.2.2.1 x.2.2.2.2.2.2.2.2.2.2 y.1 y.2.1 y.2.2.1 y.2.2.2.1 y.2.2.2.2.1 y.2.2.2.2.2.1 y.2.2.2.2.2.2.1 y.2.2.2.2.2.2.2.1 y.2.2.2.2.2.2.2.2.1 y.2.2.2.2.2.2.2.2.2.1 y.2.2.2.2.2.2.2.2.2.2 = some (gtC x y) := by
  unfold cookie_Greater.f gtC gtO
  rw [cmp_p]
  simp only [Option.bind_some]
  split <;> rfl
structure Small (x : CookT) : Prop where
  s0 : x.1.size ≤ 9223372036854775807
  s1 : x.2.1.size ≤ 9223372036854775807
  s2 : x.2.2.1.size ≤ 9223372036854775807
  s3 : x.2.2.2.1.size ≤ 9223372036854775807
theorem ref_cmp_p {x y : CookT} (hx : Small x) (hy : Small y) : Ev (fun k => cracknelref13_Cmp.f k x.1 x.2.1 x.2.2.1 x.2.2.2.1 x.2.2.2.2.1 x.2.2.2.2.2.1 x.2.2.2.2.2.2.1 x.2.2.2.2.2.2.2.1 x.2.2.2.2.2.2.2.2.1 x.2.2.2.2.2.2.2.2.2.1 x.2.2.2.2.2.2.2.2.2.2 y.1 y.2.1 y.2.2.1 y.2.2.2.1 y.2.2.2.2.1 y.2.2.2.2.2.1 y.2.2.2.2.2.2.1 y.2.2.2.2.2.2.2.1 y.2.2.2.2.2.2.2.2.1 y.2.2.2.2.2.2.2.2.2.1 y.2.2.2.2.2.2.2.2.2.2) (cookC x y) := ref_cmp_ev hx.s0 hx.s1 hx.s2 hx.s3 hy.s0 hy.s1 hy.s2 hy.s3
theorem ref_gt_p {x y : CookT} (hx : Small x) (hy : Small y) : Ev (fun k => cracknelref13_Greater.f k x.1 x.2.1 x.2.2.1 x.2.2.2.1 x.2.2.2.2.1 x.2.2.2.2.2.1 x.2.2.2.2.2.2.1 x.2.2.2.2.2.2.2.1 x.2.2.2.2.2.2.2.2.1 x.2.2.2.2.2.2.2.2.2.1 x.2.2.2.2.2.2.2.2.2.2 y.1 y.2.1 y.2.2.1 y.2.2.2.1 y.2.2.2.2.1 y.2.2.2.2.2.1 y.2.2.2.2.2.2.1 y.2.2.2.2.2.2.2.1 y.2.2.2.2.2.2.2.2.1 y.2.2.2.2.2.2.2.2.2.1 y.2.2.2.2.2.2.2.2.2.2) (gtC x y) := by
  unfold cracknelref13_Greater.f gtC gtO
  refine ev_bind (ref_cmp_p hx hy) ?_
  by_cases h : cookC x y < 0
  · exact ev_eq (ev_pos h (ev_now y)) (if_pos h).symm
  · exact ev_eq (ev_neg h (ev_now x)) (if_neg h).symm
theorem same_p (x y : CookT) : (x.1.toList == y.1.toList && (x.2.1.toList == y.2.1.toList && (x.2.2.1.toList == y.2.2.1.toList && (x.2.2.2.1.toList == y.2.2.2.1.toList && (x.2.2.2.2.1 == y.2.2.2.2.1 && (x.2.2.2.2.2.1 == y.2.2.2.2.2.1 && (x.2.2.2.2.2.2.1 == y.2.2.2.2.2.2.1 && (x.2.2.2.2.2.2.2.1 == y.2.2.2.2.2.2.2.1 && (x.2.2.2.2.2.2.2.2.1 == y.2.2.2.2.2.2.2.2.1 && (x.2.2.2.2.2.2.2.2.2.1 == y.2.2.2.2.2.2.2.2.2.1 && (x.2.2.2.2.2.2.2.2.2.2 == y.2.2.2.2.2.2.2.2.2.2))))))))))) = true ↔ x = y := by
  simp only [Bool.and_eq_true, beq_iff_eq, toList_inj, Prod.ext_iff]
end Go.Proofs.YtpcakfldmcfhlaaDoor.Y
