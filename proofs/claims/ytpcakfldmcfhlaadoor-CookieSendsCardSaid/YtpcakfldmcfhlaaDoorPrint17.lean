/- Printed by a program of this claim's session (xprint.py): the machine's side: each Go function as a Lean function, and that a call of it comes to what that tells; the row of a statement. No condition. -/
import Derived.Test.YtpcakfldmcfhlaaDoorPrint0
import Derived.Test.YtpcakfldmcfhlaaDoorPrint3
import Derived.Test.YtpcakfldmcfhlaaDoorPrint6
import Derived.Test.YtpcakfldmcfhlaaDoorPrint16
namespace Go.Proofs.YtpcakfldmcfhlaaDoor.Print
open Go.RowKit Go.Proofs.YtpcakfldmcfhlaaDoorW.PrintWords Go.Proofs.YtpcakfldmcfhlaaDoorW.PrintLast Go.Proofs.YtpcakfldmcfhlaaDoorW.PrintMore
attribute [local go_sem] max2_int min2_int max_two min_two max_three min_three max_four min_four   -- for this text's walks alone
set_option linter.unusedVariables false
set_option linter.unusedSimpArgs false

/-! ### cracknellaw13_CookieSends: function 8 -/
def cracknellaw13_CookieSends.j0 : Nat → Int → Bool → ByteArray → ByteArray → ByteArray → ByteArray → Int → Int → Int → Bool → Bool → Bool → Int → Bool → ByteArray → ByteArray → Option (Bool)
  | 0, _, _, _, _, _, _, _, _, _, _, _, _, _, _, _, _ => none
  | k + 1, x2, x30, x430000, x430001, x430002, x430003, x430004, x430005, x430006, x430007, x430008, x430009, x430010, x431000, x431001, x431002 => if x30 = true then ((cracknellaw13_alive.f k).bind fun t431 => (some t431)) else ((cookie_Sends.f k x430000 x430001 x430002 x430003 x430004 x430005 x430006 x430007 x430008 x430009 x430010 x431000 x431001 x431002 x2).bind fun t432 => ((cracknellaw13_alive.f k).bind fun t434 => (if t434 = true then ((cracknelref13_Sends.f k x430000 x430001 x430002 x430003 x430004 x430005 x430006 x430007 x430008 x430009 x430010 x431000 x431001 x431002 x2).bind fun t435 => (if (t432 == t435) = true then (if t432 = true then ((cookie_Sends.f k x430000 x430001 x430002 x430003 x430004 x430005 0 false false x430009 x430010 x431000 x431001 x431002 x2).bind fun t436 => (some t436)) else (some true)) else (some false))) else (some false))))
def cracknellaw13_CookieSends.f (k : Nat) (a0_0 : ByteArray) (a0_1 : ByteArray) (a0_2 : ByteArray) (a0_3 : ByteArray) (a0_4 : Int) (a0_5 : Int) (a0_6 : Int) (a0_7 : Bool) (a0_8 : Bool) (a0_9 : Bool) (a0_10 : Int) (a1_0 : Bool) (a1_1 : ByteArray) (a1_2 : ByteArray) (a2 : Int) : Option (Bool) := if (a0_0.size : Int) > 500 then (cracknellaw13_CookieSends.j0 k a2 true a0_0 a0_1 a0_2 a0_3 a0_4 a0_5 a0_6 a0_7 a0_8 a0_9 a0_10 a1_0 a1_1 a1_2) else (if (a0_1.size : Int) > 500 then (cracknellaw13_CookieSends.j0 k a2 true a0_0 a0_1 a0_2 a0_3 a0_4 a0_5 a0_6 a0_7 a0_8 a0_9 a0_10 a1_0 a1_1 a1_2) else (if (a1_1.size : Int) > 500 then (cracknellaw13_CookieSends.j0 k a2 true a0_0 a0_1 a0_2 a0_3 a0_4 a0_5 a0_6 a0_7 a0_8 a0_9 a0_10 a1_0 a1_1 a1_2) else (cracknellaw13_CookieSends.j0 k a2 (decide ((a1_2.size : Int) > 500)) a0_0 a0_1 a0_2 a0_3 a0_4 a0_5 a0_6 a0_7 a0_8 a0_9 a0_10 a1_0 a1_1 a1_2)))
theorem cracknellaw13_CookieSends.mono_l : ∀ k, (∀ y0 y1 y2 y3 y4 y5 y6 y7 y8 y9 y10 y11 y12 y13 y14 y15, LeO (cracknellaw13_CookieSends.j0 k y0 y1 y2 y3 y4 y5 y6 y7 y8 y9 y10 y11 y12 y13 y14 y15) (cracknellaw13_CookieSends.j0 (k + 1) y0 y1 y2 y3 y4 y5 y6 y7 y8 y9 y10 y11 y12 y13 y14 y15))
  | 0 => fun _ _ _ _ _ _ _ _ _ _ _ _ _ _ _ _ r h => by simp [cracknellaw13_CookieSends.j0] at h
  | k + 1 => by
    have ih0 := cracknellaw13_CookieSends.mono_l k
    · intro y0 y1 y2 y3 y4 y5 y6 y7 y8 y9 y10 y11 y12 y13 y14 y15
      unfold cracknellaw13_CookieSends.j0
      repeat' first
      | (with_reducible exact ih0 _ _ _ _ _ _ _ _ _ _ _ _ _ _ _ _)
      | (with_reducible exact cookie_Sends.mono _ _ _ _ _ _ _ _ _ _ _ _ _ _ _ _)
      | (with_reducible exact cracknellaw13_alive.mono _)
      | (with_reducible exact cracknelref13_Sends.mono _ _ _ _ _ _ _ _ _ _ _ _ _ _ _ _)
      | (with_reducible exact LeO.refl _)
      | (with_reducible exact LeO.none _)
      | (with_reducible refine LeO.ite ?_ ?_)
      | (with_reducible refine LeO.bind ?_ (fun _ => ?_))
      | exact ih0 _ _ _ _ _ _ _ _ _ _ _ _ _ _ _ _
      | exact cookie_Sends.mono _ _ _ _ _ _ _ _ _ _ _ _ _ _ _ _
      | exact cracknellaw13_alive.mono _
      | exact cracknelref13_Sends.mono _ _ _ _ _ _ _ _ _ _ _ _ _ _ _ _
      | exact LeO.none _
      | refine LeO.ite ?_ ?_
      | refine LeO.bind ?_ (fun _ => ?_)
theorem cracknellaw13_CookieSends.mono : ∀ a0 a1 a2 a3 a4 a5 a6 a7 a8 a9 a10 a11 a12 a13 a14 k, LeO (cracknellaw13_CookieSends.f k a0 a1 a2 a3 a4 a5 a6 a7 a8 a9 a10 a11 a12 a13 a14) (cracknellaw13_CookieSends.f (k + 1) a0 a1 a2 a3 a4 a5 a6 a7 a8 a9 a10 a11 a12 a13 a14) := by
  intro a0 a1 a2 a3 a4 a5 a6 a7 a8 a9 a10 a11 a12 a13 a14 k
  have ih0 := cracknellaw13_CookieSends.mono_l k
  unfold cracknellaw13_CookieSends.f
  repeat' first
      | (with_reducible exact ih0 _ _ _ _ _ _ _ _ _ _ _ _ _ _ _ _)
      | (with_reducible exact cookie_Sends.mono _ _ _ _ _ _ _ _ _ _ _ _ _ _ _ _)
      | (with_reducible exact cracknellaw13_alive.mono _)
      | (with_reducible exact cracknelref13_Sends.mono _ _ _ _ _ _ _ _ _ _ _ _ _ _ _ _)
      | (with_reducible exact LeO.refl _)
      | (with_reducible exact LeO.none _)
      | (with_reducible refine LeO.ite ?_ ?_)
      | (with_reducible refine LeO.bind ?_ (fun _ => ?_))
      | exact ih0 _ _ _ _ _ _ _ _ _ _ _ _ _ _ _ _
      | exact cookie_Sends.mono _ _ _ _ _ _ _ _ _ _ _ _ _ _ _ _
      | exact cracknellaw13_alive.mono _
      | exact cracknelref13_Sends.mono _ _ _ _ _ _ _ _ _ _ _ _ _ _ _ _
      | exact LeO.none _
      | refine LeO.ite ?_ ?_
      | refine LeO.bind ?_ (fun _ => ?_)
set_option maxHeartbeats 8000000 in
set_option maxRecDepth 100000 in
theorem cracknellaw13_CookieSends.calls (k : Nat) (a0_0 : ByteArray) (a0_1 : ByteArray) (a0_2 : ByteArray) (a0_3 : ByteArray) (a0_4 : Int) (a0_5 : Int) (a0_6 : Int) (a0_7 : Bool) (a0_8 : Bool) (a0_9 : Bool) (a0_10 : Int) (a1_0 : Bool) (a1_1 : ByteArray) (a1_2 : ByteArray) (a2 : Int) (r : Bool) (w : World) (hG : Aside0 (LaidG w)) (hT_ : Aside0 (r = true)) (h : cracknellaw13_CookieSends.f k a0_0 a0_1 a0_2 a0_3 a0_4 a0_5 a0_6 a0_7 a0_8 a0_9 a0_10 a1_0 a1_1 a1_2 a2 = some r) :
    Calls Tryd.prog 8 #[.agg #[.string a0_0, .string a0_1, .string a0_2, .string a0_3, .int .i64 a0_4, .int .i64 a0_5, .int .i64 a0_6, .bool a0_7, .bool a0_8, .bool a0_9, .int .i64 a0_10], .agg #[.bool a1_0, .string a1_1, .string a1_2], .int .i64 a2] w fun e w' => e = .returned (.bool r) ∧ Below w.heap.size w w' := by
  have hu23 := Tryd.underlying23
  have hu39 := Tryd.underlying39
  have HB := Aside0.mk (Below.refl w.heap.size w)
  have H : (if (a0_0.size : Int) > 500 then (cracknellaw13_CookieSends.j0 k a2 true a0_0 a0_1 a0_2 a0_3 a0_4 a0_5 a0_6 a0_7 a0_8 a0_9 a0_10 a1_0 a1_1 a1_2) else (if (a0_1.size : Int) > 500 then (cracknellaw13_CookieSends.j0 k a2 true a0_0 a0_1 a0_2 a0_3 a0_4 a0_5 a0_6 a0_7 a0_8 a0_9 a0_10 a1_0 a1_1 a1_2) else (if (a1_1.size : Int) > 500 then (cracknellaw13_CookieSends.j0 k a2 true a0_0 a0_1 a0_2 a0_3 a0_4 a0_5 a0_6 a0_7 a0_8 a0_9 a0_10 a1_0 a1_1 a1_2) else (cracknellaw13_CookieSends.j0 k a2 (decide ((a1_2.size : Int) > 500)) a0_0 a0_1 a0_2 a0_3 a0_4 a0_5 a0_6 a0_7 a0_8 a0_9 a0_10 a1_0 a1_1 a1_2)))) = some r := h
  clear h
  have HC4 := Aside0.mk H
  clear H
  go_enter Tryd.func8, Tryd.ntmps8
  go_upto_region 1 with (first | ((with_reducible refine gate_dst (N := 3) rfl ?_); refine box_event ?hg (N := 3) ?hd (cs := #[.string a0_0, .string a0_1, .string a0_2, .string a0_3, .int .i64 a0_4, .int .i64 a0_5, .int .i64 a0_6, .bool a0_7, .bool a0_8, .bool a0_9, .int .i64 a0_10]) (t := 23) ?hr ?_; (case hd => rfl); (case hg => rfl); (case hr => first | (go_simp; done) | (go_simp; rfl)); intro gb429 hg w5 hbox hb; have n0_ := Aside0.mk (below_step xb hb); have n1_ := Aside0.mk (hbox); have n2_ := Aside0.mk ((by rw [hg]; exact (below_size xb) : w.heap.size ≤ gb429)); have n3_ := Aside0.mk ((by rw [hg]; exact (below_size xb) : w.heap.size ≤ gb429)); clear HB; have HB := n0_; have BK429 := n1_; have GW429 := n2_; have GE429 := n3_; clear n0_ n1_ n2_ n3_; clear hb hbox hg) | ((with_reducible refine gate_dst (N := 4) rfl ?_); refine box_event ?hg (N := 4) ?hd (cs := #[.bool a1_0, .string a1_1, .string a1_2]) (t := 39) ?hr ?_; (case hd => rfl); (case hg => rfl); (case hr => first | (go_simp; done) | (go_simp; rfl)); intro gb430 hg w6 hbox hb; have n0_ := blkB BK429 hb; have n1_ := Aside0.mk (below_step xb hb); have n2_ := Aside0.mk (hbox); have n3_ := Aside0.mk ((by rw [hg]; exact (below_size xb) : w.heap.size ≤ gb430)); have n4_ := Aside0.mk ((by rw [hg]; exact (below_size xb) : w.heap.size ≤ gb430)); have n5_ := Aside0.mk ((by rw [hg]; exact Nat.ne_of_lt (blkL BK429) : gb429 ≠ gb430)); have n6_ := Aside0.mk ((by rw [hg]; exact Nat.ne_of_gt (blkL BK429) : gb430 ≠ gb429)); clear BK429; clear HB; have BK429 := n0_; have HB := n1_; have BK430 := n2_; have GW430 := n3_; have GE430 := n4_; have NB429_430 := n5_; have NB430_429 := n6_; clear n0_ n1_ n2_ n3_ n4_ n5_ n6_; clear hb hbox hg))
  (try simp only [Act.put, List.setIfInBounds_toArray, List.set_cons_zero, List.set_cons_succ])
  go_cut [30] (fun v30 wc => ∃ (kq : Nat) (x30_3 : Bool), v30 = .bool x30_3 ∧ Aside0 (cracknellaw13_CookieSends.j0 kq a2 x30_3 a0_0 a0_1 a0_2 a0_3 a0_4 a0_5 a0_6 a0_7 a0_8 a0_9 a0_10 a1_0 a1_1 a1_2 = some r) ∧ Aside0 (kq ≤ k) ∧ Aside0 (wc.heap[gb429]? = some (.cells #[.string a0_0, .string a0_1, .string a0_2, .string a0_3, .int .i64 a0_4, .int .i64 a0_5, .int .i64 a0_6, .bool a0_7, .bool a0_8, .bool a0_9, .int .i64 a0_10] 23 (0, 0))) ∧ Aside0 (wc.heap[gb430]? = some (.cells #[.bool a1_0, .string a1_1, .string a1_2] 39 (0, 0))) ∧ Aside0 (Below w.heap.size w wc))
  case first =>
    have H := HC4.out
    clear HC4
    by_cases c7 : (a0_0.size : Int) > 500
    · rw [if_pos c7] at H
      have c7b0 : decide (500 < (a0_0.size : Int)) = true := decide_eq_true c7
      have c7b1 : decide (500 < a0_0.size) = true := decide_eq_true (by omega)
      clear c7
      (first | rw [c7b0] | (simp only [i64_w, i32_w]; rw [c7b0]) | skip)
      have H' := Aside0.mk H
      clear H
      have hnb8 := NB429_430.out
      have hnc8 := NB430_429.out
      have hcz9_0 : w6.cell? ⟨gb429, 0, none⟩ = some (.string a0_0) := (blk_cell BK429.out 0).trans rfl
      have hcz9_1 : w6.cell? ⟨gb429, 1, none⟩ = some (.string a0_1) := (blk_cell BK429.out 1).trans rfl
      have hcz9_2 : w6.cell? ⟨gb429, 2, none⟩ = some (.string a0_2) := (blk_cell BK429.out 2).trans rfl
      have hcz9_3 : w6.cell? ⟨gb429, 3, none⟩ = some (.string a0_3) := (blk_cell BK429.out 3).trans rfl
      have hcz9_4 : w6.cell? ⟨gb429, 4, none⟩ = some (.int .i64 a0_4) := (blk_cell BK429.out 4).trans rfl
      have hcz9_5 : w6.cell? ⟨gb429, 5, none⟩ = some (.int .i64 a0_5) := (blk_cell BK429.out 5).trans rfl
      have hcz9_6 : w6.cell? ⟨gb429, 6, none⟩ = some (.int .i64 a0_6) := (blk_cell BK429.out 6).trans rfl
      have hcz9_7 : w6.cell? ⟨gb429, 7, none⟩ = some (.bool a0_7) := (blk_cell BK429.out 7).trans rfl
      have hcz9_8 : w6.cell? ⟨gb429, 8, none⟩ = some (.bool a0_8) := (blk_cell BK429.out 8).trans rfl
      have hcz9_9 : w6.cell? ⟨gb429, 9, none⟩ = some (.bool a0_9) := (blk_cell BK429.out 9).trans rfl
      have hcz9_10 : w6.cell? ⟨gb429, 10, none⟩ = some (.int .i64 a0_10) := (blk_cell BK429.out 10).trans rfl
      have hfz9_0 := blk_frozen BK429.out 0
      have hfz9_1 := blk_frozen BK429.out 1
      have hfz9_2 := blk_frozen BK429.out 2
      have hfz9_3 := blk_frozen BK429.out 3
      have hfz9_4 := blk_frozen BK429.out 4
      have hfz9_5 := blk_frozen BK429.out 5
      have hfz9_6 := blk_frozen BK429.out 6
      have hfz9_7 := blk_frozen BK429.out 7
      have hfz9_8 := blk_frozen BK429.out 8
      have hfz9_9 := blk_frozen BK429.out 9
      have hfz9_10 := blk_frozen BK429.out 10
      go_wp2
      go_meet
      case rel => exact ⟨_, (true), (by first | rfl | (simp; done) | (simp [*]; done)), H', ⟨by first | omega | exact Nat.le_refl _⟩, ⟨xk⟩, ⟨xk⟩, ⟨xb⟩⟩
    · rw [if_neg c7] at H
      have c7b0 : decide (500 < (a0_0.size : Int)) = false := decide_eq_false c7
      have c7b1 : decide (500 < a0_0.size) = false := decide_eq_false (by omega)
      clear c7
      (first | rw [c7b0] | (simp only [i64_w, i32_w]; rw [c7b0]) | skip)
      by_cases c10 : (a0_1.size : Int) > 500
      · rw [if_pos c10] at H
        have c10b0 : decide (500 < (a0_1.size : Int)) = true := decide_eq_true c10
        have c10b1 : decide (500 < a0_1.size) = true := decide_eq_true (by omega)
        clear c10
        have H' := Aside0.mk H
        clear H
        have hnb11 := NB429_430.out
        have hnc11 := NB430_429.out
        have hcz12_0 : w6.cell? ⟨gb429, 0, none⟩ = some (.string a0_0) := (blk_cell BK429.out 0).trans rfl
        have hcz12_1 : w6.cell? ⟨gb429, 1, none⟩ = some (.string a0_1) := (blk_cell BK429.out 1).trans rfl
        have hcz12_2 : w6.cell? ⟨gb429, 2, none⟩ = some (.string a0_2) := (blk_cell BK429.out 2).trans rfl
        have hcz12_3 : w6.cell? ⟨gb429, 3, none⟩ = some (.string a0_3) := (blk_cell BK429.out 3).trans rfl
        have hcz12_4 : w6.cell? ⟨gb429, 4, none⟩ = some (.int .i64 a0_4) := (blk_cell BK429.out 4).trans rfl
        have hcz12_5 : w6.cell? ⟨gb429, 5, none⟩ = some (.int .i64 a0_5) := (blk_cell BK429.out 5).trans rfl
        have hcz12_6 : w6.cell? ⟨gb429, 6, none⟩ = some (.int .i64 a0_6) := (blk_cell BK429.out 6).trans rfl
        have hcz12_7 : w6.cell? ⟨gb429, 7, none⟩ = some (.bool a0_7) := (blk_cell BK429.out 7).trans rfl
        have hcz12_8 : w6.cell? ⟨gb429, 8, none⟩ = some (.bool a0_8) := (blk_cell BK429.out 8).trans rfl
        have hcz12_9 : w6.cell? ⟨gb429, 9, none⟩ = some (.bool a0_9) := (blk_cell BK429.out 9).trans rfl
        have hcz12_10 : w6.cell? ⟨gb429, 10, none⟩ = some (.int .i64 a0_10) := (blk_cell BK429.out 10).trans rfl
        have hfz12_0 := blk_frozen BK429.out 0
        have hfz12_1 := blk_frozen BK429.out 1
        have hfz12_2 := blk_frozen BK429.out 2
        have hfz12_3 := blk_frozen BK429.out 3
        have hfz12_4 := blk_frozen BK429.out 4
        have hfz12_5 := blk_frozen BK429.out 5
        have hfz12_6 := blk_frozen BK429.out 6
        have hfz12_7 := blk_frozen BK429.out 7
        have hfz12_8 := blk_frozen BK429.out 8
        have hfz12_9 := blk_frozen BK429.out 9
        have hfz12_10 := blk_frozen BK429.out 10
        go_wp2
        go_meet
        case rel => exact ⟨_, (true), (by first | rfl | (simp; done) | (simp [*]; done)), H', ⟨by first | omega | exact Nat.le_refl _⟩, ⟨xk⟩, ⟨xk⟩, ⟨xb⟩⟩
      · rw [if_neg c10] at H
        have c10b0 : decide (500 < (a0_1.size : Int)) = false := decide_eq_false c10
        have c10b1 : decide (500 < a0_1.size) = false := decide_eq_false (by omega)
        clear c10
        by_cases c13 : (a1_1.size : Int) > 500
        · rw [if_pos c13] at H
          have c13b0 : decide (500 < (a1_1.size : Int)) = true := decide_eq_true c13
          have c13b1 : decide (500 < a1_1.size) = true := decide_eq_true (by omega)
          clear c13
          have H' := Aside0.mk H
          clear H
          have hnb14 := NB429_430.out
          have hnc14 := NB430_429.out
          have hcz15_0 : w6.cell? ⟨gb429, 0, none⟩ = some (.string a0_0) := (blk_cell BK429.out 0).trans rfl
          have hcz15_1 : w6.cell? ⟨gb429, 1, none⟩ = some (.string a0_1) := (blk_cell BK429.out 1).trans rfl
          have hcz15_2 : w6.cell? ⟨gb429, 2, none⟩ = some (.string a0_2) := (blk_cell BK429.out 2).trans rfl
          have hcz15_3 : w6.cell? ⟨gb429, 3, none⟩ = some (.string a0_3) := (blk_cell BK429.out 3).trans rfl
          have hcz15_4 : w6.cell? ⟨gb429, 4, none⟩ = some (.int .i64 a0_4) := (blk_cell BK429.out 4).trans rfl
          have hcz15_5 : w6.cell? ⟨gb429, 5, none⟩ = some (.int .i64 a0_5) := (blk_cell BK429.out 5).trans rfl
          have hcz15_6 : w6.cell? ⟨gb429, 6, none⟩ = some (.int .i64 a0_6) := (blk_cell BK429.out 6).trans rfl
          have hcz15_7 : w6.cell? ⟨gb429, 7, none⟩ = some (.bool a0_7) := (blk_cell BK429.out 7).trans rfl
          have hcz15_8 : w6.cell? ⟨gb429, 8, none⟩ = some (.bool a0_8) := (blk_cell BK429.out 8).trans rfl
          have hcz15_9 : w6.cell? ⟨gb429, 9, none⟩ = some (.bool a0_9) := (blk_cell BK429.out 9).trans rfl
          have hcz15_10 : w6.cell? ⟨gb429, 10, none⟩ = some (.int .i64 a0_10) := (blk_cell BK429.out 10).trans rfl
          have hfz15_0 := blk_frozen BK429.out 0
          have hfz15_1 := blk_frozen BK429.out 1
          have hfz15_2 := blk_frozen BK429.out 2
          have hfz15_3 := blk_frozen BK429.out 3
          have hfz15_4 := blk_frozen BK429.out 4
          have hfz15_5 := blk_frozen BK429.out 5
          have hfz15_6 := blk_frozen BK429.out 6
          have hfz15_7 := blk_frozen BK429.out 7
          have hfz15_8 := blk_frozen BK429.out 8
          have hfz15_9 := blk_frozen BK429.out 9
          have hfz15_10 := blk_frozen BK429.out 10
          have hcz16_0 : w6.cell? ⟨gb430, 0, none⟩ = some (.bool a1_0) := (blk_cell BK430.out 0).trans rfl
          have hcz16_1 : w6.cell? ⟨gb430, 1, none⟩ = some (.string a1_1) := (blk_cell BK430.out 1).trans rfl
          have hcz16_2 : w6.cell? ⟨gb430, 2, none⟩ = some (.string a1_2) := (blk_cell BK430.out 2).trans rfl
          have hfz16_0 := blk_frozen BK430.out 0
          have hfz16_1 := blk_frozen BK430.out 1
          have hfz16_2 := blk_frozen BK430.out 2
          go_wp2
          go_meet
          case rel => exact ⟨_, (true), (by first | rfl | (simp; done) | (simp [*]; done)), H', ⟨by first | omega | exact Nat.le_refl _⟩, ⟨xk⟩, ⟨xk⟩, ⟨xb⟩⟩
        · rw [if_neg c13] at H
          have c13b0 : decide (500 < (a1_1.size : Int)) = false := decide_eq_false c13
          have c13b1 : decide (500 < a1_1.size) = false := decide_eq_false (by omega)
          clear c13
          have H' := Aside0.mk H
          clear H
          have hnb17 := NB429_430.out
          have hnc17 := NB430_429.out
          have hcz18_0 : w6.cell? ⟨gb429, 0, none⟩ = some (.string a0_0) := (blk_cell BK429.out 0).trans rfl
          have hcz18_1 : w6.cell? ⟨gb429, 1, none⟩ = some (.string a0_1) := (blk_cell BK429.out 1).trans rfl
          have hcz18_2 : w6.cell? ⟨gb429, 2, none⟩ = some (.string a0_2) := (blk_cell BK429.out 2).trans rfl
          have hcz18_3 : w6.cell? ⟨gb429, 3, none⟩ = some (.string a0_3) := (blk_cell BK429.out 3).trans rfl
          have hcz18_4 : w6.cell? ⟨gb429, 4, none⟩ = some (.int .i64 a0_4) := (blk_cell BK429.out 4).trans rfl
          have hcz18_5 : w6.cell? ⟨gb429, 5, none⟩ = some (.int .i64 a0_5) := (blk_cell BK429.out 5).trans rfl
          have hcz18_6 : w6.cell? ⟨gb429, 6, none⟩ = some (.int .i64 a0_6) := (blk_cell BK429.out 6).trans rfl
          have hcz18_7 : w6.cell? ⟨gb429, 7, none⟩ = some (.bool a0_7) := (blk_cell BK429.out 7).trans rfl
          have hcz18_8 : w6.cell? ⟨gb429, 8, none⟩ = some (.bool a0_8) := (blk_cell BK429.out 8).trans rfl
          have hcz18_9 : w6.cell? ⟨gb429, 9, none⟩ = some (.bool a0_9) := (blk_cell BK429.out 9).trans rfl
          have hcz18_10 : w6.cell? ⟨gb429, 10, none⟩ = some (.int .i64 a0_10) := (blk_cell BK429.out 10).trans rfl
          have hfz18_0 := blk_frozen BK429.out 0
          have hfz18_1 := blk_frozen BK429.out 1
          have hfz18_2 := blk_frozen BK429.out 2
          have hfz18_3 := blk_frozen BK429.out 3
          have hfz18_4 := blk_frozen BK429.out 4
          have hfz18_5 := blk_frozen BK429.out 5
          have hfz18_6 := blk_frozen BK429.out 6
          have hfz18_7 := blk_frozen BK429.out 7
          have hfz18_8 := blk_frozen BK429.out 8
          have hfz18_9 := blk_frozen BK429.out 9
          have hfz18_10 := blk_frozen BK429.out 10
          have hcz19_0 : w6.cell? ⟨gb430, 0, none⟩ = some (.bool a1_0) := (blk_cell BK430.out 0).trans rfl
          have hcz19_1 : w6.cell? ⟨gb430, 1, none⟩ = some (.string a1_1) := (blk_cell BK430.out 1).trans rfl
          have hcz19_2 : w6.cell? ⟨gb430, 2, none⟩ = some (.string a1_2) := (blk_cell BK430.out 2).trans rfl
          have hfz19_0 := blk_frozen BK430.out 0
          have hfz19_1 := blk_frozen BK430.out 1
          have hfz19_2 := blk_frozen BK430.out 2
          go_wp2
          go_meet
          case rel => exact ⟨_, (decide ((a1_2.size : Int) > 500)), (by first | rfl | (simp; done) | (simp [*]; done)), H', ⟨by first | omega | exact Nat.le_refl _⟩, ⟨xk⟩, ⟨xk⟩, ⟨xb⟩⟩
  case rest =>
    clear HC4
    try clear c1
    try clear p2
    try clear c7
    try clear c7b0
    try clear c7b1
    try clear c8
    try clear c10
    try clear c10b0
    try clear c10b1
    try clear c11
    try clear c13
    try clear c13b0
    try clear c13b1
    try clear c14
    try clear c17
    try clear hcz12_0
    try clear hcz12_1
    try clear hcz12_10
    try clear hcz12_2
    try clear hcz12_3
    try clear hcz12_4
    try clear hcz12_5
    try clear hcz12_6
    try clear hcz12_7
    try clear hcz12_8
    try clear hcz12_9
    try clear hcz15_0
    try clear hcz15_1
    try clear hcz15_10
    try clear hcz15_2
    try clear hcz15_3
    try clear hcz15_4
    try clear hcz15_5
    try clear hcz15_6
    try clear hcz15_7
    try clear hcz15_8
    try clear hcz15_9
    try clear hcz16_0
    try clear hcz16_1
    try clear hcz16_2
    try clear hcz18_0
    try clear hcz18_1
    try clear hcz18_10
    try clear hcz18_2
    try clear hcz18_3
    try clear hcz18_4
    try clear hcz18_5
    try clear hcz18_6
    try clear hcz18_7
    try clear hcz18_8
    try clear hcz18_9
    try clear hcz19_0
    try clear hcz19_1
    try clear hcz19_2
    try clear hcz9_0
    try clear hcz9_1
    try clear hcz9_10
    try clear hcz9_2
    try clear hcz9_3
    try clear hcz9_4
    try clear hcz9_5
    try clear hcz9_6
    try clear hcz9_7
    try clear hcz9_8
    try clear hcz9_9
    try clear hfz12_0
    try clear hfz12_1
    try clear hfz12_10
    try clear hfz12_2
    try clear hfz12_3
    try clear hfz12_4
    try clear hfz12_5
    try clear hfz12_6
    try clear hfz12_7
    try clear hfz12_8
    try clear hfz12_9
    try clear hfz15_0
    try clear hfz15_1
    try clear hfz15_10
    try clear hfz15_2
    try clear hfz15_3
    try clear hfz15_4
    try clear hfz15_5
    try clear hfz15_6
    try clear hfz15_7
    try clear hfz15_8
    try clear hfz15_9
    try clear hfz16_0
    try clear hfz16_1
    try clear hfz16_2
    try clear hfz18_0
    try clear hfz18_1
    try clear hfz18_10
    try clear hfz18_2
    try clear hfz18_3
    try clear hfz18_4
    try clear hfz18_5
    try clear hfz18_6
    try clear hfz18_7
    try clear hfz18_8
    try clear hfz18_9
    try clear hfz19_0
    try clear hfz19_1
    try clear hfz19_2
    try clear hfz9_0
    try clear hfz9_1
    try clear hfz9_10
    try clear hfz9_2
    try clear hfz9_3
    try clear hfz9_4
    try clear hfz9_5
    try clear hfz9_6
    try clear hfz9_7
    try clear hfz9_8
    try clear hfz9_9
    obtain ⟨kq, x30_3, rfl, HA, HJ3, BK429, BK430, HB⟩ := hcut
    cases kq with
    | zero => exact absurd HA.out (by simp [cracknellaw13_CookieSends.j0])
    | succ kj3 =>
      have H := HA.out
      clear HA
      simp only [cracknellaw13_CookieSends.j0] at H
      by_cases c20 : x30_3 = true
      · subst c20
        have H1 : ((cracknellaw13_alive.f kj3).bind fun t431 => (some t431)) = some r := by rw [if_pos rfl] at H; exact H
        clear H
        have H := H1
        clear H1
        replace H := Option.bind_eq_some_iff.mp H
        obtain ⟨t431, A210, H⟩ := H
        replace H : (some t431) = some r := H
        have A21 := Aside0.mk A210
        clear A210
        obtain rfl := Option.some.inj H
        go_wp2_with (first | ((with_reducible refine gate_callee (f := 11) rfl ?_); refine goesL_ (some 31) rfl rfl Tryd.func11 (by kernel_rfl) rfl #[] rfl xg ?_; (with_reducible refine (cracknellaw13_alive.calls kj3  t431 _ (Aside0.mk (by first | exact hG.out | ((with_reducible repeat (first | apply LaidG.drewN | apply LaidG.drew | apply LaidG.alloc)); exact hG.out) | exact LaidG.below hG.out xb)) ⟨by first | rfl | assumption | exact hT_.out⟩ A21.out).mono ?_); rintro e w22 ⟨rfl, hb⟩; refine ⟨_, rfl, ?_⟩; have n0_ := blkB BK429 hb; have n1_ := blkB BK430 hb; have n2_ := Aside0.mk (below_step xb hb); clear BK429; clear BK430; clear HB; have BK429 := n0_; have BK430 := n1_; have HB := n2_; clear n0_ n1_ n2_; (try clear hb); (try clear hb2); (try clear hk); (try clear hi)))
        go_ret
        exact ⟨by first | rfl | (simp [errW_none, errW_some] <;> rfl) | (simp [*, errW_none, errW_some] <;> rfl), by repeat (first | (with_reducible first | exact HB.out | apply below_alloc | apply pw_below_drewN | apply below_drew1 | refine below_set ?_ GE429.out | refine below_set ?_ GE430.out) | exact HB.out)⟩
      · replace c20 := Bool.eq_false_iff.mpr c20
        subst c20
        have H1 : ((cookie_Sends.f kj3 a0_0 a0_1 a0_2 a0_3 a0_4 a0_5 a0_6 a0_7 a0_8 a0_9 a0_10 a1_0 a1_1 a1_2 a2).bind fun t432 => ((cracknellaw13_alive.f kj3).bind fun t434 => (if t434 = true then ((cracknelref13_Sends.f kj3 a0_0 a0_1 a0_2 a0_3 a0_4 a0_5 a0_6 a0_7 a0_8 a0_9 a0_10 a1_0 a1_1 a1_2 a2).bind fun t435 => (if (t432 == t435) = true then (if t432 = true then ((cookie_Sends.f kj3 a0_0 a0_1 a0_2 a0_3 a0_4 a0_5 0 false false a0_9 a0_10 a1_0 a1_1 a1_2 a2).bind fun t436 => (some t436)) else (some true)) else (some false))) else (some false)))) = some r := by rw [if_neg (show ¬ (false = true) by decide)] at H; exact H
        clear H
        have H := H1
        clear H1
        replace H := Option.bind_eq_some_iff.mp H
        obtain ⟨t432, A230, H⟩ := H
        replace H : ((cracknellaw13_alive.f kj3).bind fun t434 => (if t434 = true then ((cracknelref13_Sends.f kj3 a0_0 a0_1 a0_2 a0_3 a0_4 a0_5 a0_6 a0_7 a0_8 a0_9 a0_10 a1_0 a1_1 a1_2 a2).bind fun t435 => (if (t432 == t435) = true then (if t432 = true then ((cookie_Sends.f kj3 a0_0 a0_1 a0_2 a0_3 a0_4 a0_5 0 false false a0_9 a0_10 a1_0 a1_1 a1_2 a2).bind fun t436 => (some t436)) else (some true)) else (some false))) else (some false))) = some r := H
        have A23 := Aside0.mk A230
        clear A230
        replace H := Option.bind_eq_some_iff.mp H
        obtain ⟨t434, A240, H⟩ := H
        replace H : (if t434 = true then ((cracknelref13_Sends.f kj3 a0_0 a0_1 a0_2 a0_3 a0_4 a0_5 a0_6 a0_7 a0_8 a0_9 a0_10 a1_0 a1_1 a1_2 a2).bind fun t435 => (if (t432 == t435) = true then (if t432 = true then ((cookie_Sends.f kj3 a0_0 a0_1 a0_2 a0_3 a0_4 a0_5 0 false false a0_9 a0_10 a1_0 a1_1 a1_2 a2).bind fun t436 => (some t436)) else (some true)) else (some false))) else (some false)) = some r := H
        have A24 := Aside0.mk A240
        clear A240
        by_cases c25 : t434 = true
        · subst c25
          have H1 : ((cracknelref13_Sends.f kj3 a0_0 a0_1 a0_2 a0_3 a0_4 a0_5 a0_6 a0_7 a0_8 a0_9 a0_10 a1_0 a1_1 a1_2 a2).bind fun t435 => (if (t432 == t435) = true then (if t432 = true then ((cookie_Sends.f kj3 a0_0 a0_1 a0_2 a0_3 a0_4 a0_5 0 false false a0_9 a0_10 a1_0 a1_1 a1_2 a2).bind fun t436 => (some t436)) else (some true)) else (some false))) = some r := by rw [if_pos rfl] at H; exact H
          clear H
          have H := H1
          clear H1
          replace H := Option.bind_eq_some_iff.mp H
          obtain ⟨t435, A260, H⟩ := H
          replace H : (if (t432 == t435) = true then (if t432 = true then ((cookie_Sends.f kj3 a0_0 a0_1 a0_2 a0_3 a0_4 a0_5 0 false false a0_9 a0_10 a1_0 a1_1 a1_2 a2).bind fun t436 => (some t436)) else (some true)) else (some false)) = some r := H
          have A26 := Aside0.mk A260
          clear A260
          by_cases c27 : (t432 == t435) = true
          · rw [if_pos c27] at H
            have c27b0 : (t432 == t435) = true := c27
            (try (have c27b1 : decide (t432 = t435) = true := by simpa using c27))
            (try (have c27b2 : (t432 == t435) = true := by simpa using c27))
            clear c27
            by_cases c28 : t432 = true
            · subst c28
              have H1 : ((cookie_Sends.f kj3 a0_0 a0_1 a0_2 a0_3 a0_4 a0_5 0 false false a0_9 a0_10 a1_0 a1_1 a1_2 a2).bind fun t436 => (some t436)) = some r := by rw [if_pos rfl] at H; exact H
              clear H
              have H := H1
              clear H1
              replace H := Option.bind_eq_some_iff.mp H
              obtain ⟨t436, A290, H⟩ := H
              replace H : (some t436) = some r := H
              have A29 := Aside0.mk A290
              clear A290
              obtain rfl := Option.some.inj H
              have hnb30 := NB429_430.out
              have hnc30 := NB430_429.out
              have hcz31_0 : wc.cell? ⟨gb429, 0, none⟩ = some (.string a0_0) := (blk_cell BK429.out 0).trans rfl
              have hcz31_1 : wc.cell? ⟨gb429, 1, none⟩ = some (.string a0_1) := (blk_cell BK429.out 1).trans rfl
              have hcz31_2 : wc.cell? ⟨gb429, 2, none⟩ = some (.string a0_2) := (blk_cell BK429.out 2).trans rfl
              have hcz31_3 : wc.cell? ⟨gb429, 3, none⟩ = some (.string a0_3) := (blk_cell BK429.out 3).trans rfl
              have hcz31_4 : wc.cell? ⟨gb429, 4, none⟩ = some (.int .i64 a0_4) := (blk_cell BK429.out 4).trans rfl
              have hcz31_5 : wc.cell? ⟨gb429, 5, none⟩ = some (.int .i64 a0_5) := (blk_cell BK429.out 5).trans rfl
              have hcz31_6 : wc.cell? ⟨gb429, 6, none⟩ = some (.int .i64 a0_6) := (blk_cell BK429.out 6).trans rfl
              have hcz31_7 : wc.cell? ⟨gb429, 7, none⟩ = some (.bool a0_7) := (blk_cell BK429.out 7).trans rfl
              have hcz31_8 : wc.cell? ⟨gb429, 8, none⟩ = some (.bool a0_8) := (blk_cell BK429.out 8).trans rfl
              have hcz31_9 : wc.cell? ⟨gb429, 9, none⟩ = some (.bool a0_9) := (blk_cell BK429.out 9).trans rfl
              have hcz31_10 : wc.cell? ⟨gb429, 10, none⟩ = some (.int .i64 a0_10) := (blk_cell BK429.out 10).trans rfl
              have hfz31_0 := blk_frozen BK429.out 0
              have hfz31_1 := blk_frozen BK429.out 1
              have hfz31_2 := blk_frozen BK429.out 2
              have hfz31_3 := blk_frozen BK429.out 3
              have hfz31_4 := blk_frozen BK429.out 4
              have hfz31_5 := blk_frozen BK429.out 5
              have hfz31_6 := blk_frozen BK429.out 6
              have hfz31_7 := blk_frozen BK429.out 7
              have hfz31_8 := blk_frozen BK429.out 8
              have hfz31_9 := blk_frozen BK429.out 9
              have hfz31_10 := blk_frozen BK429.out 10
              have hcz32_0 : wc.cell? ⟨gb430, 0, none⟩ = some (.bool a1_0) := (blk_cell BK430.out 0).trans rfl
              have hcz32_1 : wc.cell? ⟨gb430, 1, none⟩ = some (.string a1_1) := (blk_cell BK430.out 1).trans rfl
              have hcz32_2 : wc.cell? ⟨gb430, 2, none⟩ = some (.string a1_2) := (blk_cell BK430.out 2).trans rfl
              have hfz32_0 := blk_frozen BK430.out 0
              have hfz32_1 := blk_frozen BK430.out 1
              have hfz32_2 := blk_frozen BK430.out 2
              go_wp2_with (first | ((with_reducible refine gate_callee (f := 20) rfl ?_); refine goesL_ (some 35) rfl rfl Tryd.func20 (by kernel_rfl) rfl #[.agg #[.string a0_0, .string a0_1, .string a0_2, .string a0_3, .int .i64 a0_4, .int .i64 a0_5, .int .i64 a0_6, .bool a0_7, .bool a0_8, .bool a0_9, .int .i64 a0_10], .agg #[.bool a1_0, .string a1_1, .string a1_2], .int .i64 a2] rfl xg ?_; (with_reducible refine (cookie_Sends.calls kj3 a0_0 a0_1 a0_2 a0_3 a0_4 a0_5 a0_6 a0_7 a0_8 a0_9 a0_10 a1_0 a1_1 a1_2 a2 true _ (Aside0.mk (by first | exact hG.out | ((with_reducible repeat (first | apply LaidG.drewN | apply LaidG.drew | apply LaidG.alloc)); exact hG.out) | exact LaidG.below hG.out xb)) A23.out).mono ?_); rintro e w33 ⟨rfl, hb⟩; refine ⟨_, rfl, ?_⟩; have n0_ := blkB BK429 hb; have n1_ := blkB BK430 hb; have n2_ := Aside0.mk (below_step xb hb); clear BK429; clear BK430; clear HB; have BK429 := n0_; have BK430 := n1_; have HB := n2_; clear n0_ n1_ n2_; (try clear hb); (try clear hb2); (try clear hk); (try clear hi); have hcz34_0 : w33.cell? ⟨gb429, 0, none⟩ = some (.string a0_0) := (blk_cell BK429.out 0).trans rfl; have hcz34_1 : w33.cell? ⟨gb429, 1, none⟩ = some (.string a0_1) := (blk_cell BK429.out 1).trans rfl; have hcz34_2 : w33.cell? ⟨gb429, 2, none⟩ = some (.string a0_2) := (blk_cell BK429.out 2).trans rfl; have hcz34_3 : w33.cell? ⟨gb429, 3, none⟩ = some (.string a0_3) := (blk_cell BK429.out 3).trans rfl; have hcz34_4 : w33.cell? ⟨gb429, 4, none⟩ = some (.int .i64 a0_4) := (blk_cell BK429.out 4).trans rfl; have hcz34_5 : w33.cell? ⟨gb429, 5, none⟩ = some (.int .i64 a0_5) := (blk_cell BK429.out 5).trans rfl; have hcz34_6 : w33.cell? ⟨gb429, 6, none⟩ = some (.int .i64 a0_6) := (blk_cell BK429.out 6).trans rfl; have hcz34_7 : w33.cell? ⟨gb429, 7, none⟩ = some (.bool a0_7) := (blk_cell BK429.out 7).trans rfl; have hcz34_8 : w33.cell? ⟨gb429, 8, none⟩ = some (.bool a0_8) := (blk_cell BK429.out 8).trans rfl; have hcz34_9 : w33.cell? ⟨gb429, 9, none⟩ = some (.bool a0_9) := (blk_cell BK429.out 9).trans rfl; have hcz34_10 : w33.cell? ⟨gb429, 10, none⟩ = some (.int .i64 a0_10) := (blk_cell BK429.out 10).trans rfl; have hfz34_0 := blk_frozen BK429.out 0; have hfz34_1 := blk_frozen BK429.out 1; have hfz34_2 := blk_frozen BK429.out 2; have hfz34_3 := blk_frozen BK429.out 3; have hfz34_4 := blk_frozen BK429.out 4; have hfz34_5 := blk_frozen BK429.out 5; have hfz34_6 := blk_frozen BK429.out 6; have hfz34_7 := blk_frozen BK429.out 7; have hfz34_8 := blk_frozen BK429.out 8; have hfz34_9 := blk_frozen BK429.out 9; have hfz34_10 := blk_frozen BK429.out 10) | ((with_reducible refine gate_dst (N := 8) rfl ?_); refine box_event ?hg (N := 8) ?hd (cs := #[.string (⟨#[]⟩ : ByteArray), .string (⟨#[]⟩ : ByteArray), .string (⟨#[]⟩ : ByteArray), .string (⟨#[]⟩ : ByteArray), .int .i64 0, .int .i64 0, .int .i64 0, .bool false, .bool false, .bool false, .int .i64 0]) (t := 23) ?hr ?_; (case hd => rfl); (case hg => rfl); (case hr => first | (go_simp; done) | (go_simp; rfl)); intro gb433 hg w35 hbox hb; have n0_ := blkB BK429 hb; have n1_ := blkB BK430 hb; have n2_ := Aside0.mk (below_step xb hb); have n3_ := Aside0.mk (hbox); have n4_ := Aside0.mk ((by rw [hg]; exact (below_size xb) : w.heap.size ≤ gb433)); have n5_ := Aside0.mk ((by rw [hg]; exact (below_size xb) : w.heap.size ≤ gb433)); have n6_ := Aside0.mk ((by rw [hg]; exact Nat.ne_of_lt (blkL BK429) : gb429 ≠ gb433)); have n7_ := Aside0.mk ((by rw [hg]; exact Nat.ne_of_gt (blkL BK429) : gb433 ≠ gb429)); have n8_ := Aside0.mk ((by rw [hg]; exact Nat.ne_of_lt (blkL BK430) : gb430 ≠ gb433)); have n9_ := Aside0.mk ((by rw [hg]; exact Nat.ne_of_gt (blkL BK430) : gb433 ≠ gb430)); clear BK429; clear BK430; clear HB; have BK429 := n0_; have BK430 := n1_; have HB := n2_; have BK433 := n3_; have GW433 := n4_; have GE433 := n5_; have NB429_433 := n6_; have NB433_429 := n7_; have NB430_433 := n8_; have NB433_430 := n9_; clear n0_ n1_ n2_ n3_ n4_ n5_ n6_ n7_ n8_ n9_; clear hb hbox hg; have hnb36 := NB433_429.out; have hnc36 := NB429_433.out; have hnb37 := NB433_430.out; have hnc37 := NB430_433.out; have hcz38_0 : w35.cell? ⟨gb433, 0, none⟩ = some (.string (⟨#[]⟩ : ByteArray)) := (blk_cell BK433.out 0).trans rfl; have hcz38_1 : w35.cell? ⟨gb433, 1, none⟩ = some (.string (⟨#[]⟩ : ByteArray)) := (blk_cell BK433.out 1).trans rfl; have hcz38_2 : w35.cell? ⟨gb433, 2, none⟩ = some (.string (⟨#[]⟩ : ByteArray)) := (blk_cell BK433.out 2).trans rfl; have hcz38_3 : w35.cell? ⟨gb433, 3, none⟩ = some (.string (⟨#[]⟩ : ByteArray)) := (blk_cell BK433.out 3).trans rfl; have hcz38_4 : w35.cell? ⟨gb433, 4, none⟩ = some (.int .i64 0) := (blk_cell BK433.out 4).trans rfl; have hcz38_5 : w35.cell? ⟨gb433, 5, none⟩ = some (.int .i64 0) := (blk_cell BK433.out 5).trans rfl; have hcz38_6 : w35.cell? ⟨gb433, 6, none⟩ = some (.int .i64 0) := (blk_cell BK433.out 6).trans rfl; have hcz38_7 : w35.cell? ⟨gb433, 7, none⟩ = some (.bool false) := (blk_cell BK433.out 7).trans rfl; have hcz38_8 : w35.cell? ⟨gb433, 8, none⟩ = some (.bool false) := (blk_cell BK433.out 8).trans rfl; have hcz38_9 : w35.cell? ⟨gb433, 9, none⟩ = some (.bool false) := (blk_cell BK433.out 9).trans rfl; have hcz38_10 : w35.cell? ⟨gb433, 10, none⟩ = some (.int .i64 0) := (blk_cell BK433.out 10).trans rfl; have hfz38_0 := blk_frozen BK433.out 0; have hfz38_1 := blk_frozen BK433.out 1; have hfz38_2 := blk_frozen BK433.out 2; have hfz38_3 := blk_frozen BK433.out 3; have hfz38_4 := blk_frozen BK433.out 4; have hfz38_5 := blk_frozen BK433.out 5; have hfz38_6 := blk_frozen BK433.out 6; have hfz38_7 := blk_frozen BK433.out 7; have hfz38_8 := blk_frozen BK433.out 8; have hfz38_9 := blk_frozen BK433.out 9; have hfz38_10 := blk_frozen BK433.out 10) | ((with_reducible refine gate_callee (f := 11) rfl ?_); refine goesL_ (some 40) rfl rfl Tryd.func11 (by kernel_rfl) rfl #[] rfl xg ?_; (with_reducible refine (cracknellaw13_alive.calls kj3  true _ (Aside0.mk (by first | exact hG.out | ((with_reducible repeat (first | apply LaidG.drewN | apply LaidG.drew | apply LaidG.alloc)); exact hG.out) | exact LaidG.below hG.out xb)) ⟨by first | rfl | assumption | exact hT_.out⟩ A24.out).mono ?_); rintro e w39 ⟨rfl, hb⟩; refine ⟨_, rfl, ?_⟩; have n0_ := blkB BK429 hb; have n1_ := blkB BK430 hb; have n2_ := Aside0.mk (blk_below (g := gb433) (o := .cells #[.string a0_0, .string a0_1, .string a0_2, .string a0_3, .int .i64 a0_4, .int .i64 a0_5, .int .i64 0, .bool false, .bool false, .bool a0_9, .int .i64 a0_10] 23 (0, 0)) xk hb); have n3_ := Aside0.mk (below_step xb hb); clear BK429; clear BK430; clear BK433; clear HB; have BK429 := n0_; have BK430 := n1_; have BK433 := n2_; have HB := n3_; clear n0_ n1_ n2_ n3_; (try clear hb); (try clear hb2); (try clear hk); (try clear hi); have hcz40_0 : w39.cell? ⟨gb429, 0, none⟩ = some (.string a0_0) := (blk_cell BK429.out 0).trans rfl; have hcz40_1 : w39.cell? ⟨gb429, 1, none⟩ = some (.string a0_1) := (blk_cell BK429.out 1).trans rfl; have hcz40_2 : w39.cell? ⟨gb429, 2, none⟩ = some (.string a0_2) := (blk_cell BK429.out 2).trans rfl; have hcz40_3 : w39.cell? ⟨gb429, 3, none⟩ = some (.string a0_3) := (blk_cell BK429.out 3).trans rfl; have hcz40_4 : w39.cell? ⟨gb429, 4, none⟩ = some (.int .i64 a0_4) := (blk_cell BK429.out 4).trans rfl; have hcz40_5 : w39.cell? ⟨gb429, 5, none⟩ = some (.int .i64 a0_5) := (blk_cell BK429.out 5).trans rfl; have hcz40_6 : w39.cell? ⟨gb429, 6, none⟩ = some (.int .i64 a0_6) := (blk_cell BK429.out 6).trans rfl; have hcz40_7 : w39.cell? ⟨gb429, 7, none⟩ = some (.bool a0_7) := (blk_cell BK429.out 7).trans rfl; have hcz40_8 : w39.cell? ⟨gb429, 8, none⟩ = some (.bool a0_8) := (blk_cell BK429.out 8).trans rfl; have hcz40_9 : w39.cell? ⟨gb429, 9, none⟩ = some (.bool a0_9) := (blk_cell BK429.out 9).trans rfl; have hcz40_10 : w39.cell? ⟨gb429, 10, none⟩ = some (.int .i64 a0_10) := (blk_cell BK429.out 10).trans rfl; have hfz40_0 := blk_frozen BK429.out 0; have hfz40_1 := blk_frozen BK429.out 1; have hfz40_2 := blk_frozen BK429.out 2; have hfz40_3 := blk_frozen BK429.out 3; have hfz40_4 := blk_frozen BK429.out 4; have hfz40_5 := blk_frozen BK429.out 5; have hfz40_6 := blk_frozen BK429.out 6; have hfz40_7 := blk_frozen BK429.out 7; have hfz40_8 := blk_frozen BK429.out 8; have hfz40_9 := blk_frozen BK429.out 9; have hfz40_10 := blk_frozen BK429.out 10; have hcz41_0 : w39.cell? ⟨gb430, 0, none⟩ = some (.bool a1_0) := (blk_cell BK430.out 0).trans rfl; have hcz41_1 : w39.cell? ⟨gb430, 1, none⟩ = some (.string a1_1) := (blk_cell BK430.out 1).trans rfl; have hcz41_2 : w39.cell? ⟨gb430, 2, none⟩ = some (.string a1_2) := (blk_cell BK430.out 2).trans rfl; have hfz41_0 := blk_frozen BK430.out 0; have hfz41_1 := blk_frozen BK430.out 1; have hfz41_2 := blk_frozen BK430.out 2) | (go_at_call 21; (with_reducible refine (cracknelref13_Sends.calls kj3 a0_0 a0_1 a0_2 a0_3 a0_4 a0_5 a0_6 a0_7 a0_8 a0_9 a0_10 a1_0 a1_1 a1_2 a2 t435 _ A26.out).mono ?_); rintro e w42 ⟨rfl, hb⟩; have n0_ := blkB BK429 hb; have n1_ := blkB BK430 hb; have n2_ := blkB BK433 hb; have n3_ := Aside0.mk (below_step xb hb); clear BK429; clear BK430; clear BK433; clear HB; have BK429 := n0_; have BK430 := n1_; have BK433 := n2_; have HB := n3_; clear n0_ n1_ n2_ n3_; (try clear hb); (try clear hb2); (try clear hk); (try clear hi); have hcz43_0 : w42.cell? ⟨gb433, 0, none⟩ = some (.string a0_0) := (blk_cell BK433.out 0).trans rfl; have hcz43_1 : w42.cell? ⟨gb433, 1, none⟩ = some (.string a0_1) := (blk_cell BK433.out 1).trans rfl; have hcz43_2 : w42.cell? ⟨gb433, 2, none⟩ = some (.string a0_2) := (blk_cell BK433.out 2).trans rfl; have hcz43_3 : w42.cell? ⟨gb433, 3, none⟩ = some (.string a0_3) := (blk_cell BK433.out 3).trans rfl; have hcz43_4 : w42.cell? ⟨gb433, 4, none⟩ = some (.int .i64 a0_4) := (blk_cell BK433.out 4).trans rfl; have hcz43_5 : w42.cell? ⟨gb433, 5, none⟩ = some (.int .i64 a0_5) := (blk_cell BK433.out 5).trans rfl; have hcz43_6 : w42.cell? ⟨gb433, 6, none⟩ = some (.int .i64 0) := (blk_cell BK433.out 6).trans rfl; have hcz43_7 : w42.cell? ⟨gb433, 7, none⟩ = some (.bool false) := (blk_cell BK433.out 7).trans rfl; have hcz43_8 : w42.cell? ⟨gb433, 8, none⟩ = some (.bool false) := (blk_cell BK433.out 8).trans rfl; have hcz43_9 : w42.cell? ⟨gb433, 9, none⟩ = some (.bool a0_9) := (blk_cell BK433.out 9).trans rfl; have hcz43_10 : w42.cell? ⟨gb433, 10, none⟩ = some (.int .i64 a0_10) := (blk_cell BK433.out 10).trans rfl; have hfz43_0 := blk_frozen BK433.out 0; have hfz43_1 := blk_frozen BK433.out 1; have hfz43_2 := blk_frozen BK433.out 2; have hfz43_3 := blk_frozen BK433.out 3; have hfz43_4 := blk_frozen BK433.out 4; have hfz43_5 := blk_frozen BK433.out 5; have hfz43_6 := blk_frozen BK433.out 6; have hfz43_7 := blk_frozen BK433.out 7; have hfz43_8 := blk_frozen BK433.out 8; have hfz43_9 := blk_frozen BK433.out 9; have hfz43_10 := blk_frozen BK433.out 10; have hcz44_0 : w42.cell? ⟨gb430, 0, none⟩ = some (.bool a1_0) := (blk_cell BK430.out 0).trans rfl; have hcz44_1 : w42.cell? ⟨gb430, 1, none⟩ = some (.string a1_1) := (blk_cell BK430.out 1).trans rfl; have hcz44_2 : w42.cell? ⟨gb430, 2, none⟩ = some (.string a1_2) := (blk_cell BK430.out 2).trans rfl; have hfz44_0 := blk_frozen BK430.out 0; have hfz44_1 := blk_frozen BK430.out 1; have hfz44_2 := blk_frozen BK430.out 2) | (go_at_call 20; (with_reducible refine (cookie_Sends.calls kj3 a0_0 a0_1 a0_2 a0_3 a0_4 a0_5 0 false false a0_9 a0_10 a1_0 a1_1 a1_2 a2 t436 _ (Aside0.mk (by first | exact hG.out | ((with_reducible repeat (first | apply LaidG.drewN | apply LaidG.drew | apply LaidG.alloc)); exact hG.out) | exact LaidG.below hG.out xb)) A29.out).mono ?_); rintro e w45 ⟨rfl, hb⟩; have n0_ := blkB BK429 hb; have n1_ := blkB BK430 hb; have n2_ := blkB BK433 hb; have n3_ := Aside0.mk (below_step xb hb); clear BK429; clear BK430; clear BK433; clear HB; have BK429 := n0_; have BK430 := n1_; have BK433 := n2_; have HB := n3_; clear n0_ n1_ n2_ n3_; (try clear hb); (try clear hb2); (try clear hk); (try clear hi)))
              go_ret
              exact ⟨by first | rfl | (simp [errW_none, errW_some] <;> rfl) | (simp [*, errW_none, errW_some] <;> rfl), by repeat (first | (with_reducible first | exact HB.out | apply below_alloc | apply pw_below_drewN | apply below_drew1 | refine below_set ?_ GE429.out | refine below_set ?_ GE430.out | refine below_set ?_ GE433.out) | exact HB.out)⟩
            · replace c28 := Bool.eq_false_iff.mpr c28
              subst c28
              have H1 : (some true) = some r := by rw [if_neg (show ¬ (false = true) by decide)] at H; exact H
              clear H
              have H := H1
              clear H1
              obtain rfl := Option.some.inj H
              have hnb46 := NB429_430.out
              have hnc46 := NB430_429.out
              have hcz47_0 : wc.cell? ⟨gb429, 0, none⟩ = some (.string a0_0) := (blk_cell BK429.out 0).trans rfl
              have hcz47_1 : wc.cell? ⟨gb429, 1, none⟩ = some (.string a0_1) := (blk_cell BK429.out 1).trans rfl
              have hcz47_2 : wc.cell? ⟨gb429, 2, none⟩ = some (.string a0_2) := (blk_cell BK429.out 2).trans rfl
              have hcz47_3 : wc.cell? ⟨gb429, 3, none⟩ = some (.string a0_3) := (blk_cell BK429.out 3).trans rfl
              have hcz47_4 : wc.cell? ⟨gb429, 4, none⟩ = some (.int .i64 a0_4) := (blk_cell BK429.out 4).trans rfl
              have hcz47_5 : wc.cell? ⟨gb429, 5, none⟩ = some (.int .i64 a0_5) := (blk_cell BK429.out 5).trans rfl
              have hcz47_6 : wc.cell? ⟨gb429, 6, none⟩ = some (.int .i64 a0_6) := (blk_cell BK429.out 6).trans rfl
              have hcz47_7 : wc.cell? ⟨gb429, 7, none⟩ = some (.bool a0_7) := (blk_cell BK429.out 7).trans rfl
              have hcz47_8 : wc.cell? ⟨gb429, 8, none⟩ = some (.bool a0_8) := (blk_cell BK429.out 8).trans rfl
              have hcz47_9 : wc.cell? ⟨gb429, 9, none⟩ = some (.bool a0_9) := (blk_cell BK429.out 9).trans rfl
              have hcz47_10 : wc.cell? ⟨gb429, 10, none⟩ = some (.int .i64 a0_10) := (blk_cell BK429.out 10).trans rfl
              have hfz47_0 := blk_frozen BK429.out 0
              have hfz47_1 := blk_frozen BK429.out 1
              have hfz47_2 := blk_frozen BK429.out 2
              have hfz47_3 := blk_frozen BK429.out 3
              have hfz47_4 := blk_frozen BK429.out 4
              have hfz47_5 := blk_frozen BK429.out 5
              have hfz47_6 := blk_frozen BK429.out 6
              have hfz47_7 := blk_frozen BK429.out 7
              have hfz47_8 := blk_frozen BK429.out 8
              have hfz47_9 := blk_frozen BK429.out 9
              have hfz47_10 := blk_frozen BK429.out 10
              have hcz48_0 : wc.cell? ⟨gb430, 0, none⟩ = some (.bool a1_0) := (blk_cell BK430.out 0).trans rfl
              have hcz48_1 : wc.cell? ⟨gb430, 1, none⟩ = some (.string a1_1) := (blk_cell BK430.out 1).trans rfl
              have hcz48_2 : wc.cell? ⟨gb430, 2, none⟩ = some (.string a1_2) := (blk_cell BK430.out 2).trans rfl
              have hfz48_0 := blk_frozen BK430.out 0
              have hfz48_1 := blk_frozen BK430.out 1
              have hfz48_2 := blk_frozen BK430.out 2
              go_wp2_with (first | ((with_reducible refine gate_callee (f := 20) rfl ?_); refine goesL_ (some 35) rfl rfl Tryd.func20 (by kernel_rfl) rfl #[.agg #[.string a0_0, .string a0_1, .string a0_2, .string a0_3, .int .i64 a0_4, .int .i64 a0_5, .int .i64 a0_6, .bool a0_7, .bool a0_8, .bool a0_9, .int .i64 a0_10], .agg #[.bool a1_0, .string a1_1, .string a1_2], .int .i64 a2] rfl xg ?_; (with_reducible refine (cookie_Sends.calls kj3 a0_0 a0_1 a0_2 a0_3 a0_4 a0_5 a0_6 a0_7 a0_8 a0_9 a0_10 a1_0 a1_1 a1_2 a2 false _ (Aside0.mk (by first | exact hG.out | ((with_reducible repeat (first | apply LaidG.drewN | apply LaidG.drew | apply LaidG.alloc)); exact hG.out) | exact LaidG.below hG.out xb)) A23.out).mono ?_); rintro e w49 ⟨rfl, hb⟩; refine ⟨_, rfl, ?_⟩; have n0_ := blkB BK429 hb; have n1_ := blkB BK430 hb; have n2_ := Aside0.mk (below_step xb hb); clear BK429; clear BK430; clear HB; have BK429 := n0_; have BK430 := n1_; have HB := n2_; clear n0_ n1_ n2_; (try clear hb); (try clear hb2); (try clear hk); (try clear hi); have hcz50_0 : w49.cell? ⟨gb429, 0, none⟩ = some (.string a0_0) := (blk_cell BK429.out 0).trans rfl; have hcz50_1 : w49.cell? ⟨gb429, 1, none⟩ = some (.string a0_1) := (blk_cell BK429.out 1).trans rfl; have hcz50_2 : w49.cell? ⟨gb429, 2, none⟩ = some (.string a0_2) := (blk_cell BK429.out 2).trans rfl; have hcz50_3 : w49.cell? ⟨gb429, 3, none⟩ = some (.string a0_3) := (blk_cell BK429.out 3).trans rfl; have hcz50_4 : w49.cell? ⟨gb429, 4, none⟩ = some (.int .i64 a0_4) := (blk_cell BK429.out 4).trans rfl; have hcz50_5 : w49.cell? ⟨gb429, 5, none⟩ = some (.int .i64 a0_5) := (blk_cell BK429.out 5).trans rfl; have hcz50_6 : w49.cell? ⟨gb429, 6, none⟩ = some (.int .i64 a0_6) := (blk_cell BK429.out 6).trans rfl; have hcz50_7 : w49.cell? ⟨gb429, 7, none⟩ = some (.bool a0_7) := (blk_cell BK429.out 7).trans rfl; have hcz50_8 : w49.cell? ⟨gb429, 8, none⟩ = some (.bool a0_8) := (blk_cell BK429.out 8).trans rfl; have hcz50_9 : w49.cell? ⟨gb429, 9, none⟩ = some (.bool a0_9) := (blk_cell BK429.out 9).trans rfl; have hcz50_10 : w49.cell? ⟨gb429, 10, none⟩ = some (.int .i64 a0_10) := (blk_cell BK429.out 10).trans rfl; have hfz50_0 := blk_frozen BK429.out 0; have hfz50_1 := blk_frozen BK429.out 1; have hfz50_2 := blk_frozen BK429.out 2; have hfz50_3 := blk_frozen BK429.out 3; have hfz50_4 := blk_frozen BK429.out 4; have hfz50_5 := blk_frozen BK429.out 5; have hfz50_6 := blk_frozen BK429.out 6; have hfz50_7 := blk_frozen BK429.out 7; have hfz50_8 := blk_frozen BK429.out 8; have hfz50_9 := blk_frozen BK429.out 9; have hfz50_10 := blk_frozen BK429.out 10) | ((with_reducible refine gate_dst (N := 8) rfl ?_); refine box_event ?hg (N := 8) ?hd (cs := #[.string (⟨#[]⟩ : ByteArray), .string (⟨#[]⟩ : ByteArray), .string (⟨#[]⟩ : ByteArray), .string (⟨#[]⟩ : ByteArray), .int .i64 0, .int .i64 0, .int .i64 0, .bool false, .bool false, .bool false, .int .i64 0]) (t := 23) ?hr ?_; (case hd => rfl); (case hg => rfl); (case hr => first | (go_simp; done) | (go_simp; rfl)); intro gb433 hg w51 hbox hb; have n0_ := blkB BK429 hb; have n1_ := blkB BK430 hb; have n2_ := Aside0.mk (below_step xb hb); have n3_ := Aside0.mk (hbox); have n4_ := Aside0.mk ((by rw [hg]; exact (below_size xb) : w.heap.size ≤ gb433)); have n5_ := Aside0.mk ((by rw [hg]; exact (below_size xb) : w.heap.size ≤ gb433)); have n6_ := Aside0.mk ((by rw [hg]; exact Nat.ne_of_lt (blkL BK429) : gb429 ≠ gb433)); have n7_ := Aside0.mk ((by rw [hg]; exact Nat.ne_of_gt (blkL BK429) : gb433 ≠ gb429)); have n8_ := Aside0.mk ((by rw [hg]; exact Nat.ne_of_lt (blkL BK430) : gb430 ≠ gb433)); have n9_ := Aside0.mk ((by rw [hg]; exact Nat.ne_of_gt (blkL BK430) : gb433 ≠ gb430)); clear BK429; clear BK430; clear HB; have BK429 := n0_; have BK430 := n1_; have HB := n2_; have BK433 := n3_; have GW433 := n4_; have GE433 := n5_; have NB429_433 := n6_; have NB433_429 := n7_; have NB430_433 := n8_; have NB433_430 := n9_; clear n0_ n1_ n2_ n3_ n4_ n5_ n6_ n7_ n8_ n9_; clear hb hbox hg; have hnb52 := NB433_429.out; have hnc52 := NB429_433.out; have hnb53 := NB433_430.out; have hnc53 := NB430_433.out; have hcz54_0 : w51.cell? ⟨gb433, 0, none⟩ = some (.string (⟨#[]⟩ : ByteArray)) := (blk_cell BK433.out 0).trans rfl; have hcz54_1 : w51.cell? ⟨gb433, 1, none⟩ = some (.string (⟨#[]⟩ : ByteArray)) := (blk_cell BK433.out 1).trans rfl; have hcz54_2 : w51.cell? ⟨gb433, 2, none⟩ = some (.string (⟨#[]⟩ : ByteArray)) := (blk_cell BK433.out 2).trans rfl; have hcz54_3 : w51.cell? ⟨gb433, 3, none⟩ = some (.string (⟨#[]⟩ : ByteArray)) := (blk_cell BK433.out 3).trans rfl; have hcz54_4 : w51.cell? ⟨gb433, 4, none⟩ = some (.int .i64 0) := (blk_cell BK433.out 4).trans rfl; have hcz54_5 : w51.cell? ⟨gb433, 5, none⟩ = some (.int .i64 0) := (blk_cell BK433.out 5).trans rfl; have hcz54_6 : w51.cell? ⟨gb433, 6, none⟩ = some (.int .i64 0) := (blk_cell BK433.out 6).trans rfl; have hcz54_7 : w51.cell? ⟨gb433, 7, none⟩ = some (.bool false) := (blk_cell BK433.out 7).trans rfl; have hcz54_8 : w51.cell? ⟨gb433, 8, none⟩ = some (.bool false) := (blk_cell BK433.out 8).trans rfl; have hcz54_9 : w51.cell? ⟨gb433, 9, none⟩ = some (.bool false) := (blk_cell BK433.out 9).trans rfl; have hcz54_10 : w51.cell? ⟨gb433, 10, none⟩ = some (.int .i64 0) := (blk_cell BK433.out 10).trans rfl; have hfz54_0 := blk_frozen BK433.out 0; have hfz54_1 := blk_frozen BK433.out 1; have hfz54_2 := blk_frozen BK433.out 2; have hfz54_3 := blk_frozen BK433.out 3; have hfz54_4 := blk_frozen BK433.out 4; have hfz54_5 := blk_frozen BK433.out 5; have hfz54_6 := blk_frozen BK433.out 6; have hfz54_7 := blk_frozen BK433.out 7; have hfz54_8 := blk_frozen BK433.out 8; have hfz54_9 := blk_frozen BK433.out 9; have hfz54_10 := blk_frozen BK433.out 10) | ((with_reducible refine gate_callee (f := 11) rfl ?_); refine goesL_ (some 40) rfl rfl Tryd.func11 (by kernel_rfl) rfl #[] rfl xg ?_; (with_reducible refine (cracknellaw13_alive.calls kj3  true _ (Aside0.mk (by first | exact hG.out | ((with_reducible repeat (first | apply LaidG.drewN | apply LaidG.drew | apply LaidG.alloc)); exact hG.out) | exact LaidG.below hG.out xb)) ⟨by first | rfl | assumption | exact hT_.out⟩ A24.out).mono ?_); rintro e w55 ⟨rfl, hb⟩; refine ⟨_, rfl, ?_⟩; have n0_ := blkB BK429 hb; have n1_ := blkB BK430 hb; have n2_ := Aside0.mk (blk_below (g := gb433) (o := .cells #[.string a0_0, .string a0_1, .string a0_2, .string a0_3, .int .i64 a0_4, .int .i64 a0_5, .int .i64 0, .bool false, .bool false, .bool a0_9, .int .i64 a0_10] 23 (0, 0)) xk hb); have n3_ := Aside0.mk (below_step xb hb); clear BK429; clear BK430; clear BK433; clear HB; have BK429 := n0_; have BK430 := n1_; have BK433 := n2_; have HB := n3_; clear n0_ n1_ n2_ n3_; (try clear hb); (try clear hb2); (try clear hk); (try clear hi); have hcz56_0 : w55.cell? ⟨gb429, 0, none⟩ = some (.string a0_0) := (blk_cell BK429.out 0).trans rfl; have hcz56_1 : w55.cell? ⟨gb429, 1, none⟩ = some (.string a0_1) := (blk_cell BK429.out 1).trans rfl; have hcz56_2 : w55.cell? ⟨gb429, 2, none⟩ = some (.string a0_2) := (blk_cell BK429.out 2).trans rfl; have hcz56_3 : w55.cell? ⟨gb429, 3, none⟩ = some (.string a0_3) := (blk_cell BK429.out 3).trans rfl; have hcz56_4 : w55.cell? ⟨gb429, 4, none⟩ = some (.int .i64 a0_4) := (blk_cell BK429.out 4).trans rfl; have hcz56_5 : w55.cell? ⟨gb429, 5, none⟩ = some (.int .i64 a0_5) := (blk_cell BK429.out 5).trans rfl; have hcz56_6 : w55.cell? ⟨gb429, 6, none⟩ = some (.int .i64 a0_6) := (blk_cell BK429.out 6).trans rfl; have hcz56_7 : w55.cell? ⟨gb429, 7, none⟩ = some (.bool a0_7) := (blk_cell BK429.out 7).trans rfl; have hcz56_8 : w55.cell? ⟨gb429, 8, none⟩ = some (.bool a0_8) := (blk_cell BK429.out 8).trans rfl; have hcz56_9 : w55.cell? ⟨gb429, 9, none⟩ = some (.bool a0_9) := (blk_cell BK429.out 9).trans rfl; have hcz56_10 : w55.cell? ⟨gb429, 10, none⟩ = some (.int .i64 a0_10) := (blk_cell BK429.out 10).trans rfl; have hfz56_0 := blk_frozen BK429.out 0; have hfz56_1 := blk_frozen BK429.out 1; have hfz56_2 := blk_frozen BK429.out 2; have hfz56_3 := blk_frozen BK429.out 3; have hfz56_4 := blk_frozen BK429.out 4; have hfz56_5 := blk_frozen BK429.out 5; have hfz56_6 := blk_frozen BK429.out 6; have hfz56_7 := blk_frozen BK429.out 7; have hfz56_8 := blk_frozen BK429.out 8; have hfz56_9 := blk_frozen BK429.out 9; have hfz56_10 := blk_frozen BK429.out 10; have hcz57_0 : w55.cell? ⟨gb430, 0, none⟩ = some (.bool a1_0) := (blk_cell BK430.out 0).trans rfl; have hcz57_1 : w55.cell? ⟨gb430, 1, none⟩ = some (.string a1_1) := (blk_cell BK430.out 1).trans rfl; have hcz57_2 : w55.cell? ⟨gb430, 2, none⟩ = some (.string a1_2) := (blk_cell BK430.out 2).trans rfl; have hfz57_0 := blk_frozen BK430.out 0; have hfz57_1 := blk_frozen BK430.out 1; have hfz57_2 := blk_frozen BK430.out 2) | (go_at_call 21; (with_reducible refine (cracknelref13_Sends.calls kj3 a0_0 a0_1 a0_2 a0_3 a0_4 a0_5 a0_6 a0_7 a0_8 a0_9 a0_10 a1_0 a1_1 a1_2 a2 t435 _ A26.out).mono ?_); rintro e w58 ⟨rfl, hb⟩; have n0_ := blkB BK429 hb; have n1_ := blkB BK430 hb; have n2_ := blkB BK433 hb; have n3_ := Aside0.mk (below_step xb hb); clear BK429; clear BK430; clear BK433; clear HB; have BK429 := n0_; have BK430 := n1_; have BK433 := n2_; have HB := n3_; clear n0_ n1_ n2_ n3_; (try clear hb); (try clear hb2); (try clear hk); (try clear hi)))
              go_ret
              exact ⟨by first | rfl | (simp [errW_none, errW_some] <;> rfl) | (simp [*, errW_none, errW_some] <;> rfl), by repeat (first | (with_reducible first | exact HB.out | apply below_alloc | apply pw_below_drewN | apply below_drew1 | refine below_set ?_ GE429.out | refine below_set ?_ GE430.out | refine below_set ?_ GE433.out) | exact HB.out)⟩
          · rw [if_neg c27] at H
            have c27b0 : (t432 == t435) = false := by simpa using c27
            (try (have c27b1 : decide (t432 = t435) = false := by simpa using c27))
            (try (have c27b2 : (t432 == t435) = false := by simpa using c27))
            (try (have c27b3 : ¬ (t432 = t435) := by simpa using c27))
            clear c27
            obtain rfl := Option.some.inj H
            exact absurd hT_.out (by decide)
        · replace c25 := Bool.eq_false_iff.mpr c25
          subst c25
          have H1 : (some false) = some r := by rw [if_neg (show ¬ (false = true) by decide)] at H; exact H
          clear H
          have H := H1
          clear H1
          obtain rfl := Option.some.inj H
          exact absurd hT_.out (by decide)

/-- THE ONE PURE STATEMENT of cracknellaw13_CookieSends: yours. -/
def cracknellaw13_CookieSends.Pure : Prop := ∀ (a0_0 : ByteArray) (a0_1 : ByteArray) (a0_2 : ByteArray) (a0_3 : ByteArray) (a0_4 : Int) (a0_5 : Int) (a0_6 : Int) (a0_7 : Bool) (a0_8 : Bool) (a0_9 : Bool) (a0_10 : Int) (a1_0 : Bool) (a1_1 : ByteArray) (a1_2 : ByteArray) (a2 : Int), a0_0.size ≤ 9223372036854775807 → a0_1.size ≤ 9223372036854775807 → a0_2.size ≤ 9223372036854775807 → a0_3.size ≤ 9223372036854775807 → (Lit.int .i64 a0_4).wf = true → (Lit.int .i64 a0_5).wf = true → (Lit.int .i64 a0_6).wf = true → (Lit.int .i64 a0_10).wf = true → a1_1.size ≤ 9223372036854775807 → a1_2.size ≤ 9223372036854775807 → (Lit.int .i64 a2).wf = true → ∃ k, cracknellaw13_CookieSends.f k a0_0 a0_1 a0_2 a0_3 a0_4 a0_5 a0_6 a0_7 a0_8 a0_9 a0_10 a1_0 a1_1 a1_2 a2 = some true
theorem cracknellaw13_CookieSends.walk (P : cracknellaw13_CookieSends.Pure) (a0_0 : ByteArray) (a0_1 : ByteArray) (a0_2 : ByteArray) (a0_3 : ByteArray) (a0_4 : Int) (a0_5 : Int) (a0_6 : Int) (a0_7 : Bool) (a0_8 : Bool) (a0_9 : Bool) (a0_10 : Int) (a1_0 : Bool) (a1_1 : ByteArray) (a1_2 : ByteArray) (a2 : Int) (w : World) (w0_0 : a0_0.size ≤ 9223372036854775807) (w0_1 : a0_1.size ≤ 9223372036854775807) (w0_2 : a0_2.size ≤ 9223372036854775807) (w0_3 : a0_3.size ≤ 9223372036854775807) (w0_4 : (Lit.int .i64 a0_4).wf = true) (w0_5 : (Lit.int .i64 a0_5).wf = true) (w0_6 : (Lit.int .i64 a0_6).wf = true) (w0_10 : (Lit.int .i64 a0_10).wf = true) (w1_1 : a1_1.size ≤ 9223372036854775807) (w1_2 : a1_2.size ≤ 9223372036854775807) (w2 : (Lit.int .i64 a2).wf = true) (hG : Aside0 (LaidG w)) :
    Calls Tryd.prog 8 #[.agg #[.string a0_0, .string a0_1, .string a0_2, .string a0_3, .int .i64 a0_4, .int .i64 a0_5, .int .i64 a0_6, .bool a0_7, .bool a0_8, .bool a0_9, .int .i64 a0_10], .agg #[.bool a1_0, .string a1_1, .string a1_2], .int .i64 a2] w fun e w' => e = .returned (.bool true) ∧ Below w.heap.size w w' := by
  obtain ⟨k, h⟩ := P a0_0 a0_1 a0_2 a0_3 a0_4 a0_5 a0_6 a0_7 a0_8 a0_9 a0_10 a1_0 a1_1 a1_2 a2 w0_0 w0_1 w0_2 w0_3 w0_4 w0_5 w0_6 w0_10 w1_1 w1_2 w2
  refine (cracknellaw13_CookieSends.calls k a0_0 a0_1 a0_2 a0_3 a0_4 a0_5 a0_6 a0_7 a0_8 a0_9 a0_10 a1_0 a1_1 a1_2 a2 true w hG ⟨rfl⟩ h).mono ?_
  rintro e w' ⟨rfl, hd⟩
  exact ⟨rfl, hd⟩

end Go.Proofs.YtpcakfldmcfhlaaDoor.Print
