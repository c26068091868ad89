/- Printed by a program of this claim's session (xprint.py): the machine's side: each Go function as a Lean function, and that a call of it comes to what that tells; the row of a statement. No condition. -/
import Derived.Test.YtpcakfldmcfhlaaGreatDoorPrint0
import Derived.Test.YtpcakfldmcfhlaaGreatDoorPrint4
import Derived.Test.YtpcakfldmcfhlaaGreatDoorPrint6
import Derived.Test.YtpcakfldmcfhlaaGreatDoorPrint12
namespace Go.Proofs.YtpcakfldmcfhlaaGreatDoor.Print
open Go.RowKit Go.Proofs.YtpcakfldmcfhlaaGreatDoorW.PrintWords Go.Proofs.YtpcakfldmcfhlaaGreatDoorW.PrintLast Go.Proofs.YtpcakfldmcfhlaaGreatDoorW.PrintMore
attribute [local go_sem] max2_int min2_int max_two min_two max_three min_three max_four min_four   -- for this text's walks alone
set_option linter.unusedVariables false
set_option linter.unusedSimpArgs false

/-! ### cracknellaw13_CookieRight: function 3 -/
def cracknellaw13_CookieRight.j0 : Nat → Bool → ByteArray → ByteArray → ByteArray → ByteArray → Int → Int → Int → Bool → Bool → Bool → Int → Option (Bool)
  | 0, _, _, _, _, _, _, _, _, _, _, _, _ => none
  | k + 1, x24, x256000, x256001, x256002, x256003, x256004, x256005, x256006, x256007, x256008, x256009, x256010 => if x24 = true then ((cracknellaw13_alive.f k).bind fun t256 => (some t256)) else ((cracknellaw13_alive.f k).bind fun t257 => (if t257 = true then ((cookie_Right.f k x256000 x256001 x256002 x256003 x256004 x256005 x256006 x256007 x256008 x256009 x256010).bind fun t258 => ((cracknelref13_Right.f k x256000 x256001 x256002 x256003 x256004 x256005 x256006 x256007 x256008 x256009 x256010).bind fun t259 => (some (t258 == t259)))) else (some false)))
def cracknellaw13_CookieRight.f (k : Nat) (a0_0 : ByteArray) (a0_1 : ByteArray) (a0_2 : ByteArray) (a0_3 : ByteArray) (a0_4 : Int) (a0_5 : Int) (a0_6 : Int) (a0_7 : Bool) (a0_8 : Bool) (a0_9 : Bool) (a0_10 : Int) : Option (Bool) := if (a0_0.size : Int) > 500 then (cracknellaw13_CookieRight.j0 k true a0_0 a0_1 a0_2 a0_3 a0_4 a0_5 a0_6 a0_7 a0_8 a0_9 a0_10) else (if (a0_1.size : Int) > 500 then (cracknellaw13_CookieRight.j0 k true a0_0 a0_1 a0_2 a0_3 a0_4 a0_5 a0_6 a0_7 a0_8 a0_9 a0_10) else (if (a0_2.size : Int) > 500 then (cracknellaw13_CookieRight.j0 k true a0_0 a0_1 a0_2 a0_3 a0_4 a0_5 a0_6 a0_7 a0_8 a0_9 a0_10) else (cracknellaw13_CookieRight.j0 k (decide ((a0_3.size : Int) > 500)) a0_0 a0_1 a0_2 a0_3 a0_4 a0_5 a0_6 a0_7 a0_8 a0_9 a0_10)))
theorem cracknellaw13_CookieRight.mono_l : ∀ k, (∀ y0 y1 y2 y3 y4 y5 y6 y7 y8 y9 y10 y11, LeO (cracknellaw13_CookieRight.j0 k y0 y1 y2 y3 y4 y5 y6 y7 y8 y9 y10 y11) (cracknellaw13_CookieRight.j0 (k + 1) y0 y1 y2 y3 y4 y5 y6 y7 y8 y9 y10 y11))
  | 0 => fun _ _ _ _ _ _ _ _ _ _ _ _ r h => by simp [cracknellaw13_CookieRight.j0] at h
  | k + 1 => by
    have ih0 := cracknellaw13_CookieRight.mono_l k
    · intro y0 y1 y2 y3 y4 y5 y6 y7 y8 y9 y10 y11
      unfold cracknellaw13_CookieRight.j0
      repeat' first
      | (with_reducible exact ih0 _ _ _ _ _ _ _ _ _ _ _ _)
      | (with_reducible exact cookie_Right.mono _ _ _ _ _ _ _ _ _ _ _ _)
      | (with_reducible exact cracknellaw13_alive.mono _)
      | (with_reducible exact cracknelref13_Right.mono _ _ _ _ _ _ _ _ _ _ _ _)
      | (with_reducible exact LeO.refl _)
      | (with_reducible exact LeO.none _)
      | (with_reducible refine LeO.ite ?_ ?_)
      | (with_reducible refine LeO.bind ?_ (fun _ => ?_))
      | exact ih0 _ _ _ _ _ _ _ _ _ _ _ _
      | exact cookie_Right.mono _ _ _ _ _ _ _ _ _ _ _ _
      | exact cracknellaw13_alive.mono _
      | exact cracknelref13_Right.mono _ _ _ _ _ _ _ _ _ _ _ _
      | exact LeO.none _
      | refine LeO.ite ?_ ?_
      | refine LeO.bind ?_ (fun _ => ?_)
theorem cracknellaw13_CookieRight.mono : ∀ a0 a1 a2 a3 a4 a5 a6 a7 a8 a9 a10 k, LeO (cracknellaw13_CookieRight.f k a0 a1 a2 a3 a4 a5 a6 a7 a8 a9 a10) (cracknellaw13_CookieRight.f (k + 1) a0 a1 a2 a3 a4 a5 a6 a7 a8 a9 a10) := by
  intro a0 a1 a2 a3 a4 a5 a6 a7 a8 a9 a10 k
  have ih0 := cracknellaw13_CookieRight.mono_l k
  unfold cracknellaw13_CookieRight.f
  repeat' first
      | (with_reducible exact ih0 _ _ _ _ _ _ _ _ _ _ _ _)
      | (with_reducible exact cookie_Right.mono _ _ _ _ _ _ _ _ _ _ _ _)
      | (with_reducible exact cracknellaw13_alive.mono _)
      | (with_reducible exact cracknelref13_Right.mono _ _ _ _ _ _ _ _ _ _ _ _)
      | (with_reducible exact LeO.refl _)
      | (with_reducible exact LeO.none _)
      | (with_reducible refine LeO.ite ?_ ?_)
      | (with_reducible refine LeO.bind ?_ (fun _ => ?_))
      | exact ih0 _ _ _ _ _ _ _ _ _ _ _ _
      | exact cookie_Right.mono _ _ _ _ _ _ _ _ _ _ _ _
      | exact cracknellaw13_alive.mono _
      | exact cracknelref13_Right.mono _ _ _ _ _ _ _ _ _ _ _ _
      | exact LeO.none _
      | refine LeO.ite ?_ ?_
      | refine LeO.bind ?_ (fun _ => ?_)
def cracknellaw13_CookieRight.T3 : Bool × List (List Nat × List Nat) := (true, [([], []), ([0, 0], [0]), ([1], [1]), ([2, 1, 1], [1, 2]), ([1], [1]), ([4, 3, 1], [1, 4]), ([3, 5, 1], [1, 3, 5]), ([1, 6], [1, 6]), ([7, 5, 0, 1, 2, 3, 4, 5, 6, 7], [7])])
def cracknellaw13_CookieRight.B3 : List Nat := [0, 1, 3, 7, 3, 31, 63, 127, 255]
theorem cracknellaw13_CookieRight.tab3 : rtab .any (opsOf Tryz.f3 3) = cracknellaw13_CookieRight.T3 := by kernel_rfl
theorem cracknellaw13_CookieRight.bits3 : waitsOk cracknellaw13_CookieRight.T3.2 cracknellaw13_CookieRight.B3 = true := by kernel_rfl
set_option maxHeartbeats 8000000 in
set_option maxRecDepth 100000 in
theorem cracknellaw13_CookieRight.calls (k : Nat) (a0_0 : ByteArray) (a0_1 : ByteArray) (a0_2 : ByteArray) (a0_3 : ByteArray) (a0_4 : Int) (a0_5 : Int) (a0_6 : Int) (a0_7 : Bool) (a0_8 : Bool) (a0_9 : Bool) (a0_10 : Int) (r : Bool) (w : World) (hG : Aside0 (LaidG w)) (hT_ : Aside0 (r = true)) (h : cracknellaw13_CookieRight.f k a0_0 a0_1 a0_2 a0_3 a0_4 a0_5 a0_6 a0_7 a0_8 a0_9 a0_10 = some r) :
    Calls Tryz.prog 3 #[.agg #[.string a0_0, .string a0_1, .string a0_2, .string a0_3, .int .i64 a0_4, .int .i64 a0_5, .int .i64 a0_6, .bool a0_7, .bool a0_8, .bool a0_9, .int .i64 a0_10]] w fun e w' => e = .returned (.bool r) ∧ Below w.heap.size w w' := by
  have hu23 := Tryz.underlying23
  have HB := Aside0.mk (Below.refl w.heap.size w)
  have H : (if (a0_0.size : Int) > 500 then (cracknellaw13_CookieRight.j0 k true a0_0 a0_1 a0_2 a0_3 a0_4 a0_5 a0_6 a0_7 a0_8 a0_9 a0_10) else (if (a0_1.size : Int) > 500 then (cracknellaw13_CookieRight.j0 k true a0_0 a0_1 a0_2 a0_3 a0_4 a0_5 a0_6 a0_7 a0_8 a0_9 a0_10) else (if (a0_2.size : Int) > 500 then (cracknellaw13_CookieRight.j0 k true a0_0 a0_1 a0_2 a0_3 a0_4 a0_5 a0_6 a0_7 a0_8 a0_9 a0_10) else (cracknellaw13_CookieRight.j0 k (decide ((a0_3.size : Int) > 500)) a0_0 a0_1 a0_2 a0_3 a0_4 a0_5 a0_6 a0_7 a0_8 a0_9 a0_10)))) = some r := h
  clear h
  have HC2 := Aside0.mk H
  clear H
  go_enter Tryz.func3, Tryz.ntmps3
  go_upto_region 1 with (first | ((with_reducible refine gate_dst (N := 1) rfl ?_); (try (refine gate_guard (by rfl) ?_; dsimp only)); refine box_event ?hg (N := 1) ?hd (cs := #[.string a0_0, .string a0_1, .string a0_2, .string a0_3, .int .i64 a0_4, .int .i64 a0_5, .int .i64 a0_6, .bool a0_7, .bool a0_8, .bool a0_9, .int .i64 a0_10]) (t := 23) ?hr ?_; (case hd => rfl); (case hg => rfl); (case hr => first | (go_simp; done) | (go_simp; rfl)); intro gb255 hg w3 hbox hb; have n0_ := Aside0.mk (below_step xb hb); have n1_ := Aside0.mk (hbox); have n2_ := Aside0.mk ((by rw [hg]; exact (below_size xb) : w.heap.size ≤ gb255)); have n3_ := Aside0.mk ((by rw [hg]; exact (below_size xb) : w.heap.size ≤ gb255)); clear HB; have HB := n0_; have BK255 := n1_; have GW255 := n2_; have GE255 := n3_; clear n0_ n1_ n2_ n3_; clear hb hbox hg))
  (try simp only [Act.put, List.setIfInBounds_toArray, List.set_cons_zero, List.set_cons_succ])
  go_cut [24] (fun v24 wc => ∃ (kq : Nat) (x24_1 : Bool), v24 = .bool x24_1 ∧ Aside0 (cracknellaw13_CookieRight.j0 kq x24_1 a0_0 a0_1 a0_2 a0_3 a0_4 a0_5 a0_6 a0_7 a0_8 a0_9 a0_10 = some r) ∧ Aside0 (kq ≤ k) ∧ Aside0 (wc.heap[gb255]? = some (.cells #[.string a0_0, .string a0_1, .string a0_2, .string a0_3, .int .i64 a0_4, .int .i64 a0_5, .int .i64 a0_6, .bool a0_7, .bool a0_8, .bool a0_9, .int .i64 a0_10] 23 (0, 0))) ∧ Aside0 (Below w.heap.size w wc))
  case first =>
    have H := HC2.out
    clear HC2
    by_cases c4 : (a0_0.size : Int) > 500
    · rw [if_pos c4] at H
      have c4b0 : decide (500 < (a0_0.size : Int)) = true := decide_eq_true c4
      have c4b1 : decide (500 < a0_0.size) = true := decide_eq_true (by omega)
      clear c4
      (first | rw [c4b0] | (simp only [i64_w, i32_w]; rw [c4b0]) | skip)
      have H' := Aside0.mk H
      clear H
      have hcz5_0 : w3.cell? ⟨gb255, 0, none⟩ = some (.string a0_0) := (blk_cell BK255.out 0).trans rfl
      have hcz5_1 : w3.cell? ⟨gb255, 1, none⟩ = some (.string a0_1) := (blk_cell BK255.out 1).trans rfl
      have hcz5_2 : w3.cell? ⟨gb255, 2, none⟩ = some (.string a0_2) := (blk_cell BK255.out 2).trans rfl
      have hcz5_3 : w3.cell? ⟨gb255, 3, none⟩ = some (.string a0_3) := (blk_cell BK255.out 3).trans rfl
      have hcz5_4 : w3.cell? ⟨gb255, 4, none⟩ = some (.int .i64 a0_4) := (blk_cell BK255.out 4).trans rfl
      have hcz5_5 : w3.cell? ⟨gb255, 5, none⟩ = some (.int .i64 a0_5) := (blk_cell BK255.out 5).trans rfl
      have hcz5_6 : w3.cell? ⟨gb255, 6, none⟩ = some (.int .i64 a0_6) := (blk_cell BK255.out 6).trans rfl
      have hcz5_7 : w3.cell? ⟨gb255, 7, none⟩ = some (.bool a0_7) := (blk_cell BK255.out 7).trans rfl
      have hcz5_8 : w3.cell? ⟨gb255, 8, none⟩ = some (.bool a0_8) := (blk_cell BK255.out 8).trans rfl
      have hcz5_9 : w3.cell? ⟨gb255, 9, none⟩ = some (.bool a0_9) := (blk_cell BK255.out 9).trans rfl
      have hcz5_10 : w3.cell? ⟨gb255, 10, none⟩ = some (.int .i64 a0_10) := (blk_cell BK255.out 10).trans rfl
      have hfz5_0 := blk_frozen BK255.out 0
      have hfz5_1 := blk_frozen BK255.out 1
      have hfz5_2 := blk_frozen BK255.out 2
      have hfz5_3 := blk_frozen BK255.out 3
      have hfz5_4 := blk_frozen BK255.out 4
      have hfz5_5 := blk_frozen BK255.out 5
      have hfz5_6 := blk_frozen BK255.out 6
      have hfz5_7 := blk_frozen BK255.out 7
      have hfz5_8 := blk_frozen BK255.out 8
      have hfz5_9 := blk_frozen BK255.out 9
      have hfz5_10 := blk_frozen BK255.out 10
      go_wp2
      go_meet
      case rel => exact ⟨_, (true), (by first | rfl | (simp; done) | (simp [*]; done)), H', ⟨by first | omega | exact Nat.le_refl _⟩, ⟨xk⟩, ⟨xb⟩⟩
    · rw [if_neg c4] at H
      have c4b0 : decide (500 < (a0_0.size : Int)) = false := decide_eq_false c4
      have c4b1 : decide (500 < a0_0.size) = false := decide_eq_false (by omega)
      clear c4
      (first | rw [c4b0] | (simp only [i64_w, i32_w]; rw [c4b0]) | skip)
      by_cases c6 : (a0_1.size : Int) > 500
      · rw [if_pos c6] at H
        have c6b0 : decide (500 < (a0_1.size : Int)) = true := decide_eq_true c6
        have c6b1 : decide (500 < a0_1.size) = true := decide_eq_true (by omega)
        clear c6
        have H' := Aside0.mk H
        clear H
        have hcz7_0 : w3.cell? ⟨gb255, 0, none⟩ = some (.string a0_0) := (blk_cell BK255.out 0).trans rfl
        have hcz7_1 : w3.cell? ⟨gb255, 1, none⟩ = some (.string a0_1) := (blk_cell BK255.out 1).trans rfl
        have hcz7_2 : w3.cell? ⟨gb255, 2, none⟩ = some (.string a0_2) := (blk_cell BK255.out 2).trans rfl
        have hcz7_3 : w3.cell? ⟨gb255, 3, none⟩ = some (.string a0_3) := (blk_cell BK255.out 3).trans rfl
        have hcz7_4 : w3.cell? ⟨gb255, 4, none⟩ = some (.int .i64 a0_4) := (blk_cell BK255.out 4).trans rfl
        have hcz7_5 : w3.cell? ⟨gb255, 5, none⟩ = some (.int .i64 a0_5) := (blk_cell BK255.out 5).trans rfl
        have hcz7_6 : w3.cell? ⟨gb255, 6, none⟩ = some (.int .i64 a0_6) := (blk_cell BK255.out 6).trans rfl
        have hcz7_7 : w3.cell? ⟨gb255, 7, none⟩ = some (.bool a0_7) := (blk_cell BK255.out 7).trans rfl
        have hcz7_8 : w3.cell? ⟨gb255, 8, none⟩ = some (.bool a0_8) := (blk_cell BK255.out 8).trans rfl
        have hcz7_9 : w3.cell? ⟨gb255, 9, none⟩ = some (.bool a0_9) := (blk_cell BK255.out 9).trans rfl
        have hcz7_10 : w3.cell? ⟨gb255, 10, none⟩ = some (.int .i64 a0_10) := (blk_cell BK255.out 10).trans rfl
        have hfz7_0 := blk_frozen BK255.out 0
        have hfz7_1 := blk_frozen BK255.out 1
        have hfz7_2 := blk_frozen BK255.out 2
        have hfz7_3 := blk_frozen BK255.out 3
        have hfz7_4 := blk_frozen BK255.out 4
        have hfz7_5 := blk_frozen BK255.out 5
        have hfz7_6 := blk_frozen BK255.out 6
        have hfz7_7 := blk_frozen BK255.out 7
        have hfz7_8 := blk_frozen BK255.out 8
        have hfz7_9 := blk_frozen BK255.out 9
        have hfz7_10 := blk_frozen BK255.out 10
        go_wp2
        go_meet
        case rel => exact ⟨_, (true), (by first | rfl | (simp; done) | (simp [*]; done)), H', ⟨by first | omega | exact Nat.le_refl _⟩, ⟨xk⟩, ⟨xb⟩⟩
      · rw [if_neg c6] at H
        have c6b0 : decide (500 < (a0_1.size : Int)) = false := decide_eq_false c6
        have c6b1 : decide (500 < a0_1.size) = false := decide_eq_false (by omega)
        clear c6
        by_cases c8 : (a0_2.size : Int) > 500
        · rw [if_pos c8] at H
          have c8b0 : decide (500 < (a0_2.size : Int)) = true := decide_eq_true c8
          have c8b1 : decide (500 < a0_2.size) = true := decide_eq_true (by omega)
          clear c8
          have H' := Aside0.mk H
          clear H
          have hcz9_0 : w3.cell? ⟨gb255, 0, none⟩ = some (.string a0_0) := (blk_cell BK255.out 0).trans rfl
          have hcz9_1 : w3.cell? ⟨gb255, 1, none⟩ = some (.string a0_1) := (blk_cell BK255.out 1).trans rfl
          have hcz9_2 : w3.cell? ⟨gb255, 2, none⟩ = some (.string a0_2) := (blk_cell BK255.out 2).trans rfl
          have hcz9_3 : w3.cell? ⟨gb255, 3, none⟩ = some (.string a0_3) := (blk_cell BK255.out 3).trans rfl
          have hcz9_4 : w3.cell? ⟨gb255, 4, none⟩ = some (.int .i64 a0_4) := (blk_cell BK255.out 4).trans rfl
          have hcz9_5 : w3.cell? ⟨gb255, 5, none⟩ = some (.int .i64 a0_5) := (blk_cell BK255.out 5).trans rfl
          have hcz9_6 : w3.cell? ⟨gb255, 6, none⟩ = some (.int .i64 a0_6) := (blk_cell BK255.out 6).trans rfl
          have hcz9_7 : w3.cell? ⟨gb255, 7, none⟩ = some (.bool a0_7) := (blk_cell BK255.out 7).trans rfl
          have hcz9_8 : w3.cell? ⟨gb255, 8, none⟩ = some (.bool a0_8) := (blk_cell BK255.out 8).trans rfl
          have hcz9_9 : w3.cell? ⟨gb255, 9, none⟩ = some (.bool a0_9) := (blk_cell BK255.out 9).trans rfl
          have hcz9_10 : w3.cell? ⟨gb255, 10, none⟩ = some (.int .i64 a0_10) := (blk_cell BK255.out 10).trans rfl
          have hfz9_0 := blk_frozen BK255.out 0
          have hfz9_1 := blk_frozen BK255.out 1
          have hfz9_2 := blk_frozen BK255.out 2
          have hfz9_3 := blk_frozen BK255.out 3
          have hfz9_4 := blk_frozen BK255.out 4
          have hfz9_5 := blk_frozen BK255.out 5
          have hfz9_6 := blk_frozen BK255.out 6
          have hfz9_7 := blk_frozen BK255.out 7
          have hfz9_8 := blk_frozen BK255.out 8
          have hfz9_9 := blk_frozen BK255.out 9
          have hfz9_10 := blk_frozen BK255.out 10
          go_wp2
          go_meet
          case rel => exact ⟨_, (true), (by first | rfl | (simp; done) | (simp [*]; done)), H', ⟨by first | omega | exact Nat.le_refl _⟩, ⟨xk⟩, ⟨xb⟩⟩
        · rw [if_neg c8] at H
          have c8b0 : decide (500 < (a0_2.size : Int)) = false := decide_eq_false c8
          have c8b1 : decide (500 < a0_2.size) = false := decide_eq_false (by omega)
          clear c8
          have H' := Aside0.mk H
          clear H
          have hcz10_0 : w3.cell? ⟨gb255, 0, none⟩ = some (.string a0_0) := (blk_cell BK255.out 0).trans rfl
          have hcz10_1 : w3.cell? ⟨gb255, 1, none⟩ = some (.string a0_1) := (blk_cell BK255.out 1).trans rfl
          have hcz10_2 : w3.cell? ⟨gb255, 2, none⟩ = some (.string a0_2) := (blk_cell BK255.out 2).trans rfl
          have hcz10_3 : w3.cell? ⟨gb255, 3, none⟩ = some (.string a0_3) := (blk_cell BK255.out 3).trans rfl
          have hcz10_4 : w3.cell? ⟨gb255, 4, none⟩ = some (.int .i64 a0_4) := (blk_cell BK255.out 4).trans rfl
          have hcz10_5 : w3.cell? ⟨gb255, 5, none⟩ = some (.int .i64 a0_5) := (blk_cell BK255.out 5).trans rfl
          have hcz10_6 : w3.cell? ⟨gb255, 6, none⟩ = some (.int .i64 a0_6) := (blk_cell BK255.out 6).trans rfl
          have hcz10_7 : w3.cell? ⟨gb255, 7, none⟩ = some (.bool a0_7) := (blk_cell BK255.out 7).trans rfl
          have hcz10_8 : w3.cell? ⟨gb255, 8, none⟩ = some (.bool a0_8) := (blk_cell BK255.out 8).trans rfl
          have hcz10_9 : w3.cell? ⟨gb255, 9, none⟩ = some (.bool a0_9) := (blk_cell BK255.out 9).trans rfl
          have hcz10_10 : w3.cell? ⟨gb255, 10, none⟩ = some (.int .i64 a0_10) := (blk_cell BK255.out 10).trans rfl
          have hfz10_0 := blk_frozen BK255.out 0
          have hfz10_1 := blk_frozen BK255.out 1
          have hfz10_2 := blk_frozen BK255.out 2
          have hfz10_3 := blk_frozen BK255.out 3
          have hfz10_4 := blk_frozen BK255.out 4
          have hfz10_5 := blk_frozen BK255.out 5
          have hfz10_6 := blk_frozen BK255.out 6
          have hfz10_7 := blk_frozen BK255.out 7
          have hfz10_8 := blk_frozen BK255.out 8
          have hfz10_9 := blk_frozen BK255.out 9
          have hfz10_10 := blk_frozen BK255.out 10
          go_wp2
          go_meet
          case rel => exact ⟨_, (decide ((a0_3.size : Int) > 500)), (by first | rfl | (simp; done) | (simp [*]; done)), H', ⟨by first | omega | exact Nat.le_refl _⟩, ⟨xk⟩, ⟨xb⟩⟩
  case rest =>
    clear HC2
    try clear p2
    try clear c3
    try clear c4
    try clear c4b0
    try clear c4b1
    try clear c6
    try clear c6b0
    try clear c6b1
    try clear c8
    try clear c8b0
    try clear c8b1
    try clear hcz10_0
    try clear hcz10_1
    try clear hcz10_10
    try clear hcz10_2
    try clear hcz10_3
    try clear hcz10_4
    try clear hcz10_5
    try clear hcz10_6
    try clear hcz10_7
    try clear hcz10_8
    try clear hcz10_9
    try clear hcz5_0
    try clear hcz5_1
    try clear hcz5_10
    try clear hcz5_2
    try clear hcz5_3
    try clear hcz5_4
    try clear hcz5_5
    try clear hcz5_6
    try clear hcz5_7
    try clear hcz5_8
    try clear hcz5_9
    try clear hcz7_0
    try clear hcz7_1
    try clear hcz7_10
    try clear hcz7_2
    try clear hcz7_3
    try clear hcz7_4
    try clear hcz7_5
    try clear hcz7_6
    try clear hcz7_7
    try clear hcz7_8
    try clear hcz7_9
    try clear hcz9_0
    try clear hcz9_1
    try clear hcz9_10
    try clear hcz9_2
    try clear hcz9_3
    try clear hcz9_4
    try clear hcz9_5
    try clear hcz9_6
    try clear hcz9_7
    try clear hcz9_8
    try clear hcz9_9
    try clear hfz10_0
    try clear hfz10_1
    try clear hfz10_10
    try clear hfz10_2
    try clear hfz10_3
    try clear hfz10_4
    try clear hfz10_5
    try clear hfz10_6
    try clear hfz10_7
    try clear hfz10_8
    try clear hfz10_9
    try clear hfz5_0
    try clear hfz5_1
    try clear hfz5_10
    try clear hfz5_2
    try clear hfz5_3
    try clear hfz5_4
    try clear hfz5_5
    try clear hfz5_6
    try clear hfz5_7
    try clear hfz5_8
    try clear hfz5_9
    try clear hfz7_0
    try clear hfz7_1
    try clear hfz7_10
    try clear hfz7_2
    try clear hfz7_3
    try clear hfz7_4
    try clear hfz7_5
    try clear hfz7_6
    try clear hfz7_7
    try clear hfz7_8
    try clear hfz7_9
    try clear hfz9_0
    try clear hfz9_1
    try clear hfz9_10
    try clear hfz9_2
    try clear hfz9_3
    try clear hfz9_4
    try clear hfz9_5
    try clear hfz9_6
    try clear hfz9_7
    try clear hfz9_8
    try clear hfz9_9
    obtain ⟨kq, x24_1, rfl, HA, HJ1, BK255, HB⟩ := hcut
    cases kq with
    | zero => exact absurd HA.out (by simp [cracknellaw13_CookieRight.j0])
    | succ kj1 =>
      have H := HA.out
      clear HA
      simp only [cracknellaw13_CookieRight.j0] at H
      by_cases c11 : x24_1 = true
      · subst c11
        have H1 : ((cracknellaw13_alive.f kj1).bind fun t256 => (some t256)) = some r := by rw [if_pos rfl] at H; exact H
        clear H
        have H := H1
        clear H1
        replace H := Option.bind_eq_some_iff.mp H
        obtain ⟨t256, A120, H⟩ := H
        replace H : (some t256) = some r := H
        have A12 := Aside0.mk A120
        clear A120
        obtain rfl := Option.some.inj H
        go_wp2_with (first | ((with_reducible refine gate_callee (f := 4) rfl ?_); refine goesL_ (some 25) rfl rfl Tryz.func4 (by kernel_rfl) rfl #[] rfl xg ?_; (with_reducible refine (cracknellaw13_alive.calls kj1  t256 _ (Aside0.mk (by first | exact hG.out | ((with_reducible repeat (first | apply LaidG.drewN | apply LaidG.drew | apply LaidG.alloc)); exact hG.out) | exact LaidG.below hG.out xb)) ⟨by first | rfl | assumption | exact hT_.out⟩ A12.out).mono ?_); rintro e w13 ⟨rfl, hb⟩; refine ⟨_, rfl, ?_⟩; have n0_ := blkB BK255 hb; have n1_ := Aside0.mk (below_step xb hb); clear BK255; clear HB; have BK255 := n0_; have HB := n1_; clear n0_ n1_; (try clear hb); (try clear hb2); (try clear hk); (try clear hi)))
        go_ret
        exact ⟨by first | rfl | (simp [errW_none, errW_some] <;> rfl) | (simp [*, errW_none, errW_some] <;> rfl), by repeat (first | (with_reducible first | exact HB.out | apply below_alloc | apply pw_below_drewN | apply below_drew1 | refine below_set ?_ GE255.out) | exact HB.out)⟩
      · replace c11 := Bool.eq_false_iff.mpr c11
        subst c11
        have H1 : ((cracknellaw13_alive.f kj1).bind fun t257 => (if t257 = true then ((cookie_Right.f kj1 a0_0 a0_1 a0_2 a0_3 a0_4 a0_5 a0_6 a0_7 a0_8 a0_9 a0_10).bind fun t258 => ((cracknelref13_Right.f kj1 a0_0 a0_1 a0_2 a0_3 a0_4 a0_5 a0_6 a0_7 a0_8 a0_9 a0_10).bind fun t259 => (some (t258 == t259)))) else (some false))) = some r := by rw [if_neg (show ¬ (false = true) by decide)] at H; exact H
        clear H
        have H := H1
        clear H1
        replace H := Option.bind_eq_some_iff.mp H
        obtain ⟨t257, A140, H⟩ := H
        replace H : (if t257 = true then ((cookie_Right.f kj1 a0_0 a0_1 a0_2 a0_3 a0_4 a0_5 a0_6 a0_7 a0_8 a0_9 a0_10).bind fun t258 => ((cracknelref13_Right.f kj1 a0_0 a0_1 a0_2 a0_3 a0_4 a0_5 a0_6 a0_7 a0_8 a0_9 a0_10).bind fun t259 => (some (t258 == t259)))) else (some false)) = some r := H
        have A14 := Aside0.mk A140
        clear A140
        by_cases c15 : t257 = true
        · subst c15
          have H1 : ((cookie_Right.f kj1 a0_0 a0_1 a0_2 a0_3 a0_4 a0_5 a0_6 a0_7 a0_8 a0_9 a0_10).bind fun t258 => ((cracknelref13_Right.f kj1 a0_0 a0_1 a0_2 a0_3 a0_4 a0_5 a0_6 a0_7 a0_8 a0_9 a0_10).bind fun t259 => (some (t258 == t259)))) = some r := by rw [if_pos rfl] at H; exact H
          clear H
          have H := H1
          clear H1
          replace H := Option.bind_eq_some_iff.mp H
          obtain ⟨t258, A160, H⟩ := H
          replace H : ((cracknelref13_Right.f kj1 a0_0 a0_1 a0_2 a0_3 a0_4 a0_5 a0_6 a0_7 a0_8 a0_9 a0_10).bind fun t259 => (some (t258 == t259))) = some r := H
          have A16 := Aside0.mk A160
          clear A160
          replace H := Option.bind_eq_some_iff.mp H
          obtain ⟨t259, A170, H⟩ := H
          replace H : (some (t258 == t259)) = some r := H
          have A17 := Aside0.mk A170
          clear A170
          obtain rfl := Option.some.inj H
          try go_wp2
          have n0_ := Aside0.mk (blk_drew BK255.out)
          have n1_ := Aside0.mk (below_drew1 HB.out)
          clear BK255
          clear HB
          have BK255 := n0_
          have HB := n1_
          clear n0_ n1_
          refine start_ (n := 9) (S := fun w' => w'.cell? ⟨gb255, 0, none⟩ = some (.string a0_0) ∧ w'.cell? ⟨gb255, 1, none⟩ = some (.string a0_1) ∧ w'.cell? ⟨gb255, 2, none⟩ = some (.string a0_2) ∧ w'.cell? ⟨gb255, 3, none⟩ = some (.string a0_3) ∧ w'.cell? ⟨gb255, 4, none⟩ = some (.int .i64 a0_4) ∧ w'.cell? ⟨gb255, 5, none⟩ = some (.int .i64 a0_5) ∧ w'.cell? ⟨gb255, 6, none⟩ = some (.int .i64 a0_6) ∧ w'.cell? ⟨gb255, 7, none⟩ = some (.bool a0_7) ∧ w'.cell? ⟨gb255, 8, none⟩ = some (.bool a0_8) ∧ w'.cell? ⟨gb255, 9, none⟩ = some (.bool a0_9) ∧ w'.cell? ⟨gb255, 10, none⟩ = some (.int .i64 a0_10)) (ds := []) #[false, false, false, false, false, false, false, false, false] (by kernel_rfl) rfl rfl ⟨(blk_cell BK255.out 0).trans rfl, (blk_cell BK255.out 1).trans rfl, (blk_cell BK255.out 2).trans rfl, (blk_cell BK255.out 3).trans rfl, (blk_cell BK255.out 4).trans rfl, (blk_cell BK255.out 5).trans rfl, (blk_cell BK255.out 6).trans rfl, (blk_cell BK255.out 7).trans rfl, (blk_cell BK255.out 8).trans rfl, (blk_cell BK255.out 9).trans rfl, (blk_cell BK255.out 10).trans rfl⟩ (fun hHeld => ?_); refine with_tabW cracknellaw13_CookieRight.tab3 cracknellaw13_CookieRight.bits3 (fun HT_ HW_ => ?_)
          generalize wc.drew = w18 at BK255 HB hHeld ⊢
          refine one_ (i := 0) (N := some 26) #[true, false, false, false, false, false, false, false, false] rfl rfl (one_of HT_.out (by kernel_rfl)) (by decide) (fun K hK => ?_)
          refine goes_ Tryz.func4 (by kernel_rfl) rfl #[] (by rfl) rfl rfl xg ?_
          with_reducible refine (cracknellaw13_alive.calls kj1  true _ (Aside0.mk (by first | exact hG.out | ((with_reducible repeat (first | apply LaidG.drewN | apply LaidG.drew | apply LaidG.alloc)); exact hG.out) | exact LaidG.below hG.out xb)) ⟨by first | rfl | assumption | exact hT_.out⟩ A14.out).mono ?_
          rintro e w19 ⟨rfl, hb⟩
          refine ⟨_, rfl, ?_⟩
          have n0_ := blkB BK255 hb
          have n1_ := Aside0.mk (below_step xb hb)
          clear BK255
          clear HB
          have BK255 := n0_
          have HB := n1_
          clear n0_ n1_
          (try clear hb)
          (try clear hb2)
          (try clear hk)
          (try clear hi)
          refine hK.out _ _ xc (fun hHeld => ?_)
          clear hK K
          refine norm_ (a' := ?_) ?_ ?_
          rotate_left
          · show Act.put _ (some 26) _ = _
            simp only [Act.put, List.setIfInBounds_toArray, List.set_cons_zero, List.set_cons_succ, i64_w, i32_w]
            rfl
          refine pure_ (i := 1) (N := some 27) (v := ?_) (a' := ?_) #[true, true, false, false, false, false, false, false, false] rfl rfl (any_of HT_.out (by kernel_rfl)) (fun _ _ _ h => h) (Or.inl ⟨by rfl, ?_⟩) ?_ ?_
          rotate_left
          · intro w'
            go_simp
            with_reducible rfl
          rotate_left
          · simp only [Act.put, List.setIfInBounds_toArray, List.set_cons_zero, List.set_cons_succ, i64_w, i32_w]
            rfl
          refine take_ (i := 2) (N := some 28) (v := ?_) (a' := ?_) #[true, true, true, false, false, false, false, false, false] rfl rfl (take_ofW HT_.out HW_.out (by kernel_rfl)) (fun _ _ _ h => h) (Or.inl ⟨by rfl, ?_⟩) hHeld ?_ ?_
          rotate_left
          · rintro w' ⟨s0, s1, s2, s3, s4, s5, s6, s7, s8, s9, s10⟩
            go_simp
            with_reducible rfl
          rotate_left
          · simp only [Act.put, List.setIfInBounds_toArray, List.set_cons_zero, List.set_cons_succ, i64_w, i32_w]
            rfl
          refine take_ (i := 4) (N := some 30) (v := ?_) (a' := ?_) #[true, true, true, false, true, false, false, false, false] rfl rfl (take_ofW HT_.out HW_.out (by kernel_rfl)) (fun _ _ _ h => h) (Or.inl ⟨by rfl, ?_⟩) hHeld ?_ ?_
          rotate_left
          · rintro w' ⟨s0, s1, s2, s3, s4, s5, s6, s7, s8, s9, s10⟩
            go_simp
            with_reducible rfl
          rotate_left
          · simp only [Act.put, List.setIfInBounds_toArray, List.set_cons_zero, List.set_cons_succ, i64_w, i32_w]
            rfl
          refine one_ (i := 3) (N := some 29) #[true, true, true, true, true, false, false, false, false] rfl rfl (one_of HT_.out (by kernel_rfl)) (by decide) (fun K hK => ?_)
          refine goes_ Tryz.func5 (by kernel_rfl) rfl #[.agg #[.string a0_0, .string a0_1, .string a0_2, .string a0_3, .int .i64 a0_4, .int .i64 a0_5, .int .i64 a0_6, .bool a0_7, .bool a0_8, .bool a0_9, .int .i64 a0_10]] (by rfl) rfl rfl xg ?_
          with_reducible refine (cookie_Right.calls kj1 a0_0 a0_1 a0_2 a0_3 a0_4 a0_5 a0_6 a0_7 a0_8 a0_9 a0_10 t258 _ (Aside0.mk (by first | exact hG.out | ((with_reducible repeat (first | apply LaidG.drewN | apply LaidG.drew | apply LaidG.alloc)); exact hG.out) | exact LaidG.below hG.out xb)) A16.out).mono ?_
          rintro e w20 ⟨rfl, hb⟩
          refine ⟨_, rfl, ?_⟩
          have n0_ := blkB BK255 hb
          have n1_ := Aside0.mk (below_step xb hb)
          clear BK255
          clear HB
          have BK255 := n0_
          have HB := n1_
          clear n0_ n1_
          (try clear hb)
          (try clear hb2)
          (try clear hk)
          (try clear hi)
          refine hK.out _ _ xc (fun hHeld => ?_)
          clear hK K
          refine norm_ (a' := ?_) ?_ ?_
          rotate_left
          · show Act.put _ (some 29) _ = _
            simp only [Act.put, List.setIfInBounds_toArray, List.set_cons_zero, List.set_cons_succ, i64_w, i32_w]
            rfl
          refine one_ (i := 5) (N := some 31) #[true, true, true, true, true, true, false, false, false] rfl rfl (one_of HT_.out (by kernel_rfl)) (by decide) (fun K hK => ?_)
          refine goes_ Tryz.func6 (by kernel_rfl) rfl #[.agg #[.string a0_0, .string a0_1, .string a0_2, .string a0_3, .int .i64 a0_4, .int .i64 a0_5, .int .i64 a0_6, .bool a0_7, .bool a0_8, .bool a0_9, .int .i64 a0_10]] (by rfl) rfl rfl xg ?_
          with_reducible refine (cracknelref13_Right.calls kj1 a0_0 a0_1 a0_2 a0_3 a0_4 a0_5 a0_6 a0_7 a0_8 a0_9 a0_10 t259 _ A17.out).mono ?_
          rintro e w21 ⟨rfl, hb⟩
          refine ⟨_, rfl, ?_⟩
          have n0_ := blkB BK255 hb
          have n1_ := Aside0.mk (below_step xb hb)
          clear BK255
          clear HB
          have BK255 := n0_
          have HB := n1_
          clear n0_ n1_
          (try clear hb)
          (try clear hb2)
          (try clear hk)
          (try clear hi)
          refine hK.out _ _ xc (fun hHeld => ?_)
          clear hK K
          refine norm_ (a' := ?_) ?_ ?_
          rotate_left
          · show Act.put _ (some 31) _ = _
            simp only [Act.put, List.setIfInBounds_toArray, List.set_cons_zero, List.set_cons_succ, i64_w, i32_w]
            rfl
          refine pure_ (i := 6) (N := some 32) (v := ?_) (a' := ?_) #[true, true, true, true, true, true, true, false, false] rfl rfl (any_of HT_.out (by kernel_rfl)) (fun _ _ _ h => h) (Or.inl ⟨by rfl, ?_⟩) ?_ ?_
          rotate_left
          · intro w'
            go_simp
            with_reducible rfl
          rotate_left
          · simp only [Act.put, List.setIfInBounds_toArray, List.set_cons_zero, List.set_cons_succ, i64_w, i32_w]
            rfl
          refine pure_ (i := 7) (N := some 33) (v := ?_) (a' := ?_) #[true, true, true, true, true, true, true, true, false] rfl rfl (any_of HT_.out (by kernel_rfl)) (fun _ _ _ h => h) (Or.inl ⟨by rfl, ?_⟩) ?_ ?_
          rotate_left
          · intro w'
            go_simp
            with_reducible rfl
          rotate_left
          · simp only [Act.put, List.setIfInBounds_toArray, List.set_cons_zero, List.set_cons_succ, i64_w, i32_w]
            rfl
          refine pure_ (i := 8) (N := some 2) (v := ?_) (a' := ?_) #[true, true, true, true, true, true, true, true, true] rfl rfl (any_of HT_.out (by kernel_rfl)) (fun _ _ _ h => h) (Or.inl ⟨by rfl, ?_⟩) ?_ ?_
          rotate_left
          · intro w'
            go_simp
            with_reducible rfl
          rotate_left
          · simp only [Act.put, List.setIfInBounds_toArray, List.set_cons_zero, List.set_cons_succ, i64_w, i32_w]
            rfl
          refine done_ (done_of HT_.out (by kernel_rfl)) ?_
          try go_wp2
          go_ret
          exact ⟨by first | rfl | (simp [errW_none, errW_some] <;> rfl) | (simp [*, errW_none, errW_some] <;> rfl), by repeat (first | (with_reducible first | exact HB.out | apply below_alloc | apply pw_below_drewN | apply below_drew1 | refine below_set ?_ GE255.out) | exact HB.out)⟩
        · replace c15 := Bool.eq_false_iff.mpr c15
          subst c15
          have H1 : (some false) = some r := by rw [if_neg (show ¬ (false = true) by decide)] at H; exact H
          clear H
          have H := H1
          clear H1
          obtain rfl := Option.some.inj H
          exact absurd hT_.out (by decide)

/-- THE ONE PURE STATEMENT of cracknellaw13_CookieRight: yours. -/
def cracknellaw13_CookieRight.Pure : Prop := ∀ (a0_0 : ByteArray) (a0_1 : ByteArray) (a0_2 : ByteArray) (a0_3 : ByteArray) (a0_4 : Int) (a0_5 : Int) (a0_6 : Int) (a0_7 : Bool) (a0_8 : Bool) (a0_9 : Bool) (a0_10 : Int), a0_0.size ≤ 9223372036854775807 → a0_1.size ≤ 9223372036854775807 → a0_2.size ≤ 9223372036854775807 → a0_3.size ≤ 9223372036854775807 → (Lit.int .i64 a0_4).wf = true → (Lit.int .i64 a0_5).wf = true → (Lit.int .i64 a0_6).wf = true → (Lit.int .i64 a0_10).wf = true → ∃ k, cracknellaw13_CookieRight.f k a0_0 a0_1 a0_2 a0_3 a0_4 a0_5 a0_6 a0_7 a0_8 a0_9 a0_10 = some true
theorem cracknellaw13_CookieRight.walk (P : cracknellaw13_CookieRight.Pure) (a0_0 : ByteArray) (a0_1 : ByteArray) (a0_2 : ByteArray) (a0_3 : ByteArray) (a0_4 : Int) (a0_5 : Int) (a0_6 : Int) (a0_7 : Bool) (a0_8 : Bool) (a0_9 : Bool) (a0_10 : Int) (w : World) (w0_0 : a0_0.size ≤ 9223372036854775807) (w0_1 : a0_1.size ≤ 9223372036854775807) (w0_2 : a0_2.size ≤ 9223372036854775807) (w0_3 : a0_3.size ≤ 9223372036854775807) (w0_4 : (Lit.int .i64 a0_4).wf = true) (w0_5 : (Lit.int .i64 a0_5).wf = true) (w0_6 : (Lit.int .i64 a0_6).wf = true) (w0_10 : (Lit.int .i64 a0_10).wf = true) (hG : Aside0 (LaidG w)) :
    Calls Tryz.prog 3 #[.agg #[.string a0_0, .string a0_1, .string a0_2, .string a0_3, .int .i64 a0_4, .int .i64 a0_5, .int .i64 a0_6, .bool a0_7, .bool a0_8, .bool a0_9, .int .i64 a0_10]] w fun e w' => e = .returned (.bool true) ∧ Below w.heap.size w w' := by
  obtain ⟨k, h⟩ := P a0_0 a0_1 a0_2 a0_3 a0_4 a0_5 a0_6 a0_7 a0_8 a0_9 a0_10 w0_0 w0_1 w0_2 w0_3 w0_4 w0_5 w0_6 w0_10
  refine (cracknellaw13_CookieRight.calls k a0_0 a0_1 a0_2 a0_3 a0_4 a0_5 a0_6 a0_7 a0_8 a0_9 a0_10 true w hG ⟨rfl⟩ h).mono ?_
  rintro e w' ⟨rfl, hd⟩
  exact ⟨rfl, hd⟩

end Go.Proofs.YtpcakfldmcfhlaaGreatDoor.Print
