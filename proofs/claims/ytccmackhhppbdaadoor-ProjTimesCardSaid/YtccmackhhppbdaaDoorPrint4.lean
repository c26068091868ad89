/- Printed by a program of this claim's session (xprint.py): the machine's side: each Go function as a Lean function, and that a call of it comes to what that tells; the row of a statement. No condition. -/
import Derived.Test.YtccmackhhppbdaaDoorPrint0
import Derived.Test.YtccmackhhppbdaaDoorPrint3
namespace Go.Proofs.YtccmackhhppbdaaDoor.Print
open Go.RowKit Go.Proofs.YtccmackhhppbdaaDoorW.PrintWords Go.Proofs.YtccmackhhppbdaaDoorW.PrintLast Go.Proofs.YtccmackhhppbdaaDoorW.PrintMore
attribute [local go_sem] max2_int min2_int max_two min_two max_three min_three max_four min_four   -- for this text's walks alone
set_option linter.unusedVariables false
set_option linter.unusedSimpArgs false

/-! ### proj_Cookie: function 13 -/
def proj_Cookie.j0 : Nat → Int → Int → Bool → ByteArray → ByteArray → ByteArray → ByteArray → Int → Int → Int → Bool → Bool → Bool → Int → Option (ByteArray × ByteArray × ByteArray × ByteArray × Int × Int × Int × Bool × Bool × Bool × Int × Bool)
  | 0, _, _, _, _, _, _, _, _, _, _, _, _, _, _ => none
  | k + 1, x0, x1, x18, x114000, x114001, x114002, x114003, x114004, x114005, x114006, x114007, x114008, x114009, x114010 => if x18 = true then (some ((⟨#[]⟩ : ByteArray), (⟨#[]⟩ : ByteArray), (⟨#[]⟩ : ByteArray), (⟨#[]⟩ : ByteArray), 0, 0, 0, false, false, false, 0, false)) else (if x0 = 2 then (some (x114000, x114001, x114002, x114003, x1, x1, x114006, true, x114008, x114009, x114010, true)) else (if x0 = 3 then (some (x114000, x114001, x114002, x114003, x1, x1, x114006, x114007, x114008, x114009, x114010, true)) else (if x0 = 1 then (some (x114000, x114001, x114002, x114003, x1, x1, x114006, x114007, x114008, x114009, 0, true)) else (if x0 = 4 then (some (x114000, x114001, x114002, x114003, x114004, x114004, x114006, true, x114008, x114009, 0, true)) else (if x0 = 5 then (some (x114000, x114001, x114002, x114003, x114004, x114005, x114006, x114007, x114008, x114009, 0, true)) else (some (x114000, x114001, x114002, x114003, x114004, x114005, x114006, x114007, x114008, x114009, x114010, true)))))))
def proj_Cookie.f (k : Nat) (a0 : Int) (a1 : Int) (a2_0 : ByteArray) (a2_1 : ByteArray) (a2_2 : ByteArray) (a2_3 : ByteArray) (a2_4 : Int) (a2_5 : Int) (a2_6 : Int) (a2_7 : Bool) (a2_8 : Bool) (a2_9 : Bool) (a2_10 : Int) : Option (ByteArray × ByteArray × ByteArray × ByteArray × Int × Int × Int × Bool × Bool × Bool × Int × Bool) := (proj_Word.f a0).bind fun t115 => (if t115.toList = ([] : List UInt8) then (proj_Cookie.j0 k a0 a1 true a2_0 a2_1 a2_2 a2_3 a2_4 a2_5 a2_6 a2_7 a2_8 a2_9 a2_10) else (if a1 < 0 then (proj_Cookie.j0 k a0 a1 true a2_0 a2_1 a2_2 a2_3 a2_4 a2_5 a2_6 a2_7 a2_8 a2_9 a2_10) else (proj_Cookie.j0 k a0 a1 (decide (a1 > 253402300799)) a2_0 a2_1 a2_2 a2_3 a2_4 a2_5 a2_6 a2_7 a2_8 a2_9 a2_10)))
theorem proj_Cookie.mono_l : ∀ k, (∀ y0 y1 y2 y3 y4 y5 y6 y7 y8 y9 y10 y11 y12 y13, LeO (proj_Cookie.j0 k y0 y1 y2 y3 y4 y5 y6 y7 y8 y9 y10 y11 y12 y13) (proj_Cookie.j0 (k + 1) y0 y1 y2 y3 y4 y5 y6 y7 y8 y9 y10 y11 y12 y13))
  | 0 => fun _ _ _ _ _ _ _ _ _ _ _ _ _ _ r h => by simp [proj_Cookie.j0] at h
  | k + 1 => by
    have ih0 := proj_Cookie.mono_l k
    · intro y0 y1 y2 y3 y4 y5 y6 y7 y8 y9 y10 y11 y12 y13
      unfold proj_Cookie.j0
      repeat' first
      | (with_reducible exact ih0 _ _ _ _ _ _ _ _ _ _ _ _ _ _)
      | (with_reducible exact LeO.refl _)
      | (with_reducible exact LeO.none _)
      | (with_reducible refine LeO.ite ?_ ?_)
      | (with_reducible refine LeO.bind ?_ (fun _ => ?_))
      | exact ih0 _ _ _ _ _ _ _ _ _ _ _ _ _ _
      | exact LeO.none _
      | refine LeO.ite ?_ ?_
      | refine LeO.bind ?_ (fun _ => ?_)
theorem proj_Cookie.mono : ∀ a0 a1 a2 a3 a4 a5 a6 a7 a8 a9 a10 a11 a12 k, LeO (proj_Cookie.f k a0 a1 a2 a3 a4 a5 a6 a7 a8 a9 a10 a11 a12) (proj_Cookie.f (k + 1) a0 a1 a2 a3 a4 a5 a6 a7 a8 a9 a10 a11 a12) := by
  intro a0 a1 a2 a3 a4 a5 a6 a7 a8 a9 a10 a11 a12 k
  have ih0 := proj_Cookie.mono_l k
  unfold proj_Cookie.f
  repeat' first
      | (with_reducible exact ih0 _ _ _ _ _ _ _ _ _ _ _ _ _ _)
      | (with_reducible exact LeO.refl _)
      | (with_reducible exact LeO.none _)
      | (with_reducible refine LeO.ite ?_ ?_)
      | (with_reducible refine LeO.bind ?_ (fun _ => ?_))
      | exact ih0 _ _ _ _ _ _ _ _ _ _ _ _ _ _
      | exact LeO.none _
      | refine LeO.ite ?_ ?_
      | refine LeO.bind ?_ (fun _ => ?_)
set_option maxHeartbeats 8000000 in
set_option maxRecDepth 100000 in
theorem proj_Cookie.calls (k : Nat) (a0 : Int) (a1 : Int) (a2_0 : ByteArray) (a2_1 : ByteArray) (a2_2 : ByteArray) (a2_3 : ByteArray) (a2_4 : Int) (a2_5 : Int) (a2_6 : Int) (a2_7 : Bool) (a2_8 : Bool) (a2_9 : Bool) (a2_10 : Int) (r1 : ByteArray) (r2 : ByteArray) (r3 : ByteArray) (r4 : ByteArray) (r5 : Int) (r6 : Int) (r7 : Int) (r8 : Bool) (r9 : Bool) (r10 : Bool) (r11 : Int) (r12 : Bool) (w : World) (h : proj_Cookie.f k a0 a1 a2_0 a2_1 a2_2 a2_3 a2_4 a2_5 a2_6 a2_7 a2_8 a2_9 a2_10 = some (r1, r2, r3, r4, r5, r6, r7, r8, r9, r10, r11, r12)) :
    Calls Tryd.prog 13 #[.int .i64 a0, .int .i64 a1, .agg #[.string a2_0, .string a2_1, .string a2_2, .string a2_3, .int .i64 a2_4, .int .i64 a2_5, .int .i64 a2_6, .bool a2_7, .bool a2_8, .bool a2_9, .int .i64 a2_10]] w fun e w' => e = .returned (.tuple #[.agg #[.string r1, .string r2, .string r3, .string r4, .int .i64 r5, .int .i64 r6, .int .i64 r7, .bool r8, .bool r9, .bool r10, .int .i64 r11], .bool r12]) ∧ Below w.heap.size w w' := by
  have hu27 := Tryd.underlying27
  have HB := Aside0.mk (Below.refl w.heap.size w)
  have H : ((proj_Word.f a0).bind fun t115 => (if t115.toList = ([] : List UInt8) then (proj_Cookie.j0 k a0 a1 true a2_0 a2_1 a2_2 a2_3 a2_4 a2_5 a2_6 a2_7 a2_8 a2_9 a2_10) else (if a1 < 0 then (proj_Cookie.j0 k a0 a1 true a2_0 a2_1 a2_2 a2_3 a2_4 a2_5 a2_6 a2_7 a2_8 a2_9 a2_10) else (proj_Cookie.j0 k a0 a1 (decide (a1 > 253402300799)) a2_0 a2_1 a2_2 a2_3 a2_4 a2_5 a2_6 a2_7 a2_8 a2_9 a2_10)))) = some (r1, r2, r3, r4, r5, r6, r7, r8, r9, r10, r11, r12) := h
  clear h
  have HC4 := Aside0.mk H
  clear H
  go_enter Tryd.func13, Tryd.ntmps13
  go_upto_region 1 with (first | ((with_reducible refine gate_dst (N := 5) rfl ?_); refine box_event ?hg (N := 5) ?hd (cs := #[.string a2_0, .string a2_1, .string a2_2, .string a2_3, .int .i64 a2_4, .int .i64 a2_5, .int .i64 a2_6, .bool a2_7, .bool a2_8, .bool a2_9, .int .i64 a2_10]) (t := 27) ?hr ?_; (case hd => rfl); (case hg => rfl); (case hr => first | (go_simp; done) | (go_simp; rfl)); intro gb113 hg w5 hbox hb; have n0_ := Aside0.mk (below_step xb hb); have n1_ := Aside0.mk (hbox); have n2_ := Aside0.mk ((by rw [hg]; exact (below_size xb) : w.heap.size ≤ gb113)); have n3_ := Aside0.mk ((by rw [hg]; exact (below_size xb) : w.heap.size ≤ gb113)); clear HB; have HB := n0_; have BK113 := n1_; have GW113 := n2_; have GE113 := n3_; clear n0_ n1_ n2_ n3_; clear hb hbox hg) | ((with_reducible refine gate_dst (N := 6) rfl ?_); refine box_event ?hg (N := 6) ?hd (cs := #[.string (⟨#[]⟩ : ByteArray), .string (⟨#[]⟩ : ByteArray), .string (⟨#[]⟩ : ByteArray), .string (⟨#[]⟩ : ByteArray), .int .i64 0, .int .i64 0, .int .i64 0, .bool false, .bool false, .bool false, .int .i64 0]) (t := 27) ?hr ?_; (case hd => rfl); (case hg => rfl); (case hr => first | (go_simp; done) | (go_simp; rfl)); intro gb114 hg w6 hbox hb; have n0_ := blkB BK113 hb; have n1_ := Aside0.mk (below_step xb hb); have n2_ := Aside0.mk (hbox); have n3_ := Aside0.mk ((by rw [hg]; exact (below_size xb) : w.heap.size ≤ gb114)); have n4_ := Aside0.mk ((by rw [hg]; exact (below_size xb) : w.heap.size ≤ gb114)); have n5_ := Aside0.mk ((by rw [hg]; exact Nat.ne_of_lt (blkL BK113) : gb113 ≠ gb114)); have n6_ := Aside0.mk ((by rw [hg]; exact Nat.ne_of_gt (blkL BK113) : gb114 ≠ gb113)); clear BK113; clear HB; have BK113 := n0_; have HB := n1_; have BK114 := n2_; have GW114 := n3_; have GE114 := n4_; have NB113_114 := n5_; have NB114_113 := n6_; clear n0_ n1_ n2_ n3_ n4_ n5_ n6_; clear hb hbox hg))
  (try simp only [Act.put, List.setIfInBounds_toArray, List.set_cons_zero, List.set_cons_succ])
  go_cut [18] (fun v18 wc => ∃ (kq : Nat) (x18_3 : Bool), v18 = .bool x18_3 ∧ Aside0 (proj_Cookie.j0 kq a0 a1 x18_3 a2_0 a2_1 a2_2 a2_3 a2_4 a2_5 a2_6 a2_7 a2_8 a2_9 a2_10 = some (r1, r2, r3, r4, r5, r6, r7, r8, r9, r10, r11, r12)) ∧ Aside0 (kq ≤ k) ∧ Aside0 (wc.heap[gb113]? = some (.cells #[.string a2_0, .string a2_1, .string a2_2, .string a2_3, .int .i64 a2_4, .int .i64 a2_5, .int .i64 a2_6, .bool a2_7, .bool a2_8, .bool a2_9, .int .i64 a2_10] 27 (0, 0))) ∧ Aside0 (wc.heap[gb114]? = some (.cells #[.string (⟨#[]⟩ : ByteArray), .string (⟨#[]⟩ : ByteArray), .string (⟨#[]⟩ : ByteArray), .string (⟨#[]⟩ : ByteArray), .int .i64 0, .int .i64 0, .int .i64 0, .bool false, .bool false, .bool false, .int .i64 0] 27 (0, 0))) ∧ Aside0 (Below w.heap.size w wc))
  case first =>
    have H := HC4.out
    clear HC4
    replace H := Option.bind_eq_some_iff.mp H
    obtain ⟨t115, A70, H⟩ := H
    replace H : (if t115.toList = ([] : List UInt8) then (proj_Cookie.j0 k a0 a1 true a2_0 a2_1 a2_2 a2_3 a2_4 a2_5 a2_6 a2_7 a2_8 a2_9 a2_10) else (if a1 < 0 then (proj_Cookie.j0 k a0 a1 true a2_0 a2_1 a2_2 a2_3 a2_4 a2_5 a2_6 a2_7 a2_8 a2_9 a2_10) else (proj_Cookie.j0 k a0 a1 (decide (a1 > 253402300799)) a2_0 a2_1 a2_2 a2_3 a2_4 a2_5 a2_6 a2_7 a2_8 a2_9 a2_10))) = some (r1, r2, r3, r4, r5, r6, r7, r8, r9, r10, r11, r12) := H
    have A7 := Aside0.mk A70
    clear A70
    by_cases c8 : t115.toList = ([] : List UInt8)
    · rw [if_pos c8] at H
      have c8b0 : (t115.toList == ([] : List UInt8)) = true := beq_iff_eq.mpr c8
      have c8b1 : (t115.toList != ([] : List UInt8)) = false := bne_eq_false_iff_eq.mpr c8
      clear c8
      (first | rw [c8b0] | (simp only [i64_w, i32_w]; rw [c8b0]) | skip)
      have H' := Aside0.mk H
      clear H
      go_wp2_with (first | ((with_reducible refine gate_callee (f := 8) rfl ?_); refine goesL_ (some 9) rfl rfl Tryd.func8 (by kernel_rfl) rfl #[.int .i64 a0] rfl xg ?_; (with_reducible refine (proj_Word.calls a0 t115 _ A7.out).mono ?_); rintro e w9 ⟨rfl, hb⟩; refine ⟨_, rfl, ?_⟩; have n0_ := blkB BK113 hb; have n1_ := blkB BK114 hb; have n2_ := Aside0.mk (below_step xb hb); clear BK113; clear BK114; clear HB; have BK113 := n0_; have BK114 := n1_; have HB := n2_; clear n0_ n1_ n2_; (try clear hb); (try clear hb2); (try clear hk); (try clear hi)))
      go_meet
      case rel => exact ⟨_, (true), (by first | rfl | (simp; done) | (simp [*]; done)), H', ⟨by first | omega | exact Nat.le_refl _⟩, ⟨xk⟩, ⟨xk⟩, ⟨xb⟩⟩
    · rw [if_neg c8] at H
      have c8b0 : (t115.toList == ([] : List UInt8)) = false := beq_eq_false_iff_ne.mpr c8
      have c8b1 : (t115.toList != ([] : List UInt8)) = true := bne_iff_ne.mpr c8
      (first | rw [c8b0] | (simp only [i64_w, i32_w]; rw [c8b0]) | skip)
      by_cases c10 : a1 < 0
      · rw [if_pos c10] at H
        have c10b0 : decide (a1 < 0) = true := decide_eq_true c10
        clear c10
        have H' := Aside0.mk H
        clear H
        go_wp2_with (first | ((with_reducible refine gate_callee (f := 8) rfl ?_); refine goesL_ (some 9) rfl rfl Tryd.func8 (by kernel_rfl) rfl #[.int .i64 a0] rfl xg ?_; (with_reducible refine (proj_Word.calls a0 t115 _ A7.out).mono ?_); rintro e w11 ⟨rfl, hb⟩; refine ⟨_, rfl, ?_⟩; have n0_ := blkB BK113 hb; have n1_ := blkB BK114 hb; have n2_ := Aside0.mk (below_step xb hb); clear BK113; clear BK114; clear HB; have BK113 := n0_; have BK114 := n1_; have HB := n2_; clear n0_ n1_ n2_; (try clear hb); (try clear hb2); (try clear hk); (try clear hi)))
        go_meet
        case rel => exact ⟨_, (true), (by first | rfl | (simp; done) | (simp [*]; done)), H', ⟨by first | omega | exact Nat.le_refl _⟩, ⟨xk⟩, ⟨xk⟩, ⟨xb⟩⟩
      · rw [if_neg c10] at H
        have c10b0 : decide (a1 < 0) = false := decide_eq_false c10
        clear c10
        have H' := Aside0.mk H
        clear H
        go_wp2_with (first | ((with_reducible refine gate_callee (f := 8) rfl ?_); refine goesL_ (some 9) rfl rfl Tryd.func8 (by kernel_rfl) rfl #[.int .i64 a0] rfl xg ?_; (with_reducible refine (proj_Word.calls a0 t115 _ A7.out).mono ?_); rintro e w12 ⟨rfl, hb⟩; refine ⟨_, rfl, ?_⟩; have n0_ := blkB BK113 hb; have n1_ := blkB BK114 hb; have n2_ := Aside0.mk (below_step xb hb); clear BK113; clear BK114; clear HB; have BK113 := n0_; have BK114 := n1_; have HB := n2_; clear n0_ n1_ n2_; (try clear hb); (try clear hb2); (try clear hk); (try clear hi)))
        go_meet
        case rel => exact ⟨_, (decide (a1 > 253402300799)), (by first | rfl | (simp; done) | (simp [*]; done)), H', ⟨by first | omega | exact Nat.le_refl _⟩, ⟨xk⟩, ⟨xk⟩, ⟨xb⟩⟩
  case rest =>
    clear HC4
    try clear c1
    try clear p2
    try clear p3
    try clear p6
    try clear c8
    try clear c8b0
    try clear c8b1
    try clear c10
    try clear c10b0
    obtain ⟨kq, x18_3, rfl, HA, HJ3, BK113, BK114, HB⟩ := hcut
    cases kq with
    | zero => exact absurd HA.out (by simp [proj_Cookie.j0])
    | succ kj3 =>
      have H := HA.out
      clear HA
      simp only [proj_Cookie.j0] at H
      by_cases c13 : x18_3 = true
      · subst c13
        have H1 : (some ((⟨#[]⟩ : ByteArray), (⟨#[]⟩ : ByteArray), (⟨#[]⟩ : ByteArray), (⟨#[]⟩ : ByteArray), 0, 0, 0, false, false, false, 0, false)) = some (r1, r2, r3, r4, r5, r6, r7, r8, r9, r10, r11, r12) := by rw [if_pos rfl] at H; exact H
        clear H
        have H := H1
        clear H1
        simp only [Option.some.injEq, Prod.mk.injEq] at H
        obtain ⟨rfl, rfl, rfl, rfl, rfl, rfl, rfl, rfl, rfl, rfl, rfl, rfl⟩ := H
        have hnb14 := NB114_113.out
        have hnc14 := NB113_114.out
        have hcz15_0 : wc.cell? ⟨gb114, 0, none⟩ = some (.string (⟨#[]⟩ : ByteArray)) := (blk_cell BK114.out 0).trans rfl
        have hcz15_1 : wc.cell? ⟨gb114, 1, none⟩ = some (.string (⟨#[]⟩ : ByteArray)) := (blk_cell BK114.out 1).trans rfl
        have hcz15_2 : wc.cell? ⟨gb114, 2, none⟩ = some (.string (⟨#[]⟩ : ByteArray)) := (blk_cell BK114.out 2).trans rfl
        have hcz15_3 : wc.cell? ⟨gb114, 3, none⟩ = some (.string (⟨#[]⟩ : ByteArray)) := (blk_cell BK114.out 3).trans rfl
        have hcz15_4 : wc.cell? ⟨gb114, 4, none⟩ = some (.int .i64 0) := (blk_cell BK114.out 4).trans rfl
        have hcz15_5 : wc.cell? ⟨gb114, 5, none⟩ = some (.int .i64 0) := (blk_cell BK114.out 5).trans rfl
        have hcz15_6 : wc.cell? ⟨gb114, 6, none⟩ = some (.int .i64 0) := (blk_cell BK114.out 6).trans rfl
        have hcz15_7 : wc.cell? ⟨gb114, 7, none⟩ = some (.bool false) := (blk_cell BK114.out 7).trans rfl
        have hcz15_8 : wc.cell? ⟨gb114, 8, none⟩ = some (.bool false) := (blk_cell BK114.out 8).trans rfl
        have hcz15_9 : wc.cell? ⟨gb114, 9, none⟩ = some (.bool false) := (blk_cell BK114.out 9).trans rfl
        have hcz15_10 : wc.cell? ⟨gb114, 10, none⟩ = some (.int .i64 0) := (blk_cell BK114.out 10).trans rfl
        have hfz15_0 := blk_frozen BK114.out 0
        have hfz15_1 := blk_frozen BK114.out 1
        have hfz15_2 := blk_frozen BK114.out 2
        have hfz15_3 := blk_frozen BK114.out 3
        have hfz15_4 := blk_frozen BK114.out 4
        have hfz15_5 := blk_frozen BK114.out 5
        have hfz15_6 := blk_frozen BK114.out 6
        have hfz15_7 := blk_frozen BK114.out 7
        have hfz15_8 := blk_frozen BK114.out 8
        have hfz15_9 := blk_frozen BK114.out 9
        have hfz15_10 := blk_frozen BK114.out 10
        go_wp2
        refine bodyPost_ret (results_ct rfl _ _ gb114 27 #[.string (⟨#[]⟩ : ByteArray), .string (⟨#[]⟩ : ByteArray), .string (⟨#[]⟩ : ByteArray), .string (⟨#[]⟩ : ByteArray), .int .i64 0, .int .i64 0, .int .i64 0, .bool false, .bool false, .bool false, .int .i64 0] (0, 0) _ rfl xk Tryd.underlying27 rfl (by kernel_rfl)) rfl ?_
        exact ⟨by first | rfl | (simp [errW_none, errW_some] <;> rfl) | (simp [*, errW_none, errW_some] <;> rfl), by repeat (first | (with_reducible first | exact HB.out | apply below_alloc | apply pw_below_drewN | apply below_drew1 | refine below_set ?_ GE113.out | refine below_set ?_ GE114.out) | exact HB.out)⟩
      · replace c13 := Bool.eq_false_iff.mpr c13
        subst c13
        have H1 : (if a0 = 2 then (some (a2_0, a2_1, a2_2, a2_3, a1, a1, a2_6, true, a2_8, a2_9, a2_10, true)) else (if a0 = 3 then (some (a2_0, a2_1, a2_2, a2_3, a1, a1, a2_6, a2_7, a2_8, a2_9, a2_10, true)) else (if a0 = 1 then (some (a2_0, a2_1, a2_2, a2_3, a1, a1, a2_6, a2_7, a2_8, a2_9, 0, true)) else (if a0 = 4 then (some (a2_0, a2_1, a2_2, a2_3, a2_4, a2_4, a2_6, true, a2_8, a2_9, 0, true)) else (if a0 = 5 then (some (a2_0, a2_1, a2_2, a2_3, a2_4, a2_5, a2_6, a2_7, a2_8, a2_9, 0, true)) else (some (a2_0, a2_1, a2_2, a2_3, a2_4, a2_5, a2_6, a2_7, a2_8, a2_9, a2_10, true))))))) = some (r1, r2, r3, r4, r5, r6, r7, r8, r9, r10, r11, r12) := by rw [if_neg (show ¬ (false = true) by decide)] at H; exact H
        clear H
        have H := H1
        clear H1
        by_cases c16 : a0 = 2
        · rw [if_pos c16] at H
          have c16b0 : (a0 == 2) = true := beq_iff_eq.mpr c16
          have c16b1 : (a0 != 2) = false := bne_eq_false_iff_eq.mpr c16
          clear c16
          simp only [Option.some.injEq, Prod.mk.injEq] at H
          obtain ⟨rfl, rfl, rfl, rfl, rfl, rfl, rfl, rfl, rfl, rfl, rfl, rfl⟩ := H
          have hnb17 := NB113_114.out
          have hnc17 := NB114_113.out
          have hcz18_0 : wc.cell? ⟨gb113, 0, none⟩ = some (.string a2_0) := (blk_cell BK113.out 0).trans rfl
          have hcz18_1 : wc.cell? ⟨gb113, 1, none⟩ = some (.string a2_1) := (blk_cell BK113.out 1).trans rfl
          have hcz18_2 : wc.cell? ⟨gb113, 2, none⟩ = some (.string a2_2) := (blk_cell BK113.out 2).trans rfl
          have hcz18_3 : wc.cell? ⟨gb113, 3, none⟩ = some (.string a2_3) := (blk_cell BK113.out 3).trans rfl
          have hcz18_4 : wc.cell? ⟨gb113, 4, none⟩ = some (.int .i64 a2_4) := (blk_cell BK113.out 4).trans rfl
          have hcz18_5 : wc.cell? ⟨gb113, 5, none⟩ = some (.int .i64 a2_5) := (blk_cell BK113.out 5).trans rfl
          have hcz18_6 : wc.cell? ⟨gb113, 6, none⟩ = some (.int .i64 a2_6) := (blk_cell BK113.out 6).trans rfl
          have hcz18_7 : wc.cell? ⟨gb113, 7, none⟩ = some (.bool a2_7) := (blk_cell BK113.out 7).trans rfl
          have hcz18_8 : wc.cell? ⟨gb113, 8, none⟩ = some (.bool a2_8) := (blk_cell BK113.out 8).trans rfl
          have hcz18_9 : wc.cell? ⟨gb113, 9, none⟩ = some (.bool a2_9) := (blk_cell BK113.out 9).trans rfl
          have hcz18_10 : wc.cell? ⟨gb113, 10, none⟩ = some (.int .i64 a2_10) := (blk_cell BK113.out 10).trans rfl
          have hfz18_0 := blk_frozen BK113.out 0
          have hfz18_1 := blk_frozen BK113.out 1
          have hfz18_2 := blk_frozen BK113.out 2
          have hfz18_3 := blk_frozen BK113.out 3
          have hfz18_4 := blk_frozen BK113.out 4
          have hfz18_5 := blk_frozen BK113.out 5
          have hfz18_6 := blk_frozen BK113.out 6
          have hfz18_7 := blk_frozen BK113.out 7
          have hfz18_8 := blk_frozen BK113.out 8
          have hfz18_9 := blk_frozen BK113.out 9
          have hfz18_10 := blk_frozen BK113.out 10
          have hcz19_0 : wc.cell? ⟨gb114, 0, none⟩ = some (.string (⟨#[]⟩ : ByteArray)) := (blk_cell BK114.out 0).trans rfl
          have hcz19_1 : wc.cell? ⟨gb114, 1, none⟩ = some (.string (⟨#[]⟩ : ByteArray)) := (blk_cell BK114.out 1).trans rfl
          have hcz19_2 : wc.cell? ⟨gb114, 2, none⟩ = some (.string (⟨#[]⟩ : ByteArray)) := (blk_cell BK114.out 2).trans rfl
          have hcz19_3 : wc.cell? ⟨gb114, 3, none⟩ = some (.string (⟨#[]⟩ : ByteArray)) := (blk_cell BK114.out 3).trans rfl
          have hcz19_4 : wc.cell? ⟨gb114, 4, none⟩ = some (.int .i64 0) := (blk_cell BK114.out 4).trans rfl
          have hcz19_5 : wc.cell? ⟨gb114, 5, none⟩ = some (.int .i64 0) := (blk_cell BK114.out 5).trans rfl
          have hcz19_6 : wc.cell? ⟨gb114, 6, none⟩ = some (.int .i64 0) := (blk_cell BK114.out 6).trans rfl
          have hcz19_7 : wc.cell? ⟨gb114, 7, none⟩ = some (.bool false) := (blk_cell BK114.out 7).trans rfl
          have hcz19_8 : wc.cell? ⟨gb114, 8, none⟩ = some (.bool false) := (blk_cell BK114.out 8).trans rfl
          have hcz19_9 : wc.cell? ⟨gb114, 9, none⟩ = some (.bool false) := (blk_cell BK114.out 9).trans rfl
          have hcz19_10 : wc.cell? ⟨gb114, 10, none⟩ = some (.int .i64 0) := (blk_cell BK114.out 10).trans rfl
          have hfz19_0 := blk_frozen BK114.out 0
          have hfz19_1 := blk_frozen BK114.out 1
          have hfz19_2 := blk_frozen BK114.out 2
          have hfz19_3 := blk_frozen BK114.out 3
          have hfz19_4 := blk_frozen BK114.out 4
          have hfz19_5 := blk_frozen BK114.out 5
          have hfz19_6 := blk_frozen BK114.out 6
          have hfz19_7 := blk_frozen BK114.out 7
          have hfz19_8 := blk_frozen BK114.out 8
          have hfz19_9 := blk_frozen BK114.out 9
          have hfz19_10 := blk_frozen BK114.out 10
          go_wp2
          refine bodyPost_ret (results_ct rfl _ _ gb114 27 #[.string a2_0, .string a2_1, .string a2_2, .string a2_3, .int .i64 a1, .int .i64 a1, .int .i64 a2_6, .bool true, .bool a2_8, .bool a2_9, .int .i64 a2_10] (0, 0) _ rfl xk Tryd.underlying27 rfl (by kernel_rfl)) rfl ?_
          exact ⟨by first | rfl | (simp [errW_none, errW_some] <;> rfl) | (simp [*, errW_none, errW_some] <;> rfl), by repeat (first | (with_reducible first | exact HB.out | apply below_alloc | apply pw_below_drewN | apply below_drew1 | refine below_set ?_ GE113.out | refine below_set ?_ GE114.out) | exact HB.out)⟩
        · rw [if_neg c16] at H
          have c16b0 : (a0 == 2) = false := beq_eq_false_iff_ne.mpr c16
          have c16b1 : (a0 != 2) = true := bne_iff_ne.mpr c16
          by_cases c20 : a0 = 3
          · rw [if_pos c20] at H
            have c20b0 : (a0 == 3) = true := beq_iff_eq.mpr c20
            have c20b1 : (a0 != 3) = false := bne_eq_false_iff_eq.mpr c20
            clear c20
            simp only [Option.some.injEq, Prod.mk.injEq] at H
            obtain ⟨rfl, rfl, rfl, rfl, rfl, rfl, rfl, rfl, rfl, rfl, rfl, rfl⟩ := H
            have hnb21 := NB113_114.out
            have hnc21 := NB114_113.out
            have hcz22_0 : wc.cell? ⟨gb113, 0, none⟩ = some (.string a2_0) := (blk_cell BK113.out 0).trans rfl
            have hcz22_1 : wc.cell? ⟨gb113, 1, none⟩ = some (.string a2_1) := (blk_cell BK113.out 1).trans rfl
            have hcz22_2 : wc.cell? ⟨gb113, 2, none⟩ = some (.string a2_2) := (blk_cell BK113.out 2).trans rfl
            have hcz22_3 : wc.cell? ⟨gb113, 3, none⟩ = some (.string a2_3) := (blk_cell BK113.out 3).trans rfl
            have hcz22_4 : wc.cell? ⟨gb113, 4, none⟩ = some (.int .i64 a2_4) := (blk_cell BK113.out 4).trans rfl
            have hcz22_5 : wc.cell? ⟨gb113, 5, none⟩ = some (.int .i64 a2_5) := (blk_cell BK113.out 5).trans rfl
            have hcz22_6 : wc.cell? ⟨gb113, 6, none⟩ = some (.int .i64 a2_6) := (blk_cell BK113.out 6).trans rfl
            have hcz22_7 : wc.cell? ⟨gb113, 7, none⟩ = some (.bool a2_7) := (blk_cell BK113.out 7).trans rfl
            have hcz22_8 : wc.cell? ⟨gb113, 8, none⟩ = some (.bool a2_8) := (blk_cell BK113.out 8).trans rfl
            have hcz22_9 : wc.cell? ⟨gb113, 9, none⟩ = some (.bool a2_9) := (blk_cell BK113.out 9).trans rfl
            have hcz22_10 : wc.cell? ⟨gb113, 10, none⟩ = some (.int .i64 a2_10) := (blk_cell BK113.out 10).trans rfl
            have hfz22_0 := blk_frozen BK113.out 0
            have hfz22_1 := blk_frozen BK113.out 1
            have hfz22_2 := blk_frozen BK113.out 2
            have hfz22_3 := blk_frozen BK113.out 3
            have hfz22_4 := blk_frozen BK113.out 4
            have hfz22_5 := blk_frozen BK113.out 5
            have hfz22_6 := blk_frozen BK113.out 6
            have hfz22_7 := blk_frozen BK113.out 7
            have hfz22_8 := blk_frozen BK113.out 8
            have hfz22_9 := blk_frozen BK113.out 9
            have hfz22_10 := blk_frozen BK113.out 10
            have hcz23_0 : wc.cell? ⟨gb114, 0, none⟩ = some (.string (⟨#[]⟩ : ByteArray)) := (blk_cell BK114.out 0).trans rfl
            have hcz23_1 : wc.cell? ⟨gb114, 1, none⟩ = some (.string (⟨#[]⟩ : ByteArray)) := (blk_cell BK114.out 1).trans rfl
            have hcz23_2 : wc.cell? ⟨gb114, 2, none⟩ = some (.string (⟨#[]⟩ : ByteArray)) := (blk_cell BK114.out 2).trans rfl
            have hcz23_3 : wc.cell? ⟨gb114, 3, none⟩ = some (.string (⟨#[]⟩ : ByteArray)) := (blk_cell BK114.out 3).trans rfl
            have hcz23_4 : wc.cell? ⟨gb114, 4, none⟩ = some (.int .i64 0) := (blk_cell BK114.out 4).trans rfl
            have hcz23_5 : wc.cell? ⟨gb114, 5, none⟩ = some (.int .i64 0) := (blk_cell BK114.out 5).trans rfl
            have hcz23_6 : wc.cell? ⟨gb114, 6, none⟩ = some (.int .i64 0) := (blk_cell BK114.out 6).trans rfl
            have hcz23_7 : wc.cell? ⟨gb114, 7, none⟩ = some (.bool false) := (blk_cell BK114.out 7).trans rfl
            have hcz23_8 : wc.cell? ⟨gb114, 8, none⟩ = some (.bool false) := (blk_cell BK114.out 8).trans rfl
            have hcz23_9 : wc.cell? ⟨gb114, 9, none⟩ = some (.bool false) := (blk_cell BK114.out 9).trans rfl
            have hcz23_10 : wc.cell? ⟨gb114, 10, none⟩ = some (.int .i64 0) := (blk_cell BK114.out 10).trans rfl
            have hfz23_0 := blk_frozen BK114.out 0
            have hfz23_1 := blk_frozen BK114.out 1
            have hfz23_2 := blk_frozen BK114.out 2
            have hfz23_3 := blk_frozen BK114.out 3
            have hfz23_4 := blk_frozen BK114.out 4
            have hfz23_5 := blk_frozen BK114.out 5
            have hfz23_6 := blk_frozen BK114.out 6
            have hfz23_7 := blk_frozen BK114.out 7
            have hfz23_8 := blk_frozen BK114.out 8
            have hfz23_9 := blk_frozen BK114.out 9
            have hfz23_10 := blk_frozen BK114.out 10
            go_wp2
            refine bodyPost_ret (results_ct rfl _ _ gb114 27 #[.string a2_0, .string a2_1, .string a2_2, .string a2_3, .int .i64 a1, .int .i64 a1, .int .i64 a2_6, .bool a2_7, .bool a2_8, .bool a2_9, .int .i64 a2_10] (0, 0) _ rfl xk Tryd.underlying27 rfl (by kernel_rfl)) rfl ?_
            exact ⟨by first | rfl | (simp [errW_none, errW_some] <;> rfl) | (simp [*, errW_none, errW_some] <;> rfl), by repeat (first | (with_reducible first | exact HB.out | apply below_alloc | apply pw_below_drewN | apply below_drew1 | refine below_set ?_ GE113.out | refine below_set ?_ GE114.out) | exact HB.out)⟩
          · rw [if_neg c20] at H
            have c20b0 : (a0 == 3) = false := beq_eq_false_iff_ne.mpr c20
            have c20b1 : (a0 != 3) = true := bne_iff_ne.mpr c20
            by_cases c24 : a0 = 1
            · rw [if_pos c24] at H
              have c24b0 : (a0 == 1) = true := beq_iff_eq.mpr c24
              have c24b1 : (a0 != 1) = false := bne_eq_false_iff_eq.mpr c24
              clear c24
              simp only [Option.some.injEq, Prod.mk.injEq] at H
              obtain ⟨rfl, rfl, rfl, rfl, rfl, rfl, rfl, rfl, rfl, rfl, rfl, rfl⟩ := H
              have hnb25 := NB113_114.out
              have hnc25 := NB114_113.out
              have hcz26_0 : wc.cell? ⟨gb113, 0, none⟩ = some (.string a2_0) := (blk_cell BK113.out 0).trans rfl
              have hcz26_1 : wc.cell? ⟨gb113, 1, none⟩ = some (.string a2_1) := (blk_cell BK113.out 1).trans rfl
              have hcz26_2 : wc.cell? ⟨gb113, 2, none⟩ = some (.string a2_2) := (blk_cell BK113.out 2).trans rfl
              have hcz26_3 : wc.cell? ⟨gb113, 3, none⟩ = some (.string a2_3) := (blk_cell BK113.out 3).trans rfl
              have hcz26_4 : wc.cell? ⟨gb113, 4, none⟩ = some (.int .i64 a2_4) := (blk_cell BK113.out 4).trans rfl
              have hcz26_5 : wc.cell? ⟨gb113, 5, none⟩ = some (.int .i64 a2_5) := (blk_cell BK113.out 5).trans rfl
              have hcz26_6 : wc.cell? ⟨gb113, 6, none⟩ = some (.int .i64 a2_6) := (blk_cell BK113.out 6).trans rfl
              have hcz26_7 : wc.cell? ⟨gb113, 7, none⟩ = some (.bool a2_7) := (blk_cell BK113.out 7).trans rfl
              have hcz26_8 : wc.cell? ⟨gb113, 8, none⟩ = some (.bool a2_8) := (blk_cell BK113.out 8).trans rfl
              have hcz26_9 : wc.cell? ⟨gb113, 9, none⟩ = some (.bool a2_9) := (blk_cell BK113.out 9).trans rfl
              have hcz26_10 : wc.cell? ⟨gb113, 10, none⟩ = some (.int .i64 a2_10) := (blk_cell BK113.out 10).trans rfl
              have hfz26_0 := blk_frozen BK113.out 0
              have hfz26_1 := blk_frozen BK113.out 1
              have hfz26_2 := blk_frozen BK113.out 2
              have hfz26_3 := blk_frozen BK113.out 3
              have hfz26_4 := blk_frozen BK113.out 4
              have hfz26_5 := blk_frozen BK113.out 5
              have hfz26_6 := blk_frozen BK113.out 6
              have hfz26_7 := blk_frozen BK113.out 7
              have hfz26_8 := blk_frozen BK113.out 8
              have hfz26_9 := blk_frozen BK113.out 9
              have hfz26_10 := blk_frozen BK113.out 10
              have hcz27_0 : wc.cell? ⟨gb114, 0, none⟩ = some (.string (⟨#[]⟩ : ByteArray)) := (blk_cell BK114.out 0).trans rfl
              have hcz27_1 : wc.cell? ⟨gb114, 1, none⟩ = some (.string (⟨#[]⟩ : ByteArray)) := (blk_cell BK114.out 1).trans rfl
              have hcz27_2 : wc.cell? ⟨gb114, 2, none⟩ = some (.string (⟨#[]⟩ : ByteArray)) := (blk_cell BK114.out 2).trans rfl
              have hcz27_3 : wc.cell? ⟨gb114, 3, none⟩ = some (.string (⟨#[]⟩ : ByteArray)) := (blk_cell BK114.out 3).trans rfl
              have hcz27_4 : wc.cell? ⟨gb114, 4, none⟩ = some (.int .i64 0) := (blk_cell BK114.out 4).trans rfl
              have hcz27_5 : wc.cell? ⟨gb114, 5, none⟩ = some (.int .i64 0) := (blk_cell BK114.out 5).trans rfl
              have hcz27_6 : wc.cell? ⟨gb114, 6, none⟩ = some (.int .i64 0) := (blk_cell BK114.out 6).trans rfl
              have hcz27_7 : wc.cell? ⟨gb114, 7, none⟩ = some (.bool false) := (blk_cell BK114.out 7).trans rfl
              have hcz27_8 : wc.cell? ⟨gb114, 8, none⟩ = some (.bool false) := (blk_cell BK114.out 8).trans rfl
              have hcz27_9 : wc.cell? ⟨gb114, 9, none⟩ = some (.bool false) := (blk_cell BK114.out 9).trans rfl
              have hcz27_10 : wc.cell? ⟨gb114, 10, none⟩ = some (.int .i64 0) := (blk_cell BK114.out 10).trans rfl
              have hfz27_0 := blk_frozen BK114.out 0
              have hfz27_1 := blk_frozen BK114.out 1
              have hfz27_2 := blk_frozen BK114.out 2
              have hfz27_3 := blk_frozen BK114.out 3
              have hfz27_4 := blk_frozen BK114.out 4
              have hfz27_5 := blk_frozen BK114.out 5
              have hfz27_6 := blk_frozen BK114.out 6
              have hfz27_7 := blk_frozen BK114.out 7
              have hfz27_8 := blk_frozen BK114.out 8
              have hfz27_9 := blk_frozen BK114.out 9
              have hfz27_10 := blk_frozen BK114.out 10
              go_wp2
              refine bodyPost_ret (results_ct rfl _ _ gb114 27 #[.string a2_0, .string a2_1, .string a2_2, .string a2_3, .int .i64 a1, .int .i64 a1, .int .i64 a2_6, .bool a2_7, .bool a2_8, .bool a2_9, .int .i64 0] (0, 0) _ rfl xk Tryd.underlying27 rfl (by kernel_rfl)) rfl ?_
              exact ⟨by first | rfl | (simp [errW_none, errW_some] <;> rfl) | (simp [*, errW_none, errW_some] <;> rfl), by repeat (first | (with_reducible first | exact HB.out | apply below_alloc | apply pw_below_drewN | apply below_drew1 | refine below_set ?_ GE113.out | refine below_set ?_ GE114.out) | exact HB.out)⟩
            · rw [if_neg c24] at H
              have c24b0 : (a0 == 1) = false := beq_eq_false_iff_ne.mpr c24
              have c24b1 : (a0 != 1) = true := bne_iff_ne.mpr c24
              by_cases c28 : a0 = 4
              · rw [if_pos c28] at H
                have c28b0 : (a0 == 4) = true := beq_iff_eq.mpr c28
                have c28b1 : (a0 != 4) = false := bne_eq_false_iff_eq.mpr c28
                clear c28
                simp only [Option.some.injEq, Prod.mk.injEq] at H
                obtain ⟨rfl, rfl, rfl, rfl, rfl, rfl, rfl, rfl, rfl, rfl, rfl, rfl⟩ := H
                have hnb29 := NB113_114.out
                have hnc29 := NB114_113.out
                have hcz30_0 : wc.cell? ⟨gb113, 0, none⟩ = some (.string a2_0) := (blk_cell BK113.out 0).trans rfl
                have hcz30_1 : wc.cell? ⟨gb113, 1, none⟩ = some (.string a2_1) := (blk_cell BK113.out 1).trans rfl
                have hcz30_2 : wc.cell? ⟨gb113, 2, none⟩ = some (.string a2_2) := (blk_cell BK113.out 2).trans rfl
                have hcz30_3 : wc.cell? ⟨gb113, 3, none⟩ = some (.string a2_3) := (blk_cell BK113.out 3).trans rfl
                have hcz30_4 : wc.cell? ⟨gb113, 4, none⟩ = some (.int .i64 a2_4) := (blk_cell BK113.out 4).trans rfl
                have hcz30_5 : wc.cell? ⟨gb113, 5, none⟩ = some (.int .i64 a2_5) := (blk_cell BK113.out 5).trans rfl
                have hcz30_6 : wc.cell? ⟨gb113, 6, none⟩ = some (.int .i64 a2_6) := (blk_cell BK113.out 6).trans rfl
                have hcz30_7 : wc.cell? ⟨gb113, 7, none⟩ = some (.bool a2_7) := (blk_cell BK113.out 7).trans rfl
                have hcz30_8 : wc.cell? ⟨gb113, 8, none⟩ = some (.bool a2_8) := (blk_cell BK113.out 8).trans rfl
                have hcz30_9 : wc.cell? ⟨gb113, 9, none⟩ = some (.bool a2_9) := (blk_cell BK113.out 9).trans rfl
                have hcz30_10 : wc.cell? ⟨gb113, 10, none⟩ = some (.int .i64 a2_10) := (blk_cell BK113.out 10).trans rfl
                have hfz30_0 := blk_frozen BK113.out 0
                have hfz30_1 := blk_frozen BK113.out 1
                have hfz30_2 := blk_frozen BK113.out 2
                have hfz30_3 := blk_frozen BK113.out 3
                have hfz30_4 := blk_frozen BK113.out 4
                have hfz30_5 := blk_frozen BK113.out 5
                have hfz30_6 := blk_frozen BK113.out 6
                have hfz30_7 := blk_frozen BK113.out 7
                have hfz30_8 := blk_frozen BK113.out 8
                have hfz30_9 := blk_frozen BK113.out 9
                have hfz30_10 := blk_frozen BK113.out 10
                have hcz31_0 : wc.cell? ⟨gb114, 0, none⟩ = some (.string (⟨#[]⟩ : ByteArray)) := (blk_cell BK114.out 0).trans rfl
                have hcz31_1 : wc.cell? ⟨gb114, 1, none⟩ = some (.string (⟨#[]⟩ : ByteArray)) := (blk_cell BK114.out 1).trans rfl
                have hcz31_2 : wc.cell? ⟨gb114, 2, none⟩ = some (.string (⟨#[]⟩ : ByteArray)) := (blk_cell BK114.out 2).trans rfl
                have hcz31_3 : wc.cell? ⟨gb114, 3, none⟩ = some (.string (⟨#[]⟩ : ByteArray)) := (blk_cell BK114.out 3).trans rfl
                have hcz31_4 : wc.cell? ⟨gb114, 4, none⟩ = some (.int .i64 0) := (blk_cell BK114.out 4).trans rfl
                have hcz31_5 : wc.cell? ⟨gb114, 5, none⟩ = some (.int .i64 0) := (blk_cell BK114.out 5).trans rfl
                have hcz31_6 : wc.cell? ⟨gb114, 6, none⟩ = some (.int .i64 0) := (blk_cell BK114.out 6).trans rfl
                have hcz31_7 : wc.cell? ⟨gb114, 7, none⟩ = some (.bool false) := (blk_cell BK114.out 7).trans rfl
                have hcz31_8 : wc.cell? ⟨gb114, 8, none⟩ = some (.bool false) := (blk_cell BK114.out 8).trans rfl
                have hcz31_9 : wc.cell? ⟨gb114, 9, none⟩ = some (.bool false) := (blk_cell BK114.out 9).trans rfl
                have hcz31_10 : wc.cell? ⟨gb114, 10, none⟩ = some (.int .i64 0) := (blk_cell BK114.out 10).trans rfl
                have hfz31_0 := blk_frozen BK114.out 0
                have hfz31_1 := blk_frozen BK114.out 1
                have hfz31_2 := blk_frozen BK114.out 2
                have hfz31_3 := blk_frozen BK114.out 3
                have hfz31_4 := blk_frozen BK114.out 4
                have hfz31_5 := blk_frozen BK114.out 5
                have hfz31_6 := blk_frozen BK114.out 6
                have hfz31_7 := blk_frozen BK114.out 7
                have hfz31_8 := blk_frozen BK114.out 8
                have hfz31_9 := blk_frozen BK114.out 9
                have hfz31_10 := blk_frozen BK114.out 10
                go_wp2
                refine bodyPost_ret (results_ct rfl _ _ gb114 27 #[.string a2_0, .string a2_1, .string a2_2, .string a2_3, .int .i64 a2_4, .int .i64 a2_4, .int .i64 a2_6, .bool true, .bool a2_8, .bool a2_9, .int .i64 0] (0, 0) _ rfl xk Tryd.underlying27 rfl (by kernel_rfl)) rfl ?_
                exact ⟨by first | rfl | (simp [errW_none, errW_some] <;> rfl) | (simp [*, errW_none, errW_some] <;> rfl), by repeat (first | (with_reducible first | exact HB.out | apply below_alloc | apply pw_below_drewN | apply below_drew1 | refine below_set ?_ GE113.out | refine below_set ?_ GE114.out) | exact HB.out)⟩
              · rw [if_neg c28] at H
                have c28b0 : (a0 == 4) = false := beq_eq_false_iff_ne.mpr c28
                have c28b1 : (a0 != 4) = true := bne_iff_ne.mpr c28
                by_cases c32 : a0 = 5
                · rw [if_pos c32] at H
                  have c32b0 : (a0 == 5) = true := beq_iff_eq.mpr c32
                  have c32b1 : (a0 != 5) = false := bne_eq_false_iff_eq.mpr c32
                  clear c32
                  simp only [Option.some.injEq, Prod.mk.injEq] at H
                  obtain ⟨rfl, rfl, rfl, rfl, rfl, rfl, rfl, rfl, rfl, rfl, rfl, rfl⟩ := H
                  have hnb33 := NB113_114.out
                  have hnc33 := NB114_113.out
                  have hcz34_0 : wc.cell? ⟨gb113, 0, none⟩ = some (.string a2_0) := (blk_cell BK113.out 0).trans rfl
                  have hcz34_1 : wc.cell? ⟨gb113, 1, none⟩ = some (.string a2_1) := (blk_cell BK113.out 1).trans rfl
                  have hcz34_2 : wc.cell? ⟨gb113, 2, none⟩ = some (.string a2_2) := (blk_cell BK113.out 2).trans rfl
                  have hcz34_3 : wc.cell? ⟨gb113, 3, none⟩ = some (.string a2_3) := (blk_cell BK113.out 3).trans rfl
                  have hcz34_4 : wc.cell? ⟨gb113, 4, none⟩ = some (.int .i64 a2_4) := (blk_cell BK113.out 4).trans rfl
                  have hcz34_5 : wc.cell? ⟨gb113, 5, none⟩ = some (.int .i64 a2_5) := (blk_cell BK113.out 5).trans rfl
                  have hcz34_6 : wc.cell? ⟨gb113, 6, none⟩ = some (.int .i64 a2_6) := (blk_cell BK113.out 6).trans rfl
                  have hcz34_7 : wc.cell? ⟨gb113, 7, none⟩ = some (.bool a2_7) := (blk_cell BK113.out 7).trans rfl
                  have hcz34_8 : wc.cell? ⟨gb113, 8, none⟩ = some (.bool a2_8) := (blk_cell BK113.out 8).trans rfl
                  have hcz34_9 : wc.cell? ⟨gb113, 9, none⟩ = some (.bool a2_9) := (blk_cell BK113.out 9).trans rfl
                  have hcz34_10 : wc.cell? ⟨gb113, 10, none⟩ = some (.int .i64 a2_10) := (blk_cell BK113.out 10).trans rfl
                  have hfz34_0 := blk_frozen BK113.out 0
                  have hfz34_1 := blk_frozen BK113.out 1
                  have hfz34_2 := blk_frozen BK113.out 2
                  have hfz34_3 := blk_frozen BK113.out 3
                  have hfz34_4 := blk_frozen BK113.out 4
                  have hfz34_5 := blk_frozen BK113.out 5
                  have hfz34_6 := blk_frozen BK113.out 6
                  have hfz34_7 := blk_frozen BK113.out 7
                  have hfz34_8 := blk_frozen BK113.out 8
                  have hfz34_9 := blk_frozen BK113.out 9
                  have hfz34_10 := blk_frozen BK113.out 10
                  have hcz35_0 : wc.cell? ⟨gb114, 0, none⟩ = some (.string (⟨#[]⟩ : ByteArray)) := (blk_cell BK114.out 0).trans rfl
                  have hcz35_1 : wc.cell? ⟨gb114, 1, none⟩ = some (.string (⟨#[]⟩ : ByteArray)) := (blk_cell BK114.out 1).trans rfl
                  have hcz35_2 : wc.cell? ⟨gb114, 2, none⟩ = some (.string (⟨#[]⟩ : ByteArray)) := (blk_cell BK114.out 2).trans rfl
                  have hcz35_3 : wc.cell? ⟨gb114, 3, none⟩ = some (.string (⟨#[]⟩ : ByteArray)) := (blk_cell BK114.out 3).trans rfl
                  have hcz35_4 : wc.cell? ⟨gb114, 4, none⟩ = some (.int .i64 0) := (blk_cell BK114.out 4).trans rfl
                  have hcz35_5 : wc.cell? ⟨gb114, 5, none⟩ = some (.int .i64 0) := (blk_cell BK114.out 5).trans rfl
                  have hcz35_6 : wc.cell? ⟨gb114, 6, none⟩ = some (.int .i64 0) := (blk_cell BK114.out 6).trans rfl
                  have hcz35_7 : wc.cell? ⟨gb114, 7, none⟩ = some (.bool false) := (blk_cell BK114.out 7).trans rfl
                  have hcz35_8 : wc.cell? ⟨gb114, 8, none⟩ = some (.bool false) := (blk_cell BK114.out 8).trans rfl
                  have hcz35_9 : wc.cell? ⟨gb114, 9, none⟩ = some (.bool false) := (blk_cell BK114.out 9).trans rfl
                  have hcz35_10 : wc.cell? ⟨gb114, 10, none⟩ = some (.int .i64 0) := (blk_cell BK114.out 10).trans rfl
                  have hfz35_0 := blk_frozen BK114.out 0
                  have hfz35_1 := blk_frozen BK114.out 1
                  have hfz35_2 := blk_frozen BK114.out 2
                  have hfz35_3 := blk_frozen BK114.out 3
                  have hfz35_4 := blk_frozen BK114.out 4
                  have hfz35_5 := blk_frozen BK114.out 5
                  have hfz35_6 := blk_frozen BK114.out 6
                  have hfz35_7 := blk_frozen BK114.out 7
                  have hfz35_8 := blk_frozen BK114.out 8
                  have hfz35_9 := blk_frozen BK114.out 9
                  have hfz35_10 := blk_frozen BK114.out 10
                  go_wp2
                  refine bodyPost_ret (results_ct rfl _ _ gb114 27 #[.string a2_0, .string a2_1, .string a2_2, .string a2_3, .int .i64 a2_4, .int .i64 a2_5, .int .i64 a2_6, .bool a2_7, .bool a2_8, .bool a2_9, .int .i64 0] (0, 0) _ rfl xk Tryd.underlying27 rfl (by kernel_rfl)) rfl ?_
                  exact ⟨by first | rfl | (simp [errW_none, errW_some] <;> rfl) | (simp [*, errW_none, errW_some] <;> rfl), by repeat (first | (with_reducible first | exact HB.out | apply below_alloc | apply pw_below_drewN | apply below_drew1 | refine below_set ?_ GE113.out | refine below_set ?_ GE114.out) | exact HB.out)⟩
                · rw [if_neg c32] at H
                  have c32b0 : (a0 == 5) = false := beq_eq_false_iff_ne.mpr c32
                  have c32b1 : (a0 != 5) = true := bne_iff_ne.mpr c32
                  simp only [Option.some.injEq, Prod.mk.injEq] at H
                  obtain ⟨rfl, rfl, rfl, rfl, rfl, rfl, rfl, rfl, rfl, rfl, rfl, rfl⟩ := H
                  have hnb36 := NB113_114.out
                  have hnc36 := NB114_113.out
                  have hcz37_0 : wc.cell? ⟨gb113, 0, none⟩ = some (.string a2_0) := (blk_cell BK113.out 0).trans rfl
                  have hcz37_1 : wc.cell? ⟨gb113, 1, none⟩ = some (.string a2_1) := (blk_cell BK113.out 1).trans rfl
                  have hcz37_2 : wc.cell? ⟨gb113, 2, none⟩ = some (.string a2_2) := (blk_cell BK113.out 2).trans rfl
                  have hcz37_3 : wc.cell? ⟨gb113, 3, none⟩ = some (.string a2_3) := (blk_cell BK113.out 3).trans rfl
                  have hcz37_4 : wc.cell? ⟨gb113, 4, none⟩ = some (.int .i64 a2_4) := (blk_cell BK113.out 4).trans rfl
                  have hcz37_5 : wc.cell? ⟨gb113, 5, none⟩ = some (.int .i64 a2_5) := (blk_cell BK113.out 5).trans rfl
                  have hcz37_6 : wc.cell? ⟨gb113, 6, none⟩ = some (.int .i64 a2_6) := (blk_cell BK113.out 6).trans rfl
                  have hcz37_7 : wc.cell? ⟨gb113, 7, none⟩ = some (.bool a2_7) := (blk_cell BK113.out 7).trans rfl
                  have hcz37_8 : wc.cell? ⟨gb113, 8, none⟩ = some (.bool a2_8) := (blk_cell BK113.out 8).trans rfl
                  have hcz37_9 : wc.cell? ⟨gb113, 9, none⟩ = some (.bool a2_9) := (blk_cell BK113.out 9).trans rfl
                  have hcz37_10 : wc.cell? ⟨gb113, 10, none⟩ = some (.int .i64 a2_10) := (blk_cell BK113.out 10).trans rfl
                  have hfz37_0 := blk_frozen BK113.out 0
                  have hfz37_1 := blk_frozen BK113.out 1
                  have hfz37_2 := blk_frozen BK113.out 2
                  have hfz37_3 := blk_frozen BK113.out 3
                  have hfz37_4 := blk_frozen BK113.out 4
                  have hfz37_5 := blk_frozen BK113.out 5
                  have hfz37_6 := blk_frozen BK113.out 6
                  have hfz37_7 := blk_frozen BK113.out 7
                  have hfz37_8 := blk_frozen BK113.out 8
                  have hfz37_9 := blk_frozen BK113.out 9
                  have hfz37_10 := blk_frozen BK113.out 10
                  have hcz38_0 : wc.cell? ⟨gb114, 0, none⟩ = some (.string (⟨#[]⟩ : ByteArray)) := (blk_cell BK114.out 0).trans rfl
                  have hcz38_1 : wc.cell? ⟨gb114, 1, none⟩ = some (.string (⟨#[]⟩ : ByteArray)) := (blk_cell BK114.out 1).trans rfl
                  have hcz38_2 : wc.cell? ⟨gb114, 2, none⟩ = some (.string (⟨#[]⟩ : ByteArray)) := (blk_cell BK114.out 2).trans rfl
                  have hcz38_3 : wc.cell? ⟨gb114, 3, none⟩ = some (.string (⟨#[]⟩ : ByteArray)) := (blk_cell BK114.out 3).trans rfl
                  have hcz38_4 : wc.cell? ⟨gb114, 4, none⟩ = some (.int .i64 0) := (blk_cell BK114.out 4).trans rfl
                  have hcz38_5 : wc.cell? ⟨gb114, 5, none⟩ = some (.int .i64 0) := (blk_cell BK114.out 5).trans rfl
                  have hcz38_6 : wc.cell? ⟨gb114, 6, none⟩ = some (.int .i64 0) := (blk_cell BK114.out 6).trans rfl
                  have hcz38_7 : wc.cell? ⟨gb114, 7, none⟩ = some (.bool false) := (blk_cell BK114.out 7).trans rfl
                  have hcz38_8 : wc.cell? ⟨gb114, 8, none⟩ = some (.bool false) := (blk_cell BK114.out 8).trans rfl
                  have hcz38_9 : wc.cell? ⟨gb114, 9, none⟩ = some (.bool false) := (blk_cell BK114.out 9).trans rfl
                  have hcz38_10 : wc.cell? ⟨gb114, 10, none⟩ = some (.int .i64 0) := (blk_cell BK114.out 10).trans rfl
                  have hfz38_0 := blk_frozen BK114.out 0
                  have hfz38_1 := blk_frozen BK114.out 1
                  have hfz38_2 := blk_frozen BK114.out 2
                  have hfz38_3 := blk_frozen BK114.out 3
                  have hfz38_4 := blk_frozen BK114.out 4
                  have hfz38_5 := blk_frozen BK114.out 5
                  have hfz38_6 := blk_frozen BK114.out 6
                  have hfz38_7 := blk_frozen BK114.out 7
                  have hfz38_8 := blk_frozen BK114.out 8
                  have hfz38_9 := blk_frozen BK114.out 9
                  have hfz38_10 := blk_frozen BK114.out 10
                  go_wp2
                  refine bodyPost_ret (results_ct rfl _ _ gb114 27 #[.string a2_0, .string a2_1, .string a2_2, .string a2_3, .int .i64 a2_4, .int .i64 a2_5, .int .i64 a2_6, .bool a2_7, .bool a2_8, .bool a2_9, .int .i64 a2_10] (0, 0) _ rfl xk Tryd.underlying27 rfl (by kernel_rfl)) rfl ?_
                  exact ⟨by first | rfl | (simp [errW_none, errW_some] <;> rfl) | (simp [*, errW_none, errW_some] <;> rfl), by repeat (first | (with_reducible first | exact HB.out | apply below_alloc | apply pw_below_drewN | apply below_drew1 | refine below_set ?_ GE113.out | refine below_set ?_ GE114.out) | exact HB.out)⟩

end Go.Proofs.YtccmackhhppbdaaDoor.Print
