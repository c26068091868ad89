/- Printed by a program of this claim's session (xprint.py): the machine's side: each Go function as a Lean function, and that a call of it comes to what that tells; the row of a statement. No condition. -/
import Derived.Test.YtccmackhhppbdaaDoorPrint0
import Derived.Test.YtccmackhhppbdaaDoorPrint6
import Derived.Test.YtccmackhhppbdaaDoorPrint7
namespace Go.Proofs.YtccmackhhppbdaaDoor.Print
open Go.RowKit Go.Proofs.YtccmackhhppbdaaDoorW.PrintWords Go.Proofs.YtccmackhhppbdaaDoorW.PrintLast Go.Proofs.YtccmackhhppbdaaDoorW.PrintMore
attribute [local go_sem] max2_int min2_int max_two min_two max_three min_three max_four min_four   -- for this text's walks alone
set_option linter.unusedVariables false
set_option linter.unusedSimpArgs false

/-! ### cookie_Right: function 16 -/
mutual
def cookie_Right.j0 : Nat → Bool → ByteArray → ByteArray → ByteArray → ByteArray → Int → Int → Int → Bool → Bool → Bool → Int → Option (Bool)
  | 0, _, _, _, _, _, _, _, _, _, _, _, _ => none
  | k + 1, x11, x132000, x132001, x132002, x132003, x132004, x132005, x132006, x132007, x132008, x132009, x132010 => if x11 = true then (some false) else ((path_Right.f x132001).bind fun t135 => (if t135 = true then ((ascii_Token.f x132002).bind fun t136 => (if t136 = true then (cookie_Right.j1 k (decide ((x132002.size : Int) > 64)) x132000 x132001 x132002 x132003 x132004 x132005 x132006 x132007 x132008 x132009 x132010) else (cookie_Right.j1 k (!t136) x132000 x132001 x132002 x132003 x132004 x132005 x132006 x132007 x132008 x132009 x132010))) else (cookie_Right.j1 k (!t135) x132000 x132001 x132002 x132003 x132004 x132005 x132006 x132007 x132008 x132009 x132010)))
def cookie_Right.j1 : Nat → Bool → ByteArray → ByteArray → ByteArray → ByteArray → Int → Int → Int → Bool → Bool → Bool → Int → Option (Bool)
  | 0, _, _, _, _, _, _, _, _, _, _, _, _ => none
  | k + 1, x25, x132000, x132001, x132002, x132003, x132004, x132005, x132006, x132007, x132008, x132009, x132010 => if x25 = true then (some false) else ((ascii_Octets.f x132003).bind fun t137 => (if t137 = true then (if (x132003.size : Int) > 128 then (some false) else ((cookie_within.f 253402300799 x132004 x132005 x132006).bind fun t138 => (if t138 = true then (if x132010 ≥ 0 then (some (decide (x132010 ≤ 3))) else (some false)) else (some false)))) else (some false)))
end
def cookie_Right.f (k : Nat) (a0_0 : ByteArray) (a0_1 : ByteArray) (a0_2 : ByteArray) (a0_3 : ByteArray) (a0_4 : Int) (a0_5 : Int) (a0_6 : Int) (a0_7 : Bool) (a0_8 : Bool) (a0_9 : Bool) (a0_10 : Int) : Option (Bool) := (host_Canon.f k a0_0).bind fun bt132 => (if bt132.2 = true then (if bt132.1.toList = a0_0.toList then ((host_Ip.f k bt132.1).bind fun t134 => (if t134 = true then (cookie_Right.j0 k (!a0_7) a0_0 a0_1 a0_2 a0_3 a0_4 a0_5 a0_6 a0_7 a0_8 a0_9 a0_10) else (cookie_Right.j0 k false a0_0 a0_1 a0_2 a0_3 a0_4 a0_5 a0_6 a0_7 a0_8 a0_9 a0_10))) else (cookie_Right.j0 k (bt132.1.toList != a0_0.toList) a0_0 a0_1 a0_2 a0_3 a0_4 a0_5 a0_6 a0_7 a0_8 a0_9 a0_10)) else (cookie_Right.j0 k (!bt132.2) a0_0 a0_1 a0_2 a0_3 a0_4 a0_5 a0_6 a0_7 a0_8 a0_9 a0_10))
theorem cookie_Right.mono_l : ∀ k, (∀ y0 y1 y2 y3 y4 y5 y6 y7 y8 y9 y10 y11, LeO (cookie_Right.j0 k y0 y1 y2 y3 y4 y5 y6 y7 y8 y9 y10 y11) (cookie_Right.j0 (k + 1) y0 y1 y2 y3 y4 y5 y6 y7 y8 y9 y10 y11)) ∧ (∀ y0 y1 y2 y3 y4 y5 y6 y7 y8 y9 y10 y11, LeO (cookie_Right.j1 k y0 y1 y2 y3 y4 y5 y6 y7 y8 y9 y10 y11) (cookie_Right.j1 (k + 1) y0 y1 y2 y3 y4 y5 y6 y7 y8 y9 y10 y11))
  | 0 => ⟨fun _ _ _ _ _ _ _ _ _ _ _ _ r h => by simp [cookie_Right.j0] at h, fun _ _ _ _ _ _ _ _ _ _ _ _ r h => by simp [cookie_Right.j1] at h⟩
  | k + 1 => by
    obtain ⟨ih0, ih1⟩ := cookie_Right.mono_l k
    refine ⟨?_, ?_⟩
    · intro y0 y1 y2 y3 y4 y5 y6 y7 y8 y9 y10 y11
      unfold cookie_Right.j0
      repeat' first
      | (with_reducible exact ih0 _ _ _ _ _ _ _ _ _ _ _ _)
      | (with_reducible exact ih1 _ _ _ _ _ _ _ _ _ _ _ _)
      | (with_reducible exact host_Canon.mono _ _)
      | (with_reducible exact host_Ip.mono _ _)
      | (with_reducible exact LeO.refl _)
      | (with_reducible exact LeO.none _)
      | (with_reducible refine LeO.ite ?_ ?_)
      | (with_reducible refine LeO.bind ?_ (fun _ => ?_))
      | exact ih0 _ _ _ _ _ _ _ _ _ _ _ _
      | exact ih1 _ _ _ _ _ _ _ _ _ _ _ _
      | exact host_Canon.mono _ _
      | exact host_Ip.mono _ _
      | exact LeO.none _
      | refine LeO.ite ?_ ?_
      | refine LeO.bind ?_ (fun _ => ?_)
    · intro y0 y1 y2 y3 y4 y5 y6 y7 y8 y9 y10 y11
      unfold cookie_Right.j1
      repeat' first
      | (with_reducible exact ih0 _ _ _ _ _ _ _ _ _ _ _ _)
      | (with_reducible exact ih1 _ _ _ _ _ _ _ _ _ _ _ _)
      | (with_reducible exact host_Canon.mono _ _)
      | (with_reducible exact host_Ip.mono _ _)
      | (with_reducible exact LeO.refl _)
      | (with_reducible exact LeO.none _)
      | (with_reducible refine LeO.ite ?_ ?_)
      | (with_reducible refine LeO.bind ?_ (fun _ => ?_))
      | exact ih0 _ _ _ _ _ _ _ _ _ _ _ _
      | exact ih1 _ _ _ _ _ _ _ _ _ _ _ _
      | exact host_Canon.mono _ _
      | exact host_Ip.mono _ _
      | exact LeO.none _
      | refine LeO.ite ?_ ?_
      | refine LeO.bind ?_ (fun _ => ?_)
theorem cookie_Right.mono : ∀ a0 a1 a2 a3 a4 a5 a6 a7 a8 a9 a10 k, LeO (cookie_Right.f k a0 a1 a2 a3 a4 a5 a6 a7 a8 a9 a10) (cookie_Right.f (k + 1) a0 a1 a2 a3 a4 a5 a6 a7 a8 a9 a10) := by
  intro a0 a1 a2 a3 a4 a5 a6 a7 a8 a9 a10 k
  obtain ⟨ih0, ih1⟩ := cookie_Right.mono_l k
  unfold cookie_Right.f
  repeat' first
      | (with_reducible exact ih0 _ _ _ _ _ _ _ _ _ _ _ _)
      | (with_reducible exact ih1 _ _ _ _ _ _ _ _ _ _ _ _)
      | (with_reducible exact host_Canon.mono _ _)
      | (with_reducible exact host_Ip.mono _ _)
      | (with_reducible exact LeO.refl _)
      | (with_reducible exact LeO.none _)
      | (with_reducible refine LeO.ite ?_ ?_)
      | (with_reducible refine LeO.bind ?_ (fun _ => ?_))
      | exact ih0 _ _ _ _ _ _ _ _ _ _ _ _
      | exact ih1 _ _ _ _ _ _ _ _ _ _ _ _
      | exact host_Canon.mono _ _
      | exact host_Ip.mono _ _
      | exact LeO.none _
      | refine LeO.ite ?_ ?_
      | refine LeO.bind ?_ (fun _ => ?_)
set_option maxHeartbeats 8000000 in
set_option maxRecDepth 100000 in
theorem cookie_Right.calls (k : Nat) (a0_0 : ByteArray) (a0_1 : ByteArray) (a0_2 : ByteArray) (a0_3 : ByteArray) (a0_4 : Int) (a0_5 : Int) (a0_6 : Int) (a0_7 : Bool) (a0_8 : Bool) (a0_9 : Bool) (a0_10 : Int) (r : Bool) (w : World) (hG : Aside0 (LaidG w)) (h : cookie_Right.f k a0_0 a0_1 a0_2 a0_3 a0_4 a0_5 a0_6 a0_7 a0_8 a0_9 a0_10 = some r) :
    Calls Tryd.prog 16 #[.agg #[.string a0_0, .string a0_1, .string a0_2, .string a0_3, .int .i64 a0_4, .int .i64 a0_5, .int .i64 a0_6, .bool a0_7, .bool a0_8, .bool a0_9, .int .i64 a0_10]] w fun e w' => e = .returned (.bool r) ∧ Below w.heap.size w w' := by
  have hu27 := Tryd.underlying27
  have hu61 := Tryd.underlying61
  have HB := Aside0.mk (Below.refl w.heap.size w)
  have H : ((host_Canon.f k a0_0).bind fun bt132 => (if bt132.2 = true then (if bt132.1.toList = a0_0.toList then ((host_Ip.f k bt132.1).bind fun t134 => (if t134 = true then (cookie_Right.j0 k (!a0_7) a0_0 a0_1 a0_2 a0_3 a0_4 a0_5 a0_6 a0_7 a0_8 a0_9 a0_10) else (cookie_Right.j0 k false a0_0 a0_1 a0_2 a0_3 a0_4 a0_5 a0_6 a0_7 a0_8 a0_9 a0_10))) else (cookie_Right.j0 k (bt132.1.toList != a0_0.toList) a0_0 a0_1 a0_2 a0_3 a0_4 a0_5 a0_6 a0_7 a0_8 a0_9 a0_10)) else (cookie_Right.j0 k (!bt132.2) a0_0 a0_1 a0_2 a0_3 a0_4 a0_5 a0_6 a0_7 a0_8 a0_9 a0_10))) = some r := h
  clear h
  replace H := Option.bind_eq_some_iff.mp H
  obtain ⟨⟨t132, t133⟩, A20, H⟩ := H
  replace H : (if t133 = true then (if t132.toList = a0_0.toList then ((host_Ip.f k t132).bind fun t134 => (if t134 = true then (cookie_Right.j0 k (!a0_7) a0_0 a0_1 a0_2 a0_3 a0_4 a0_5 a0_6 a0_7 a0_8 a0_9 a0_10) else (cookie_Right.j0 k false a0_0 a0_1 a0_2 a0_3 a0_4 a0_5 a0_6 a0_7 a0_8 a0_9 a0_10))) else (cookie_Right.j0 k (t132.toList != a0_0.toList) a0_0 a0_1 a0_2 a0_3 a0_4 a0_5 a0_6 a0_7 a0_8 a0_9 a0_10)) else (cookie_Right.j0 k (!t133) a0_0 a0_1 a0_2 a0_3 a0_4 a0_5 a0_6 a0_7 a0_8 a0_9 a0_10)) = some r := H
  have A2 := Aside0.mk A20
  clear A20
  have HC3 := Aside0.mk H
  clear H
  go_enter Tryd.func16, Tryd.ntmps16
  go_upto_if 11 with (first | ((with_reducible refine gate_dst (N := 1) rfl ?_); refine box_event ?hg (N := 1) ?hd (cs := #[.string a0_0, .string a0_1, .string a0_2, .string a0_3, .int .i64 a0_4, .int .i64 a0_5, .int .i64 a0_6, .bool a0_7, .bool a0_8, .bool a0_9, .int .i64 a0_10]) (t := 27) ?hr ?_; (case hd => rfl); (case hg => rfl); (case hr => first | (go_simp; done) | (go_simp; rfl)); intro gb131 hg w4 hbox hb; have n0_ := Aside0.mk (below_step xb hb); have n1_ := Aside0.mk (hbox); have n2_ := Aside0.mk ((by rw [hg]; exact (below_size xb) : w.heap.size ≤ gb131)); have n3_ := Aside0.mk ((by rw [hg]; exact (below_size xb) : w.heap.size ≤ gb131)); clear HB; have HB := n0_; have BK131 := n1_; have GW131 := n2_; have GE131 := n3_; clear n0_ n1_ n2_ n3_; clear hb hbox hg; have hcz5_0 : w4.cell? ⟨gb131, 0, none⟩ = some (.string a0_0) := (blk_cell BK131.out 0).trans rfl; have hcz5_1 : w4.cell? ⟨gb131, 1, none⟩ = some (.string a0_1) := (blk_cell BK131.out 1).trans rfl; have hcz5_2 : w4.cell? ⟨gb131, 2, none⟩ = some (.string a0_2) := (blk_cell BK131.out 2).trans rfl; have hcz5_3 : w4.cell? ⟨gb131, 3, none⟩ = some (.string a0_3) := (blk_cell BK131.out 3).trans rfl; have hcz5_4 : w4.cell? ⟨gb131, 4, none⟩ = some (.int .i64 a0_4) := (blk_cell BK131.out 4).trans rfl; have hcz5_5 : w4.cell? ⟨gb131, 5, none⟩ = some (.int .i64 a0_5) := (blk_cell BK131.out 5).trans rfl; have hcz5_6 : w4.cell? ⟨gb131, 6, none⟩ = some (.int .i64 a0_6) := (blk_cell BK131.out 6).trans rfl; have hcz5_7 : w4.cell? ⟨gb131, 7, none⟩ = some (.bool a0_7) := (blk_cell BK131.out 7).trans rfl; have hcz5_8 : w4.cell? ⟨gb131, 8, none⟩ = some (.bool a0_8) := (blk_cell BK131.out 8).trans rfl; have hcz5_9 : w4.cell? ⟨gb131, 9, none⟩ = some (.bool a0_9) := (blk_cell BK131.out 9).trans rfl; have hcz5_10 : w4.cell? ⟨gb131, 10, none⟩ = some (.int .i64 a0_10) := (blk_cell BK131.out 10).trans rfl; have hfz5_0 := blk_frozen BK131.out 0; have hfz5_1 := blk_frozen BK131.out 1; have hfz5_2 := blk_frozen BK131.out 2; have hfz5_3 := blk_frozen BK131.out 3; have hfz5_4 := blk_frozen BK131.out 4; have hfz5_5 := blk_frozen BK131.out 5; have hfz5_6 := blk_frozen BK131.out 6; have hfz5_7 := blk_frozen BK131.out 7; have hfz5_8 := blk_frozen BK131.out 8; have hfz5_9 := blk_frozen BK131.out 9; have hfz5_10 := blk_frozen BK131.out 10) | ((with_reducible refine gate_callee (f := 24) rfl ?_); refine goesL_ (some 8) rfl rfl Tryd.func24 (by kernel_rfl) rfl #[.string a0_0] rfl xg ?_; (with_reducible refine (host_Canon.calls k a0_0 t132 t133 _ (Aside0.mk (by first | exact hG.out | ((with_reducible repeat (first | apply LaidG.drewN | apply LaidG.drew | apply LaidG.alloc)); exact hG.out) | exact LaidG.below hG.out xb)) A2.out).mono ?_); rintro e w6 ⟨rfl, hb⟩; refine ⟨_, rfl, ?_⟩; have n0_ := blkB BK131 hb; have n1_ := Aside0.mk (below_step xb hb); clear BK131; clear HB; have BK131 := n0_; have HB := n1_; clear n0_ n1_; (try clear hb); (try clear hb2); (try clear hk); (try clear hi)))
  (try simp only [Act.put, List.setIfInBounds_toArray, List.set_cons_zero, List.set_cons_succ])
  go_cut [11] (fun v11 wc => ∃ (kq : Nat) (x11_2 : Bool), v11 = .bool x11_2 ∧ Aside0 (cookie_Right.j0 kq x11_2 a0_0 a0_1 a0_2 a0_3 a0_4 a0_5 a0_6 a0_7 a0_8 a0_9 a0_10 = some r) ∧ Aside0 (kq ≤ k) ∧ Aside0 (wc.heap[gb131]? = some (.cells #[.string a0_0, .string a0_1, .string a0_2, .string a0_3, .int .i64 a0_4, .int .i64 a0_5, .int .i64 a0_6, .bool a0_7, .bool a0_8, .bool a0_9, .int .i64 a0_10] 27 (0, 0))) ∧ Aside0 (Below w.heap.size w wc))
  case first =>
    have H := HC3.out
    clear HC3
    by_cases c7 : t133 = true
    · subst c7
      have H1 : (if t132.toList = a0_0.toList then ((host_Ip.f k t132).bind fun t134 => (if t134 = true then (cookie_Right.j0 k (!a0_7) a0_0 a0_1 a0_2 a0_3 a0_4 a0_5 a0_6 a0_7 a0_8 a0_9 a0_10) else (cookie_Right.j0 k false a0_0 a0_1 a0_2 a0_3 a0_4 a0_5 a0_6 a0_7 a0_8 a0_9 a0_10))) else (cookie_Right.j0 k (t132.toList != a0_0.toList) a0_0 a0_1 a0_2 a0_3 a0_4 a0_5 a0_6 a0_7 a0_8 a0_9 a0_10)) = some r := by rw [if_pos rfl] at H; exact H
      clear H
      have H := H1
      clear H1
      by_cases c8 : t132.toList = a0_0.toList
      · rw [if_pos c8] at H
        have c8b0 : (t132.toList == a0_0.toList) = true := beq_iff_eq.mpr c8
        have c8b1 : (t132.toList != a0_0.toList) = false := bne_eq_false_iff_eq.mpr c8
        clear c8
        (first | rw [c8b0] | (simp only [i64_w, i32_w]; rw [c8b0]) | skip)
        replace H := Option.bind_eq_some_iff.mp H
        obtain ⟨t134, A90, H⟩ := H
        replace H : (if t134 = true then (cookie_Right.j0 k (!a0_7) a0_0 a0_1 a0_2 a0_3 a0_4 a0_5 a0_6 a0_7 a0_8 a0_9 a0_10) else (cookie_Right.j0 k false a0_0 a0_1 a0_2 a0_3 a0_4 a0_5 a0_6 a0_7 a0_8 a0_9 a0_10)) = some r := H
        have A9 := Aside0.mk A90
        clear A90
        by_cases c10 : t134 = true
        · subst c10
          have H1 : (cookie_Right.j0 k (!a0_7) a0_0 a0_1 a0_2 a0_3 a0_4 a0_5 a0_6 a0_7 a0_8 a0_9 a0_10) = some r := by rw [if_pos rfl] at H; exact H
          clear H
          have H := H1
          clear H1
          have H' := Aside0.mk H
          clear H
          have hcz11_0 : w6.cell? ⟨gb131, 0, none⟩ = some (.string a0_0) := (blk_cell BK131.out 0).trans rfl
          have hcz11_1 : w6.cell? ⟨gb131, 1, none⟩ = some (.string a0_1) := (blk_cell BK131.out 1).trans rfl
          have hcz11_2 : w6.cell? ⟨gb131, 2, none⟩ = some (.string a0_2) := (blk_cell BK131.out 2).trans rfl
          have hcz11_3 : w6.cell? ⟨gb131, 3, none⟩ = some (.string a0_3) := (blk_cell BK131.out 3).trans rfl
          have hcz11_4 : w6.cell? ⟨gb131, 4, none⟩ = some (.int .i64 a0_4) := (blk_cell BK131.out 4).trans rfl
          have hcz11_5 : w6.cell? ⟨gb131, 5, none⟩ = some (.int .i64 a0_5) := (blk_cell BK131.out 5).trans rfl
          have hcz11_6 : w6.cell? ⟨gb131, 6, none⟩ = some (.int .i64 a0_6) := (blk_cell BK131.out 6).trans rfl
          have hcz11_7 : w6.cell? ⟨gb131, 7, none⟩ = some (.bool a0_7) := (blk_cell BK131.out 7).trans rfl
          have hcz11_8 : w6.cell? ⟨gb131, 8, none⟩ = some (.bool a0_8) := (blk_cell BK131.out 8).trans rfl
          have hcz11_9 : w6.cell? ⟨gb131, 9, none⟩ = some (.bool a0_9) := (blk_cell BK131.out 9).trans rfl
          have hcz11_10 : w6.cell? ⟨gb131, 10, none⟩ = some (.int .i64 a0_10) := (blk_cell BK131.out 10).trans rfl
          have hfz11_0 := blk_frozen BK131.out 0
          have hfz11_1 := blk_frozen BK131.out 1
          have hfz11_2 := blk_frozen BK131.out 2
          have hfz11_3 := blk_frozen BK131.out 3
          have hfz11_4 := blk_frozen BK131.out 4
          have hfz11_5 := blk_frozen BK131.out 5
          have hfz11_6 := blk_frozen BK131.out 6
          have hfz11_7 := blk_frozen BK131.out 7
          have hfz11_8 := blk_frozen BK131.out 8
          have hfz11_9 := blk_frozen BK131.out 9
          have hfz11_10 := blk_frozen BK131.out 10
          go_wp2_with (first | ((with_reducible refine gate_callee (f := 25) rfl ?_); refine goesL_ (some 19) rfl rfl Tryd.func25 (by kernel_rfl) rfl #[.string t132] rfl xg ?_; (with_reducible refine (host_Ip.calls k t132 true _ (Aside0.mk (by first | exact hG.out | ((with_reducible repeat (first | apply LaidG.drewN | apply LaidG.drew | apply LaidG.alloc)); exact hG.out) | exact LaidG.below hG.out xb)) A9.out).mono ?_); rintro e w12 ⟨rfl, hb⟩; refine ⟨_, rfl, ?_⟩; have n0_ := blkB BK131 hb; have n1_ := Aside0.mk (below_step xb hb); clear BK131; clear HB; have BK131 := n0_; have HB := n1_; clear n0_ n1_; (try clear hb); (try clear hb2); (try clear hk); (try clear hi); have hcz13_0 : w12.cell? ⟨gb131, 0, none⟩ = some (.string a0_0) := (blk_cell BK131.out 0).trans rfl; have hcz13_1 : w12.cell? ⟨gb131, 1, none⟩ = some (.string a0_1) := (blk_cell BK131.out 1).trans rfl; have hcz13_2 : w12.cell? ⟨gb131, 2, none⟩ = some (.string a0_2) := (blk_cell BK131.out 2).trans rfl; have hcz13_3 : w12.cell? ⟨gb131, 3, none⟩ = some (.string a0_3) := (blk_cell BK131.out 3).trans rfl; have hcz13_4 : w12.cell? ⟨gb131, 4, none⟩ = some (.int .i64 a0_4) := (blk_cell BK131.out 4).trans rfl; have hcz13_5 : w12.cell? ⟨gb131, 5, none⟩ = some (.int .i64 a0_5) := (blk_cell BK131.out 5).trans rfl; have hcz13_6 : w12.cell? ⟨gb131, 6, none⟩ = some (.int .i64 a0_6) := (blk_cell BK131.out 6).trans rfl; have hcz13_7 : w12.cell? ⟨gb131, 7, none⟩ = some (.bool a0_7) := (blk_cell BK131.out 7).trans rfl; have hcz13_8 : w12.cell? ⟨gb131, 8, none⟩ = some (.bool a0_8) := (blk_cell BK131.out 8).trans rfl; have hcz13_9 : w12.cell? ⟨gb131, 9, none⟩ = some (.bool a0_9) := (blk_cell BK131.out 9).trans rfl; have hcz13_10 : w12.cell? ⟨gb131, 10, none⟩ = some (.int .i64 a0_10) := (blk_cell BK131.out 10).trans rfl; have hfz13_0 := blk_frozen BK131.out 0; have hfz13_1 := blk_frozen BK131.out 1; have hfz13_2 := blk_frozen BK131.out 2; have hfz13_3 := blk_frozen BK131.out 3; have hfz13_4 := blk_frozen BK131.out 4; have hfz13_5 := blk_frozen BK131.out 5; have hfz13_6 := blk_frozen BK131.out 6; have hfz13_7 := blk_frozen BK131.out 7; have hfz13_8 := blk_frozen BK131.out 8; have hfz13_9 := blk_frozen BK131.out 9; have hfz13_10 := blk_frozen BK131.out 10))
          go_meet
          case rel => exact ⟨_, (!a0_7), (by first | rfl | (simp; done) | (simp [*]; done)), H', ⟨by first | omega | exact Nat.le_refl _⟩, ⟨xk⟩, ⟨xb⟩⟩
        · replace c10 := Bool.eq_false_iff.mpr c10
          subst c10
          have H1 : (cookie_Right.j0 k false a0_0 a0_1 a0_2 a0_3 a0_4 a0_5 a0_6 a0_7 a0_8 a0_9 a0_10) = some r := by rw [if_neg (show ¬ (false = true) by decide)] at H; exact H
          clear H
          have H := H1
          clear H1
          have H' := Aside0.mk H
          clear H
          have hcz14_0 : w6.cell? ⟨gb131, 0, none⟩ = some (.string a0_0) := (blk_cell BK131.out 0).trans rfl
          have hcz14_1 : w6.cell? ⟨gb131, 1, none⟩ = some (.string a0_1) := (blk_cell BK131.out 1).trans rfl
          have hcz14_2 : w6.cell? ⟨gb131, 2, none⟩ = some (.string a0_2) := (blk_cell BK131.out 2).trans rfl
          have hcz14_3 : w6.cell? ⟨gb131, 3, none⟩ = some (.string a0_3) := (blk_cell BK131.out 3).trans rfl
          have hcz14_4 : w6.cell? ⟨gb131, 4, none⟩ = some (.int .i64 a0_4) := (blk_cell BK131.out 4).trans rfl
          have hcz14_5 : w6.cell? ⟨gb131, 5, none⟩ = some (.int .i64 a0_5) := (blk_cell BK131.out 5).trans rfl
          have hcz14_6 : w6.cell? ⟨gb131, 6, none⟩ = some (.int .i64 a0_6) := (blk_cell BK131.out 6).trans rfl
          have hcz14_7 : w6.cell? ⟨gb131, 7, none⟩ = some (.bool a0_7) := (blk_cell BK131.out 7).trans rfl
          have hcz14_8 : w6.cell? ⟨gb131, 8, none⟩ = some (.bool a0_8) := (blk_cell BK131.out 8).trans rfl
          have hcz14_9 : w6.cell? ⟨gb131, 9, none⟩ = some (.bool a0_9) := (blk_cell BK131.out 9).trans rfl
          have hcz14_10 : w6.cell? ⟨gb131, 10, none⟩ = some (.int .i64 a0_10) := (blk_cell BK131.out 10).trans rfl
          have hfz14_0 := blk_frozen BK131.out 0
          have hfz14_1 := blk_frozen BK131.out 1
          have hfz14_2 := blk_frozen BK131.out 2
          have hfz14_3 := blk_frozen BK131.out 3
          have hfz14_4 := blk_frozen BK131.out 4
          have hfz14_5 := blk_frozen BK131.out 5
          have hfz14_6 := blk_frozen BK131.out 6
          have hfz14_7 := blk_frozen BK131.out 7
          have hfz14_8 := blk_frozen BK131.out 8
          have hfz14_9 := blk_frozen BK131.out 9
          have hfz14_10 := blk_frozen BK131.out 10
          go_wp2_with (first | ((with_reducible refine gate_callee (f := 25) rfl ?_); refine goesL_ (some 19) rfl rfl Tryd.func25 (by kernel_rfl) rfl #[.string t132] rfl xg ?_; (with_reducible refine (host_Ip.calls k t132 false _ (Aside0.mk (by first | exact hG.out | ((with_reducible repeat (first | apply LaidG.drewN | apply LaidG.drew | apply LaidG.alloc)); exact hG.out) | exact LaidG.below hG.out xb)) A9.out).mono ?_); rintro e w15 ⟨rfl, hb⟩; refine ⟨_, rfl, ?_⟩; have n0_ := blkB BK131 hb; have n1_ := Aside0.mk (below_step xb hb); clear BK131; clear HB; have BK131 := n0_; have HB := n1_; clear n0_ n1_; (try clear hb); (try clear hb2); (try clear hk); (try clear hi)))
          go_meet
          case rel => exact ⟨_, (false), (by first | rfl | (simp; done) | (simp [*]; done)), H', ⟨by first | omega | exact Nat.le_refl _⟩, ⟨xk⟩, ⟨xb⟩⟩
      · rw [if_neg c8] at H
        have c8b0 : (t132.toList == a0_0.toList) = false := beq_eq_false_iff_ne.mpr c8
        have c8b1 : (t132.toList != a0_0.toList) = true := bne_iff_ne.mpr c8
        (first | rw [c8b0] | (simp only [i64_w, i32_w]; rw [c8b0]) | skip)
        have H' := Aside0.mk H
        clear H
        have hcz16_0 : w6.cell? ⟨gb131, 0, none⟩ = some (.string a0_0) := (blk_cell BK131.out 0).trans rfl
        have hcz16_1 : w6.cell? ⟨gb131, 1, none⟩ = some (.string a0_1) := (blk_cell BK131.out 1).trans rfl
        have hcz16_2 : w6.cell? ⟨gb131, 2, none⟩ = some (.string a0_2) := (blk_cell BK131.out 2).trans rfl
        have hcz16_3 : w6.cell? ⟨gb131, 3, none⟩ = some (.string a0_3) := (blk_cell BK131.out 3).trans rfl
        have hcz16_4 : w6.cell? ⟨gb131, 4, none⟩ = some (.int .i64 a0_4) := (blk_cell BK131.out 4).trans rfl
        have hcz16_5 : w6.cell? ⟨gb131, 5, none⟩ = some (.int .i64 a0_5) := (blk_cell BK131.out 5).trans rfl
        have hcz16_6 : w6.cell? ⟨gb131, 6, none⟩ = some (.int .i64 a0_6) := (blk_cell BK131.out 6).trans rfl
        have hcz16_7 : w6.cell? ⟨gb131, 7, none⟩ = some (.bool a0_7) := (blk_cell BK131.out 7).trans rfl
        have hcz16_8 : w6.cell? ⟨gb131, 8, none⟩ = some (.bool a0_8) := (blk_cell BK131.out 8).trans rfl
        have hcz16_9 : w6.cell? ⟨gb131, 9, none⟩ = some (.bool a0_9) := (blk_cell BK131.out 9).trans rfl
        have hcz16_10 : w6.cell? ⟨gb131, 10, none⟩ = some (.int .i64 a0_10) := (blk_cell BK131.out 10).trans rfl
        have hfz16_0 := blk_frozen BK131.out 0
        have hfz16_1 := blk_frozen BK131.out 1
        have hfz16_2 := blk_frozen BK131.out 2
        have hfz16_3 := blk_frozen BK131.out 3
        have hfz16_4 := blk_frozen BK131.out 4
        have hfz16_5 := blk_frozen BK131.out 5
        have hfz16_6 := blk_frozen BK131.out 6
        have hfz16_7 := blk_frozen BK131.out 7
        have hfz16_8 := blk_frozen BK131.out 8
        have hfz16_9 := blk_frozen BK131.out 9
        have hfz16_10 := blk_frozen BK131.out 10
        go_wp2
        go_meet
        case rel => exact ⟨_, ((t132.toList != a0_0.toList)), (by first | rfl | (simp; done) | (simp [*]; done)), H', ⟨by first | omega | exact Nat.le_refl _⟩, ⟨xk⟩, ⟨xb⟩⟩
    · replace c7 := Bool.eq_false_iff.mpr c7
      subst c7
      have H1 : (cookie_Right.j0 k (!false) a0_0 a0_1 a0_2 a0_3 a0_4 a0_5 a0_6 a0_7 a0_8 a0_9 a0_10) = some r := by rw [if_neg (show ¬ (false = true) by decide)] at H; exact H
      clear H
      have H := H1
      clear H1
      have H' := Aside0.mk H
      clear H
      go_wp2
      go_meet
      case rel => exact ⟨_, (!false), (by first | rfl | (simp; done) | (simp [*]; done)), H', ⟨by first | omega | exact Nat.le_refl _⟩, ⟨xk⟩, ⟨xb⟩⟩
  case rest =>
    clear HC3
    try clear c1
    try clear c2
    try clear p2
    try clear p3
    try clear p6
    try clear c7
    try clear c8
    try clear c8b0
    try clear c8b1
    try clear c10
    try clear c16
    try clear hcz11_0
    try clear hcz11_1
    try clear hcz11_10
    try clear hcz11_2
    try clear hcz11_3
    try clear hcz11_4
    try clear hcz11_5
    try clear hcz11_6
    try clear hcz11_7
    try clear hcz11_8
    try clear hcz11_9
    try clear hcz13_0
    try clear hcz13_1
    try clear hcz13_10
    try clear hcz13_2
    try clear hcz13_3
    try clear hcz13_4
    try clear hcz13_5
    try clear hcz13_6
    try clear hcz13_7
    try clear hcz13_8
    try clear hcz13_9
    try clear hcz14_0
    try clear hcz14_1
    try clear hcz14_10
    try clear hcz14_2
    try clear hcz14_3
    try clear hcz14_4
    try clear hcz14_5
    try clear hcz14_6
    try clear hcz14_7
    try clear hcz14_8
    try clear hcz14_9
    try clear hcz16_0
    try clear hcz16_1
    try clear hcz16_10
    try clear hcz16_2
    try clear hcz16_3
    try clear hcz16_4
    try clear hcz16_5
    try clear hcz16_6
    try clear hcz16_7
    try clear hcz16_8
    try clear hcz16_9
    try clear hcz5_0
    try clear hcz5_1
    try clear hcz5_10
    try clear hcz5_2
    try clear hcz5_3
    try clear hcz5_4
    try clear hcz5_5
    try clear hcz5_6
    try clear hcz5_7
    try clear hcz5_8
    try clear hcz5_9
    try clear hfz11_0
    try clear hfz11_1
    try clear hfz11_10
    try clear hfz11_2
    try clear hfz11_3
    try clear hfz11_4
    try clear hfz11_5
    try clear hfz11_6
    try clear hfz11_7
    try clear hfz11_8
    try clear hfz11_9
    try clear hfz13_0
    try clear hfz13_1
    try clear hfz13_10
    try clear hfz13_2
    try clear hfz13_3
    try clear hfz13_4
    try clear hfz13_5
    try clear hfz13_6
    try clear hfz13_7
    try clear hfz13_8
    try clear hfz13_9
    try clear hfz14_0
    try clear hfz14_1
    try clear hfz14_10
    try clear hfz14_2
    try clear hfz14_3
    try clear hfz14_4
    try clear hfz14_5
    try clear hfz14_6
    try clear hfz14_7
    try clear hfz14_8
    try clear hfz14_9
    try clear hfz16_0
    try clear hfz16_1
    try clear hfz16_10
    try clear hfz16_2
    try clear hfz16_3
    try clear hfz16_4
    try clear hfz16_5
    try clear hfz16_6
    try clear hfz16_7
    try clear hfz16_8
    try clear hfz16_9
    try clear hfz5_0
    try clear hfz5_1
    try clear hfz5_10
    try clear hfz5_2
    try clear hfz5_3
    try clear hfz5_4
    try clear hfz5_5
    try clear hfz5_6
    try clear hfz5_7
    try clear hfz5_8
    try clear hfz5_9
    obtain ⟨kq, x11_2, rfl, HA, HJ2, BK131, HB⟩ := hcut
    cases kq with
    | zero => exact absurd HA.out (by simp [cookie_Right.j0])
    | succ kj2 =>
      have H := HA.out
      clear HA
      simp only [cookie_Right.j0] at H
      by_cases c17 : x11_2 = true
      · subst c17
        have H1 : (some false) = some r := by rw [if_pos rfl] at H; exact H
        clear H
        have H := H1
        clear H1
        obtain rfl := Option.some.inj H
        go_wp2
        go_ret
        exact ⟨by first | rfl | (simp [errW_none, errW_some] <;> rfl) | (simp [*, errW_none, errW_some] <;> rfl), by repeat (first | (with_reducible first | exact HB.out | apply below_alloc | apply pw_below_drewN | apply below_drew1 | refine below_set ?_ GE131.out) | exact HB.out)⟩
      · replace c17 := Bool.eq_false_iff.mpr c17
        subst c17
        have H1 : ((path_Right.f a0_1).bind fun t135 => (if t135 = true then ((ascii_Token.f a0_2).bind fun t136 => (if t136 = true then (cookie_Right.j1 kj2 (decide ((a0_2.size : Int) > 64)) a0_0 a0_1 a0_2 a0_3 a0_4 a0_5 a0_6 a0_7 a0_8 a0_9 a0_10) else (cookie_Right.j1 kj2 (!t136) a0_0 a0_1 a0_2 a0_3 a0_4 a0_5 a0_6 a0_7 a0_8 a0_9 a0_10))) else (cookie_Right.j1 kj2 (!t135) a0_0 a0_1 a0_2 a0_3 a0_4 a0_5 a0_6 a0_7 a0_8 a0_9 a0_10))) = some r := by rw [if_neg (show ¬ (false = true) by decide)] at H; exact H
        clear H
        have H := H1
        clear H1
        replace H := Option.bind_eq_some_iff.mp H
        obtain ⟨t135, A180, H⟩ := H
        replace H : (if t135 = true then ((ascii_Token.f a0_2).bind fun t136 => (if t136 = true then (cookie_Right.j1 kj2 (decide ((a0_2.size : Int) > 64)) a0_0 a0_1 a0_2 a0_3 a0_4 a0_5 a0_6 a0_7 a0_8 a0_9 a0_10) else (cookie_Right.j1 kj2 (!t136) a0_0 a0_1 a0_2 a0_3 a0_4 a0_5 a0_6 a0_7 a0_8 a0_9 a0_10))) else (cookie_Right.j1 kj2 (!t135) a0_0 a0_1 a0_2 a0_3 a0_4 a0_5 a0_6 a0_7 a0_8 a0_9 a0_10)) = some r := H
        have A18 := Aside0.mk A180
        clear A180
        have HC19 := Aside0.mk H
        clear H
        have hcz20_0 : wc.cell? ⟨gb131, 0, none⟩ = some (.string a0_0) := (blk_cell BK131.out 0).trans rfl
        have hcz20_1 : wc.cell? ⟨gb131, 1, none⟩ = some (.string a0_1) := (blk_cell BK131.out 1).trans rfl
        have hcz20_2 : wc.cell? ⟨gb131, 2, none⟩ = some (.string a0_2) := (blk_cell BK131.out 2).trans rfl
        have hcz20_3 : wc.cell? ⟨gb131, 3, none⟩ = some (.string a0_3) := (blk_cell BK131.out 3).trans rfl
        have hcz20_4 : wc.cell? ⟨gb131, 4, none⟩ = some (.int .i64 a0_4) := (blk_cell BK131.out 4).trans rfl
        have hcz20_5 : wc.cell? ⟨gb131, 5, none⟩ = some (.int .i64 a0_5) := (blk_cell BK131.out 5).trans rfl
        have hcz20_6 : wc.cell? ⟨gb131, 6, none⟩ = some (.int .i64 a0_6) := (blk_cell BK131.out 6).trans rfl
        have hcz20_7 : wc.cell? ⟨gb131, 7, none⟩ = some (.bool a0_7) := (blk_cell BK131.out 7).trans rfl
        have hcz20_8 : wc.cell? ⟨gb131, 8, none⟩ = some (.bool a0_8) := (blk_cell BK131.out 8).trans rfl
        have hcz20_9 : wc.cell? ⟨gb131, 9, none⟩ = some (.bool a0_9) := (blk_cell BK131.out 9).trans rfl
        have hcz20_10 : wc.cell? ⟨gb131, 10, none⟩ = some (.int .i64 a0_10) := (blk_cell BK131.out 10).trans rfl
        have hfz20_0 := blk_frozen BK131.out 0
        have hfz20_1 := blk_frozen BK131.out 1
        have hfz20_2 := blk_frozen BK131.out 2
        have hfz20_3 := blk_frozen BK131.out 3
        have hfz20_4 := blk_frozen BK131.out 4
        have hfz20_5 := blk_frozen BK131.out 5
        have hfz20_6 := blk_frozen BK131.out 6
        have hfz20_7 := blk_frozen BK131.out 7
        have hfz20_8 := blk_frozen BK131.out 8
        have hfz20_9 := blk_frozen BK131.out 9
        have hfz20_10 := blk_frozen BK131.out 10
        go_upto_if 25 with (first | ((with_reducible refine gate_callee (f := 26) rfl ?_); refine goesL_ (some 28) rfl rfl Tryd.func26 (by kernel_rfl) rfl #[.string a0_1] rfl xg ?_; (with_reducible refine (path_Right.calls a0_1 t135 _ A18.out).mono ?_); rintro e w' ⟨rfl, ⟨nd, rfl⟩⟩; refine ⟨_, rfl, ?_⟩))
        (try simp only [Act.put, List.setIfInBounds_toArray, List.set_cons_zero, List.set_cons_succ])
        go_cut [25] (fun v25 wc => ∃ (kq : Nat) (x25_18 : Bool), v25 = .bool x25_18 ∧ Aside0 (cookie_Right.j1 kq x25_18 a0_0 a0_1 a0_2 a0_3 a0_4 a0_5 a0_6 a0_7 a0_8 a0_9 a0_10 = some r) ∧ Aside0 (kq ≤ kj2) ∧ Aside0 (wc.heap[gb131]? = some (.cells #[.string a0_0, .string a0_1, .string a0_2, .string a0_3, .int .i64 a0_4, .int .i64 a0_5, .int .i64 a0_6, .bool a0_7, .bool a0_8, .bool a0_9, .int .i64 a0_10] 27 (0, 0))) ∧ Aside0 (Below w.heap.size w wc))
        case first =>
          have H := HC19.out
          clear HC19
          by_cases c21 : t135 = true
          · subst c21
            have H1 : ((ascii_Token.f a0_2).bind fun t136 => (if t136 = true then (cookie_Right.j1 kj2 (decide ((a0_2.size : Int) > 64)) a0_0 a0_1 a0_2 a0_3 a0_4 a0_5 a0_6 a0_7 a0_8 a0_9 a0_10) else (cookie_Right.j1 kj2 (!t136) a0_0 a0_1 a0_2 a0_3 a0_4 a0_5 a0_6 a0_7 a0_8 a0_9 a0_10))) = some r := by rw [if_pos rfl] at H; exact H
            clear H
            have H := H1
            clear H1
            replace H := Option.bind_eq_some_iff.mp H
            obtain ⟨t136, A220, H⟩ := H
            replace H : (if t136 = true then (cookie_Right.j1 kj2 (decide ((a0_2.size : Int) > 64)) a0_0 a0_1 a0_2 a0_3 a0_4 a0_5 a0_6 a0_7 a0_8 a0_9 a0_10) else (cookie_Right.j1 kj2 (!t136) a0_0 a0_1 a0_2 a0_3 a0_4 a0_5 a0_6 a0_7 a0_8 a0_9 a0_10)) = some r := H
            have A22 := Aside0.mk A220
            clear A220
            by_cases c23 : t136 = true
            · subst c23
              have H1 : (cookie_Right.j1 kj2 (decide ((a0_2.size : Int) > 64)) a0_0 a0_1 a0_2 a0_3 a0_4 a0_5 a0_6 a0_7 a0_8 a0_9 a0_10) = some r := by rw [if_pos rfl] at H; exact H
              clear H
              have H := H1
              clear H1
              have H' := Aside0.mk H
              clear H
              have hcz24_0 : wc.cell? ⟨gb131, 0, none⟩ = some (.string a0_0) := (blk_cell BK131.out 0).trans rfl
              have hcz24_1 : wc.cell? ⟨gb131, 1, none⟩ = some (.string a0_1) := (blk_cell BK131.out 1).trans rfl
              have hcz24_2 : wc.cell? ⟨gb131, 2, none⟩ = some (.string a0_2) := (blk_cell BK131.out 2).trans rfl
              have hcz24_3 : wc.cell? ⟨gb131, 3, none⟩ = some (.string a0_3) := (blk_cell BK131.out 3).trans rfl
              have hcz24_4 : wc.cell? ⟨gb131, 4, none⟩ = some (.int .i64 a0_4) := (blk_cell BK131.out 4).trans rfl
              have hcz24_5 : wc.cell? ⟨gb131, 5, none⟩ = some (.int .i64 a0_5) := (blk_cell BK131.out 5).trans rfl
              have hcz24_6 : wc.cell? ⟨gb131, 6, none⟩ = some (.int .i64 a0_6) := (blk_cell BK131.out 6).trans rfl
              have hcz24_7 : wc.cell? ⟨gb131, 7, none⟩ = some (.bool a0_7) := (blk_cell BK131.out 7).trans rfl
              have hcz24_8 : wc.cell? ⟨gb131, 8, none⟩ = some (.bool a0_8) := (blk_cell BK131.out 8).trans rfl
              have hcz24_9 : wc.cell? ⟨gb131, 9, none⟩ = some (.bool a0_9) := (blk_cell BK131.out 9).trans rfl
              have hcz24_10 : wc.cell? ⟨gb131, 10, none⟩ = some (.int .i64 a0_10) := (blk_cell BK131.out 10).trans rfl
              have hfz24_0 := blk_frozen BK131.out 0
              have hfz24_1 := blk_frozen BK131.out 1
              have hfz24_2 := blk_frozen BK131.out 2
              have hfz24_3 := blk_frozen BK131.out 3
              have hfz24_4 := blk_frozen BK131.out 4
              have hfz24_5 := blk_frozen BK131.out 5
              have hfz24_6 := blk_frozen BK131.out 6
              have hfz24_7 := blk_frozen BK131.out 7
              have hfz24_8 := blk_frozen BK131.out 8
              have hfz24_9 := blk_frozen BK131.out 9
              have hfz24_10 := blk_frozen BK131.out 10
              go_wp2_with (first | ((with_reducible refine gate_callee (f := 27) rfl ?_); refine goesL_ (some 32) rfl rfl Tryd.func27 (by kernel_rfl) rfl #[.string a0_2] rfl xg ?_; (with_reducible refine (ascii_Token.calls a0_2 true _ A22.out).mono ?_); rintro e w' ⟨rfl, ⟨nd, rfl⟩⟩; refine ⟨_, rfl, ?_⟩))
              go_meet
              case rel => exact ⟨_, (decide ((a0_2.size : Int) > 64)), (by first | rfl | (simp; done) | (simp [*]; done)), H', ⟨by have := HJ2.out; first | omega | exact Nat.le_refl _⟩, ⟨xk⟩, ⟨xb⟩⟩
            · replace c23 := Bool.eq_false_iff.mpr c23
              subst c23
              have H1 : (cookie_Right.j1 kj2 (!false) a0_0 a0_1 a0_2 a0_3 a0_4 a0_5 a0_6 a0_7 a0_8 a0_9 a0_10) = some r := by rw [if_neg (show ¬ (false = true) by decide)] at H; exact H
              clear H
              have H := H1
              clear H1
              have H' := Aside0.mk H
              clear H
              have hcz25_0 : wc.cell? ⟨gb131, 0, none⟩ = some (.string a0_0) := (blk_cell BK131.out 0).trans rfl
              have hcz25_1 : wc.cell? ⟨gb131, 1, none⟩ = some (.string a0_1) := (blk_cell BK131.out 1).trans rfl
              have hcz25_2 : wc.cell? ⟨gb131, 2, none⟩ = some (.string a0_2) := (blk_cell BK131.out 2).trans rfl
              have hcz25_3 : wc.cell? ⟨gb131, 3, none⟩ = some (.string a0_3) := (blk_cell BK131.out 3).trans rfl
              have hcz25_4 : wc.cell? ⟨gb131, 4, none⟩ = some (.int .i64 a0_4) := (blk_cell BK131.out 4).trans rfl
              have hcz25_5 : wc.cell? ⟨gb131, 5, none⟩ = some (.int .i64 a0_5) := (blk_cell BK131.out 5).trans rfl
              have hcz25_6 : wc.cell? ⟨gb131, 6, none⟩ = some (.int .i64 a0_6) := (blk_cell BK131.out 6).trans rfl
              have hcz25_7 : wc.cell? ⟨gb131, 7, none⟩ = some (.bool a0_7) := (blk_cell BK131.out 7).trans rfl
              have hcz25_8 : wc.cell? ⟨gb131, 8, none⟩ = some (.bool a0_8) := (blk_cell BK131.out 8).trans rfl
              have hcz25_9 : wc.cell? ⟨gb131, 9, none⟩ = some (.bool a0_9) := (blk_cell BK131.out 9).trans rfl
              have hcz25_10 : wc.cell? ⟨gb131, 10, none⟩ = some (.int .i64 a0_10) := (blk_cell BK131.out 10).trans rfl
              have hfz25_0 := blk_frozen BK131.out 0
              have hfz25_1 := blk_frozen BK131.out 1
              have hfz25_2 := blk_frozen BK131.out 2
              have hfz25_3 := blk_frozen BK131.out 3
              have hfz25_4 := blk_frozen BK131.out 4
              have hfz25_5 := blk_frozen BK131.out 5
              have hfz25_6 := blk_frozen BK131.out 6
              have hfz25_7 := blk_frozen BK131.out 7
              have hfz25_8 := blk_frozen BK131.out 8
              have hfz25_9 := blk_frozen BK131.out 9
              have hfz25_10 := blk_frozen BK131.out 10
              go_wp2_with (first | ((with_reducible refine gate_callee (f := 27) rfl ?_); refine goesL_ (some 32) rfl rfl Tryd.func27 (by kernel_rfl) rfl #[.string a0_2] rfl xg ?_; (with_reducible refine (ascii_Token.calls a0_2 false _ A22.out).mono ?_); rintro e w' ⟨rfl, ⟨nd, rfl⟩⟩; refine ⟨_, rfl, ?_⟩))
              go_meet
              case rel => exact ⟨_, (!false), (by first | rfl | (simp; done) | (simp [*]; done)), H', ⟨by have := HJ2.out; first | omega | exact Nat.le_refl _⟩, ⟨xk⟩, ⟨xb⟩⟩
          · replace c21 := Bool.eq_false_iff.mpr c21
            subst c21
            have H1 : (cookie_Right.j1 kj2 (!false) a0_0 a0_1 a0_2 a0_3 a0_4 a0_5 a0_6 a0_7 a0_8 a0_9 a0_10) = some r := by rw [if_neg (show ¬ (false = true) by decide)] at H; exact H
            clear H
            have H := H1
            clear H1
            have H' := Aside0.mk H
            clear H
            go_wp2
            go_meet
            case rel => exact ⟨_, (!false), (by first | rfl | (simp; done) | (simp [*]; done)), H', ⟨by have := HJ2.out; first | omega | exact Nat.le_refl _⟩, ⟨xk⟩, ⟨xb⟩⟩
        case rest =>
          clear HC19
          try clear c1
          try clear c2
          try clear p2
          try clear p3
          try clear p6
          try clear c7
          try clear c8
          try clear c8b0
          try clear c8b1
          try clear c10
          try clear c16
          try clear c17
          try clear c21
          try clear c23
          try clear c24
          try clear c25
          try clear hcz11_0
          try clear hcz11_1
          try clear hcz11_10
          try clear hcz11_2
          try clear hcz11_3
          try clear hcz11_4
          try clear hcz11_5
          try clear hcz11_6
          try clear hcz11_7
          try clear hcz11_8
          try clear hcz11_9
          try clear hcz13_0
          try clear hcz13_1
          try clear hcz13_10
          try clear hcz13_2
          try clear hcz13_3
          try clear hcz13_4
          try clear hcz13_5
          try clear hcz13_6
          try clear hcz13_7
          try clear hcz13_8
          try clear hcz13_9
          try clear hcz14_0
          try clear hcz14_1
          try clear hcz14_10
          try clear hcz14_2
          try clear hcz14_3
          try clear hcz14_4
          try clear hcz14_5
          try clear hcz14_6
          try clear hcz14_7
          try clear hcz14_8
          try clear hcz14_9
          try clear hcz16_0
          try clear hcz16_1
          try clear hcz16_10
          try clear hcz16_2
          try clear hcz16_3
          try clear hcz16_4
          try clear hcz16_5
          try clear hcz16_6
          try clear hcz16_7
          try clear hcz16_8
          try clear hcz16_9
          try clear hcz20_0
          try clear hcz20_1
          try clear hcz20_10
          try clear hcz20_2
          try clear hcz20_3
          try clear hcz20_4
          try clear hcz20_5
          try clear hcz20_6
          try clear hcz20_7
          try clear hcz20_8
          try clear hcz20_9
          try clear hcz24_0
          try clear hcz24_1
          try clear hcz24_10
          try clear hcz24_2
          try clear hcz24_3
          try clear hcz24_4
          try clear hcz24_5
          try clear hcz24_6
          try clear hcz24_7
          try clear hcz24_8
          try clear hcz24_9
          try clear hcz25_0
          try clear hcz25_1
          try clear hcz25_10
          try clear hcz25_2
          try clear hcz25_3
          try clear hcz25_4
          try clear hcz25_5
          try clear hcz25_6
          try clear hcz25_7
          try clear hcz25_8
          try clear hcz25_9
          try clear hcz5_0
          try clear hcz5_1
          try clear hcz5_10
          try clear hcz5_2
          try clear hcz5_3
          try clear hcz5_4
          try clear hcz5_5
          try clear hcz5_6
          try clear hcz5_7
          try clear hcz5_8
          try clear hcz5_9
          try clear hfz11_0
          try clear hfz11_1
          try clear hfz11_10
          try clear hfz11_2
          try clear hfz11_3
          try clear hfz11_4
          try clear hfz11_5
          try clear hfz11_6
          try clear hfz11_7
          try clear hfz11_8
          try clear hfz11_9
          try clear hfz13_0
          try clear hfz13_1
          try clear hfz13_10
          try clear hfz13_2
          try clear hfz13_3
          try clear hfz13_4
          try clear hfz13_5
          try clear hfz13_6
          try clear hfz13_7
          try clear hfz13_8
          try clear hfz13_9
          try clear hfz14_0
          try clear hfz14_1
          try clear hfz14_10
          try clear hfz14_2
          try clear hfz14_3
          try clear hfz14_4
          try clear hfz14_5
          try clear hfz14_6
          try clear hfz14_7
          try clear hfz14_8
          try clear hfz14_9
          try clear hfz16_0
          try clear hfz16_1
          try clear hfz16_10
          try clear hfz16_2
          try clear hfz16_3
          try clear hfz16_4
          try clear hfz16_5
          try clear hfz16_6
          try clear hfz16_7
          try clear hfz16_8
          try clear hfz16_9
          try clear hfz20_0
          try clear hfz20_1
          try clear hfz20_10
          try clear hfz20_2
          try clear hfz20_3
          try clear hfz20_4
          try clear hfz20_5
          try clear hfz20_6
          try clear hfz20_7
          try clear hfz20_8
          try clear hfz20_9
          try clear hfz24_0
          try clear hfz24_1
          try clear hfz24_10
          try clear hfz24_2
          try clear hfz24_3
          try clear hfz24_4
          try clear hfz24_5
          try clear hfz24_6
          try clear hfz24_7
          try clear hfz24_8
          try clear hfz24_9
          try clear hfz25_0
          try clear hfz25_1
          try clear hfz25_10
          try clear hfz25_2
          try clear hfz25_3
          try clear hfz25_4
          try clear hfz25_5
          try clear hfz25_6
          try clear hfz25_7
          try clear hfz25_8
          try clear hfz25_9
          try clear hfz5_0
          try clear hfz5_1
          try clear hfz5_10
          try clear hfz5_2
          try clear hfz5_3
          try clear hfz5_4
          try clear hfz5_5
          try clear hfz5_6
          try clear hfz5_7
          try clear hfz5_8
          try clear hfz5_9
          try clear p2
          try clear p3
          try clear p6
          obtain ⟨kq, x25_18, rfl, HA, HJ18, BK131, HB⟩ := hcut
          cases kq with
          | zero => exact absurd HA.out (by simp [cookie_Right.j1])
          | succ kj18 =>
            have H := HA.out
            clear HA
            simp only [cookie_Right.j1] at H
            by_cases c26 : x25_18 = true
            · subst c26
              have H1 : (some false) = some r := by rw [if_pos rfl] at H; exact H
              clear H
              have H := H1
              clear H1
              obtain rfl := Option.some.inj H
              go_wp2
              go_ret
              exact ⟨by first | rfl | (simp [errW_none, errW_some] <;> rfl) | (simp [*, errW_none, errW_some] <;> rfl), by repeat (first | (with_reducible first | exact HB.out | apply below_alloc | apply pw_below_drewN | apply below_drew1 | refine below_set ?_ GE131.out) | exact HB.out)⟩
            · replace c26 := Bool.eq_false_iff.mpr c26
              subst c26
              have H1 : ((ascii_Octets.f a0_3).bind fun t137 => (if t137 = true then (if (a0_3.size : Int) > 128 then (some false) else ((cookie_within.f 253402300799 a0_4 a0_5 a0_6).bind fun t138 => (if t138 = true then (if a0_10 ≥ 0 then (some (decide (a0_10 ≤ 3))) else (some false)) else (some false)))) else (some false))) = some r := by rw [if_neg (show ¬ (false = true) by decide)] at H; exact H
              clear H
              have H := H1
              clear H1
              replace H := Option.bind_eq_some_iff.mp H
              obtain ⟨t137, A270, H⟩ := H
              replace H : (if t137 = true then (if (a0_3.size : Int) > 128 then (some false) else ((cookie_within.f 253402300799 a0_4 a0_5 a0_6).bind fun t138 => (if t138 = true then (if a0_10 ≥ 0 then (some (decide (a0_10 ≤ 3))) else (some false)) else (some false)))) else (some false)) = some r := H
              have A27 := Aside0.mk A270
              clear A270
              by_cases c28 : t137 = true
              · subst c28
                have H1 : (if (a0_3.size : Int) > 128 then (some false) else ((cookie_within.f 253402300799 a0_4 a0_5 a0_6).bind fun t138 => (if t138 = true then (if a0_10 ≥ 0 then (some (decide (a0_10 ≤ 3))) else (some false)) else (some false)))) = some r := by rw [if_pos rfl] at H; exact H
                clear H
                have H := H1
                clear H1
                by_cases c29 : (a0_3.size : Int) > 128
                · rw [if_pos c29] at H
                  have c29b0 : decide (128 < (a0_3.size : Int)) = true := decide_eq_true c29
                  have c29b1 : decide (128 < a0_3.size) = true := decide_eq_true (by omega)
                  clear c29
                  obtain rfl := Option.some.inj H
                  have hcz30_0 : wc.cell? ⟨gb131, 0, none⟩ = some (.string a0_0) := (blk_cell BK131.out 0).trans rfl
                  have hcz30_1 : wc.cell? ⟨gb131, 1, none⟩ = some (.string a0_1) := (blk_cell BK131.out 1).trans rfl
                  have hcz30_2 : wc.cell? ⟨gb131, 2, none⟩ = some (.string a0_2) := (blk_cell BK131.out 2).trans rfl
                  have hcz30_3 : wc.cell? ⟨gb131, 3, none⟩ = some (.string a0_3) := (blk_cell BK131.out 3).trans rfl
                  have hcz30_4 : wc.cell? ⟨gb131, 4, none⟩ = some (.int .i64 a0_4) := (blk_cell BK131.out 4).trans rfl
                  have hcz30_5 : wc.cell? ⟨gb131, 5, none⟩ = some (.int .i64 a0_5) := (blk_cell BK131.out 5).trans rfl
                  have hcz30_6 : wc.cell? ⟨gb131, 6, none⟩ = some (.int .i64 a0_6) := (blk_cell BK131.out 6).trans rfl
                  have hcz30_7 : wc.cell? ⟨gb131, 7, none⟩ = some (.bool a0_7) := (blk_cell BK131.out 7).trans rfl
                  have hcz30_8 : wc.cell? ⟨gb131, 8, none⟩ = some (.bool a0_8) := (blk_cell BK131.out 8).trans rfl
                  have hcz30_9 : wc.cell? ⟨gb131, 9, none⟩ = some (.bool a0_9) := (blk_cell BK131.out 9).trans rfl
                  have hcz30_10 : wc.cell? ⟨gb131, 10, none⟩ = some (.int .i64 a0_10) := (blk_cell BK131.out 10).trans rfl
                  have hfz30_0 := blk_frozen BK131.out 0
                  have hfz30_1 := blk_frozen BK131.out 1
                  have hfz30_2 := blk_frozen BK131.out 2
                  have hfz30_3 := blk_frozen BK131.out 3
                  have hfz30_4 := blk_frozen BK131.out 4
                  have hfz30_5 := blk_frozen BK131.out 5
                  have hfz30_6 := blk_frozen BK131.out 6
                  have hfz30_7 := blk_frozen BK131.out 7
                  have hfz30_8 := blk_frozen BK131.out 8
                  have hfz30_9 := blk_frozen BK131.out 9
                  have hfz30_10 := blk_frozen BK131.out 10
                  go_wp2_with (first | ((with_reducible refine gate_callee (f := 28) rfl ?_); refine goesL_ (some 41) rfl rfl Tryd.func28 (by kernel_rfl) rfl #[.string a0_3] rfl xg ?_; (with_reducible refine (ascii_Octets.calls a0_3 true _ A27.out).mono ?_); rintro e w' ⟨rfl, ⟨nd, rfl⟩⟩; refine ⟨_, rfl, ?_⟩))
                  go_ret
                  exact ⟨by first | rfl | (simp [errW_none, errW_some] <;> rfl) | (simp [*, errW_none, errW_some] <;> rfl), by repeat (first | (with_reducible first | exact HB.out | apply below_alloc | apply pw_below_drewN | apply below_drew1 | refine below_set ?_ GE131.out) | exact HB.out)⟩
                · rw [if_neg c29] at H
                  have c29b0 : decide (128 < (a0_3.size : Int)) = false := decide_eq_false c29
                  have c29b1 : decide (128 < a0_3.size) = false := decide_eq_false (by omega)
                  clear c29
                  replace H := Option.bind_eq_some_iff.mp H
                  obtain ⟨t138, A310, H⟩ := H
                  replace H : (if t138 = true then (if a0_10 ≥ 0 then (some (decide (a0_10 ≤ 3))) else (some false)) else (some false)) = some r := H
                  have A31 := Aside0.mk A310
                  clear A310
                  by_cases c32 : t138 = true
                  · subst c32
                    have H1 : (if a0_10 ≥ 0 then (some (decide (a0_10 ≤ 3))) else (some false)) = some r := by rw [if_pos rfl] at H; exact H
                    clear H
                    have H := H1
                    clear H1
                    by_cases c33 : a0_10 ≥ 0
                    · rw [if_pos c33] at H
                      have c33b0 : decide (0 ≤ a0_10) = true := decide_eq_true c33
                      clear c33
                      obtain rfl := Option.some.inj H
                      have hcz34_0 : wc.cell? ⟨gb131, 0, none⟩ = some (.string a0_0) := (blk_cell BK131.out 0).trans rfl
                      have hcz34_1 : wc.cell? ⟨gb131, 1, none⟩ = some (.string a0_1) := (blk_cell BK131.out 1).trans rfl
                      have hcz34_2 : wc.cell? ⟨gb131, 2, none⟩ = some (.string a0_2) := (blk_cell BK131.out 2).trans rfl
                      have hcz34_3 : wc.cell? ⟨gb131, 3, none⟩ = some (.string a0_3) := (blk_cell BK131.out 3).trans rfl
                      have hcz34_4 : wc.cell? ⟨gb131, 4, none⟩ = some (.int .i64 a0_4) := (blk_cell BK131.out 4).trans rfl
                      have hcz34_5 : wc.cell? ⟨gb131, 5, none⟩ = some (.int .i64 a0_5) := (blk_cell BK131.out 5).trans rfl
                      have hcz34_6 : wc.cell? ⟨gb131, 6, none⟩ = some (.int .i64 a0_6) := (blk_cell BK131.out 6).trans rfl
                      have hcz34_7 : wc.cell? ⟨gb131, 7, none⟩ = some (.bool a0_7) := (blk_cell BK131.out 7).trans rfl
                      have hcz34_8 : wc.cell? ⟨gb131, 8, none⟩ = some (.bool a0_8) := (blk_cell BK131.out 8).trans rfl
                      have hcz34_9 : wc.cell? ⟨gb131, 9, none⟩ = some (.bool a0_9) := (blk_cell BK131.out 9).trans rfl
                      have hcz34_10 : wc.cell? ⟨gb131, 10, none⟩ = some (.int .i64 a0_10) := (blk_cell BK131.out 10).trans rfl
                      have hfz34_0 := blk_frozen BK131.out 0
                      have hfz34_1 := blk_frozen BK131.out 1
                      have hfz34_2 := blk_frozen BK131.out 2
                      have hfz34_3 := blk_frozen BK131.out 3
                      have hfz34_4 := blk_frozen BK131.out 4
                      have hfz34_5 := blk_frozen BK131.out 5
                      have hfz34_6 := blk_frozen BK131.out 6
                      have hfz34_7 := blk_frozen BK131.out 7
                      have hfz34_8 := blk_frozen BK131.out 8
                      have hfz34_9 := blk_frozen BK131.out 9
                      have hfz34_10 := blk_frozen BK131.out 10
                      go_wp2_with (first | ((with_reducible refine gate_callee (f := 28) rfl ?_); refine goesL_ (some 41) rfl rfl Tryd.func28 (by kernel_rfl) rfl #[.string a0_3] rfl xg ?_; (with_reducible refine (ascii_Octets.calls a0_3 true _ A27.out).mono ?_); rintro e w' ⟨rfl, ⟨nd, rfl⟩⟩; refine ⟨_, rfl, ?_⟩) | ((with_reducible refine gate_callee (f := 29) rfl ?_); refine goesL_ (some 54) rfl rfl Tryd.func29 (by kernel_rfl) rfl #[.int .i64 253402300799, .agg #[.int .i64 a0_4, .int .i64 a0_5, .int .i64 a0_6]] rfl xg ?_; (with_reducible refine (cookie_within.calls 253402300799 a0_4 a0_5 a0_6 true _ A31.out).mono ?_); rintro e w35 ⟨rfl, hb⟩; refine ⟨_, rfl, ?_⟩; have n0_ := blkB BK131 hb; have n1_ := Aside0.mk (below_step xb hb); clear BK131; clear HB; have BK131 := n0_; have HB := n1_; clear n0_ n1_; (try clear hb); (try clear hb2); (try clear hk); (try clear hi); have hcz36_0 : w35.cell? ⟨gb131, 0, none⟩ = some (.string a0_0) := (blk_cell BK131.out 0).trans rfl; have hcz36_1 : w35.cell? ⟨gb131, 1, none⟩ = some (.string a0_1) := (blk_cell BK131.out 1).trans rfl; have hcz36_2 : w35.cell? ⟨gb131, 2, none⟩ = some (.string a0_2) := (blk_cell BK131.out 2).trans rfl; have hcz36_3 : w35.cell? ⟨gb131, 3, none⟩ = some (.string a0_3) := (blk_cell BK131.out 3).trans rfl; have hcz36_4 : w35.cell? ⟨gb131, 4, none⟩ = some (.int .i64 a0_4) := (blk_cell BK131.out 4).trans rfl; have hcz36_5 : w35.cell? ⟨gb131, 5, none⟩ = some (.int .i64 a0_5) := (blk_cell BK131.out 5).trans rfl; have hcz36_6 : w35.cell? ⟨gb131, 6, none⟩ = some (.int .i64 a0_6) := (blk_cell BK131.out 6).trans rfl; have hcz36_7 : w35.cell? ⟨gb131, 7, none⟩ = some (.bool a0_7) := (blk_cell BK131.out 7).trans rfl; have hcz36_8 : w35.cell? ⟨gb131, 8, none⟩ = some (.bool a0_8) := (blk_cell BK131.out 8).trans rfl; have hcz36_9 : w35.cell? ⟨gb131, 9, none⟩ = some (.bool a0_9) := (blk_cell BK131.out 9).trans rfl; have hcz36_10 : w35.cell? ⟨gb131, 10, none⟩ = some (.int .i64 a0_10) := (blk_cell BK131.out 10).trans rfl; have hfz36_0 := blk_frozen BK131.out 0; have hfz36_1 := blk_frozen BK131.out 1; have hfz36_2 := blk_frozen BK131.out 2; have hfz36_3 := blk_frozen BK131.out 3; have hfz36_4 := blk_frozen BK131.out 4; have hfz36_5 := blk_frozen BK131.out 5; have hfz36_6 := blk_frozen BK131.out 6; have hfz36_7 := blk_frozen BK131.out 7; have hfz36_8 := blk_frozen BK131.out 8; have hfz36_9 := blk_frozen BK131.out 9; have hfz36_10 := blk_frozen BK131.out 10))
                      go_ret
                      exact ⟨by first | rfl | (simp [errW_none, errW_some] <;> rfl) | (simp [*, errW_none, errW_some] <;> rfl), by repeat (first | (with_reducible first | exact HB.out | apply below_alloc | apply pw_below_drewN | apply below_drew1 | refine below_set ?_ GE131.out) | exact HB.out)⟩
                    · rw [if_neg c33] at H
                      have c33b0 : decide (0 ≤ a0_10) = false := decide_eq_false c33
                      clear c33
                      obtain rfl := Option.some.inj H
                      have hcz37_0 : wc.cell? ⟨gb131, 0, none⟩ = some (.string a0_0) := (blk_cell BK131.out 0).trans rfl
                      have hcz37_1 : wc.cell? ⟨gb131, 1, none⟩ = some (.string a0_1) := (blk_cell BK131.out 1).trans rfl
                      have hcz37_2 : wc.cell? ⟨gb131, 2, none⟩ = some (.string a0_2) := (blk_cell BK131.out 2).trans rfl
                      have hcz37_3 : wc.cell? ⟨gb131, 3, none⟩ = some (.string a0_3) := (blk_cell BK131.out 3).trans rfl
                      have hcz37_4 : wc.cell? ⟨gb131, 4, none⟩ = some (.int .i64 a0_4) := (blk_cell BK131.out 4).trans rfl
                      have hcz37_5 : wc.cell? ⟨gb131, 5, none⟩ = some (.int .i64 a0_5) := (blk_cell BK131.out 5).trans rfl
                      have hcz37_6 : wc.cell? ⟨gb131, 6, none⟩ = some (.int .i64 a0_6) := (blk_cell BK131.out 6).trans rfl
                      have hcz37_7 : wc.cell? ⟨gb131, 7, none⟩ = some (.bool a0_7) := (blk_cell BK131.out 7).trans rfl
                      have hcz37_8 : wc.cell? ⟨gb131, 8, none⟩ = some (.bool a0_8) := (blk_cell BK131.out 8).trans rfl
                      have hcz37_9 : wc.cell? ⟨gb131, 9, none⟩ = some (.bool a0_9) := (blk_cell BK131.out 9).trans rfl
                      have hcz37_10 : wc.cell? ⟨gb131, 10, none⟩ = some (.int .i64 a0_10) := (blk_cell BK131.out 10).trans rfl
                      have hfz37_0 := blk_frozen BK131.out 0
                      have hfz37_1 := blk_frozen BK131.out 1
                      have hfz37_2 := blk_frozen BK131.out 2
                      have hfz37_3 := blk_frozen BK131.out 3
                      have hfz37_4 := blk_frozen BK131.out 4
                      have hfz37_5 := blk_frozen BK131.out 5
                      have hfz37_6 := blk_frozen BK131.out 6
                      have hfz37_7 := blk_frozen BK131.out 7
                      have hfz37_8 := blk_frozen BK131.out 8
                      have hfz37_9 := blk_frozen BK131.out 9
                      have hfz37_10 := blk_frozen BK131.out 10
                      go_wp2_with (first | ((with_reducible refine gate_callee (f := 28) rfl ?_); refine goesL_ (some 41) rfl rfl Tryd.func28 (by kernel_rfl) rfl #[.string a0_3] rfl xg ?_; (with_reducible refine (ascii_Octets.calls a0_3 true _ A27.out).mono ?_); rintro e w' ⟨rfl, ⟨nd, rfl⟩⟩; refine ⟨_, rfl, ?_⟩) | ((with_reducible refine gate_callee (f := 29) rfl ?_); refine goesL_ (some 54) rfl rfl Tryd.func29 (by kernel_rfl) rfl #[.int .i64 253402300799, .agg #[.int .i64 a0_4, .int .i64 a0_5, .int .i64 a0_6]] rfl xg ?_; (with_reducible refine (cookie_within.calls 253402300799 a0_4 a0_5 a0_6 true _ A31.out).mono ?_); rintro e w38 ⟨rfl, hb⟩; refine ⟨_, rfl, ?_⟩; have n0_ := blkB BK131 hb; have n1_ := Aside0.mk (below_step xb hb); clear BK131; clear HB; have BK131 := n0_; have HB := n1_; clear n0_ n1_; (try clear hb); (try clear hb2); (try clear hk); (try clear hi); have hcz39_0 : w38.cell? ⟨gb131, 0, none⟩ = some (.string a0_0) := (blk_cell BK131.out 0).trans rfl; have hcz39_1 : w38.cell? ⟨gb131, 1, none⟩ = some (.string a0_1) := (blk_cell BK131.out 1).trans rfl; have hcz39_2 : w38.cell? ⟨gb131, 2, none⟩ = some (.string a0_2) := (blk_cell BK131.out 2).trans rfl; have hcz39_3 : w38.cell? ⟨gb131, 3, none⟩ = some (.string a0_3) := (blk_cell BK131.out 3).trans rfl; have hcz39_4 : w38.cell? ⟨gb131, 4, none⟩ = some (.int .i64 a0_4) := (blk_cell BK131.out 4).trans rfl; have hcz39_5 : w38.cell? ⟨gb131, 5, none⟩ = some (.int .i64 a0_5) := (blk_cell BK131.out 5).trans rfl; have hcz39_6 : w38.cell? ⟨gb131, 6, none⟩ = some (.int .i64 a0_6) := (blk_cell BK131.out 6).trans rfl; have hcz39_7 : w38.cell? ⟨gb131, 7, none⟩ = some (.bool a0_7) := (blk_cell BK131.out 7).trans rfl; have hcz39_8 : w38.cell? ⟨gb131, 8, none⟩ = some (.bool a0_8) := (blk_cell BK131.out 8).trans rfl; have hcz39_9 : w38.cell? ⟨gb131, 9, none⟩ = some (.bool a0_9) := (blk_cell BK131.out 9).trans rfl; have hcz39_10 : w38.cell? ⟨gb131, 10, none⟩ = some (.int .i64 a0_10) := (blk_cell BK131.out 10).trans rfl; have hfz39_0 := blk_frozen BK131.out 0; have hfz39_1 := blk_frozen BK131.out 1; have hfz39_2 := blk_frozen BK131.out 2; have hfz39_3 := blk_frozen BK131.out 3; have hfz39_4 := blk_frozen BK131.out 4; have hfz39_5 := blk_frozen BK131.out 5; have hfz39_6 := blk_frozen BK131.out 6; have hfz39_7 := blk_frozen BK131.out 7; have hfz39_8 := blk_frozen BK131.out 8; have hfz39_9 := blk_frozen BK131.out 9; have hfz39_10 := blk_frozen BK131.out 10))
                      go_ret
                      exact ⟨by first | rfl | (simp [errW_none, errW_some] <;> rfl) | (simp [*, errW_none, errW_some] <;> rfl), by repeat (first | (with_reducible first | exact HB.out | apply below_alloc | apply pw_below_drewN | apply below_drew1 | refine below_set ?_ GE131.out) | exact HB.out)⟩
                  · replace c32 := Bool.eq_false_iff.mpr c32
                    subst c32
                    have H1 : (some false) = some r := by rw [if_neg (show ¬ (false = true) by decide)] at H; exact H
                    clear H
                    have H := H1
                    clear H1
                    obtain rfl := Option.some.inj H
                    have hcz40_0 : wc.cell? ⟨gb131, 0, none⟩ = some (.string a0_0) := (blk_cell BK131.out 0).trans rfl
                    have hcz40_1 : wc.cell? ⟨gb131, 1, none⟩ = some (.string a0_1) := (blk_cell BK131.out 1).trans rfl
                    have hcz40_2 : wc.cell? ⟨gb131, 2, none⟩ = some (.string a0_2) := (blk_cell BK131.out 2).trans rfl
                    have hcz40_3 : wc.cell? ⟨gb131, 3, none⟩ = some (.string a0_3) := (blk_cell BK131.out 3).trans rfl
                    have hcz40_4 : wc.cell? ⟨gb131, 4, none⟩ = some (.int .i64 a0_4) := (blk_cell BK131.out 4).trans rfl
                    have hcz40_5 : wc.cell? ⟨gb131, 5, none⟩ = some (.int .i64 a0_5) := (blk_cell BK131.out 5).trans rfl
                    have hcz40_6 : wc.cell? ⟨gb131, 6, none⟩ = some (.int .i64 a0_6) := (blk_cell BK131.out 6).trans rfl
                    have hcz40_7 : wc.cell? ⟨gb131, 7, none⟩ = some (.bool a0_7) := (blk_cell BK131.out 7).trans rfl
                    have hcz40_8 : wc.cell? ⟨gb131, 8, none⟩ = some (.bool a0_8) := (blk_cell BK131.out 8).trans rfl
                    have hcz40_9 : wc.cell? ⟨gb131, 9, none⟩ = some (.bool a0_9) := (blk_cell BK131.out 9).trans rfl
                    have hcz40_10 : wc.cell? ⟨gb131, 10, none⟩ = some (.int .i64 a0_10) := (blk_cell BK131.out 10).trans rfl
                    have hfz40_0 := blk_frozen BK131.out 0
                    have hfz40_1 := blk_frozen BK131.out 1
                    have hfz40_2 := blk_frozen BK131.out 2
                    have hfz40_3 := blk_frozen BK131.out 3
                    have hfz40_4 := blk_frozen BK131.out 4
                    have hfz40_5 := blk_frozen BK131.out 5
                    have hfz40_6 := blk_frozen BK131.out 6
                    have hfz40_7 := blk_frozen BK131.out 7
                    have hfz40_8 := blk_frozen BK131.out 8
                    have hfz40_9 := blk_frozen BK131.out 9
                    have hfz40_10 := blk_frozen BK131.out 10
                    go_wp2_with (first | ((with_reducible refine gate_callee (f := 28) rfl ?_); refine goesL_ (some 41) rfl rfl Tryd.func28 (by kernel_rfl) rfl #[.string a0_3] rfl xg ?_; (with_reducible refine (ascii_Octets.calls a0_3 true _ A27.out).mono ?_); rintro e w' ⟨rfl, ⟨nd, rfl⟩⟩; refine ⟨_, rfl, ?_⟩) | ((with_reducible refine gate_callee (f := 29) rfl ?_); refine goesL_ (some 54) rfl rfl Tryd.func29 (by kernel_rfl) rfl #[.int .i64 253402300799, .agg #[.int .i64 a0_4, .int .i64 a0_5, .int .i64 a0_6]] rfl xg ?_; (with_reducible refine (cookie_within.calls 253402300799 a0_4 a0_5 a0_6 false _ A31.out).mono ?_); rintro e w41 ⟨rfl, hb⟩; refine ⟨_, rfl, ?_⟩; have n0_ := blkB BK131 hb; have n1_ := Aside0.mk (below_step xb hb); clear BK131; clear HB; have BK131 := n0_; have HB := n1_; clear n0_ n1_; (try clear hb); (try clear hb2); (try clear hk); (try clear hi)))
                    go_ret
                    exact ⟨by first | rfl | (simp [errW_none, errW_some] <;> rfl) | (simp [*, errW_none, errW_some] <;> rfl), by repeat (first | (with_reducible first | exact HB.out | apply below_alloc | apply pw_below_drewN | apply below_drew1 | refine below_set ?_ GE131.out) | exact HB.out)⟩
              · replace c28 := Bool.eq_false_iff.mpr c28
                subst c28
                have H1 : (some false) = some r := by rw [if_neg (show ¬ (false = true) by decide)] at H; exact H
                clear H
                have H := H1
                clear H1
                obtain rfl := Option.some.inj H
                have hcz42_0 : wc.cell? ⟨gb131, 0, none⟩ = some (.string a0_0) := (blk_cell BK131.out 0).trans rfl
                have hcz42_1 : wc.cell? ⟨gb131, 1, none⟩ = some (.string a0_1) := (blk_cell BK131.out 1).trans rfl
                have hcz42_2 : wc.cell? ⟨gb131, 2, none⟩ = some (.string a0_2) := (blk_cell BK131.out 2).trans rfl
                have hcz42_3 : wc.cell? ⟨gb131, 3, none⟩ = some (.string a0_3) := (blk_cell BK131.out 3).trans rfl
                have hcz42_4 : wc.cell? ⟨gb131, 4, none⟩ = some (.int .i64 a0_4) := (blk_cell BK131.out 4).trans rfl
                have hcz42_5 : wc.cell? ⟨gb131, 5, none⟩ = some (.int .i64 a0_5) := (blk_cell BK131.out 5).trans rfl
                have hcz42_6 : wc.cell? ⟨gb131, 6, none⟩ = some (.int .i64 a0_6) := (blk_cell BK131.out 6).trans rfl
                have hcz42_7 : wc.cell? ⟨gb131, 7, none⟩ = some (.bool a0_7) := (blk_cell BK131.out 7).trans rfl
                have hcz42_8 : wc.cell? ⟨gb131, 8, none⟩ = some (.bool a0_8) := (blk_cell BK131.out 8).trans rfl
                have hcz42_9 : wc.cell? ⟨gb131, 9, none⟩ = some (.bool a0_9) := (blk_cell BK131.out 9).trans rfl
                have hcz42_10 : wc.cell? ⟨gb131, 10, none⟩ = some (.int .i64 a0_10) := (blk_cell BK131.out 10).trans rfl
                have hfz42_0 := blk_frozen BK131.out 0
                have hfz42_1 := blk_frozen BK131.out 1
                have hfz42_2 := blk_frozen BK131.out 2
                have hfz42_3 := blk_frozen BK131.out 3
                have hfz42_4 := blk_frozen BK131.out 4
                have hfz42_5 := blk_frozen BK131.out 5
                have hfz42_6 := blk_frozen BK131.out 6
                have hfz42_7 := blk_frozen BK131.out 7
                have hfz42_8 := blk_frozen BK131.out 8
                have hfz42_9 := blk_frozen BK131.out 9
                have hfz42_10 := blk_frozen BK131.out 10
                go_wp2_with (first | ((with_reducible refine gate_callee (f := 28) rfl ?_); refine goesL_ (some 41) rfl rfl Tryd.func28 (by kernel_rfl) rfl #[.string a0_3] rfl xg ?_; (with_reducible refine (ascii_Octets.calls a0_3 false _ A27.out).mono ?_); rintro e w' ⟨rfl, ⟨nd, rfl⟩⟩; refine ⟨_, rfl, ?_⟩))
                go_ret
                exact ⟨by first | rfl | (simp [errW_none, errW_some] <;> rfl) | (simp [*, errW_none, errW_some] <;> rfl), by repeat (first | (with_reducible first | exact HB.out | apply below_alloc | apply pw_below_drewN | apply below_drew1 | refine below_set ?_ GE131.out) | exact HB.out)⟩

end Go.Proofs.YtccmackhhppbdaaDoor.Print
