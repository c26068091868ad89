/- Printed by a program of this claim's session (xprint.py): the machine's side: each Go function as a Lean function, and that a call of it comes to what that tells; the row of a statement. No condition. -/
import Derived.Test.YtpcakfldmcfhlaaGreatDoorPrint0
import Derived.Test.YtpcakfldmcfhlaaGreatDoorPrint8
import Derived.Test.YtpcakfldmcfhlaaGreatDoorPrint9
import Derived.Test.YtpcakfldmcfhlaaGreatDoorPrint11
namespace Go.Proofs.YtpcakfldmcfhlaaGreatDoor.Print
open Go.RowKit Go.Proofs.YtpcakfldmcfhlaaGreatDoorW.PrintWords Go.Proofs.YtpcakfldmcfhlaaGreatDoorW.PrintLast Go.Proofs.YtpcakfldmcfhlaaGreatDoorW.PrintMore
attribute [local go_sem] max2_int min2_int max_two min_two max_three min_three max_four min_four   -- for this text's walks alone
set_option linter.unusedVariables false
set_option linter.unusedSimpArgs false

/-! ### cracknelref13_Right: function 6 -/
mutual
def cracknelref13_Right.j0 : Nat → Bool → ByteArray → ByteArray → ByteArray → ByteArray → Int → Int → Int → Bool → Bool → Bool → Int → Option (Bool)
  | 0, _, _, _, _, _, _, _, _, _, _, _, _ => none
  | k + 1, x28, x249000, x249001, x249002, x249003, x249004, x249005, x249006, x249007, x249008, x249009, x249010 => if x28 = true then (some false) else ((cracknelref12_Right.f k x249001).bind fun t252 => (if t252 = true then ((cracknelref01_Token.f k x249002).bind fun t253 => (if t253 = true then (if (x249002.size : Int) > 64 then (cracknelref13_Right.j1 k true x249000 x249001 x249002 x249003 x249004 x249005 x249006 x249007 x249008 x249009 x249010) else ((cracknelref01_Octets.f k x249003).bind fun t254 => (if t254 = true then (cracknelref13_Right.j1 k (decide ((x249003.size : Int) > 128)) x249000 x249001 x249002 x249003 x249004 x249005 x249006 x249007 x249008 x249009 x249010) else (cracknelref13_Right.j1 k true x249000 x249001 x249002 x249003 x249004 x249005 x249006 x249007 x249008 x249009 x249010)))) else (cracknelref13_Right.j1 k true x249000 x249001 x249002 x249003 x249004 x249005 x249006 x249007 x249008 x249009 x249010))) else (cracknelref13_Right.j1 k true x249000 x249001 x249002 x249003 x249004 x249005 x249006 x249007 x249008 x249009 x249010)))
def cracknelref13_Right.j1 : Nat → Bool → ByteArray → ByteArray → ByteArray → ByteArray → Int → Int → Int → Bool → Bool → Bool → Int → Option (Bool)
  | 0, _, _, _, _, _, _, _, _, _, _, _, _ => none
  | k + 1, x56, x249000, x249001, x249002, x249003, x249004, x249005, x249006, x249007, x249008, x249009, x249010 => if x56 = true then (some false) else (if x249004 < 0 then (some false) else (if x249004 > 253402300799 then (some false) else (if x249005 < 0 then (some false) else (if x249005 > 253402300799 then (some false) else (if x249006 < 0 then (some false) else (if x249006 > 253402300799 then (some false) else (if x249010 ≥ 0 then (some (decide (x249010 ≤ 3))) else (some false))))))))
end
def cracknelref13_Right.f (k : Nat) (a0_0 : ByteArray) (a0_1 : ByteArray) (a0_2 : ByteArray) (a0_3 : ByteArray) (a0_4 : Int) (a0_5 : Int) (a0_6 : Int) (a0_7 : Bool) (a0_8 : Bool) (a0_9 : Bool) (a0_10 : Int) : Option (Bool) := (cracknelref11_Canon.f k a0_0).bind fun bt249 => (if bt249.2 = true then (if bt249.1.toList = a0_0.toList then ((cracknelref11_Ip.f k a0_0).bind fun t251 => (if t251 = true then (cracknelref13_Right.j0 k (!a0_7) a0_0 a0_1 a0_2 a0_3 a0_4 a0_5 a0_6 a0_7 a0_8 a0_9 a0_10) else (cracknelref13_Right.j0 k false a0_0 a0_1 a0_2 a0_3 a0_4 a0_5 a0_6 a0_7 a0_8 a0_9 a0_10))) else (cracknelref13_Right.j0 k true a0_0 a0_1 a0_2 a0_3 a0_4 a0_5 a0_6 a0_7 a0_8 a0_9 a0_10)) else (cracknelref13_Right.j0 k true a0_0 a0_1 a0_2 a0_3 a0_4 a0_5 a0_6 a0_7 a0_8 a0_9 a0_10))
theorem cracknelref13_Right.mono_l : ∀ k, (∀ y0 y1 y2 y3 y4 y5 y6 y7 y8 y9 y10 y11, LeO (cracknelref13_Right.j0 k y0 y1 y2 y3 y4 y5 y6 y7 y8 y9 y10 y11) (cracknelref13_Right.j0 (k + 1) y0 y1 y2 y3 y4 y5 y6 y7 y8 y9 y10 y11)) ∧ (∀ y0 y1 y2 y3 y4 y5 y6 y7 y8 y9 y10 y11, LeO (cracknelref13_Right.j1 k y0 y1 y2 y3 y4 y5 y6 y7 y8 y9 y10 y11) (cracknelref13_Right.j1 (k + 1) y0 y1 y2 y3 y4 y5 y6 y7 y8 y9 y10 y11))
  | 0 => ⟨fun _ _ _ _ _ _ _ _ _ _ _ _ r h => by simp [cracknelref13_Right.j0] at h, fun _ _ _ _ _ _ _ _ _ _ _ _ r h => by simp [cracknelref13_Right.j1] at h⟩
  | k + 1 => by
    obtain ⟨ih0, ih1⟩ := cracknelref13_Right.mono_l k
    refine ⟨?_, ?_⟩
    · intro y0 y1 y2 y3 y4 y5 y6 y7 y8 y9 y10 y11
      unfold cracknelref13_Right.j0
      repeat' first
      | (with_reducible exact ih0 _ _ _ _ _ _ _ _ _ _ _ _)
      | (with_reducible exact ih1 _ _ _ _ _ _ _ _ _ _ _ _)
      | (with_reducible exact cracknelref01_Octets.mono _ _)
      | (with_reducible exact cracknelref01_Token.mono _ _)
      | (with_reducible exact cracknelref11_Canon.mono _ _)
      | (with_reducible exact cracknelref11_Ip.mono _ _)
      | (with_reducible exact cracknelref12_Right.mono _ _)
      | (with_reducible exact LeO.refl _)
      | (with_reducible exact LeO.none _)
      | (with_reducible refine LeO.ite ?_ ?_)
      | (with_reducible refine LeO.bind ?_ (fun _ => ?_))
      | exact ih0 _ _ _ _ _ _ _ _ _ _ _ _
      | exact ih1 _ _ _ _ _ _ _ _ _ _ _ _
      | exact cracknelref01_Octets.mono _ _
      | exact cracknelref01_Token.mono _ _
      | exact cracknelref11_Canon.mono _ _
      | exact cracknelref11_Ip.mono _ _
      | exact cracknelref12_Right.mono _ _
      | exact LeO.none _
      | refine LeO.ite ?_ ?_
      | refine LeO.bind ?_ (fun _ => ?_)
    · intro y0 y1 y2 y3 y4 y5 y6 y7 y8 y9 y10 y11
      unfold cracknelref13_Right.j1
      repeat' first
      | (with_reducible exact ih0 _ _ _ _ _ _ _ _ _ _ _ _)
      | (with_reducible exact ih1 _ _ _ _ _ _ _ _ _ _ _ _)
      | (with_reducible exact cracknelref01_Octets.mono _ _)
      | (with_reducible exact cracknelref01_Token.mono _ _)
      | (with_reducible exact cracknelref11_Canon.mono _ _)
      | (with_reducible exact cracknelref11_Ip.mono _ _)
      | (with_reducible exact cracknelref12_Right.mono _ _)
      | (with_reducible exact LeO.refl _)
      | (with_reducible exact LeO.none _)
      | (with_reducible refine LeO.ite ?_ ?_)
      | (with_reducible refine LeO.bind ?_ (fun _ => ?_))
      | exact ih0 _ _ _ _ _ _ _ _ _ _ _ _
      | exact ih1 _ _ _ _ _ _ _ _ _ _ _ _
      | exact cracknelref01_Octets.mono _ _
      | exact cracknelref01_Token.mono _ _
      | exact cracknelref11_Canon.mono _ _
      | exact cracknelref11_Ip.mono _ _
      | exact cracknelref12_Right.mono _ _
      | exact LeO.none _
      | refine LeO.ite ?_ ?_
      | refine LeO.bind ?_ (fun _ => ?_)
theorem cracknelref13_Right.mono : ∀ a0 a1 a2 a3 a4 a5 a6 a7 a8 a9 a10 k, LeO (cracknelref13_Right.f k a0 a1 a2 a3 a4 a5 a6 a7 a8 a9 a10) (cracknelref13_Right.f (k + 1) a0 a1 a2 a3 a4 a5 a6 a7 a8 a9 a10) := by
  intro a0 a1 a2 a3 a4 a5 a6 a7 a8 a9 a10 k
  obtain ⟨ih0, ih1⟩ := cracknelref13_Right.mono_l k
  unfold cracknelref13_Right.f
  repeat' first
      | (with_reducible exact ih0 _ _ _ _ _ _ _ _ _ _ _ _)
      | (with_reducible exact ih1 _ _ _ _ _ _ _ _ _ _ _ _)
      | (with_reducible exact cracknelref01_Octets.mono _ _)
      | (with_reducible exact cracknelref01_Token.mono _ _)
      | (with_reducible exact cracknelref11_Canon.mono _ _)
      | (with_reducible exact cracknelref11_Ip.mono _ _)
      | (with_reducible exact cracknelref12_Right.mono _ _)
      | (with_reducible exact LeO.refl _)
      | (with_reducible exact LeO.none _)
      | (with_reducible refine LeO.ite ?_ ?_)
      | (with_reducible refine LeO.bind ?_ (fun _ => ?_))
      | exact ih0 _ _ _ _ _ _ _ _ _ _ _ _
      | exact ih1 _ _ _ _ _ _ _ _ _ _ _ _
      | exact cracknelref01_Octets.mono _ _
      | exact cracknelref01_Token.mono _ _
      | exact cracknelref11_Canon.mono _ _
      | exact cracknelref11_Ip.mono _ _
      | exact cracknelref12_Right.mono _ _
      | exact LeO.none _
      | refine LeO.ite ?_ ?_
      | refine LeO.bind ?_ (fun _ => ?_)
set_option maxHeartbeats 8000000 in
set_option maxRecDepth 100000 in
theorem cracknelref13_Right.calls (k : Nat) (a0_0 : ByteArray) (a0_1 : ByteArray) (a0_2 : ByteArray) (a0_3 : ByteArray) (a0_4 : Int) (a0_5 : Int) (a0_6 : Int) (a0_7 : Bool) (a0_8 : Bool) (a0_9 : Bool) (a0_10 : Int) (r : Bool) (w : World) (h : cracknelref13_Right.f k a0_0 a0_1 a0_2 a0_3 a0_4 a0_5 a0_6 a0_7 a0_8 a0_9 a0_10 = some r) :
    Calls Tryz.prog 6 #[.agg #[.string a0_0, .string a0_1, .string a0_2, .string a0_3, .int .i64 a0_4, .int .i64 a0_5, .int .i64 a0_6, .bool a0_7, .bool a0_8, .bool a0_9, .int .i64 a0_10]] w fun e w' => e = .returned (.bool r) ∧ Below w.heap.size w w' := by
  have hu23 := Tryz.underlying23
  have HB := Aside0.mk (Below.refl w.heap.size w)
  have H : ((cracknelref11_Canon.f k a0_0).bind fun bt249 => (if bt249.2 = true then (if bt249.1.toList = a0_0.toList then ((cracknelref11_Ip.f k a0_0).bind fun t251 => (if t251 = true then (cracknelref13_Right.j0 k (!a0_7) a0_0 a0_1 a0_2 a0_3 a0_4 a0_5 a0_6 a0_7 a0_8 a0_9 a0_10) else (cracknelref13_Right.j0 k false a0_0 a0_1 a0_2 a0_3 a0_4 a0_5 a0_6 a0_7 a0_8 a0_9 a0_10))) else (cracknelref13_Right.j0 k true a0_0 a0_1 a0_2 a0_3 a0_4 a0_5 a0_6 a0_7 a0_8 a0_9 a0_10)) else (cracknelref13_Right.j0 k true a0_0 a0_1 a0_2 a0_3 a0_4 a0_5 a0_6 a0_7 a0_8 a0_9 a0_10))) = some r := h
  clear h
  replace H := Option.bind_eq_some_iff.mp H
  obtain ⟨⟨t249, t250⟩, A20, H⟩ := H
  replace H : (if t250 = true then (if t249.toList = a0_0.toList then ((cracknelref11_Ip.f k a0_0).bind fun t251 => (if t251 = true then (cracknelref13_Right.j0 k (!a0_7) a0_0 a0_1 a0_2 a0_3 a0_4 a0_5 a0_6 a0_7 a0_8 a0_9 a0_10) else (cracknelref13_Right.j0 k false a0_0 a0_1 a0_2 a0_3 a0_4 a0_5 a0_6 a0_7 a0_8 a0_9 a0_10))) else (cracknelref13_Right.j0 k true a0_0 a0_1 a0_2 a0_3 a0_4 a0_5 a0_6 a0_7 a0_8 a0_9 a0_10)) else (cracknelref13_Right.j0 k true a0_0 a0_1 a0_2 a0_3 a0_4 a0_5 a0_6 a0_7 a0_8 a0_9 a0_10)) = some r := H
  have A2 := Aside0.mk A20
  clear A20
  have HC3 := Aside0.mk H
  clear H
  go_enter Tryz.func6, Tryz.ntmps6
  go_upto_region 2 with (first | ((with_reducible refine gate_dst (N := 1) rfl ?_); (try (refine gate_guard (by rfl) ?_; dsimp only)); refine box_event ?hg (N := 1) ?hd (cs := #[.string a0_0, .string a0_1, .string a0_2, .string a0_3, .int .i64 a0_4, .int .i64 a0_5, .int .i64 a0_6, .bool a0_7, .bool a0_8, .bool a0_9, .int .i64 a0_10]) (t := 23) ?hr ?_; (case hd => rfl); (case hg => rfl); (case hr => first | (go_simp; done) | (go_simp; rfl)); intro gb248 hg w4 hbox hb; have n0_ := Aside0.mk (below_step xb hb); have n1_ := Aside0.mk (hbox); have n2_ := Aside0.mk ((by rw [hg]; exact (below_size xb) : w.heap.size ≤ gb248)); have n3_ := Aside0.mk ((by rw [hg]; exact (below_size xb) : w.heap.size ≤ gb248)); clear HB; have HB := n0_; have BK248 := n1_; have GW248 := n2_; have GE248 := n3_; clear n0_ n1_ n2_ n3_; clear hb hbox hg; have hcz5_0 : w4.cell? ⟨gb248, 0, none⟩ = some (.string a0_0) := (blk_cell BK248.out 0).trans rfl; have hcz5_1 : w4.cell? ⟨gb248, 1, none⟩ = some (.string a0_1) := (blk_cell BK248.out 1).trans rfl; have hcz5_2 : w4.cell? ⟨gb248, 2, none⟩ = some (.string a0_2) := (blk_cell BK248.out 2).trans rfl; have hcz5_3 : w4.cell? ⟨gb248, 3, none⟩ = some (.string a0_3) := (blk_cell BK248.out 3).trans rfl; have hcz5_4 : w4.cell? ⟨gb248, 4, none⟩ = some (.int .i64 a0_4) := (blk_cell BK248.out 4).trans rfl; have hcz5_5 : w4.cell? ⟨gb248, 5, none⟩ = some (.int .i64 a0_5) := (blk_cell BK248.out 5).trans rfl; have hcz5_6 : w4.cell? ⟨gb248, 6, none⟩ = some (.int .i64 a0_6) := (blk_cell BK248.out 6).trans rfl; have hcz5_7 : w4.cell? ⟨gb248, 7, none⟩ = some (.bool a0_7) := (blk_cell BK248.out 7).trans rfl; have hcz5_8 : w4.cell? ⟨gb248, 8, none⟩ = some (.bool a0_8) := (blk_cell BK248.out 8).trans rfl; have hcz5_9 : w4.cell? ⟨gb248, 9, none⟩ = some (.bool a0_9) := (blk_cell BK248.out 9).trans rfl; have hcz5_10 : w4.cell? ⟨gb248, 10, none⟩ = some (.int .i64 a0_10) := (blk_cell BK248.out 10).trans rfl; have hfz5_0 := blk_frozen BK248.out 0; have hfz5_1 := blk_frozen BK248.out 1; have hfz5_2 := blk_frozen BK248.out 2; have hfz5_3 := blk_frozen BK248.out 3; have hfz5_4 := blk_frozen BK248.out 4; have hfz5_5 := blk_frozen BK248.out 5; have hfz5_6 := blk_frozen BK248.out 6; have hfz5_7 := blk_frozen BK248.out 7; have hfz5_8 := blk_frozen BK248.out 8; have hfz5_9 := blk_frozen BK248.out 9; have hfz5_10 := blk_frozen BK248.out 10) | ((with_reducible refine gate_callee (f := 20) rfl ?_); refine goesL_ (some 8) rfl rfl Tryz.func20 (by kernel_rfl) rfl #[.string a0_0] rfl xg ?_; (with_reducible refine (cracknelref11_Canon.calls k a0_0 t249 t250 _ A2.out).mono ?_); rintro e w6 ⟨rfl, hb⟩; refine ⟨_, rfl, ?_⟩; have n0_ := blkB BK248 hb; have n1_ := Aside0.mk (below_step xb hb); clear BK248; clear HB; have BK248 := n0_; have HB := n1_; clear n0_ n1_; (try clear hb); (try clear hb2); (try clear hk); (try clear hi)))
  (try simp only [Act.put, List.setIfInBounds_toArray, List.set_cons_zero, List.set_cons_succ])
  go_cut [28] (fun v28 wc => ∃ (kq : Nat) (x28_2 : Bool), v28 = .bool x28_2 ∧ Aside0 (cracknelref13_Right.j0 kq x28_2 a0_0 a0_1 a0_2 a0_3 a0_4 a0_5 a0_6 a0_7 a0_8 a0_9 a0_10 = some r) ∧ Aside0 (kq ≤ k) ∧ Aside0 (wc.heap[gb248]? = some (.cells #[.string a0_0, .string a0_1, .string a0_2, .string a0_3, .int .i64 a0_4, .int .i64 a0_5, .int .i64 a0_6, .bool a0_7, .bool a0_8, .bool a0_9, .int .i64 a0_10] 23 (0, 0))) ∧ Aside0 (Below w.heap.size w wc))
  case first =>
    have H := HC3.out
    clear HC3
    by_cases c7 : t250 = true
    · subst c7
      have H1 : (if t249.toList = a0_0.toList then ((cracknelref11_Ip.f k a0_0).bind fun t251 => (if t251 = true then (cracknelref13_Right.j0 k (!a0_7) a0_0 a0_1 a0_2 a0_3 a0_4 a0_5 a0_6 a0_7 a0_8 a0_9 a0_10) else (cracknelref13_Right.j0 k false a0_0 a0_1 a0_2 a0_3 a0_4 a0_5 a0_6 a0_7 a0_8 a0_9 a0_10))) else (cracknelref13_Right.j0 k true a0_0 a0_1 a0_2 a0_3 a0_4 a0_5 a0_6 a0_7 a0_8 a0_9 a0_10)) = some r := by rw [if_pos rfl] at H; exact H
      clear H
      have H := H1
      clear H1
      by_cases c8 : t249.toList = a0_0.toList
      · rw [if_pos c8] at H
        have c8b0 : (t249.toList == a0_0.toList) = true := beq_iff_eq.mpr c8
        have c8b1 : (t249.toList != a0_0.toList) = false := bne_eq_false_iff_eq.mpr c8
        clear c8
        (first | rw [c8b0] | (simp only [i64_w, i32_w]; rw [c8b0]) | skip)
        replace H := Option.bind_eq_some_iff.mp H
        obtain ⟨t251, A90, H⟩ := H
        replace H : (if t251 = true then (cracknelref13_Right.j0 k (!a0_7) a0_0 a0_1 a0_2 a0_3 a0_4 a0_5 a0_6 a0_7 a0_8 a0_9 a0_10) else (cracknelref13_Right.j0 k false a0_0 a0_1 a0_2 a0_3 a0_4 a0_5 a0_6 a0_7 a0_8 a0_9 a0_10)) = some r := H
        have A9 := Aside0.mk A90
        clear A90
        by_cases c10 : t251 = true
        · subst c10
          have H1 : (cracknelref13_Right.j0 k (!a0_7) a0_0 a0_1 a0_2 a0_3 a0_4 a0_5 a0_6 a0_7 a0_8 a0_9 a0_10) = some r := by rw [if_pos rfl] at H; exact H
          clear H
          have H := H1
          clear H1
          have H' := Aside0.mk H
          clear H
          have hcz11_0 : w6.cell? ⟨gb248, 0, none⟩ = some (.string a0_0) := (blk_cell BK248.out 0).trans rfl
          have hcz11_1 : w6.cell? ⟨gb248, 1, none⟩ = some (.string a0_1) := (blk_cell BK248.out 1).trans rfl
          have hcz11_2 : w6.cell? ⟨gb248, 2, none⟩ = some (.string a0_2) := (blk_cell BK248.out 2).trans rfl
          have hcz11_3 : w6.cell? ⟨gb248, 3, none⟩ = some (.string a0_3) := (blk_cell BK248.out 3).trans rfl
          have hcz11_4 : w6.cell? ⟨gb248, 4, none⟩ = some (.int .i64 a0_4) := (blk_cell BK248.out 4).trans rfl
          have hcz11_5 : w6.cell? ⟨gb248, 5, none⟩ = some (.int .i64 a0_5) := (blk_cell BK248.out 5).trans rfl
          have hcz11_6 : w6.cell? ⟨gb248, 6, none⟩ = some (.int .i64 a0_6) := (blk_cell BK248.out 6).trans rfl
          have hcz11_7 : w6.cell? ⟨gb248, 7, none⟩ = some (.bool a0_7) := (blk_cell BK248.out 7).trans rfl
          have hcz11_8 : w6.cell? ⟨gb248, 8, none⟩ = some (.bool a0_8) := (blk_cell BK248.out 8).trans rfl
          have hcz11_9 : w6.cell? ⟨gb248, 9, none⟩ = some (.bool a0_9) := (blk_cell BK248.out 9).trans rfl
          have hcz11_10 : w6.cell? ⟨gb248, 10, none⟩ = some (.int .i64 a0_10) := (blk_cell BK248.out 10).trans rfl
          have hfz11_0 := blk_frozen BK248.out 0
          have hfz11_1 := blk_frozen BK248.out 1
          have hfz11_2 := blk_frozen BK248.out 2
          have hfz11_3 := blk_frozen BK248.out 3
          have hfz11_4 := blk_frozen BK248.out 4
          have hfz11_5 := blk_frozen BK248.out 5
          have hfz11_6 := blk_frozen BK248.out 6
          have hfz11_7 := blk_frozen BK248.out 7
          have hfz11_8 := blk_frozen BK248.out 8
          have hfz11_9 := blk_frozen BK248.out 9
          have hfz11_10 := blk_frozen BK248.out 10
          go_wp2_with (first | (go_at_call 21; (with_reducible refine (cracknelref11_Ip.calls k a0_0 true _ A9.out).mono ?_); rintro e w12 ⟨rfl, hb⟩; have n0_ := blkB BK248 hb; have n1_ := Aside0.mk (below_step xb hb); clear BK248; clear HB; have BK248 := n0_; have HB := n1_; clear n0_ n1_; (try clear hb); (try clear hb2); (try clear hk); (try clear hi); have hcz13_0 : w12.cell? ⟨gb248, 0, none⟩ = some (.string a0_0) := (blk_cell BK248.out 0).trans rfl; have hcz13_1 : w12.cell? ⟨gb248, 1, none⟩ = some (.string a0_1) := (blk_cell BK248.out 1).trans rfl; have hcz13_2 : w12.cell? ⟨gb248, 2, none⟩ = some (.string a0_2) := (blk_cell BK248.out 2).trans rfl; have hcz13_3 : w12.cell? ⟨gb248, 3, none⟩ = some (.string a0_3) := (blk_cell BK248.out 3).trans rfl; have hcz13_4 : w12.cell? ⟨gb248, 4, none⟩ = some (.int .i64 a0_4) := (blk_cell BK248.out 4).trans rfl; have hcz13_5 : w12.cell? ⟨gb248, 5, none⟩ = some (.int .i64 a0_5) := (blk_cell BK248.out 5).trans rfl; have hcz13_6 : w12.cell? ⟨gb248, 6, none⟩ = some (.int .i64 a0_6) := (blk_cell BK248.out 6).trans rfl; have hcz13_7 : w12.cell? ⟨gb248, 7, none⟩ = some (.bool a0_7) := (blk_cell BK248.out 7).trans rfl; have hcz13_8 : w12.cell? ⟨gb248, 8, none⟩ = some (.bool a0_8) := (blk_cell BK248.out 8).trans rfl; have hcz13_9 : w12.cell? ⟨gb248, 9, none⟩ = some (.bool a0_9) := (blk_cell BK248.out 9).trans rfl; have hcz13_10 : w12.cell? ⟨gb248, 10, none⟩ = some (.int .i64 a0_10) := (blk_cell BK248.out 10).trans rfl; have hfz13_0 := blk_frozen BK248.out 0; have hfz13_1 := blk_frozen BK248.out 1; have hfz13_2 := blk_frozen BK248.out 2; have hfz13_3 := blk_frozen BK248.out 3; have hfz13_4 := blk_frozen BK248.out 4; have hfz13_5 := blk_frozen BK248.out 5; have hfz13_6 := blk_frozen BK248.out 6; have hfz13_7 := blk_frozen BK248.out 7; have hfz13_8 := blk_frozen BK248.out 8; have hfz13_9 := blk_frozen BK248.out 9; have hfz13_10 := blk_frozen BK248.out 10))
          go_meet
          case rel => exact ⟨_, (!a0_7), (by first | rfl | (simp; done) | (simp [*]; done)), H', ⟨by first | omega | exact Nat.le_refl _⟩, ⟨xk⟩, ⟨xb⟩⟩
        · replace c10 := Bool.eq_false_iff.mpr c10
          subst c10
          have H1 : (cracknelref13_Right.j0 k false a0_0 a0_1 a0_2 a0_3 a0_4 a0_5 a0_6 a0_7 a0_8 a0_9 a0_10) = some r := by rw [if_neg (show ¬ (false = true) by decide)] at H; exact H
          clear H
          have H := H1
          clear H1
          have H' := Aside0.mk H
          clear H
          have hcz14_0 : w6.cell? ⟨gb248, 0, none⟩ = some (.string a0_0) := (blk_cell BK248.out 0).trans rfl
          have hcz14_1 : w6.cell? ⟨gb248, 1, none⟩ = some (.string a0_1) := (blk_cell BK248.out 1).trans rfl
          have hcz14_2 : w6.cell? ⟨gb248, 2, none⟩ = some (.string a0_2) := (blk_cell BK248.out 2).trans rfl
          have hcz14_3 : w6.cell? ⟨gb248, 3, none⟩ = some (.string a0_3) := (blk_cell BK248.out 3).trans rfl
          have hcz14_4 : w6.cell? ⟨gb248, 4, none⟩ = some (.int .i64 a0_4) := (blk_cell BK248.out 4).trans rfl
          have hcz14_5 : w6.cell? ⟨gb248, 5, none⟩ = some (.int .i64 a0_5) := (blk_cell BK248.out 5).trans rfl
          have hcz14_6 : w6.cell? ⟨gb248, 6, none⟩ = some (.int .i64 a0_6) := (blk_cell BK248.out 6).trans rfl
          have hcz14_7 : w6.cell? ⟨gb248, 7, none⟩ = some (.bool a0_7) := (blk_cell BK248.out 7).trans rfl
          have hcz14_8 : w6.cell? ⟨gb248, 8, none⟩ = some (.bool a0_8) := (blk_cell BK248.out 8).trans rfl
          have hcz14_9 : w6.cell? ⟨gb248, 9, none⟩ = some (.bool a0_9) := (blk_cell BK248.out 9).trans rfl
          have hcz14_10 : w6.cell? ⟨gb248, 10, none⟩ = some (.int .i64 a0_10) := (blk_cell BK248.out 10).trans rfl
          have hfz14_0 := blk_frozen BK248.out 0
          have hfz14_1 := blk_frozen BK248.out 1
          have hfz14_2 := blk_frozen BK248.out 2
          have hfz14_3 := blk_frozen BK248.out 3
          have hfz14_4 := blk_frozen BK248.out 4
          have hfz14_5 := blk_frozen BK248.out 5
          have hfz14_6 := blk_frozen BK248.out 6
          have hfz14_7 := blk_frozen BK248.out 7
          have hfz14_8 := blk_frozen BK248.out 8
          have hfz14_9 := blk_frozen BK248.out 9
          have hfz14_10 := blk_frozen BK248.out 10
          go_wp2_with (first | (go_at_call 21; (with_reducible refine (cracknelref11_Ip.calls k a0_0 false _ A9.out).mono ?_); rintro e w15 ⟨rfl, hb⟩; have n0_ := blkB BK248 hb; have n1_ := Aside0.mk (below_step xb hb); clear BK248; clear HB; have BK248 := n0_; have HB := n1_; clear n0_ n1_; (try clear hb); (try clear hb2); (try clear hk); (try clear hi)))
          go_meet
          case rel => exact ⟨_, (false), (by first | rfl | (simp; done) | (simp [*]; done)), H', ⟨by first | omega | exact Nat.le_refl _⟩, ⟨xk⟩, ⟨xb⟩⟩
      · rw [if_neg c8] at H
        have c8b0 : (t249.toList == a0_0.toList) = false := beq_eq_false_iff_ne.mpr c8
        have c8b1 : (t249.toList != a0_0.toList) = true := bne_iff_ne.mpr c8
        (first | rw [c8b0] | (simp only [i64_w, i32_w]; rw [c8b0]) | skip)
        have H' := Aside0.mk H
        clear H
        have hcz16_0 : w6.cell? ⟨gb248, 0, none⟩ = some (.string a0_0) := (blk_cell BK248.out 0).trans rfl
        have hcz16_1 : w6.cell? ⟨gb248, 1, none⟩ = some (.string a0_1) := (blk_cell BK248.out 1).trans rfl
        have hcz16_2 : w6.cell? ⟨gb248, 2, none⟩ = some (.string a0_2) := (blk_cell BK248.out 2).trans rfl
        have hcz16_3 : w6.cell? ⟨gb248, 3, none⟩ = some (.string a0_3) := (blk_cell BK248.out 3).trans rfl
        have hcz16_4 : w6.cell? ⟨gb248, 4, none⟩ = some (.int .i64 a0_4) := (blk_cell BK248.out 4).trans rfl
        have hcz16_5 : w6.cell? ⟨gb248, 5, none⟩ = some (.int .i64 a0_5) := (blk_cell BK248.out 5).trans rfl
        have hcz16_6 : w6.cell? ⟨gb248, 6, none⟩ = some (.int .i64 a0_6) := (blk_cell BK248.out 6).trans rfl
        have hcz16_7 : w6.cell? ⟨gb248, 7, none⟩ = some (.bool a0_7) := (blk_cell BK248.out 7).trans rfl
        have hcz16_8 : w6.cell? ⟨gb248, 8, none⟩ = some (.bool a0_8) := (blk_cell BK248.out 8).trans rfl
        have hcz16_9 : w6.cell? ⟨gb248, 9, none⟩ = some (.bool a0_9) := (blk_cell BK248.out 9).trans rfl
        have hcz16_10 : w6.cell? ⟨gb248, 10, none⟩ = some (.int .i64 a0_10) := (blk_cell BK248.out 10).trans rfl
        have hfz16_0 := blk_frozen BK248.out 0
        have hfz16_1 := blk_frozen BK248.out 1
        have hfz16_2 := blk_frozen BK248.out 2
        have hfz16_3 := blk_frozen BK248.out 3
        have hfz16_4 := blk_frozen BK248.out 4
        have hfz16_5 := blk_frozen BK248.out 5
        have hfz16_6 := blk_frozen BK248.out 6
        have hfz16_7 := blk_frozen BK248.out 7
        have hfz16_8 := blk_frozen BK248.out 8
        have hfz16_9 := blk_frozen BK248.out 9
        have hfz16_10 := blk_frozen BK248.out 10
        go_wp2
        go_meet
        case rel => exact ⟨_, (true), (by first | rfl | (simp; done) | (simp [*]; done)), H', ⟨by first | omega | exact Nat.le_refl _⟩, ⟨xk⟩, ⟨xb⟩⟩
    · replace c7 := Bool.eq_false_iff.mpr c7
      subst c7
      have H1 : (cracknelref13_Right.j0 k true a0_0 a0_1 a0_2 a0_3 a0_4 a0_5 a0_6 a0_7 a0_8 a0_9 a0_10) = some r := by rw [if_neg (show ¬ (false = true) by decide)] at H; exact H
      clear H
      have H := H1
      clear H1
      have H' := Aside0.mk H
      clear H
      go_wp2
      go_meet
      case rel => exact ⟨_, (true), (by first | rfl | (simp; done) | (simp [*]; done)), H', ⟨by first | omega | exact Nat.le_refl _⟩, ⟨xk⟩, ⟨xb⟩⟩
  case rest =>
    clear HC3
    try clear c1
    try clear c2
    try clear p2
    try clear p3
    try clear c6
    try clear p6
    try clear c7
    try clear c8
    try clear c8b0
    try clear c8b1
    try clear c10
    try clear hcz11_0
    try clear hcz11_1
    try clear hcz11_10
    try clear hcz11_2
    try clear hcz11_3
    try clear hcz11_4
    try clear hcz11_5
    try clear hcz11_6
    try clear hcz11_7
    try clear hcz11_8
    try clear hcz11_9
    try clear hcz13_0
    try clear hcz13_1
    try clear hcz13_10
    try clear hcz13_2
    try clear hcz13_3
    try clear hcz13_4
    try clear hcz13_5
    try clear hcz13_6
    try clear hcz13_7
    try clear hcz13_8
    try clear hcz13_9
    try clear hcz14_0
    try clear hcz14_1
    try clear hcz14_10
    try clear hcz14_2
    try clear hcz14_3
    try clear hcz14_4
    try clear hcz14_5
    try clear hcz14_6
    try clear hcz14_7
    try clear hcz14_8
    try clear hcz14_9
    try clear hcz16_0
    try clear hcz16_1
    try clear hcz16_10
    try clear hcz16_2
    try clear hcz16_3
    try clear hcz16_4
    try clear hcz16_5
    try clear hcz16_6
    try clear hcz16_7
    try clear hcz16_8
    try clear hcz16_9
    try clear hcz5_0
    try clear hcz5_1
    try clear hcz5_10
    try clear hcz5_2
    try clear hcz5_3
    try clear hcz5_4
    try clear hcz5_5
    try clear hcz5_6
    try clear hcz5_7
    try clear hcz5_8
    try clear hcz5_9
    try clear hfz11_0
    try clear hfz11_1
    try clear hfz11_10
    try clear hfz11_2
    try clear hfz11_3
    try clear hfz11_4
    try clear hfz11_5
    try clear hfz11_6
    try clear hfz11_7
    try clear hfz11_8
    try clear hfz11_9
    try clear hfz13_0
    try clear hfz13_1
    try clear hfz13_10
    try clear hfz13_2
    try clear hfz13_3
    try clear hfz13_4
    try clear hfz13_5
    try clear hfz13_6
    try clear hfz13_7
    try clear hfz13_8
    try clear hfz13_9
    try clear hfz14_0
    try clear hfz14_1
    try clear hfz14_10
    try clear hfz14_2
    try clear hfz14_3
    try clear hfz14_4
    try clear hfz14_5
    try clear hfz14_6
    try clear hfz14_7
    try clear hfz14_8
    try clear hfz14_9
    try clear hfz16_0
    try clear hfz16_1
    try clear hfz16_10
    try clear hfz16_2
    try clear hfz16_3
    try clear hfz16_4
    try clear hfz16_5
    try clear hfz16_6
    try clear hfz16_7
    try clear hfz16_8
    try clear hfz16_9
    try clear hfz5_0
    try clear hfz5_1
    try clear hfz5_10
    try clear hfz5_2
    try clear hfz5_3
    try clear hfz5_4
    try clear hfz5_5
    try clear hfz5_6
    try clear hfz5_7
    try clear hfz5_8
    try clear hfz5_9
    obtain ⟨kq, x28_2, rfl, HA, HJ2, BK248, HB⟩ := hcut
    cases kq with
    | zero => exact absurd HA.out (by simp [cracknelref13_Right.j0])
    | succ kj2 =>
      have H := HA.out
      clear HA
      simp only [cracknelref13_Right.j0] at H
      by_cases c17 : x28_2 = true
      · subst c17
        have H1 : (some false) = some r := by rw [if_pos rfl] at H; exact H
        clear H
        have H := H1
        clear H1
        obtain rfl := Option.some.inj H
        go_wp2
        go_ret
        exact ⟨by first | rfl | (simp [errW_none, errW_some] <;> rfl) | (simp [*, errW_none, errW_some] <;> rfl), by repeat (first | (with_reducible first | exact HB.out | apply below_alloc | apply pw_below_drewN | apply below_drew1 | refine below_set ?_ GE248.out) | exact HB.out)⟩
      · replace c17 := Bool.eq_false_iff.mpr c17
        subst c17
        have H1 : ((cracknelref12_Right.f kj2 a0_1).bind fun t252 => (if t252 = true then ((cracknelref01_Token.f kj2 a0_2).bind fun t253 => (if t253 = true then (if (a0_2.size : Int) > 64 then (cracknelref13_Right.j1 kj2 true a0_0 a0_1 a0_2 a0_3 a0_4 a0_5 a0_6 a0_7 a0_8 a0_9 a0_10) else ((cracknelref01_Octets.f kj2 a0_3).bind fun t254 => (if t254 = true then (cracknelref13_Right.j1 kj2 (decide ((a0_3.size : Int) > 128)) a0_0 a0_1 a0_2 a0_3 a0_4 a0_5 a0_6 a0_7 a0_8 a0_9 a0_10) else (cracknelref13_Right.j1 kj2 true a0_0 a0_1 a0_2 a0_3 a0_4 a0_5 a0_6 a0_7 a0_8 a0_9 a0_10)))) else (cracknelref13_Right.j1 kj2 true a0_0 a0_1 a0_2 a0_3 a0_4 a0_5 a0_6 a0_7 a0_8 a0_9 a0_10))) else (cracknelref13_Right.j1 kj2 true a0_0 a0_1 a0_2 a0_3 a0_4 a0_5 a0_6 a0_7 a0_8 a0_9 a0_10))) = some r := by rw [if_neg (show ¬ (false = true) by decide)] at H; exact H
        clear H
        have H := H1
        clear H1
        have HC18 := Aside0.mk H
        clear H
        go_upto_region 4 with (fail)
        go_cut [56] (fun v56 wc => ∃ (kq : Nat) (x56_17 : Bool), v56 = .bool x56_17 ∧ Aside0 (cracknelref13_Right.j1 kq x56_17 a0_0 a0_1 a0_2 a0_3 a0_4 a0_5 a0_6 a0_7 a0_8 a0_9 a0_10 = some r) ∧ Aside0 (kq ≤ kj2) ∧ Aside0 (wc.heap[gb248]? = some (.cells #[.string a0_0, .string a0_1, .string a0_2, .string a0_3, .int .i64 a0_4, .int .i64 a0_5, .int .i64 a0_6, .bool a0_7, .bool a0_8, .bool a0_9, .int .i64 a0_10] 23 (0, 0))) ∧ Aside0 (Below w.heap.size w wc))
        case first =>
          have H := HC18.out
          clear HC18
          replace H := Option.bind_eq_some_iff.mp H
          obtain ⟨t252, A190, H⟩ := H
          replace H : (if t252 = true then ((cracknelref01_Token.f kj2 a0_2).bind fun t253 => (if t253 = true then (if (a0_2.size : Int) > 64 then (cracknelref13_Right.j1 kj2 true a0_0 a0_1 a0_2 a0_3 a0_4 a0_5 a0_6 a0_7 a0_8 a0_9 a0_10) else ((cracknelref01_Octets.f kj2 a0_3).bind fun t254 => (if t254 = true then (cracknelref13_Right.j1 kj2 (decide ((a0_3.size : Int) > 128)) a0_0 a0_1 a0_2 a0_3 a0_4 a0_5 a0_6 a0_7 a0_8 a0_9 a0_10) else (cracknelref13_Right.j1 kj2 true a0_0 a0_1 a0_2 a0_3 a0_4 a0_5 a0_6 a0_7 a0_8 a0_9 a0_10)))) else (cracknelref13_Right.j1 kj2 true a0_0 a0_1 a0_2 a0_3 a0_4 a0_5 a0_6 a0_7 a0_8 a0_9 a0_10))) else (cracknelref13_Right.j1 kj2 true a0_0 a0_1 a0_2 a0_3 a0_4 a0_5 a0_6 a0_7 a0_8 a0_9 a0_10)) = some r := H
          have A19 := Aside0.mk A190
          clear A190
          by_cases c20 : t252 = true
          · subst c20
            have H1 : ((cracknelref01_Token.f kj2 a0_2).bind fun t253 => (if t253 = true then (if (a0_2.size : Int) > 64 then (cracknelref13_Right.j1 kj2 true a0_0 a0_1 a0_2 a0_3 a0_4 a0_5 a0_6 a0_7 a0_8 a0_9 a0_10) else ((cracknelref01_Octets.f kj2 a0_3).bind fun t254 => (if t254 = true then (cracknelref13_Right.j1 kj2 (decide ((a0_3.size : Int) > 128)) a0_0 a0_1 a0_2 a0_3 a0_4 a0_5 a0_6 a0_7 a0_8 a0_9 a0_10) else (cracknelref13_Right.j1 kj2 true a0_0 a0_1 a0_2 a0_3 a0_4 a0_5 a0_6 a0_7 a0_8 a0_9 a0_10)))) else (cracknelref13_Right.j1 kj2 true a0_0 a0_1 a0_2 a0_3 a0_4 a0_5 a0_6 a0_7 a0_8 a0_9 a0_10))) = some r := by rw [if_pos rfl] at H; exact H
            clear H
            have H := H1
            clear H1
            replace H := Option.bind_eq_some_iff.mp H
            obtain ⟨t253, A210, H⟩ := H
            replace H : (if t253 = true then (if (a0_2.size : Int) > 64 then (cracknelref13_Right.j1 kj2 true a0_0 a0_1 a0_2 a0_3 a0_4 a0_5 a0_6 a0_7 a0_8 a0_9 a0_10) else ((cracknelref01_Octets.f kj2 a0_3).bind fun t254 => (if t254 = true then (cracknelref13_Right.j1 kj2 (decide ((a0_3.size : Int) > 128)) a0_0 a0_1 a0_2 a0_3 a0_4 a0_5 a0_6 a0_7 a0_8 a0_9 a0_10) else (cracknelref13_Right.j1 kj2 true a0_0 a0_1 a0_2 a0_3 a0_4 a0_5 a0_6 a0_7 a0_8 a0_9 a0_10)))) else (cracknelref13_Right.j1 kj2 true a0_0 a0_1 a0_2 a0_3 a0_4 a0_5 a0_6 a0_7 a0_8 a0_9 a0_10)) = some r := H
            have A21 := Aside0.mk A210
            clear A210
            by_cases c22 : t253 = true
            · subst c22
              have H1 : (if (a0_2.size : Int) > 64 then (cracknelref13_Right.j1 kj2 true a0_0 a0_1 a0_2 a0_3 a0_4 a0_5 a0_6 a0_7 a0_8 a0_9 a0_10) else ((cracknelref01_Octets.f kj2 a0_3).bind fun t254 => (if t254 = true then (cracknelref13_Right.j1 kj2 (decide ((a0_3.size : Int) > 128)) a0_0 a0_1 a0_2 a0_3 a0_4 a0_5 a0_6 a0_7 a0_8 a0_9 a0_10) else (cracknelref13_Right.j1 kj2 true a0_0 a0_1 a0_2 a0_3 a0_4 a0_5 a0_6 a0_7 a0_8 a0_9 a0_10)))) = some r := by rw [if_pos rfl] at H; exact H
              clear H
              have H := H1
              clear H1
              by_cases c23 : (a0_2.size : Int) > 64
              · rw [if_pos c23] at H
                have c23b0 : decide (64 < (a0_2.size : Int)) = true := decide_eq_true c23
                have c23b1 : decide (64 < a0_2.size) = true := decide_eq_true (by omega)
                clear c23
                (first | rw [c23b0] | (simp only [i64_w, i32_w]; rw [c23b0]) | skip)
                have H' := Aside0.mk H
                clear H
                have hcz24_0 : wc.cell? ⟨gb248, 0, none⟩ = some (.string a0_0) := (blk_cell BK248.out 0).trans rfl
                have hcz24_1 : wc.cell? ⟨gb248, 1, none⟩ = some (.string a0_1) := (blk_cell BK248.out 1).trans rfl
                have hcz24_2 : wc.cell? ⟨gb248, 2, none⟩ = some (.string a0_2) := (blk_cell BK248.out 2).trans rfl
                have hcz24_3 : wc.cell? ⟨gb248, 3, none⟩ = some (.string a0_3) := (blk_cell BK248.out 3).trans rfl
                have hcz24_4 : wc.cell? ⟨gb248, 4, none⟩ = some (.int .i64 a0_4) := (blk_cell BK248.out 4).trans rfl
                have hcz24_5 : wc.cell? ⟨gb248, 5, none⟩ = some (.int .i64 a0_5) := (blk_cell BK248.out 5).trans rfl
                have hcz24_6 : wc.cell? ⟨gb248, 6, none⟩ = some (.int .i64 a0_6) := (blk_cell BK248.out 6).trans rfl
                have hcz24_7 : wc.cell? ⟨gb248, 7, none⟩ = some (.bool a0_7) := (blk_cell BK248.out 7).trans rfl
                have hcz24_8 : wc.cell? ⟨gb248, 8, none⟩ = some (.bool a0_8) := (blk_cell BK248.out 8).trans rfl
                have hcz24_9 : wc.cell? ⟨gb248, 9, none⟩ = some (.bool a0_9) := (blk_cell BK248.out 9).trans rfl
                have hcz24_10 : wc.cell? ⟨gb248, 10, none⟩ = some (.int .i64 a0_10) := (blk_cell BK248.out 10).trans rfl
                have hfz24_0 := blk_frozen BK248.out 0
                have hfz24_1 := blk_frozen BK248.out 1
                have hfz24_2 := blk_frozen BK248.out 2
                have hfz24_3 := blk_frozen BK248.out 3
                have hfz24_4 := blk_frozen BK248.out 4
                have hfz24_5 := blk_frozen BK248.out 5
                have hfz24_6 := blk_frozen BK248.out 6
                have hfz24_7 := blk_frozen BK248.out 7
                have hfz24_8 := blk_frozen BK248.out 8
                have hfz24_9 := blk_frozen BK248.out 9
                have hfz24_10 := blk_frozen BK248.out 10
                go_wp2_with (first | ((with_reducible refine gate_callee (f := 22) rfl ?_); refine goesL_ (some 31) rfl rfl Tryz.func22 (by kernel_rfl) rfl #[.string a0_1] rfl xg ?_; (with_reducible refine (cracknelref12_Right.calls kj2 a0_1 true _ A19.out).mono ?_); rintro e w' ⟨rfl, ⟨nd, rfl⟩⟩; refine ⟨_, rfl, ?_⟩) | (go_at_call 23; (with_reducible refine (cracknelref01_Token.calls kj2 a0_2 true _ A21.out).mono ?_); rintro e w' ⟨rfl, ⟨nd, rfl⟩⟩))
                go_meet
                case rel => exact ⟨_, (true), (by first | rfl | (simp; done) | (simp [*]; done)), H', ⟨by have := HJ2.out; first | omega | exact Nat.le_refl _⟩, ⟨xk⟩, ⟨xb⟩⟩
              · rw [if_neg c23] at H
                have c23b0 : decide (64 < (a0_2.size : Int)) = false := decide_eq_false c23
                have c23b1 : decide (64 < a0_2.size) = false := decide_eq_false (by omega)
                clear c23
                (first | rw [c23b0] | (simp only [i64_w, i32_w]; rw [c23b0]) | skip)
                replace H := Option.bind_eq_some_iff.mp H
                obtain ⟨t254, A250, H⟩ := H
                replace H : (if t254 = true then (cracknelref13_Right.j1 kj2 (decide ((a0_3.size : Int) > 128)) a0_0 a0_1 a0_2 a0_3 a0_4 a0_5 a0_6 a0_7 a0_8 a0_9 a0_10) else (cracknelref13_Right.j1 kj2 true a0_0 a0_1 a0_2 a0_3 a0_4 a0_5 a0_6 a0_7 a0_8 a0_9 a0_10)) = some r := H
                have A25 := Aside0.mk A250
                clear A250
                by_cases c26 : t254 = true
                · subst c26
                  have H1 : (cracknelref13_Right.j1 kj2 (decide ((a0_3.size : Int) > 128)) a0_0 a0_1 a0_2 a0_3 a0_4 a0_5 a0_6 a0_7 a0_8 a0_9 a0_10) = some r := by rw [if_pos rfl] at H; exact H
                  clear H
                  have H := H1
                  clear H1
                  have H' := Aside0.mk H
                  clear H
                  have hcz27_0 : wc.cell? ⟨gb248, 0, none⟩ = some (.string a0_0) := (blk_cell BK248.out 0).trans rfl
                  have hcz27_1 : wc.cell? ⟨gb248, 1, none⟩ = some (.string a0_1) := (blk_cell BK248.out 1).trans rfl
                  have hcz27_2 : wc.cell? ⟨gb248, 2, none⟩ = some (.string a0_2) := (blk_cell BK248.out 2).trans rfl
                  have hcz27_3 : wc.cell? ⟨gb248, 3, none⟩ = some (.string a0_3) := (blk_cell BK248.out 3).trans rfl
                  have hcz27_4 : wc.cell? ⟨gb248, 4, none⟩ = some (.int .i64 a0_4) := (blk_cell BK248.out 4).trans rfl
                  have hcz27_5 : wc.cell? ⟨gb248, 5, none⟩ = some (.int .i64 a0_5) := (blk_cell BK248.out 5).trans rfl
                  have hcz27_6 : wc.cell? ⟨gb248, 6, none⟩ = some (.int .i64 a0_6) := (blk_cell BK248.out 6).trans rfl
                  have hcz27_7 : wc.cell? ⟨gb248, 7, none⟩ = some (.bool a0_7) := (blk_cell BK248.out 7).trans rfl
                  have hcz27_8 : wc.cell? ⟨gb248, 8, none⟩ = some (.bool a0_8) := (blk_cell BK248.out 8).trans rfl
                  have hcz27_9 : wc.cell? ⟨gb248, 9, none⟩ = some (.bool a0_9) := (blk_cell BK248.out 9).trans rfl
                  have hcz27_10 : wc.cell? ⟨gb248, 10, none⟩ = some (.int .i64 a0_10) := (blk_cell BK248.out 10).trans rfl
                  have hfz27_0 := blk_frozen BK248.out 0
                  have hfz27_1 := blk_frozen BK248.out 1
                  have hfz27_2 := blk_frozen BK248.out 2
                  have hfz27_3 := blk_frozen BK248.out 3
                  have hfz27_4 := blk_frozen BK248.out 4
                  have hfz27_5 := blk_frozen BK248.out 5
                  have hfz27_6 := blk_frozen BK248.out 6
                  have hfz27_7 := blk_frozen BK248.out 7
                  have hfz27_8 := blk_frozen BK248.out 8
                  have hfz27_9 := blk_frozen BK248.out 9
                  have hfz27_10 := blk_frozen BK248.out 10
                  go_wp2_with (first | ((with_reducible refine gate_callee (f := 22) rfl ?_); refine goesL_ (some 31) rfl rfl Tryz.func22 (by kernel_rfl) rfl #[.string a0_1] rfl xg ?_; (with_reducible refine (cracknelref12_Right.calls kj2 a0_1 true _ A19.out).mono ?_); rintro e w' ⟨rfl, ⟨nd, rfl⟩⟩; refine ⟨_, rfl, ?_⟩) | (go_at_call 23; (with_reducible refine (cracknelref01_Token.calls kj2 a0_2 true _ A21.out).mono ?_); rintro e w' ⟨rfl, ⟨nd, rfl⟩⟩) | (go_at_call 24; (with_reducible refine (cracknelref01_Octets.calls kj2 a0_3 true _ A25.out).mono ?_); rintro e w' ⟨rfl, ⟨nd, rfl⟩⟩))
                  go_meet
                  case rel => exact ⟨_, (decide ((a0_3.size : Int) > 128)), (by first | rfl | (simp; done) | (simp [*]; done)), H', ⟨by have := HJ2.out; first | omega | exact Nat.le_refl _⟩, ⟨xk⟩, ⟨xb⟩⟩
                · replace c26 := Bool.eq_false_iff.mpr c26
                  subst c26
                  have H1 : (cracknelref13_Right.j1 kj2 true a0_0 a0_1 a0_2 a0_3 a0_4 a0_5 a0_6 a0_7 a0_8 a0_9 a0_10) = some r := by rw [if_neg (show ¬ (false = true) by decide)] at H; exact H
                  clear H
                  have H := H1
                  clear H1
                  have H' := Aside0.mk H
                  clear H
                  have hcz28_0 : wc.cell? ⟨gb248, 0, none⟩ = some (.string a0_0) := (blk_cell BK248.out 0).trans rfl
                  have hcz28_1 : wc.cell? ⟨gb248, 1, none⟩ = some (.string a0_1) := (blk_cell BK248.out 1).trans rfl
                  have hcz28_2 : wc.cell? ⟨gb248, 2, none⟩ = some (.string a0_2) := (blk_cell BK248.out 2).trans rfl
                  have hcz28_3 : wc.cell? ⟨gb248, 3, none⟩ = some (.string a0_3) := (blk_cell BK248.out 3).trans rfl
                  have hcz28_4 : wc.cell? ⟨gb248, 4, none⟩ = some (.int .i64 a0_4) := (blk_cell BK248.out 4).trans rfl
                  have hcz28_5 : wc.cell? ⟨gb248, 5, none⟩ = some (.int .i64 a0_5) := (blk_cell BK248.out 5).trans rfl
                  have hcz28_6 : wc.cell? ⟨gb248, 6, none⟩ = some (.int .i64 a0_6) := (blk_cell BK248.out 6).trans rfl
                  have hcz28_7 : wc.cell? ⟨gb248, 7, none⟩ = some (.bool a0_7) := (blk_cell BK248.out 7).trans rfl
                  have hcz28_8 : wc.cell? ⟨gb248, 8, none⟩ = some (.bool a0_8) := (blk_cell BK248.out 8).trans rfl
                  have hcz28_9 : wc.cell? ⟨gb248, 9, none⟩ = some (.bool a0_9) := (blk_cell BK248.out 9).trans rfl
                  have hcz28_10 : wc.cell? ⟨gb248, 10, none⟩ = some (.int .i64 a0_10) := (blk_cell BK248.out 10).trans rfl
                  have hfz28_0 := blk_frozen BK248.out 0
                  have hfz28_1 := blk_frozen BK248.out 1
                  have hfz28_2 := blk_frozen BK248.out 2
                  have hfz28_3 := blk_frozen BK248.out 3
                  have hfz28_4 := blk_frozen BK248.out 4
                  have hfz28_5 := blk_frozen BK248.out 5
                  have hfz28_6 := blk_frozen BK248.out 6
                  have hfz28_7 := blk_frozen BK248.out 7
                  have hfz28_8 := blk_frozen BK248.out 8
                  have hfz28_9 := blk_frozen BK248.out 9
                  have hfz28_10 := blk_frozen BK248.out 10
                  go_wp2_with (first | ((with_reducible refine gate_callee (f := 22) rfl ?_); refine goesL_ (some 31) rfl rfl Tryz.func22 (by kernel_rfl) rfl #[.string a0_1] rfl xg ?_; (with_reducible refine (cracknelref12_Right.calls kj2 a0_1 true _ A19.out).mono ?_); rintro e w' ⟨rfl, ⟨nd, rfl⟩⟩; refine ⟨_, rfl, ?_⟩) | (go_at_call 23; (with_reducible refine (cracknelref01_Token.calls kj2 a0_2 true _ A21.out).mono ?_); rintro e w' ⟨rfl, ⟨nd, rfl⟩⟩) | (go_at_call 24; (with_reducible refine (cracknelref01_Octets.calls kj2 a0_3 false _ A25.out).mono ?_); rintro e w' ⟨rfl, ⟨nd, rfl⟩⟩))
                  go_meet
                  case rel => exact ⟨_, (true), (by first | rfl | (simp; done) | (simp [*]; done)), H', ⟨by have := HJ2.out; first | omega | exact Nat.le_refl _⟩, ⟨xk⟩, ⟨xb⟩⟩
            · replace c22 := Bool.eq_false_iff.mpr c22
              subst c22
              have H1 : (cracknelref13_Right.j1 kj2 true a0_0 a0_1 a0_2 a0_3 a0_4 a0_5 a0_6 a0_7 a0_8 a0_9 a0_10) = some r := by rw [if_neg (show ¬ (false = true) by decide)] at H; exact H
              clear H
              have H := H1
              clear H1
              have H' := Aside0.mk H
              clear H
              have hcz29_0 : wc.cell? ⟨gb248, 0, none⟩ = some (.string a0_0) := (blk_cell BK248.out 0).trans rfl
              have hcz29_1 : wc.cell? ⟨gb248, 1, none⟩ = some (.string a0_1) := (blk_cell BK248.out 1).trans rfl
              have hcz29_2 : wc.cell? ⟨gb248, 2, none⟩ = some (.string a0_2) := (blk_cell BK248.out 2).trans rfl
              have hcz29_3 : wc.cell? ⟨gb248, 3, none⟩ = some (.string a0_3) := (blk_cell BK248.out 3).trans rfl
              have hcz29_4 : wc.cell? ⟨gb248, 4, none⟩ = some (.int .i64 a0_4) := (blk_cell BK248.out 4).trans rfl
              have hcz29_5 : wc.cell? ⟨gb248, 5, none⟩ = some (.int .i64 a0_5) := (blk_cell BK248.out 5).trans rfl
              have hcz29_6 : wc.cell? ⟨gb248, 6, none⟩ = some (.int .i64 a0_6) := (blk_cell BK248.out 6).trans rfl
              have hcz29_7 : wc.cell? ⟨gb248, 7, none⟩ = some (.bool a0_7) := (blk_cell BK248.out 7).trans rfl
              have hcz29_8 : wc.cell? ⟨gb248, 8, none⟩ = some (.bool a0_8) := (blk_cell BK248.out 8).trans rfl
              have hcz29_9 : wc.cell? ⟨gb248, 9, none⟩ = some (.bool a0_9) := (blk_cell BK248.out 9).trans rfl
              have hcz29_10 : wc.cell? ⟨gb248, 10, none⟩ = some (.int .i64 a0_10) := (blk_cell BK248.out 10).trans rfl
              have hfz29_0 := blk_frozen BK248.out 0
              have hfz29_1 := blk_frozen BK248.out 1
              have hfz29_2 := blk_frozen BK248.out 2
              have hfz29_3 := blk_frozen BK248.out 3
              have hfz29_4 := blk_frozen BK248.out 4
              have hfz29_5 := blk_frozen BK248.out 5
              have hfz29_6 := blk_frozen BK248.out 6
              have hfz29_7 := blk_frozen BK248.out 7
              have hfz29_8 := blk_frozen BK248.out 8
              have hfz29_9 := blk_frozen BK248.out 9
              have hfz29_10 := blk_frozen BK248.out 10
              go_wp2_with (first | ((with_reducible refine gate_callee (f := 22) rfl ?_); refine goesL_ (some 31) rfl rfl Tryz.func22 (by kernel_rfl) rfl #[.string a0_1] rfl xg ?_; (with_reducible refine (cracknelref12_Right.calls kj2 a0_1 true _ A19.out).mono ?_); rintro e w' ⟨rfl, ⟨nd, rfl⟩⟩; refine ⟨_, rfl, ?_⟩) | (go_at_call 23; (with_reducible refine (cracknelref01_Token.calls kj2 a0_2 false _ A21.out).mono ?_); rintro e w' ⟨rfl, ⟨nd, rfl⟩⟩))
              go_meet
              case rel => exact ⟨_, (true), (by first | rfl | (simp; done) | (simp [*]; done)), H', ⟨by have := HJ2.out; first | omega | exact Nat.le_refl _⟩, ⟨xk⟩, ⟨xb⟩⟩
          · replace c20 := Bool.eq_false_iff.mpr c20
            subst c20
            have H1 : (cracknelref13_Right.j1 kj2 true a0_0 a0_1 a0_2 a0_3 a0_4 a0_5 a0_6 a0_7 a0_8 a0_9 a0_10) = some r := by rw [if_neg (show ¬ (false = true) by decide)] at H; exact H
            clear H
            have H := H1
            clear H1
            have H' := Aside0.mk H
            clear H
            have hcz30_0 : wc.cell? ⟨gb248, 0, none⟩ = some (.string a0_0) := (blk_cell BK248.out 0).trans rfl
            have hcz30_1 : wc.cell? ⟨gb248, 1, none⟩ = some (.string a0_1) := (blk_cell BK248.out 1).trans rfl
            have hcz30_2 : wc.cell? ⟨gb248, 2, none⟩ = some (.string a0_2) := (blk_cell BK248.out 2).trans rfl
            have hcz30_3 : wc.cell? ⟨gb248, 3, none⟩ = some (.string a0_3) := (blk_cell BK248.out 3).trans rfl
            have hcz30_4 : wc.cell? ⟨gb248, 4, none⟩ = some (.int .i64 a0_4) := (blk_cell BK248.out 4).trans rfl
            have hcz30_5 : wc.cell? ⟨gb248, 5, none⟩ = some (.int .i64 a0_5) := (blk_cell BK248.out 5).trans rfl
            have hcz30_6 : wc.cell? ⟨gb248, 6, none⟩ = some (.int .i64 a0_6) := (blk_cell BK248.out 6).trans rfl
            have hcz30_7 : wc.cell? ⟨gb248, 7, none⟩ = some (.bool a0_7) := (blk_cell BK248.out 7).trans rfl
            have hcz30_8 : wc.cell? ⟨gb248, 8, none⟩ = some (.bool a0_8) := (blk_cell BK248.out 8).trans rfl
            have hcz30_9 : wc.cell? ⟨gb248, 9, none⟩ = some (.bool a0_9) := (blk_cell BK248.out 9).trans rfl
            have hcz30_10 : wc.cell? ⟨gb248, 10, none⟩ = some (.int .i64 a0_10) := (blk_cell BK248.out 10).trans rfl
            have hfz30_0 := blk_frozen BK248.out 0
            have hfz30_1 := blk_frozen BK248.out 1
            have hfz30_2 := blk_frozen BK248.out 2
            have hfz30_3 := blk_frozen BK248.out 3
            have hfz30_4 := blk_frozen BK248.out 4
            have hfz30_5 := blk_frozen BK248.out 5
            have hfz30_6 := blk_frozen BK248.out 6
            have hfz30_7 := blk_frozen BK248.out 7
            have hfz30_8 := blk_frozen BK248.out 8
            have hfz30_9 := blk_frozen BK248.out 9
            have hfz30_10 := blk_frozen BK248.out 10
            go_wp2_with (first | ((with_reducible refine gate_callee (f := 22) rfl ?_); refine goesL_ (some 31) rfl rfl Tryz.func22 (by kernel_rfl) rfl #[.string a0_1] rfl xg ?_; (with_reducible refine (cracknelref12_Right.calls kj2 a0_1 false _ A19.out).mono ?_); rintro e w' ⟨rfl, ⟨nd, rfl⟩⟩; refine ⟨_, rfl, ?_⟩))
            go_meet
            case rel => exact ⟨_, (true), (by first | rfl | (simp; done) | (simp [*]; done)), H', ⟨by have := HJ2.out; first | omega | exact Nat.le_refl _⟩, ⟨xk⟩, ⟨xb⟩⟩
        case rest =>
          clear HC18
          try clear c1
          try clear c2
          try clear p2
          try clear p3
          try clear c6
          try clear p6
          try clear c7
          try clear c8
          try clear c8b0
          try clear c8b1
          try clear c10
          try clear c17
          try clear c20
          try clear c22
          try clear c23
          try clear c23b0
          try clear c23b1
          try clear c26
          try clear hcz11_0
          try clear hcz11_1
          try clear hcz11_10
          try clear hcz11_2
          try clear hcz11_3
          try clear hcz11_4
          try clear hcz11_5
          try clear hcz11_6
          try clear hcz11_7
          try clear hcz11_8
          try clear hcz11_9
          try clear hcz13_0
          try clear hcz13_1
          try clear hcz13_10
          try clear hcz13_2
          try clear hcz13_3
          try clear hcz13_4
          try clear hcz13_5
          try clear hcz13_6
          try clear hcz13_7
          try clear hcz13_8
          try clear hcz13_9
          try clear hcz14_0
          try clear hcz14_1
          try clear hcz14_10
          try clear hcz14_2
          try clear hcz14_3
          try clear hcz14_4
          try clear hcz14_5
          try clear hcz14_6
          try clear hcz14_7
          try clear hcz14_8
          try clear hcz14_9
          try clear hcz16_0
          try clear hcz16_1
          try clear hcz16_10
          try clear hcz16_2
          try clear hcz16_3
          try clear hcz16_4
          try clear hcz16_5
          try clear hcz16_6
          try clear hcz16_7
          try clear hcz16_8
          try clear hcz16_9
          try clear hcz24_0
          try clear hcz24_1
          try clear hcz24_10
          try clear hcz24_2
          try clear hcz24_3
          try clear hcz24_4
          try clear hcz24_5
          try clear hcz24_6
          try clear hcz24_7
          try clear hcz24_8
          try clear hcz24_9
          try clear hcz27_0
          try clear hcz27_1
          try clear hcz27_10
          try clear hcz27_2
          try clear hcz27_3
          try clear hcz27_4
          try clear hcz27_5
          try clear hcz27_6
          try clear hcz27_7
          try clear hcz27_8
          try clear hcz27_9
          try clear hcz28_0
          try clear hcz28_1
          try clear hcz28_10
          try clear hcz28_2
          try clear hcz28_3
          try clear hcz28_4
          try clear hcz28_5
          try clear hcz28_6
          try clear hcz28_7
          try clear hcz28_8
          try clear hcz28_9
          try clear hcz29_0
          try clear hcz29_1
          try clear hcz29_10
          try clear hcz29_2
          try clear hcz29_3
          try clear hcz29_4
          try clear hcz29_5
          try clear hcz29_6
          try clear hcz29_7
          try clear hcz29_8
          try clear hcz29_9
          try clear hcz30_0
          try clear hcz30_1
          try clear hcz30_10
          try clear hcz30_2
          try clear hcz30_3
          try clear hcz30_4
          try clear hcz30_5
          try clear hcz30_6
          try clear hcz30_7
          try clear hcz30_8
          try clear hcz30_9
          try clear hcz5_0
          try clear hcz5_1
          try clear hcz5_10
          try clear hcz5_2
          try clear hcz5_3
          try clear hcz5_4
          try clear hcz5_5
          try clear hcz5_6
          try clear hcz5_7
          try clear hcz5_8
          try clear hcz5_9
          try clear hfz11_0
          try clear hfz11_1
          try clear hfz11_10
          try clear hfz11_2
          try clear hfz11_3
          try clear hfz11_4
          try clear hfz11_5
          try clear hfz11_6
          try clear hfz11_7
          try clear hfz11_8
          try clear hfz11_9
          try clear hfz13_0
          try clear hfz13_1
          try clear hfz13_10
          try clear hfz13_2
          try clear hfz13_3
          try clear hfz13_4
          try clear hfz13_5
          try clear hfz13_6
          try clear hfz13_7
          try clear hfz13_8
          try clear hfz13_9
          try clear hfz14_0
          try clear hfz14_1
          try clear hfz14_10
          try clear hfz14_2
          try clear hfz14_3
          try clear hfz14_4
          try clear hfz14_5
          try clear hfz14_6
          try clear hfz14_7
          try clear hfz14_8
          try clear hfz14_9
          try clear hfz16_0
          try clear hfz16_1
          try clear hfz16_10
          try clear hfz16_2
          try clear hfz16_3
          try clear hfz16_4
          try clear hfz16_5
          try clear hfz16_6
          try clear hfz16_7
          try clear hfz16_8
          try clear hfz16_9
          try clear hfz24_0
          try clear hfz24_1
          try clear hfz24_10
          try clear hfz24_2
          try clear hfz24_3
          try clear hfz24_4
          try clear hfz24_5
          try clear hfz24_6
          try clear hfz24_7
          try clear hfz24_8
          try clear hfz24_9
          try clear hfz27_0
          try clear hfz27_1
          try clear hfz27_10
          try clear hfz27_2
          try clear hfz27_3
          try clear hfz27_4
          try clear hfz27_5
          try clear hfz27_6
          try clear hfz27_7
          try clear hfz27_8
          try clear hfz27_9
          try clear hfz28_0
          try clear hfz28_1
          try clear hfz28_10
          try clear hfz28_2
          try clear hfz28_3
          try clear hfz28_4
          try clear hfz28_5
          try clear hfz28_6
          try clear hfz28_7
          try clear hfz28_8
          try clear hfz28_9
          try clear hfz29_0
          try clear hfz29_1
          try clear hfz29_10
          try clear hfz29_2
          try clear hfz29_3
          try clear hfz29_4
          try clear hfz29_5
          try clear hfz29_6
          try clear hfz29_7
          try clear hfz29_8
          try clear hfz29_9
          try clear hfz30_0
          try clear hfz30_1
          try clear hfz30_10
          try clear hfz30_2
          try clear hfz30_3
          try clear hfz30_4
          try clear hfz30_5
          try clear hfz30_6
          try clear hfz30_7
          try clear hfz30_8
          try clear hfz30_9
          try clear hfz5_0
          try clear hfz5_1
          try clear hfz5_10
          try clear hfz5_2
          try clear hfz5_3
          try clear hfz5_4
          try clear hfz5_5
          try clear hfz5_6
          try clear hfz5_7
          try clear hfz5_8
          try clear hfz5_9
          try clear p2
          try clear p3
          try clear p6
          obtain ⟨kq, x56_17, rfl, HA, HJ17, BK248, HB⟩ := hcut
          cases kq with
          | zero => exact absurd HA.out (by simp [cracknelref13_Right.j1])
          | succ kj17 =>
            have H := HA.out
            clear HA
            simp only [cracknelref13_Right.j1] at H
            by_cases c31 : x56_17 = true
            · subst c31
              have H1 : (some false) = some r := by rw [if_pos rfl] at H; exact H
              clear H
              have H := H1
              clear H1
              obtain rfl := Option.some.inj H
              go_wp2
              go_ret
              exact ⟨by first | rfl | (simp [errW_none, errW_some] <;> rfl) | (simp [*, errW_none, errW_some] <;> rfl), by repeat (first | (with_reducible first | exact HB.out | apply below_alloc | apply pw_below_drewN | apply below_drew1 | refine below_set ?_ GE248.out) | exact HB.out)⟩
            · replace c31 := Bool.eq_false_iff.mpr c31
              subst c31
              have H1 : (if a0_4 < 0 then (some false) else (if a0_4 > 253402300799 then (some false) else (if a0_5 < 0 then (some false) else (if a0_5 > 253402300799 then (some false) else (if a0_6 < 0 then (some false) else (if a0_6 > 253402300799 then (some false) else (if a0_10 ≥ 0 then (some (decide (a0_10 ≤ 3))) else (some false)))))))) = some r := by rw [if_neg (show ¬ (false = true) by decide)] at H; exact H
              clear H
              have H := H1
              clear H1
              by_cases c32 : a0_4 < 0
              · rw [if_pos c32] at H
                have c32b0 : decide (a0_4 < 0) = true := decide_eq_true c32
                clear c32
                obtain rfl := Option.some.inj H
                have hcz33_0 : wc.cell? ⟨gb248, 0, none⟩ = some (.string a0_0) := (blk_cell BK248.out 0).trans rfl
                have hcz33_1 : wc.cell? ⟨gb248, 1, none⟩ = some (.string a0_1) := (blk_cell BK248.out 1).trans rfl
                have hcz33_2 : wc.cell? ⟨gb248, 2, none⟩ = some (.string a0_2) := (blk_cell BK248.out 2).trans rfl
                have hcz33_3 : wc.cell? ⟨gb248, 3, none⟩ = some (.string a0_3) := (blk_cell BK248.out 3).trans rfl
                have hcz33_4 : wc.cell? ⟨gb248, 4, none⟩ = some (.int .i64 a0_4) := (blk_cell BK248.out 4).trans rfl
                have hcz33_5 : wc.cell? ⟨gb248, 5, none⟩ = some (.int .i64 a0_5) := (blk_cell BK248.out 5).trans rfl
                have hcz33_6 : wc.cell? ⟨gb248, 6, none⟩ = some (.int .i64 a0_6) := (blk_cell BK248.out 6).trans rfl
                have hcz33_7 : wc.cell? ⟨gb248, 7, none⟩ = some (.bool a0_7) := (blk_cell BK248.out 7).trans rfl
                have hcz33_8 : wc.cell? ⟨gb248, 8, none⟩ = some (.bool a0_8) := (blk_cell BK248.out 8).trans rfl
                have hcz33_9 : wc.cell? ⟨gb248, 9, none⟩ = some (.bool a0_9) := (blk_cell BK248.out 9).trans rfl
                have hcz33_10 : wc.cell? ⟨gb248, 10, none⟩ = some (.int .i64 a0_10) := (blk_cell BK248.out 10).trans rfl
                have hfz33_0 := blk_frozen BK248.out 0
                have hfz33_1 := blk_frozen BK248.out 1
                have hfz33_2 := blk_frozen BK248.out 2
                have hfz33_3 := blk_frozen BK248.out 3
                have hfz33_4 := blk_frozen BK248.out 4
                have hfz33_5 := blk_frozen BK248.out 5
                have hfz33_6 := blk_frozen BK248.out 6
                have hfz33_7 := blk_frozen BK248.out 7
                have hfz33_8 := blk_frozen BK248.out 8
                have hfz33_9 := blk_frozen BK248.out 9
                have hfz33_10 := blk_frozen BK248.out 10
                go_wp2
                go_ret
                exact ⟨by first | rfl | (simp [errW_none, errW_some] <;> rfl) | (simp [*, errW_none, errW_some] <;> rfl), by repeat (first | (with_reducible first | exact HB.out | apply below_alloc | apply pw_below_drewN | apply below_drew1 | refine below_set ?_ GE248.out) | exact HB.out)⟩
              · rw [if_neg c32] at H
                have c32b0 : decide (a0_4 < 0) = false := decide_eq_false c32
                clear c32
                by_cases c34 : a0_4 > 253402300799
                · rw [if_pos c34] at H
                  have c34b0 : decide (253402300799 < a0_4) = true := decide_eq_true c34
                  clear c34
                  obtain rfl := Option.some.inj H
                  have hcz35_0 : wc.cell? ⟨gb248, 0, none⟩ = some (.string a0_0) := (blk_cell BK248.out 0).trans rfl
                  have hcz35_1 : wc.cell? ⟨gb248, 1, none⟩ = some (.string a0_1) := (blk_cell BK248.out 1).trans rfl
                  have hcz35_2 : wc.cell? ⟨gb248, 2, none⟩ = some (.string a0_2) := (blk_cell BK248.out 2).trans rfl
                  have hcz35_3 : wc.cell? ⟨gb248, 3, none⟩ = some (.string a0_3) := (blk_cell BK248.out 3).trans rfl
                  have hcz35_4 : wc.cell? ⟨gb248, 4, none⟩ = some (.int .i64 a0_4) := (blk_cell BK248.out 4).trans rfl
                  have hcz35_5 : wc.cell? ⟨gb248, 5, none⟩ = some (.int .i64 a0_5) := (blk_cell BK248.out 5).trans rfl
                  have hcz35_6 : wc.cell? ⟨gb248, 6, none⟩ = some (.int .i64 a0_6) := (blk_cell BK248.out 6).trans rfl
                  have hcz35_7 : wc.cell? ⟨gb248, 7, none⟩ = some (.bool a0_7) := (blk_cell BK248.out 7).trans rfl
                  have hcz35_8 : wc.cell? ⟨gb248, 8, none⟩ = some (.bool a0_8) := (blk_cell BK248.out 8).trans rfl
                  have hcz35_9 : wc.cell? ⟨gb248, 9, none⟩ = some (.bool a0_9) := (blk_cell BK248.out 9).trans rfl
                  have hcz35_10 : wc.cell? ⟨gb248, 10, none⟩ = some (.int .i64 a0_10) := (blk_cell BK248.out 10).trans rfl
                  have hfz35_0 := blk_frozen BK248.out 0
                  have hfz35_1 := blk_frozen BK248.out 1
                  have hfz35_2 := blk_frozen BK248.out 2
                  have hfz35_3 := blk_frozen BK248.out 3
                  have hfz35_4 := blk_frozen BK248.out 4
                  have hfz35_5 := blk_frozen BK248.out 5
                  have hfz35_6 := blk_frozen BK248.out 6
                  have hfz35_7 := blk_frozen BK248.out 7
                  have hfz35_8 := blk_frozen BK248.out 8
                  have hfz35_9 := blk_frozen BK248.out 9
                  have hfz35_10 := blk_frozen BK248.out 10
                  go_wp2
                  go_ret
                  exact ⟨by first | rfl | (simp [errW_none, errW_some] <;> rfl) | (simp [*, errW_none, errW_some] <;> rfl), by repeat (first | (with_reducible first | exact HB.out | apply below_alloc | apply pw_below_drewN | apply below_drew1 | refine below_set ?_ GE248.out) | exact HB.out)⟩
                · rw [if_neg c34] at H
                  have c34b0 : decide (253402300799 < a0_4) = false := decide_eq_false c34
                  clear c34
                  by_cases c36 : a0_5 < 0
                  · rw [if_pos c36] at H
                    have c36b0 : decide (a0_5 < 0) = true := decide_eq_true c36
                    clear c36
                    obtain rfl := Option.some.inj H
                    have hcz37_0 : wc.cell? ⟨gb248, 0, none⟩ = some (.string a0_0) := (blk_cell BK248.out 0).trans rfl
                    have hcz37_1 : wc.cell? ⟨gb248, 1, none⟩ = some (.string a0_1) := (blk_cell BK248.out 1).trans rfl
                    have hcz37_2 : wc.cell? ⟨gb248, 2, none⟩ = some (.string a0_2) := (blk_cell BK248.out 2).trans rfl
                    have hcz37_3 : wc.cell? ⟨gb248, 3, none⟩ = some (.string a0_3) := (blk_cell BK248.out 3).trans rfl
                    have hcz37_4 : wc.cell? ⟨gb248, 4, none⟩ = some (.int .i64 a0_4) := (blk_cell BK248.out 4).trans rfl
                    have hcz37_5 : wc.cell? ⟨gb248, 5, none⟩ = some (.int .i64 a0_5) := (blk_cell BK248.out 5).trans rfl
                    have hcz37_6 : wc.cell? ⟨gb248, 6, none⟩ = some (.int .i64 a0_6) := (blk_cell BK248.out 6).trans rfl
                    have hcz37_7 : wc.cell? ⟨gb248, 7, none⟩ = some (.bool a0_7) := (blk_cell BK248.out 7).trans rfl
                    have hcz37_8 : wc.cell? ⟨gb248, 8, none⟩ = some (.bool a0_8) := (blk_cell BK248.out 8).trans rfl
                    have hcz37_9 : wc.cell? ⟨gb248, 9, none⟩ = some (.bool a0_9) := (blk_cell BK248.out 9).trans rfl
                    have hcz37_10 : wc.cell? ⟨gb248, 10, none⟩ = some (.int .i64 a0_10) := (blk_cell BK248.out 10).trans rfl
                    have hfz37_0 := blk_frozen BK248.out 0
                    have hfz37_1 := blk_frozen BK248.out 1
                    have hfz37_2 := blk_frozen BK248.out 2
                    have hfz37_3 := blk_frozen BK248.out 3
                    have hfz37_4 := blk_frozen BK248.out 4
                    have hfz37_5 := blk_frozen BK248.out 5
                    have hfz37_6 := blk_frozen BK248.out 6
                    have hfz37_7 := blk_frozen BK248.out 7
                    have hfz37_8 := blk_frozen BK248.out 8
                    have hfz37_9 := blk_frozen BK248.out 9
                    have hfz37_10 := blk_frozen BK248.out 10
                    go_wp2
                    go_ret
                    exact ⟨by first | rfl | (simp [errW_none, errW_some] <;> rfl) | (simp [*, errW_none, errW_some] <;> rfl), by repeat (first | (with_reducible first | exact HB.out | apply below_alloc | apply pw_below_drewN | apply below_drew1 | refine below_set ?_ GE248.out) | exact HB.out)⟩
                  · rw [if_neg c36] at H
                    have c36b0 : decide (a0_5 < 0) = false := decide_eq_false c36
                    clear c36
                    by_cases c38 : a0_5 > 253402300799
                    · rw [if_pos c38] at H
                      have c38b0 : decide (253402300799 < a0_5) = true := decide_eq_true c38
                      clear c38
                      obtain rfl := Option.some.inj H
                      have hcz39_0 : wc.cell? ⟨gb248, 0, none⟩ = some (.string a0_0) := (blk_cell BK248.out 0).trans rfl
                      have hcz39_1 : wc.cell? ⟨gb248, 1, none⟩ = some (.string a0_1) := (blk_cell BK248.out 1).trans rfl
                      have hcz39_2 : wc.cell? ⟨gb248, 2, none⟩ = some (.string a0_2) := (blk_cell BK248.out 2).trans rfl
                      have hcz39_3 : wc.cell? ⟨gb248, 3, none⟩ = some (.string a0_3) := (blk_cell BK248.out 3).trans rfl
                      have hcz39_4 : wc.cell? ⟨gb248, 4, none⟩ = some (.int .i64 a0_4) := (blk_cell BK248.out 4).trans rfl
                      have hcz39_5 : wc.cell? ⟨gb248, 5, none⟩ = some (.int .i64 a0_5) := (blk_cell BK248.out 5).trans rfl
                      have hcz39_6 : wc.cell? ⟨gb248, 6, none⟩ = some (.int .i64 a0_6) := (blk_cell BK248.out 6).trans rfl
                      have hcz39_7 : wc.cell? ⟨gb248, 7, none⟩ = some (.bool a0_7) := (blk_cell BK248.out 7).trans rfl
                      have hcz39_8 : wc.cell? ⟨gb248, 8, none⟩ = some (.bool a0_8) := (blk_cell BK248.out 8).trans rfl
                      have hcz39_9 : wc.cell? ⟨gb248, 9, none⟩ = some (.bool a0_9) := (blk_cell BK248.out 9).trans rfl
                      have hcz39_10 : wc.cell? ⟨gb248, 10, none⟩ = some (.int .i64 a0_10) := (blk_cell BK248.out 10).trans rfl
                      have hfz39_0 := blk_frozen BK248.out 0
                      have hfz39_1 := blk_frozen BK248.out 1
                      have hfz39_2 := blk_frozen BK248.out 2
                      have hfz39_3 := blk_frozen BK248.out 3
                      have hfz39_4 := blk_frozen BK248.out 4
                      have hfz39_5 := blk_frozen BK248.out 5
                      have hfz39_6 := blk_frozen BK248.out 6
                      have hfz39_7 := blk_frozen BK248.out 7
                      have hfz39_8 := blk_frozen BK248.out 8
                      have hfz39_9 := blk_frozen BK248.out 9
                      have hfz39_10 := blk_frozen BK248.out 10
                      go_wp2
                      go_ret
                      exact ⟨by first | rfl | (simp [errW_none, errW_some] <;> rfl) | (simp [*, errW_none, errW_some] <;> rfl), by repeat (first | (with_reducible first | exact HB.out | apply below_alloc | apply pw_below_drewN | apply below_drew1 | refine below_set ?_ GE248.out) | exact HB.out)⟩
                    · rw [if_neg c38] at H
                      have c38b0 : decide (253402300799 < a0_5) = false := decide_eq_false c38
                      clear c38
                      by_cases c40 : a0_6 < 0
                      · rw [if_pos c40] at H
                        have c40b0 : decide (a0_6 < 0) = true := decide_eq_true c40
                        clear c40
                        obtain rfl := Option.some.inj H
                        have hcz41_0 : wc.cell? ⟨gb248, 0, none⟩ = some (.string a0_0) := (blk_cell BK248.out 0).trans rfl
                        have hcz41_1 : wc.cell? ⟨gb248, 1, none⟩ = some (.string a0_1) := (blk_cell BK248.out 1).trans rfl
                        have hcz41_2 : wc.cell? ⟨gb248, 2, none⟩ = some (.string a0_2) := (blk_cell BK248.out 2).trans rfl
                        have hcz41_3 : wc.cell? ⟨gb248, 3, none⟩ = some (.string a0_3) := (blk_cell BK248.out 3).trans rfl
                        have hcz41_4 : wc.cell? ⟨gb248, 4, none⟩ = some (.int .i64 a0_4) := (blk_cell BK248.out 4).trans rfl
                        have hcz41_5 : wc.cell? ⟨gb248, 5, none⟩ = some (.int .i64 a0_5) := (blk_cell BK248.out 5).trans rfl
                        have hcz41_6 : wc.cell? ⟨gb248, 6, none⟩ = some (.int .i64 a0_6) := (blk_cell BK248.out 6).trans rfl
                        have hcz41_7 : wc.cell? ⟨gb248, 7, none⟩ = some (.bool a0_7) := (blk_cell BK248.out 7).trans rfl
                        have hcz41_8 : wc.cell? ⟨gb248, 8, none⟩ = some (.bool a0_8) := (blk_cell BK248.out 8).trans rfl
                        have hcz41_9 : wc.cell? ⟨gb248, 9, none⟩ = some (.bool a0_9) := (blk_cell BK248.out 9).trans rfl
                        have hcz41_10 : wc.cell? ⟨gb248, 10, none⟩ = some (.int .i64 a0_10) := (blk_cell BK248.out 10).trans rfl
                        have hfz41_0 := blk_frozen BK248.out 0
                        have hfz41_1 := blk_frozen BK248.out 1
                        have hfz41_2 := blk_frozen BK248.out 2
                        have hfz41_3 := blk_frozen BK248.out 3
                        have hfz41_4 := blk_frozen BK248.out 4
                        have hfz41_5 := blk_frozen BK248.out 5
                        have hfz41_6 := blk_frozen BK248.out 6
                        have hfz41_7 := blk_frozen BK248.out 7
                        have hfz41_8 := blk_frozen BK248.out 8
                        have hfz41_9 := blk_frozen BK248.out 9
                        have hfz41_10 := blk_frozen BK248.out 10
                        go_wp2
                        go_ret
                        exact ⟨by first | rfl | (simp [errW_none, errW_some] <;> rfl) | (simp [*, errW_none, errW_some] <;> rfl), by repeat (first | (with_reducible first | exact HB.out | apply below_alloc | apply pw_below_drewN | apply below_drew1 | refine below_set ?_ GE248.out) | exact HB.out)⟩
                      · rw [if_neg c40] at H
                        have c40b0 : decide (a0_6 < 0) = false := decide_eq_false c40
                        clear c40
                        by_cases c42 : a0_6 > 253402300799
                        · rw [if_pos c42] at H
                          have c42b0 : decide (253402300799 < a0_6) = true := decide_eq_true c42
                          clear c42
                          obtain rfl := Option.some.inj H
                          have hcz43_0 : wc.cell? ⟨gb248, 0, none⟩ = some (.string a0_0) := (blk_cell BK248.out 0).trans rfl
                          have hcz43_1 : wc.cell? ⟨gb248, 1, none⟩ = some (.string a0_1) := (blk_cell BK248.out 1).trans rfl
                          have hcz43_2 : wc.cell? ⟨gb248, 2, none⟩ = some (.string a0_2) := (blk_cell BK248.out 2).trans rfl
                          have hcz43_3 : wc.cell? ⟨gb248, 3, none⟩ = some (.string a0_3) := (blk_cell BK248.out 3).trans rfl
                          have hcz43_4 : wc.cell? ⟨gb248, 4, none⟩ = some (.int .i64 a0_4) := (blk_cell BK248.out 4).trans rfl
                          have hcz43_5 : wc.cell? ⟨gb248, 5, none⟩ = some (.int .i64 a0_5) := (blk_cell BK248.out 5).trans rfl
                          have hcz43_6 : wc.cell? ⟨gb248, 6, none⟩ = some (.int .i64 a0_6) := (blk_cell BK248.out 6).trans rfl
                          have hcz43_7 : wc.cell? ⟨gb248, 7, none⟩ = some (.bool a0_7) := (blk_cell BK248.out 7).trans rfl
                          have hcz43_8 : wc.cell? ⟨gb248, 8, none⟩ = some (.bool a0_8) := (blk_cell BK248.out 8).trans rfl
                          have hcz43_9 : wc.cell? ⟨gb248, 9, none⟩ = some (.bool a0_9) := (blk_cell BK248.out 9).trans rfl
                          have hcz43_10 : wc.cell? ⟨gb248, 10, none⟩ = some (.int .i64 a0_10) := (blk_cell BK248.out 10).trans rfl
                          have hfz43_0 := blk_frozen BK248.out 0
                          have hfz43_1 := blk_frozen BK248.out 1
                          have hfz43_2 := blk_frozen BK248.out 2
                          have hfz43_3 := blk_frozen BK248.out 3
                          have hfz43_4 := blk_frozen BK248.out 4
                          have hfz43_5 := blk_frozen BK248.out 5
                          have hfz43_6 := blk_frozen BK248.out 6
                          have hfz43_7 := blk_frozen BK248.out 7
                          have hfz43_8 := blk_frozen BK248.out 8
                          have hfz43_9 := blk_frozen BK248.out 9
                          have hfz43_10 := blk_frozen BK248.out 10
                          go_wp2
                          go_ret
                          exact ⟨by first | rfl | (simp [errW_none, errW_some] <;> rfl) | (simp [*, errW_none, errW_some] <;> rfl), by repeat (first | (with_reducible first | exact HB.out | apply below_alloc | apply pw_below_drewN | apply below_drew1 | refine below_set ?_ GE248.out) | exact HB.out)⟩
                        · rw [if_neg c42] at H
                          have c42b0 : decide (253402300799 < a0_6) = false := decide_eq_false c42
                          clear c42
                          by_cases c44 : a0_10 ≥ 0
                          · rw [if_pos c44] at H
                            have c44b0 : decide (0 ≤ a0_10) = true := decide_eq_true c44
                            clear c44
                            obtain rfl := Option.some.inj H
                            have hcz45_0 : wc.cell? ⟨gb248, 0, none⟩ = some (.string a0_0) := (blk_cell BK248.out 0).trans rfl
                            have hcz45_1 : wc.cell? ⟨gb248, 1, none⟩ = some (.string a0_1) := (blk_cell BK248.out 1).trans rfl
                            have hcz45_2 : wc.cell? ⟨gb248, 2, none⟩ = some (.string a0_2) := (blk_cell BK248.out 2).trans rfl
                            have hcz45_3 : wc.cell? ⟨gb248, 3, none⟩ = some (.string a0_3) := (blk_cell BK248.out 3).trans rfl
                            have hcz45_4 : wc.cell? ⟨gb248, 4, none⟩ = some (.int .i64 a0_4) := (blk_cell BK248.out 4).trans rfl
                            have hcz45_5 : wc.cell? ⟨gb248, 5, none⟩ = some (.int .i64 a0_5) := (blk_cell BK248.out 5).trans rfl
                            have hcz45_6 : wc.cell? ⟨gb248, 6, none⟩ = some (.int .i64 a0_6) := (blk_cell BK248.out 6).trans rfl
                            have hcz45_7 : wc.cell? ⟨gb248, 7, none⟩ = some (.bool a0_7) := (blk_cell BK248.out 7).trans rfl
                            have hcz45_8 : wc.cell? ⟨gb248, 8, none⟩ = some (.bool a0_8) := (blk_cell BK248.out 8).trans rfl
                            have hcz45_9 : wc.cell? ⟨gb248, 9, none⟩ = some (.bool a0_9) := (blk_cell BK248.out 9).trans rfl
                            have hcz45_10 : wc.cell? ⟨gb248, 10, none⟩ = some (.int .i64 a0_10) := (blk_cell BK248.out 10).trans rfl
                            have hfz45_0 := blk_frozen BK248.out 0
                            have hfz45_1 := blk_frozen BK248.out 1
                            have hfz45_2 := blk_frozen BK248.out 2
                            have hfz45_3 := blk_frozen BK248.out 3
                            have hfz45_4 := blk_frozen BK248.out 4
                            have hfz45_5 := blk_frozen BK248.out 5
                            have hfz45_6 := blk_frozen BK248.out 6
                            have hfz45_7 := blk_frozen BK248.out 7
                            have hfz45_8 := blk_frozen BK248.out 8
                            have hfz45_9 := blk_frozen BK248.out 9
                            have hfz45_10 := blk_frozen BK248.out 10
                            go_wp2
                            go_ret
                            exact ⟨by first | rfl | (simp [errW_none, errW_some] <;> rfl) | (simp [*, errW_none, errW_some] <;> rfl), by repeat (first | (with_reducible first | exact HB.out | apply below_alloc | apply pw_below_drewN | apply below_drew1 | refine below_set ?_ GE248.out) | exact HB.out)⟩
                          · rw [if_neg c44] at H
                            have c44b0 : decide (0 ≤ a0_10) = false := decide_eq_false c44
                            clear c44
                            obtain rfl := Option.some.inj H
                            have hcz46_0 : wc.cell? ⟨gb248, 0, none⟩ = some (.string a0_0) := (blk_cell BK248.out 0).trans rfl
                            have hcz46_1 : wc.cell? ⟨gb248, 1, none⟩ = some (.string a0_1) := (blk_cell BK248.out 1).trans rfl
                            have hcz46_2 : wc.cell? ⟨gb248, 2, none⟩ = some (.string a0_2) := (blk_cell BK248.out 2).trans rfl
                            have hcz46_3 : wc.cell? ⟨gb248, 3, none⟩ = some (.string a0_3) := (blk_cell BK248.out 3).trans rfl
                            have hcz46_4 : wc.cell? ⟨gb248, 4, none⟩ = some (.int .i64 a0_4) := (blk_cell BK248.out 4).trans rfl
                            have hcz46_5 : wc.cell? ⟨gb248, 5, none⟩ = some (.int .i64 a0_5) := (blk_cell BK248.out 5).trans rfl
                            have hcz46_6 : wc.cell? ⟨gb248, 6, none⟩ = some (.int .i64 a0_6) := (blk_cell BK248.out 6).trans rfl
                            have hcz46_7 : wc.cell? ⟨gb248, 7, none⟩ = some (.bool a0_7) := (blk_cell BK248.out 7).trans rfl
                            have hcz46_8 : wc.cell? ⟨gb248, 8, none⟩ = some (.bool a0_8) := (blk_cell BK248.out 8).trans rfl
                            have hcz46_9 : wc.cell? ⟨gb248, 9, none⟩ = some (.bool a0_9) := (blk_cell BK248.out 9).trans rfl
                            have hcz46_10 : wc.cell? ⟨gb248, 10, none⟩ = some (.int .i64 a0_10) := (blk_cell BK248.out 10).trans rfl
                            have hfz46_0 := blk_frozen BK248.out 0
                            have hfz46_1 := blk_frozen BK248.out 1
                            have hfz46_2 := blk_frozen BK248.out 2
                            have hfz46_3 := blk_frozen BK248.out 3
                            have hfz46_4 := blk_frozen BK248.out 4
                            have hfz46_5 := blk_frozen BK248.out 5
                            have hfz46_6 := blk_frozen BK248.out 6
                            have hfz46_7 := blk_frozen BK248.out 7
                            have hfz46_8 := blk_frozen BK248.out 8
                            have hfz46_9 := blk_frozen BK248.out 9
                            have hfz46_10 := blk_frozen BK248.out 10
                            go_wp2
                            go_ret
                            exact ⟨by first | rfl | (simp [errW_none, errW_some] <;> rfl) | (simp [*, errW_none, errW_some] <;> rfl), by repeat (first | (with_reducible first | exact HB.out | apply below_alloc | apply pw_below_drewN | apply below_drew1 | refine below_set ?_ GE248.out) | exact HB.out)⟩

end Go.Proofs.YtpcakfldmcfhlaaGreatDoor.Print
