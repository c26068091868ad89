/- Printed by a program of this claim's session (xprint.py): the machine's side: each Go function as a Lean function, and that a call of it comes to what that tells; the row of a statement. No condition. -/
import Derived.Test.YtccmackhhppbdaaDoorPrint0
import Derived.Test.YtccmackhhppbdaaDoorPrint15
namespace Go.Proofs.YtccmackhhppbdaaDoor.Print
open Go.RowKit Go.Proofs.YtccmackhhppbdaaDoorW.PrintWords Go.Proofs.YtccmackhhppbdaaDoorW.PrintLast Go.Proofs.YtccmackhhppbdaaDoorW.PrintMore
attribute [local go_sem] max2_int min2_int max_two min_two max_three min_three max_four min_four   -- for this text's walks alone
set_option linter.unusedVariables false
set_option linter.unusedSimpArgs false

/-! ### cracknelref18_Cookie: function 14 -/
mutual
def cracknelref18_Cookie.j0 : Nat → Int → ByteArray → ByteArray → ByteArray → ByteArray → Int → Int → Int → Bool → Bool → Bool → Int → Option (ByteArray × ByteArray × ByteArray × ByteArray × Int × Int × Int × Bool × Bool × Bool × Int × Bool)
  | 0, _, _, _, _, _, _, _, _, _, _, _, _ => none
  | k + 1, x0, x377000, x377001, x377002, x377003, x377004, x377005, x377006, x377007, x377008, x377009, x377010 => if x0 = 4 then (cracknelref18_Cookie.j1 k x0 x377000 x377001 x377002 x377003 x377004 x377004 x377006 x377007 x377008 x377009 x377010) else (cracknelref18_Cookie.j1 k x0 x377000 x377001 x377002 x377003 x377004 x377005 x377006 x377007 x377008 x377009 x377010)
def cracknelref18_Cookie.j1 : Nat → Int → ByteArray → ByteArray → ByteArray → ByteArray → Int → Int → Int → Bool → Bool → Bool → Int → Option (ByteArray × ByteArray × ByteArray × ByteArray × Int × Int × Int × Bool × Bool × Bool × Int × Bool)
  | 0, _, _, _, _, _, _, _, _, _, _, _, _ => none
  | k + 1, x0, x377000, x377001, x377002, x377003, x377004, x377005, x377006, x377007, x377008, x377009, x377010 => if x0 = 2 then (cracknelref18_Cookie.j2 k x0 true x377000 x377001 x377002 x377003 x377004 x377005 x377006 x377007 x377008 x377009 x377010) else (cracknelref18_Cookie.j2 k x0 (x0 == 4) x377000 x377001 x377002 x377003 x377004 x377005 x377006 x377007 x377008 x377009 x377010)
def cracknelref18_Cookie.j2 : Nat → Int → Bool → ByteArray → ByteArray → ByteArray → ByteArray → Int → Int → Int → Bool → Bool → Bool → Int → Option (ByteArray × ByteArray × ByteArray × ByteArray × Int × Int × Int × Bool × Bool × Bool × Int × Bool)
  | 0, _, _, _, _, _, _, _, _, _, _, _, _, _ => none
  | k + 1, x0, x29, x377000, x377001, x377002, x377003, x377004, x377005, x377006, x377007, x377008, x377009, x377010 => if x29 = true then (if x0 = 1 then (some (x377000, x377001, x377002, x377003, x377004, x377005, x377006, true, x377008, x377009, 0, true)) else (if x0 = 4 then (some (x377000, x377001, x377002, x377003, x377004, x377005, x377006, true, x377008, x377009, 0, true)) else (if x0 = 5 then (some (x377000, x377001, x377002, x377003, x377004, x377005, x377006, true, x377008, x377009, 0, true)) else (some (x377000, x377001, x377002, x377003, x377004, x377005, x377006, true, x377008, x377009, x377010, true))))) else (if x0 = 1 then (some (x377000, x377001, x377002, x377003, x377004, x377005, x377006, x377007, x377008, x377009, 0, true)) else (if x0 = 4 then (some (x377000, x377001, x377002, x377003, x377004, x377005, x377006, x377007, x377008, x377009, 0, true)) else (if x0 = 5 then (some (x377000, x377001, x377002, x377003, x377004, x377005, x377006, x377007, x377008, x377009, 0, true)) else (some (x377000, x377001, x377002, x377003, x377004, x377005, x377006, x377007, x377008, x377009, x377010, true)))))
end
def cracknelref18_Cookie.f (k : Nat) (a0 : Int) (a1 : Int) (a2_0 : ByteArray) (a2_1 : ByteArray) (a2_2 : ByteArray) (a2_3 : ByteArray) (a2_4 : Int) (a2_5 : Int) (a2_6 : Int) (a2_7 : Bool) (a2_8 : Bool) (a2_9 : Bool) (a2_10 : Int) : Option (ByteArray × ByteArray × ByteArray × ByteArray × Int × Int × Int × Bool × Bool × Bool × Int × Bool) := (cracknelref18_May.f a0 a1).bind fun t378 => (if t378 = true then (if a0 ≤ 3 then (cracknelref18_Cookie.j0 k a0 a2_0 a2_1 a2_2 a2_3 a1 a1 a2_6 a2_7 a2_8 a2_9 a2_10) else (cracknelref18_Cookie.j0 k a0 a2_0 a2_1 a2_2 a2_3 a2_4 a2_5 a2_6 a2_7 a2_8 a2_9 a2_10)) else (some ((⟨#[]⟩ : ByteArray), (⟨#[]⟩ : ByteArray), (⟨#[]⟩ : ByteArray), (⟨#[]⟩ : ByteArray), 0, 0, 0, false, false, false, 0, false)))
theorem cracknelref18_Cookie.mono_l : ∀ k, (∀ y0 y1 y2 y3 y4 y5 y6 y7 y8 y9 y10 y11, LeO (cracknelref18_Cookie.j0 k y0 y1 y2 y3 y4 y5 y6 y7 y8 y9 y10 y11) (cracknelref18_Cookie.j0 (k + 1) y0 y1 y2 y3 y4 y5 y6 y7 y8 y9 y10 y11)) ∧ (∀ y0 y1 y2 y3 y4 y5 y6 y7 y8 y9 y10 y11, LeO (cracknelref18_Cookie.j1 k y0 y1 y2 y3 y4 y5 y6 y7 y8 y9 y10 y11) (cracknelref18_Cookie.j1 (k + 1) y0 y1 y2 y3 y4 y5 y6 y7 y8 y9 y10 y11)) ∧ (∀ y0 y1 y2 y3 y4 y5 y6 y7 y8 y9 y10 y11 y12, LeO (cracknelref18_Cookie.j2 k y0 y1 y2 y3 y4 y5 y6 y7 y8 y9 y10 y11 y12) (cracknelref18_Cookie.j2 (k + 1) y0 y1 y2 y3 y4 y5 y6 y7 y8 y9 y10 y11 y12))
  | 0 => ⟨fun _ _ _ _ _ _ _ _ _ _ _ _ r h => by simp [cracknelref18_Cookie.j0] at h, fun _ _ _ _ _ _ _ _ _ _ _ _ r h => by simp [cracknelref18_Cookie.j1] at h, fun _ _ _ _ _ _ _ _ _ _ _ _ _ r h => by simp [cracknelref18_Cookie.j2] at h⟩
  | k + 1 => by
    obtain ⟨ih0, ih1, ih2⟩ := cracknelref18_Cookie.mono_l k
    refine ⟨?_, ?_, ?_⟩
    · intro y0 y1 y2 y3 y4 y5 y6 y7 y8 y9 y10 y11
      unfold cracknelref18_Cookie.j0
      repeat' first
      | (with_reducible exact ih0 _ _ _ _ _ _ _ _ _ _ _ _)
      | (with_reducible exact ih1 _ _ _ _ _ _ _ _ _ _ _ _)
      | (with_reducible exact ih2 _ _ _ _ _ _ _ _ _ _ _ _ _)
      | (with_reducible exact LeO.refl _)
      | (with_reducible exact LeO.none _)
      | (with_reducible refine LeO.ite ?_ ?_)
      | (with_reducible refine LeO.bind ?_ (fun _ => ?_))
      | exact ih0 _ _ _ _ _ _ _ _ _ _ _ _
      | exact ih1 _ _ _ _ _ _ _ _ _ _ _ _
      | exact ih2 _ _ _ _ _ _ _ _ _ _ _ _ _
      | exact LeO.none _
      | refine LeO.ite ?_ ?_
      | refine LeO.bind ?_ (fun _ => ?_)
    · intro y0 y1 y2 y3 y4 y5 y6 y7 y8 y9 y10 y11
      unfold cracknelref18_Cookie.j1
      repeat' first
      | (with_reducible exact ih0 _ _ _ _ _ _ _ _ _ _ _ _)
      | (with_reducible exact ih1 _ _ _ _ _ _ _ _ _ _ _ _)
      | (with_reducible exact ih2 _ _ _ _ _ _ _ _ _ _ _ _ _)
      | (with_reducible exact LeO.refl _)
      | (with_reducible exact LeO.none _)
      | (with_reducible refine LeO.ite ?_ ?_)
      | (with_reducible refine LeO.bind ?_ (fun _ => ?_))
      | exact ih0 _ _ _ _ _ _ _ _ _ _ _ _
      | exact ih1 _ _ _ _ _ _ _ _ _ _ _ _
      | exact ih2 _ _ _ _ _ _ _ _ _ _ _ _ _
      | exact LeO.none _
      | refine LeO.ite ?_ ?_
      | refine LeO.bind ?_ (fun _ => ?_)
    · intro y0 y1 y2 y3 y4 y5 y6 y7 y8 y9 y10 y11 y12
      unfold cracknelref18_Cookie.j2
      repeat' first
      | (with_reducible exact ih0 _ _ _ _ _ _ _ _ _ _ _ _)
      | (with_reducible exact ih1 _ _ _ _ _ _ _ _ _ _ _ _)
      | (with_reducible exact ih2 _ _ _ _ _ _ _ _ _ _ _ _ _)
      | (with_reducible exact LeO.refl _)
      | (with_reducible exact LeO.none _)
      | (with_reducible refine LeO.ite ?_ ?_)
      | (with_reducible refine LeO.bind ?_ (fun _ => ?_))
      | exact ih0 _ _ _ _ _ _ _ _ _ _ _ _
      | exact ih1 _ _ _ _ _ _ _ _ _ _ _ _
      | exact ih2 _ _ _ _ _ _ _ _ _ _ _ _ _
      | exact LeO.none _
      | refine LeO.ite ?_ ?_
      | refine LeO.bind ?_ (fun _ => ?_)
theorem cracknelref18_Cookie.mono : ∀ a0 a1 a2 a3 a4 a5 a6 a7 a8 a9 a10 a11 a12 k, LeO (cracknelref18_Cookie.f k a0 a1 a2 a3 a4 a5 a6 a7 a8 a9 a10 a11 a12) (cracknelref18_Cookie.f (k + 1) a0 a1 a2 a3 a4 a5 a6 a7 a8 a9 a10 a11 a12) := by
  intro a0 a1 a2 a3 a4 a5 a6 a7 a8 a9 a10 a11 a12 k
  obtain ⟨ih0, ih1, ih2⟩ := cracknelref18_Cookie.mono_l k
  unfold cracknelref18_Cookie.f
  repeat' first
      | (with_reducible exact ih0 _ _ _ _ _ _ _ _ _ _ _ _)
      | (with_reducible exact ih1 _ _ _ _ _ _ _ _ _ _ _ _)
      | (with_reducible exact ih2 _ _ _ _ _ _ _ _ _ _ _ _ _)
      | (with_reducible exact LeO.refl _)
      | (with_reducible exact LeO.none _)
      | (with_reducible refine LeO.ite ?_ ?_)
      | (with_reducible refine LeO.bind ?_ (fun _ => ?_))
      | exact ih0 _ _ _ _ _ _ _ _ _ _ _ _
      | exact ih1 _ _ _ _ _ _ _ _ _ _ _ _
      | exact ih2 _ _ _ _ _ _ _ _ _ _ _ _ _
      | exact LeO.none _
      | refine LeO.ite ?_ ?_
      | refine LeO.bind ?_ (fun _ => ?_)
set_option maxHeartbeats 8000000 in
set_option maxRecDepth 100000 in
theorem cracknelref18_Cookie.calls (k : Nat) (a0 : Int) (a1 : Int) (a2_0 : ByteArray) (a2_1 : ByteArray) (a2_2 : ByteArray) (a2_3 : ByteArray) (a2_4 : Int) (a2_5 : Int) (a2_6 : Int) (a2_7 : Bool) (a2_8 : Bool) (a2_9 : Bool) (a2_10 : Int) (r1 : ByteArray) (r2 : ByteArray) (r3 : ByteArray) (r4 : ByteArray) (r5 : Int) (r6 : Int) (r7 : Int) (r8 : Bool) (r9 : Bool) (r10 : Bool) (r11 : Int) (r12 : Bool) (w : World) (h : cracknelref18_Cookie.f k a0 a1 a2_0 a2_1 a2_2 a2_3 a2_4 a2_5 a2_6 a2_7 a2_8 a2_9 a2_10 = some (r1, r2, r3, r4, r5, r6, r7, r8, r9, r10, r11, r12)) :
    Calls Tryd.prog 14 #[.int .i64 a0, .int .i64 a1, .agg #[.string a2_0, .string a2_1, .string a2_2, .string a2_3, .int .i64 a2_4, .int .i64 a2_5, .int .i64 a2_6, .bool a2_7, .bool a2_8, .bool a2_9, .int .i64 a2_10]] w fun e w' => e = .returned (.tuple #[.agg #[.string r1, .string r2, .string r3, .string r4, .int .i64 r5, .int .i64 r6, .int .i64 r7, .bool r8, .bool r9, .bool r10, .int .i64 r11], .bool r12]) ∧ Below w.heap.size w w' := by
  have hu27 := Tryd.underlying27
  have HB := Aside0.mk (Below.refl w.heap.size w)
  have H : ((cracknelref18_May.f a0 a1).bind fun t378 => (if t378 = true then (if a0 ≤ 3 then (cracknelref18_Cookie.j0 k a0 a2_0 a2_1 a2_2 a2_3 a1 a1 a2_6 a2_7 a2_8 a2_9 a2_10) else (cracknelref18_Cookie.j0 k a0 a2_0 a2_1 a2_2 a2_3 a2_4 a2_5 a2_6 a2_7 a2_8 a2_9 a2_10)) else (some ((⟨#[]⟩ : ByteArray), (⟨#[]⟩ : ByteArray), (⟨#[]⟩ : ByteArray), (⟨#[]⟩ : ByteArray), 0, 0, 0, false, false, false, 0, false)))) = some (r1, r2, r3, r4, r5, r6, r7, r8, r9, r10, r11, r12) := h
  clear h
  replace H := Option.bind_eq_some_iff.mp H
  obtain ⟨t378, A40, H⟩ := H
  replace H : (if t378 = true then (if a0 ≤ 3 then (cracknelref18_Cookie.j0 k a0 a2_0 a2_1 a2_2 a2_3 a1 a1 a2_6 a2_7 a2_8 a2_9 a2_10) else (cracknelref18_Cookie.j0 k a0 a2_0 a2_1 a2_2 a2_3 a2_4 a2_5 a2_6 a2_7 a2_8 a2_9 a2_10)) else (some ((⟨#[]⟩ : ByteArray), (⟨#[]⟩ : ByteArray), (⟨#[]⟩ : ByteArray), (⟨#[]⟩ : ByteArray), 0, 0, 0, false, false, false, 0, false))) = some (r1, r2, r3, r4, r5, r6, r7, r8, r9, r10, r11, r12) := H
  have A4 := Aside0.mk A40
  clear A40
  by_cases c5 : t378 = true
  · subst c5
    have H1 : (if a0 ≤ 3 then (cracknelref18_Cookie.j0 k a0 a2_0 a2_1 a2_2 a2_3 a1 a1 a2_6 a2_7 a2_8 a2_9 a2_10) else (cracknelref18_Cookie.j0 k a0 a2_0 a2_1 a2_2 a2_3 a2_4 a2_5 a2_6 a2_7 a2_8 a2_9 a2_10)) = some (r1, r2, r3, r4, r5, r6, r7, r8, r9, r10, r11, r12) := by rw [if_pos rfl] at H; exact H
    clear H
    have H := H1
    clear H1
    have HC6 := Aside0.mk H
    clear H
    go_enter Tryd.func14, Tryd.ntmps14
    go_upto_if 14 with (first | ((with_reducible refine gate_dst (N := 5) rfl ?_); refine box_event ?hg (N := 5) ?hd (cs := #[.string a2_0, .string a2_1, .string a2_2, .string a2_3, .int .i64 a2_4, .int .i64 a2_5, .int .i64 a2_6, .bool a2_7, .bool a2_8, .bool a2_9, .int .i64 a2_10]) (t := 27) ?hr ?_; (case hd => rfl); (case hg => rfl); (case hr => first | (go_simp; done) | (go_simp; rfl)); intro gb376 hg w7 hbox hb; have n0_ := Aside0.mk (below_step xb hb); have n1_ := Aside0.mk (hbox); have n2_ := Aside0.mk ((by rw [hg]; exact (below_size xb) : w.heap.size ≤ gb376)); have n3_ := Aside0.mk ((by rw [hg]; exact (below_size xb) : w.heap.size ≤ gb376)); clear HB; have HB := n0_; have BK376 := n1_; have GW376 := n2_; have GE376 := n3_; clear n0_ n1_ n2_ n3_; clear hb hbox hg) | ((with_reducible refine gate_dst (N := 6) rfl ?_); refine box_event ?hg (N := 6) ?hd (cs := #[.string (⟨#[]⟩ : ByteArray), .string (⟨#[]⟩ : ByteArray), .string (⟨#[]⟩ : ByteArray), .string (⟨#[]⟩ : ByteArray), .int .i64 0, .int .i64 0, .int .i64 0, .bool false, .bool false, .bool false, .int .i64 0]) (t := 27) ?hr ?_; (case hd => rfl); (case hg => rfl); (case hr => first | (go_simp; done) | (go_simp; rfl)); intro gb377 hg w8 hbox hb; have n0_ := blkB BK376 hb; have n1_ := Aside0.mk (below_step xb hb); have n2_ := Aside0.mk (hbox); have n3_ := Aside0.mk ((by rw [hg]; exact (below_size xb) : w.heap.size ≤ gb377)); have n4_ := Aside0.mk ((by rw [hg]; exact (below_size xb) : w.heap.size ≤ gb377)); have n5_ := Aside0.mk ((by rw [hg]; exact Nat.ne_of_lt (blkL BK376) : gb376 ≠ gb377)); have n6_ := Aside0.mk ((by rw [hg]; exact Nat.ne_of_gt (blkL BK376) : gb377 ≠ gb376)); clear BK376; clear HB; have BK376 := n0_; have HB := n1_; have BK377 := n2_; have GW377 := n3_; have GE377 := n4_; have NB376_377 := n5_; have NB377_376 := n6_; clear n0_ n1_ n2_ n3_ n4_ n5_ n6_; clear hb hbox hg) | ((with_reducible refine gate_callee (f := 23) rfl ?_); refine goesL_ (some 10) rfl rfl Tryd.func23 (by kernel_rfl) rfl #[.int .i64 a0, .int .i64 a1] rfl xg ?_; (with_reducible refine (cracknelref18_May.calls a0 a1 true _ A4.out).mono ?_); rintro e w' ⟨rfl, ⟨nd, rfl⟩⟩; refine ⟨_, rfl, ?_⟩))
    (try simp only [Act.put, List.setIfInBounds_toArray, List.set_cons_zero, List.set_cons_succ])
    go_cut [] (fun wc => ∃ (kq : Nat) (x377004_5 : Int) (x377005_5 : Int), Aside0 (cracknelref18_Cookie.j0 kq a0 a2_0 a2_1 a2_2 a2_3 x377004_5 x377005_5 a2_6 a2_7 a2_8 a2_9 a2_10 = some (r1, r2, r3, r4, r5, r6, r7, r8, r9, r10, r11, r12)) ∧ Aside0 (kq ≤ k) ∧ Aside0 (wc.heap[gb376]? = some (.cells #[.string a2_0, .string a2_1, .string a2_2, .string a2_3, .int .i64 x377004_5, .int .i64 x377005_5, .int .i64 a2_6, .bool a2_7, .bool a2_8, .bool a2_9, .int .i64 a2_10] 27 (0, 0))) ∧ Aside0 (wc.heap[gb377]? = some (.cells #[.string (⟨#[]⟩ : ByteArray), .string (⟨#[]⟩ : ByteArray), .string (⟨#[]⟩ : ByteArray), .string (⟨#[]⟩ : ByteArray), .int .i64 0, .int .i64 0, .int .i64 0, .bool false, .bool false, .bool false, .int .i64 0] 27 (0, 0))) ∧ Aside0 (Below w.heap.size w wc))
    case first =>
      have H := HC6.out
      clear HC6
      by_cases c9 : a0 ≤ 3
      · rw [if_pos c9] at H
        have c9b0 : decide (a0 ≤ 3) = true := decide_eq_true c9
        clear c9
        (first | rw [c9b0] | (simp only [i64_w, i32_w]; rw [c9b0]) | skip)
        have H' := Aside0.mk H
        clear H
        have hnb10 := NB376_377.out
        have hnc10 := NB377_376.out
        have hcz11_0 : w8.cell? ⟨gb376, 0, none⟩ = some (.string a2_0) := (blk_cell BK376.out 0).trans rfl
        have hcz11_1 : w8.cell? ⟨gb376, 1, none⟩ = some (.string a2_1) := (blk_cell BK376.out 1).trans rfl
        have hcz11_2 : w8.cell? ⟨gb376, 2, none⟩ = some (.string a2_2) := (blk_cell BK376.out 2).trans rfl
        have hcz11_3 : w8.cell? ⟨gb376, 3, none⟩ = some (.string a2_3) := (blk_cell BK376.out 3).trans rfl
        have hcz11_4 : w8.cell? ⟨gb376, 4, none⟩ = some (.int .i64 a2_4) := (blk_cell BK376.out 4).trans rfl
        have hcz11_5 : w8.cell? ⟨gb376, 5, none⟩ = some (.int .i64 a2_5) := (blk_cell BK376.out 5).trans rfl
        have hcz11_6 : w8.cell? ⟨gb376, 6, none⟩ = some (.int .i64 a2_6) := (blk_cell BK376.out 6).trans rfl
        have hcz11_7 : w8.cell? ⟨gb376, 7, none⟩ = some (.bool a2_7) := (blk_cell BK376.out 7).trans rfl
        have hcz11_8 : w8.cell? ⟨gb376, 8, none⟩ = some (.bool a2_8) := (blk_cell BK376.out 8).trans rfl
        have hcz11_9 : w8.cell? ⟨gb376, 9, none⟩ = some (.bool a2_9) := (blk_cell BK376.out 9).trans rfl
        have hcz11_10 : w8.cell? ⟨gb376, 10, none⟩ = some (.int .i64 a2_10) := (blk_cell BK376.out 10).trans rfl
        have hfz11_0 := blk_frozen BK376.out 0
        have hfz11_1 := blk_frozen BK376.out 1
        have hfz11_2 := blk_frozen BK376.out 2
        have hfz11_3 := blk_frozen BK376.out 3
        have hfz11_4 := blk_frozen BK376.out 4
        have hfz11_5 := blk_frozen BK376.out 5
        have hfz11_6 := blk_frozen BK376.out 6
        have hfz11_7 := blk_frozen BK376.out 7
        have hfz11_8 := blk_frozen BK376.out 8
        have hfz11_9 := blk_frozen BK376.out 9
        have hfz11_10 := blk_frozen BK376.out 10
        go_wp2
        go_meet
        case rel => exact ⟨_, (a1), (a1), H', ⟨by first | omega | exact Nat.le_refl _⟩, ⟨xk⟩, ⟨xk⟩, ⟨xb⟩⟩
      · rw [if_neg c9] at H
        have c9b0 : decide (a0 ≤ 3) = false := decide_eq_false c9
        clear c9
        (first | rw [c9b0] | (simp only [i64_w, i32_w]; rw [c9b0]) | skip)
        have H' := Aside0.mk H
        clear H
        go_wp2
        go_meet
        case rel => exact ⟨_, (a2_4), (a2_5), H', ⟨by first | omega | exact Nat.le_refl _⟩, ⟨xk⟩, ⟨xk⟩, ⟨xb⟩⟩
    case rest =>
      clear HC6
      try clear c1
      try clear c2
      try clear p2
      try clear p3
      try clear c5
      try clear p6
      try clear c9
      try clear c9b0
      try clear c10
      try clear hcz11_0
      try clear hcz11_1
      try clear hcz11_10
      try clear hcz11_2
      try clear hcz11_3
      try clear hcz11_4
      try clear hcz11_5
      try clear hcz11_6
      try clear hcz11_7
      try clear hcz11_8
      try clear hcz11_9
      try clear hfz11_0
      try clear hfz11_1
      try clear hfz11_10
      try clear hfz11_2
      try clear hfz11_3
      try clear hfz11_4
      try clear hfz11_5
      try clear hfz11_6
      try clear hfz11_7
      try clear hfz11_8
      try clear hfz11_9
      obtain ⟨kq, x377004_5, x377005_5, HA, HJ5, BK376, BK377, HB⟩ := hcut
      cases kq with
      | zero => exact absurd HA.out (by simp [cracknelref18_Cookie.j0])
      | succ kj5 =>
        have H := HA.out
        clear HA
        simp only [cracknelref18_Cookie.j0] at H
        have HC12 := Aside0.mk H
        clear H
        go_upto_if 20 with (fail)
        go_cut [] (fun wc => ∃ (kq : Nat) (x377005_11 : Int), Aside0 (cracknelref18_Cookie.j1 kq a0 a2_0 a2_1 a2_2 a2_3 x377004_5 x377005_11 a2_6 a2_7 a2_8 a2_9 a2_10 = some (r1, r2, r3, r4, r5, r6, r7, r8, r9, r10, r11, r12)) ∧ Aside0 (kq ≤ kj5) ∧ Aside0 (wc.heap[gb376]? = some (.cells #[.string a2_0, .string a2_1, .string a2_2, .string a2_3, .int .i64 x377004_5, .int .i64 x377005_11, .int .i64 a2_6, .bool a2_7, .bool a2_8, .bool a2_9, .int .i64 a2_10] 27 (0, 0))) ∧ Aside0 (wc.heap[gb377]? = some (.cells #[.string (⟨#[]⟩ : ByteArray), .string (⟨#[]⟩ : ByteArray), .string (⟨#[]⟩ : ByteArray), .string (⟨#[]⟩ : ByteArray), .int .i64 0, .int .i64 0, .int .i64 0, .bool false, .bool false, .bool false, .int .i64 0] 27 (0, 0))) ∧ Aside0 (Below w.heap.size w wc))
        case first =>
          have H := HC12.out
          clear HC12
          by_cases c13 : a0 = 4
          · rw [if_pos c13] at H
            have c13b0 : (a0 == 4) = true := beq_iff_eq.mpr c13
            have c13b1 : (a0 != 4) = false := bne_eq_false_iff_eq.mpr c13
            clear c13
            (first | rw [c13b0] | (simp only [i64_w, i32_w]; rw [c13b0]) | skip)
            have H' := Aside0.mk H
            clear H
            have hnb14 := NB376_377.out
            have hnc14 := NB377_376.out
            have hcz15_0 : wc.cell? ⟨gb376, 0, none⟩ = some (.string a2_0) := (blk_cell BK376.out 0).trans rfl
            have hcz15_1 : wc.cell? ⟨gb376, 1, none⟩ = some (.string a2_1) := (blk_cell BK376.out 1).trans rfl
            have hcz15_2 : wc.cell? ⟨gb376, 2, none⟩ = some (.string a2_2) := (blk_cell BK376.out 2).trans rfl
            have hcz15_3 : wc.cell? ⟨gb376, 3, none⟩ = some (.string a2_3) := (blk_cell BK376.out 3).trans rfl
            have hcz15_4 : wc.cell? ⟨gb376, 4, none⟩ = some (.int .i64 x377004_5) := (blk_cell BK376.out 4).trans rfl
            have hcz15_5 : wc.cell? ⟨gb376, 5, none⟩ = some (.int .i64 x377005_5) := (blk_cell BK376.out 5).trans rfl
            have hcz15_6 : wc.cell? ⟨gb376, 6, none⟩ = some (.int .i64 a2_6) := (blk_cell BK376.out 6).trans rfl
            have hcz15_7 : wc.cell? ⟨gb376, 7, none⟩ = some (.bool a2_7) := (blk_cell BK376.out 7).trans rfl
            have hcz15_8 : wc.cell? ⟨gb376, 8, none⟩ = some (.bool a2_8) := (blk_cell BK376.out 8).trans rfl
            have hcz15_9 : wc.cell? ⟨gb376, 9, none⟩ = some (.bool a2_9) := (blk_cell BK376.out 9).trans rfl
            have hcz15_10 : wc.cell? ⟨gb376, 10, none⟩ = some (.int .i64 a2_10) := (blk_cell BK376.out 10).trans rfl
            have hfz15_0 := blk_frozen BK376.out 0
            have hfz15_1 := blk_frozen BK376.out 1
            have hfz15_2 := blk_frozen BK376.out 2
            have hfz15_3 := blk_frozen BK376.out 3
            have hfz15_4 := blk_frozen BK376.out 4
            have hfz15_5 := blk_frozen BK376.out 5
            have hfz15_6 := blk_frozen BK376.out 6
            have hfz15_7 := blk_frozen BK376.out 7
            have hfz15_8 := blk_frozen BK376.out 8
            have hfz15_9 := blk_frozen BK376.out 9
            have hfz15_10 := blk_frozen BK376.out 10
            go_wp2
            go_meet
            case rel => exact ⟨_, (x377004_5), H', ⟨by have := HJ5.out; first | omega | exact Nat.le_refl _⟩, ⟨xk⟩, ⟨xk⟩, ⟨xb⟩⟩
          · rw [if_neg c13] at H
            have c13b0 : (a0 == 4) = false := beq_eq_false_iff_ne.mpr c13
            have c13b1 : (a0 != 4) = true := bne_iff_ne.mpr c13
            (first | rw [c13b0] | (simp only [i64_w, i32_w]; rw [c13b0]) | skip)
            have H' := Aside0.mk H
            clear H
            go_wp2
            go_meet
            case rel => exact ⟨_, (x377005_5), H', ⟨by have := HJ5.out; first | omega | exact Nat.le_refl _⟩, ⟨xk⟩, ⟨xk⟩, ⟨xb⟩⟩
        case rest =>
          clear HC12
          try clear c1
          try clear c2
          try clear p2
          try clear p3
          try clear c5
          try clear p6
          try clear c9
          try clear c9b0
          try clear c10
          try clear c13
          try clear c13b0
          try clear c13b1
          try clear c14
          try clear hcz11_0
          try clear hcz11_1
          try clear hcz11_10
          try clear hcz11_2
          try clear hcz11_3
          try clear hcz11_4
          try clear hcz11_5
          try clear hcz11_6
          try clear hcz11_7
          try clear hcz11_8
          try clear hcz11_9
          try clear hcz15_0
          try clear hcz15_1
          try clear hcz15_10
          try clear hcz15_2
          try clear hcz15_3
          try clear hcz15_4
          try clear hcz15_5
          try clear hcz15_6
          try clear hcz15_7
          try clear hcz15_8
          try clear hcz15_9
          try clear hfz11_0
          try clear hfz11_1
          try clear hfz11_10
          try clear hfz11_2
          try clear hfz11_3
          try clear hfz11_4
          try clear hfz11_5
          try clear hfz11_6
          try clear hfz11_7
          try clear hfz11_8
          try clear hfz11_9
          try clear hfz15_0
          try clear hfz15_1
          try clear hfz15_10
          try clear hfz15_2
          try clear hfz15_3
          try clear hfz15_4
          try clear hfz15_5
          try clear hfz15_6
          try clear hfz15_7
          try clear hfz15_8
          try clear hfz15_9
          try clear p2
          try clear p3
          try clear p6
          obtain ⟨kq, x377005_11, HA, HJ11, BK376, BK377, HB⟩ := hcut
          cases kq with
          | zero => exact absurd HA.out (by simp [cracknelref18_Cookie.j1])
          | succ kj11 =>
            have H := HA.out
            clear HA
            simp only [cracknelref18_Cookie.j1] at H
            have HC16 := Aside0.mk H
            clear H
            go_upto_region 8 with (fail)
            go_cut [29] (fun v29 wc => ∃ (kq : Nat) (x29_15 : Bool), v29 = .bool x29_15 ∧ Aside0 (cracknelref18_Cookie.j2 kq a0 x29_15 a2_0 a2_1 a2_2 a2_3 x377004_5 x377005_11 a2_6 a2_7 a2_8 a2_9 a2_10 = some (r1, r2, r3, r4, r5, r6, r7, r8, r9, r10, r11, r12)) ∧ Aside0 (kq ≤ kj11) ∧ Aside0 (wc.heap[gb376]? = some (.cells #[.string a2_0, .string a2_1, .string a2_2, .string a2_3, .int .i64 x377004_5, .int .i64 x377005_11, .int .i64 a2_6, .bool a2_7, .bool a2_8, .bool a2_9, .int .i64 a2_10] 27 (0, 0))) ∧ Aside0 (wc.heap[gb377]? = some (.cells #[.string (⟨#[]⟩ : ByteArray), .string (⟨#[]⟩ : ByteArray), .string (⟨#[]⟩ : ByteArray), .string (⟨#[]⟩ : ByteArray), .int .i64 0, .int .i64 0, .int .i64 0, .bool false, .bool false, .bool false, .int .i64 0] 27 (0, 0))) ∧ Aside0 (Below w.heap.size w wc))
            case first =>
              have H := HC16.out
              clear HC16
              by_cases c17 : a0 = 2
              · rw [if_pos c17] at H
                have c17b0 : (a0 == 2) = true := beq_iff_eq.mpr c17
                have c17b1 : (a0 != 2) = false := bne_eq_false_iff_eq.mpr c17
                clear c17
                (first | rw [c17b0] | (simp only [i64_w, i32_w]; rw [c17b0]) | skip)
                have H' := Aside0.mk H
                clear H
                go_wp2
                go_meet
                case rel => exact ⟨_, (true), (by first | rfl | (simp; done) | (simp [*]; done)), H', ⟨by have := HJ5.out; have := HJ11.out; first | omega | exact Nat.le_refl _⟩, ⟨xk⟩, ⟨xk⟩, ⟨xb⟩⟩
              · rw [if_neg c17] at H
                have c17b0 : (a0 == 2) = false := beq_eq_false_iff_ne.mpr c17
                have c17b1 : (a0 != 2) = true := bne_iff_ne.mpr c17
                (first | rw [c17b0] | (simp only [i64_w, i32_w]; rw [c17b0]) | skip)
                have H' := Aside0.mk H
                clear H
                go_wp2
                go_meet
                case rel => exact ⟨_, ((a0 == 4)), (by first | rfl | (simp; done) | (simp [*]; done)), H', ⟨by have := HJ5.out; have := HJ11.out; first | omega | exact Nat.le_refl _⟩, ⟨xk⟩, ⟨xk⟩, ⟨xb⟩⟩
            case rest =>
              clear HC16
              try clear c1
              try clear c2
              try clear p2
              try clear p3
              try clear c5
              try clear p6
              try clear c9
              try clear c9b0
              try clear c10
              try clear c13
              try clear c13b0
              try clear c13b1
              try clear c14
              try clear c17
              try clear c17b0
              try clear c17b1
              try clear hcz11_0
              try clear hcz11_1
              try clear hcz11_10
              try clear hcz11_2
              try clear hcz11_3
              try clear hcz11_4
              try clear hcz11_5
              try clear hcz11_6
              try clear hcz11_7
              try clear hcz11_8
              try clear hcz11_9
              try clear hcz15_0
              try clear hcz15_1
              try clear hcz15_10
              try clear hcz15_2
              try clear hcz15_3
              try clear hcz15_4
              try clear hcz15_5
              try clear hcz15_6
              try clear hcz15_7
              try clear hcz15_8
              try clear hcz15_9
              try clear hfz11_0
              try clear hfz11_1
              try clear hfz11_10
              try clear hfz11_2
              try clear hfz11_3
              try clear hfz11_4
              try clear hfz11_5
              try clear hfz11_6
              try clear hfz11_7
              try clear hfz11_8
              try clear hfz11_9
              try clear hfz15_0
              try clear hfz15_1
              try clear hfz15_10
              try clear hfz15_2
              try clear hfz15_3
              try clear hfz15_4
              try clear hfz15_5
              try clear hfz15_6
              try clear hfz15_7
              try clear hfz15_8
              try clear hfz15_9
              try clear p2
              try clear p3
              try clear p6
              obtain ⟨kq, x29_15, rfl, HA, HJ15, BK376, BK377, HB⟩ := hcut
              cases kq with
              | zero => exact absurd HA.out (by simp [cracknelref18_Cookie.j2])
              | succ kj15 =>
                have H := HA.out
                clear HA
                simp only [cracknelref18_Cookie.j2] at H
                by_cases c18 : x29_15 = true
                · subst c18
                  have H1 : (if a0 = 1 then (some (a2_0, a2_1, a2_2, a2_3, x377004_5, x377005_11, a2_6, true, a2_8, a2_9, 0, true)) else (if a0 = 4 then (some (a2_0, a2_1, a2_2, a2_3, x377004_5, x377005_11, a2_6, true, a2_8, a2_9, 0, true)) else (if a0 = 5 then (some (a2_0, a2_1, a2_2, a2_3, x377004_5, x377005_11, a2_6, true, a2_8, a2_9, 0, true)) else (some (a2_0, a2_1, a2_2, a2_3, x377004_5, x377005_11, a2_6, true, a2_8, a2_9, a2_10, true))))) = some (r1, r2, r3, r4, r5, r6, r7, r8, r9, r10, r11, r12) := by rw [if_pos rfl] at H; exact H
                  clear H
                  have H := H1
                  clear H1
                  by_cases c19 : a0 = 1
                  · rw [if_pos c19] at H
                    have c19b0 : (a0 == 1) = true := beq_iff_eq.mpr c19
                    have c19b1 : (a0 != 1) = false := bne_eq_false_iff_eq.mpr c19
                    clear c19
                    simp only [Option.some.injEq, Prod.mk.injEq] at H
                    obtain ⟨rfl, rfl, rfl, rfl, rfl, rfl, rfl, rfl, rfl, rfl, rfl, rfl⟩ := H
                    have hnb20 := NB376_377.out
                    have hnc20 := NB377_376.out
                    have hcz21_0 : wc.cell? ⟨gb376, 0, none⟩ = some (.string a2_0) := (blk_cell BK376.out 0).trans rfl
                    have hcz21_1 : wc.cell? ⟨gb376, 1, none⟩ = some (.string a2_1) := (blk_cell BK376.out 1).trans rfl
                    have hcz21_2 : wc.cell? ⟨gb376, 2, none⟩ = some (.string a2_2) := (blk_cell BK376.out 2).trans rfl
                    have hcz21_3 : wc.cell? ⟨gb376, 3, none⟩ = some (.string a2_3) := (blk_cell BK376.out 3).trans rfl
                    have hcz21_4 : wc.cell? ⟨gb376, 4, none⟩ = some (.int .i64 x377004_5) := (blk_cell BK376.out 4).trans rfl
                    have hcz21_5 : wc.cell? ⟨gb376, 5, none⟩ = some (.int .i64 x377005_11) := (blk_cell BK376.out 5).trans rfl
                    have hcz21_6 : wc.cell? ⟨gb376, 6, none⟩ = some (.int .i64 a2_6) := (blk_cell BK376.out 6).trans rfl
                    have hcz21_7 : wc.cell? ⟨gb376, 7, none⟩ = some (.bool a2_7) := (blk_cell BK376.out 7).trans rfl
                    have hcz21_8 : wc.cell? ⟨gb376, 8, none⟩ = some (.bool a2_8) := (blk_cell BK376.out 8).trans rfl
                    have hcz21_9 : wc.cell? ⟨gb376, 9, none⟩ = some (.bool a2_9) := (blk_cell BK376.out 9).trans rfl
                    have hcz21_10 : wc.cell? ⟨gb376, 10, none⟩ = some (.int .i64 a2_10) := (blk_cell BK376.out 10).trans rfl
                    have hfz21_0 := blk_frozen BK376.out 0
                    have hfz21_1 := blk_frozen BK376.out 1
                    have hfz21_2 := blk_frozen BK376.out 2
                    have hfz21_3 := blk_frozen BK376.out 3
                    have hfz21_4 := blk_frozen BK376.out 4
                    have hfz21_5 := blk_frozen BK376.out 5
                    have hfz21_6 := blk_frozen BK376.out 6
                    have hfz21_7 := blk_frozen BK376.out 7
                    have hfz21_8 := blk_frozen BK376.out 8
                    have hfz21_9 := blk_frozen BK376.out 9
                    have hfz21_10 := blk_frozen BK376.out 10
                    have hcz22_0 : wc.cell? ⟨gb377, 0, none⟩ = some (.string (⟨#[]⟩ : ByteArray)) := (blk_cell BK377.out 0).trans rfl
                    have hcz22_1 : wc.cell? ⟨gb377, 1, none⟩ = some (.string (⟨#[]⟩ : ByteArray)) := (blk_cell BK377.out 1).trans rfl
                    have hcz22_2 : wc.cell? ⟨gb377, 2, none⟩ = some (.string (⟨#[]⟩ : ByteArray)) := (blk_cell BK377.out 2).trans rfl
                    have hcz22_3 : wc.cell? ⟨gb377, 3, none⟩ = some (.string (⟨#[]⟩ : ByteArray)) := (blk_cell BK377.out 3).trans rfl
                    have hcz22_4 : wc.cell? ⟨gb377, 4, none⟩ = some (.int .i64 0) := (blk_cell BK377.out 4).trans rfl
                    have hcz22_5 : wc.cell? ⟨gb377, 5, none⟩ = some (.int .i64 0) := (blk_cell BK377.out 5).trans rfl
                    have hcz22_6 : wc.cell? ⟨gb377, 6, none⟩ = some (.int .i64 0) := (blk_cell BK377.out 6).trans rfl
                    have hcz22_7 : wc.cell? ⟨gb377, 7, none⟩ = some (.bool false) := (blk_cell BK377.out 7).trans rfl
                    have hcz22_8 : wc.cell? ⟨gb377, 8, none⟩ = some (.bool false) := (blk_cell BK377.out 8).trans rfl
                    have hcz22_9 : wc.cell? ⟨gb377, 9, none⟩ = some (.bool false) := (blk_cell BK377.out 9).trans rfl
                    have hcz22_10 : wc.cell? ⟨gb377, 10, none⟩ = some (.int .i64 0) := (blk_cell BK377.out 10).trans rfl
                    have hfz22_0 := blk_frozen BK377.out 0
                    have hfz22_1 := blk_frozen BK377.out 1
                    have hfz22_2 := blk_frozen BK377.out 2
                    have hfz22_3 := blk_frozen BK377.out 3
                    have hfz22_4 := blk_frozen BK377.out 4
                    have hfz22_5 := blk_frozen BK377.out 5
                    have hfz22_6 := blk_frozen BK377.out 6
                    have hfz22_7 := blk_frozen BK377.out 7
                    have hfz22_8 := blk_frozen BK377.out 8
                    have hfz22_9 := blk_frozen BK377.out 9
                    have hfz22_10 := blk_frozen BK377.out 10
                    go_wp2
                    refine bodyPost_ret (results_ct rfl _ _ gb377 27 #[.string a2_0, .string a2_1, .string a2_2, .string a2_3, .int .i64 x377004_5, .int .i64 x377005_11, .int .i64 a2_6, .bool true, .bool a2_8, .bool a2_9, .int .i64 0] (0, 0) _ rfl xk Tryd.underlying27 rfl (by kernel_rfl)) rfl ?_
                    exact ⟨by first | rfl | (simp [errW_none, errW_some] <;> rfl) | (simp [*, errW_none, errW_some] <;> rfl), by repeat (first | (with_reducible first | exact HB.out | apply below_alloc | apply pw_below_drewN | apply below_drew1 | refine below_set ?_ GE376.out | refine below_set ?_ GE377.out) | exact HB.out)⟩
                  · rw [if_neg c19] at H
                    have c19b0 : (a0 == 1) = false := beq_eq_false_iff_ne.mpr c19
                    have c19b1 : (a0 != 1) = true := bne_iff_ne.mpr c19
                    by_cases c23 : a0 = 4
                    · rw [if_pos c23] at H
                      have c23b0 : (a0 == 4) = true := beq_iff_eq.mpr c23
                      have c23b1 : (a0 != 4) = false := bne_eq_false_iff_eq.mpr c23
                      clear c23
                      simp only [Option.some.injEq, Prod.mk.injEq] at H
                      obtain ⟨rfl, rfl, rfl, rfl, rfl, rfl, rfl, rfl, rfl, rfl, rfl, rfl⟩ := H
                      have hnb24 := NB376_377.out
                      have hnc24 := NB377_376.out
                      have hcz25_0 : wc.cell? ⟨gb376, 0, none⟩ = some (.string a2_0) := (blk_cell BK376.out 0).trans rfl
                      have hcz25_1 : wc.cell? ⟨gb376, 1, none⟩ = some (.string a2_1) := (blk_cell BK376.out 1).trans rfl
                      have hcz25_2 : wc.cell? ⟨gb376, 2, none⟩ = some (.string a2_2) := (blk_cell BK376.out 2).trans rfl
                      have hcz25_3 : wc.cell? ⟨gb376, 3, none⟩ = some (.string a2_3) := (blk_cell BK376.out 3).trans rfl
                      have hcz25_4 : wc.cell? ⟨gb376, 4, none⟩ = some (.int .i64 x377004_5) := (blk_cell BK376.out 4).trans rfl
                      have hcz25_5 : wc.cell? ⟨gb376, 5, none⟩ = some (.int .i64 x377005_11) := (blk_cell BK376.out 5).trans rfl
                      have hcz25_6 : wc.cell? ⟨gb376, 6, none⟩ = some (.int .i64 a2_6) := (blk_cell BK376.out 6).trans rfl
                      have hcz25_7 : wc.cell? ⟨gb376, 7, none⟩ = some (.bool a2_7) := (blk_cell BK376.out 7).trans rfl
                      have hcz25_8 : wc.cell? ⟨gb376, 8, none⟩ = some (.bool a2_8) := (blk_cell BK376.out 8).trans rfl
                      have hcz25_9 : wc.cell? ⟨gb376, 9, none⟩ = some (.bool a2_9) := (blk_cell BK376.out 9).trans rfl
                      have hcz25_10 : wc.cell? ⟨gb376, 10, none⟩ = some (.int .i64 a2_10) := (blk_cell BK376.out 10).trans rfl
                      have hfz25_0 := blk_frozen BK376.out 0
                      have hfz25_1 := blk_frozen BK376.out 1
                      have hfz25_2 := blk_frozen BK376.out 2
                      have hfz25_3 := blk_frozen BK376.out 3
                      have hfz25_4 := blk_frozen BK376.out 4
                      have hfz25_5 := blk_frozen BK376.out 5
                      have hfz25_6 := blk_frozen BK376.out 6
                      have hfz25_7 := blk_frozen BK376.out 7
                      have hfz25_8 := blk_frozen BK376.out 8
                      have hfz25_9 := blk_frozen BK376.out 9
                      have hfz25_10 := blk_frozen BK376.out 10
                      have hcz26_0 : wc.cell? ⟨gb377, 0, none⟩ = some (.string (⟨#[]⟩ : ByteArray)) := (blk_cell BK377.out 0).trans rfl
                      have hcz26_1 : wc.cell? ⟨gb377, 1, none⟩ = some (.string (⟨#[]⟩ : ByteArray)) := (blk_cell BK377.out 1).trans rfl
                      have hcz26_2 : wc.cell? ⟨gb377, 2, none⟩ = some (.string (⟨#[]⟩ : ByteArray)) := (blk_cell BK377.out 2).trans rfl
                      have hcz26_3 : wc.cell? ⟨gb377, 3, none⟩ = some (.string (⟨#[]⟩ : ByteArray)) := (blk_cell BK377.out 3).trans rfl
                      have hcz26_4 : wc.cell? ⟨gb377, 4, none⟩ = some (.int .i64 0) := (blk_cell BK377.out 4).trans rfl
                      have hcz26_5 : wc.cell? ⟨gb377, 5, none⟩ = some (.int .i64 0) := (blk_cell BK377.out 5).trans rfl
                      have hcz26_6 : wc.cell? ⟨gb377, 6, none⟩ = some (.int .i64 0) := (blk_cell BK377.out 6).trans rfl
                      have hcz26_7 : wc.cell? ⟨gb377, 7, none⟩ = some (.bool false) := (blk_cell BK377.out 7).trans rfl
                      have hcz26_8 : wc.cell? ⟨gb377, 8, none⟩ = some (.bool false) := (blk_cell BK377.out 8).trans rfl
                      have hcz26_9 : wc.cell? ⟨gb377, 9, none⟩ = some (.bool false) := (blk_cell BK377.out 9).trans rfl
                      have hcz26_10 : wc.cell? ⟨gb377, 10, none⟩ = some (.int .i64 0) := (blk_cell BK377.out 10).trans rfl
                      have hfz26_0 := blk_frozen BK377.out 0
                      have hfz26_1 := blk_frozen BK377.out 1
                      have hfz26_2 := blk_frozen BK377.out 2
                      have hfz26_3 := blk_frozen BK377.out 3
                      have hfz26_4 := blk_frozen BK377.out 4
                      have hfz26_5 := blk_frozen BK377.out 5
                      have hfz26_6 := blk_frozen BK377.out 6
                      have hfz26_7 := blk_frozen BK377.out 7
                      have hfz26_8 := blk_frozen BK377.out 8
                      have hfz26_9 := blk_frozen BK377.out 9
                      have hfz26_10 := blk_frozen BK377.out 10
                      go_wp2
                      refine bodyPost_ret (results_ct rfl _ _ gb377 27 #[.string a2_0, .string a2_1, .string a2_2, .string a2_3, .int .i64 x377004_5, .int .i64 x377005_11, .int .i64 a2_6, .bool true, .bool a2_8, .bool a2_9, .int .i64 0] (0, 0) _ rfl xk Tryd.underlying27 rfl (by kernel_rfl)) rfl ?_
                      exact ⟨by first | rfl | (simp [errW_none, errW_some] <;> rfl) | (simp [*, errW_none, errW_some] <;> rfl), by repeat (first | (with_reducible first | exact HB.out | apply below_alloc | apply pw_below_drewN | apply below_drew1 | refine below_set ?_ GE376.out | refine below_set ?_ GE377.out) | exact HB.out)⟩
                    · rw [if_neg c23] at H
                      have c23b0 : (a0 == 4) = false := beq_eq_false_iff_ne.mpr c23
                      have c23b1 : (a0 != 4) = true := bne_iff_ne.mpr c23
                      by_cases c27 : a0 = 5
                      · rw [if_pos c27] at H
                        have c27b0 : (a0 == 5) = true := beq_iff_eq.mpr c27
                        have c27b1 : (a0 != 5) = false := bne_eq_false_iff_eq.mpr c27
                        clear c27
                        simp only [Option.some.injEq, Prod.mk.injEq] at H
                        obtain ⟨rfl, rfl, rfl, rfl, rfl, rfl, rfl, rfl, rfl, rfl, rfl, rfl⟩ := H
                        have hnb28 := NB376_377.out
                        have hnc28 := NB377_376.out
                        have hcz29_0 : wc.cell? ⟨gb376, 0, none⟩ = some (.string a2_0) := (blk_cell BK376.out 0).trans rfl
                        have hcz29_1 : wc.cell? ⟨gb376, 1, none⟩ = some (.string a2_1) := (blk_cell BK376.out 1).trans rfl
                        have hcz29_2 : wc.cell? ⟨gb376, 2, none⟩ = some (.string a2_2) := (blk_cell BK376.out 2).trans rfl
                        have hcz29_3 : wc.cell? ⟨gb376, 3, none⟩ = some (.string a2_3) := (blk_cell BK376.out 3).trans rfl
                        have hcz29_4 : wc.cell? ⟨gb376, 4, none⟩ = some (.int .i64 x377004_5) := (blk_cell BK376.out 4).trans rfl
                        have hcz29_5 : wc.cell? ⟨gb376, 5, none⟩ = some (.int .i64 x377005_11) := (blk_cell BK376.out 5).trans rfl
                        have hcz29_6 : wc.cell? ⟨gb376, 6, none⟩ = some (.int .i64 a2_6) := (blk_cell BK376.out 6).trans rfl
                        have hcz29_7 : wc.cell? ⟨gb376, 7, none⟩ = some (.bool a2_7) := (blk_cell BK376.out 7).trans rfl
                        have hcz29_8 : wc.cell? ⟨gb376, 8, none⟩ = some (.bool a2_8) := (blk_cell BK376.out 8).trans rfl
                        have hcz29_9 : wc.cell? ⟨gb376, 9, none⟩ = some (.bool a2_9) := (blk_cell BK376.out 9).trans rfl
                        have hcz29_10 : wc.cell? ⟨gb376, 10, none⟩ = some (.int .i64 a2_10) := (blk_cell BK376.out 10).trans rfl
                        have hfz29_0 := blk_frozen BK376.out 0
                        have hfz29_1 := blk_frozen BK376.out 1
                        have hfz29_2 := blk_frozen BK376.out 2
                        have hfz29_3 := blk_frozen BK376.out 3
                        have hfz29_4 := blk_frozen BK376.out 4
                        have hfz29_5 := blk_frozen BK376.out 5
                        have hfz29_6 := blk_frozen BK376.out 6
                        have hfz29_7 := blk_frozen BK376.out 7
                        have hfz29_8 := blk_frozen BK376.out 8
                        have hfz29_9 := blk_frozen BK376.out 9
                        have hfz29_10 := blk_frozen BK376.out 10
                        have hcz30_0 : wc.cell? ⟨gb377, 0, none⟩ = some (.string (⟨#[]⟩ : ByteArray)) := (blk_cell BK377.out 0).trans rfl
                        have hcz30_1 : wc.cell? ⟨gb377, 1, none⟩ = some (.string (⟨#[]⟩ : ByteArray)) := (blk_cell BK377.out 1).trans rfl
                        have hcz30_2 : wc.cell? ⟨gb377, 2, none⟩ = some (.string (⟨#[]⟩ : ByteArray)) := (blk_cell BK377.out 2).trans rfl
                        have hcz30_3 : wc.cell? ⟨gb377, 3, none⟩ = some (.string (⟨#[]⟩ : ByteArray)) := (blk_cell BK377.out 3).trans rfl
                        have hcz30_4 : wc.cell? ⟨gb377, 4, none⟩ = some (.int .i64 0) := (blk_cell BK377.out 4).trans rfl
                        have hcz30_5 : wc.cell? ⟨gb377, 5, none⟩ = some (.int .i64 0) := (blk_cell BK377.out 5).trans rfl
                        have hcz30_6 : wc.cell? ⟨gb377, 6, none⟩ = some (.int .i64 0) := (blk_cell BK377.out 6).trans rfl
                        have hcz30_7 : wc.cell? ⟨gb377, 7, none⟩ = some (.bool false) := (blk_cell BK377.out 7).trans rfl
                        have hcz30_8 : wc.cell? ⟨gb377, 8, none⟩ = some (.bool false) := (blk_cell BK377.out 8).trans rfl
                        have hcz30_9 : wc.cell? ⟨gb377, 9, none⟩ = some (.bool false) := (blk_cell BK377.out 9).trans rfl
                        have hcz30_10 : wc.cell? ⟨gb377, 10, none⟩ = some (.int .i64 0) := (blk_cell BK377.out 10).trans rfl
                        have hfz30_0 := blk_frozen BK377.out 0
                        have hfz30_1 := blk_frozen BK377.out 1
                        have hfz30_2 := blk_frozen BK377.out 2
                        have hfz30_3 := blk_frozen BK377.out 3
                        have hfz30_4 := blk_frozen BK377.out 4
                        have hfz30_5 := blk_frozen BK377.out 5
                        have hfz30_6 := blk_frozen BK377.out 6
                        have hfz30_7 := blk_frozen BK377.out 7
                        have hfz30_8 := blk_frozen BK377.out 8
                        have hfz30_9 := blk_frozen BK377.out 9
                        have hfz30_10 := blk_frozen BK377.out 10
                        go_wp2
                        refine bodyPost_ret (results_ct rfl _ _ gb377 27 #[.string a2_0, .string a2_1, .string a2_2, .string a2_3, .int .i64 x377004_5, .int .i64 x377005_11, .int .i64 a2_6, .bool true, .bool a2_8, .bool a2_9, .int .i64 0] (0, 0) _ rfl xk Tryd.underlying27 rfl (by kernel_rfl)) rfl ?_
                        exact ⟨by first | rfl | (simp [errW_none, errW_some] <;> rfl) | (simp [*, errW_none, errW_some] <;> rfl), by repeat (first | (with_reducible first | exact HB.out | apply below_alloc | apply pw_below_drewN | apply below_drew1 | refine below_set ?_ GE376.out | refine below_set ?_ GE377.out) | exact HB.out)⟩
                      · rw [if_neg c27] at H
                        have c27b0 : (a0 == 5) = false := beq_eq_false_iff_ne.mpr c27
                        have c27b1 : (a0 != 5) = true := bne_iff_ne.mpr c27
                        simp only [Option.some.injEq, Prod.mk.injEq] at H
                        obtain ⟨rfl, rfl, rfl, rfl, rfl, rfl, rfl, rfl, rfl, rfl, rfl, rfl⟩ := H
                        have hnb31 := NB376_377.out
                        have hnc31 := NB377_376.out
                        have hcz32_0 : wc.cell? ⟨gb376, 0, none⟩ = some (.string a2_0) := (blk_cell BK376.out 0).trans rfl
                        have hcz32_1 : wc.cell? ⟨gb376, 1, none⟩ = some (.string a2_1) := (blk_cell BK376.out 1).trans rfl
                        have hcz32_2 : wc.cell? ⟨gb376, 2, none⟩ = some (.string a2_2) := (blk_cell BK376.out 2).trans rfl
                        have hcz32_3 : wc.cell? ⟨gb376, 3, none⟩ = some (.string a2_3) := (blk_cell BK376.out 3).trans rfl
                        have hcz32_4 : wc.cell? ⟨gb376, 4, none⟩ = some (.int .i64 x377004_5) := (blk_cell BK376.out 4).trans rfl
                        have hcz32_5 : wc.cell? ⟨gb376, 5, none⟩ = some (.int .i64 x377005_11) := (blk_cell BK376.out 5).trans rfl
                        have hcz32_6 : wc.cell? ⟨gb376, 6, none⟩ = some (.int .i64 a2_6) := (blk_cell BK376.out 6).trans rfl
                        have hcz32_7 : wc.cell? ⟨gb376, 7, none⟩ = some (.bool a2_7) := (blk_cell BK376.out 7).trans rfl
                        have hcz32_8 : wc.cell? ⟨gb376, 8, none⟩ = some (.bool a2_8) := (blk_cell BK376.out 8).trans rfl
                        have hcz32_9 : wc.cell? ⟨gb376, 9, none⟩ = some (.bool a2_9) := (blk_cell BK376.out 9).trans rfl
                        have hcz32_10 : wc.cell? ⟨gb376, 10, none⟩ = some (.int .i64 a2_10) := (blk_cell BK376.out 10).trans rfl
                        have hfz32_0 := blk_frozen BK376.out 0
                        have hfz32_1 := blk_frozen BK376.out 1
                        have hfz32_2 := blk_frozen BK376.out 2
                        have hfz32_3 := blk_frozen BK376.out 3
                        have hfz32_4 := blk_frozen BK376.out 4
                        have hfz32_5 := blk_frozen BK376.out 5
                        have hfz32_6 := blk_frozen BK376.out 6
                        have hfz32_7 := blk_frozen BK376.out 7
                        have hfz32_8 := blk_frozen BK376.out 8
                        have hfz32_9 := blk_frozen BK376.out 9
                        have hfz32_10 := blk_frozen BK376.out 10
                        have hcz33_0 : wc.cell? ⟨gb377, 0, none⟩ = some (.string (⟨#[]⟩ : ByteArray)) := (blk_cell BK377.out 0).trans rfl
                        have hcz33_1 : wc.cell? ⟨gb377, 1, none⟩ = some (.string (⟨#[]⟩ : ByteArray)) := (blk_cell BK377.out 1).trans rfl
                        have hcz33_2 : wc.cell? ⟨gb377, 2, none⟩ = some (.string (⟨#[]⟩ : ByteArray)) := (blk_cell BK377.out 2).trans rfl
                        have hcz33_3 : wc.cell? ⟨gb377, 3, none⟩ = some (.string (⟨#[]⟩ : ByteArray)) := (blk_cell BK377.out 3).trans rfl
                        have hcz33_4 : wc.cell? ⟨gb377, 4, none⟩ = some (.int .i64 0) := (blk_cell BK377.out 4).trans rfl
                        have hcz33_5 : wc.cell? ⟨gb377, 5, none⟩ = some (.int .i64 0) := (blk_cell BK377.out 5).trans rfl
                        have hcz33_6 : wc.cell? ⟨gb377, 6, none⟩ = some (.int .i64 0) := (blk_cell BK377.out 6).trans rfl
                        have hcz33_7 : wc.cell? ⟨gb377, 7, none⟩ = some (.bool false) := (blk_cell BK377.out 7).trans rfl
                        have hcz33_8 : wc.cell? ⟨gb377, 8, none⟩ = some (.bool false) := (blk_cell BK377.out 8).trans rfl
                        have hcz33_9 : wc.cell? ⟨gb377, 9, none⟩ = some (.bool false) := (blk_cell BK377.out 9).trans rfl
                        have hcz33_10 : wc.cell? ⟨gb377, 10, none⟩ = some (.int .i64 0) := (blk_cell BK377.out 10).trans rfl
                        have hfz33_0 := blk_frozen BK377.out 0
                        have hfz33_1 := blk_frozen BK377.out 1
                        have hfz33_2 := blk_frozen BK377.out 2
                        have hfz33_3 := blk_frozen BK377.out 3
                        have hfz33_4 := blk_frozen BK377.out 4
                        have hfz33_5 := blk_frozen BK377.out 5
                        have hfz33_6 := blk_frozen BK377.out 6
                        have hfz33_7 := blk_frozen BK377.out 7
                        have hfz33_8 := blk_frozen BK377.out 8
                        have hfz33_9 := blk_frozen BK377.out 9
                        have hfz33_10 := blk_frozen BK377.out 10
                        go_wp2
                        refine bodyPost_ret (results_ct rfl _ _ gb377 27 #[.string a2_0, .string a2_1, .string a2_2, .string a2_3, .int .i64 x377004_5, .int .i64 x377005_11, .int .i64 a2_6, .bool true, .bool a2_8, .bool a2_9, .int .i64 a2_10] (0, 0) _ rfl xk Tryd.underlying27 rfl (by kernel_rfl)) rfl ?_
                        exact ⟨by first | rfl | (simp [errW_none, errW_some] <;> rfl) | (simp [*, errW_none, errW_some] <;> rfl), by repeat (first | (with_reducible first | exact HB.out | apply below_alloc | apply pw_below_drewN | apply below_drew1 | refine below_set ?_ GE376.out | refine below_set ?_ GE377.out) | exact HB.out)⟩
                · replace c18 := Bool.eq_false_iff.mpr c18
                  subst c18
                  have H1 : (if a0 = 1 then (some (a2_0, a2_1, a2_2, a2_3, x377004_5, x377005_11, a2_6, a2_7, a2_8, a2_9, 0, true)) else (if a0 = 4 then (some (a2_0, a2_1, a2_2, a2_3, x377004_5, x377005_11, a2_6, a2_7, a2_8, a2_9, 0, true)) else (if a0 = 5 then (some (a2_0, a2_1, a2_2, a2_3, x377004_5, x377005_11, a2_6, a2_7, a2_8, a2_9, 0, true)) else (some (a2_0, a2_1, a2_2, a2_3, x377004_5, x377005_11, a2_6, a2_7, a2_8, a2_9, a2_10, true))))) = some (r1, r2, r3, r4, r5, r6, r7, r8, r9, r10, r11, r12) := by rw [if_neg (show ¬ (false = true) by decide)] at H; exact H
                  clear H
                  have H := H1
                  clear H1
                  by_cases c34 : a0 = 1
                  · rw [if_pos c34] at H
                    have c34b0 : (a0 == 1) = true := beq_iff_eq.mpr c34
                    have c34b1 : (a0 != 1) = false := bne_eq_false_iff_eq.mpr c34
                    clear c34
                    simp only [Option.some.injEq, Prod.mk.injEq] at H
                    obtain ⟨rfl, rfl, rfl, rfl, rfl, rfl, rfl, rfl, rfl, rfl, rfl, rfl⟩ := H
                    have hnb35 := NB376_377.out
                    have hnc35 := NB377_376.out
                    have hcz36_0 : wc.cell? ⟨gb376, 0, none⟩ = some (.string a2_0) := (blk_cell BK376.out 0).trans rfl
                    have hcz36_1 : wc.cell? ⟨gb376, 1, none⟩ = some (.string a2_1) := (blk_cell BK376.out 1).trans rfl
                    have hcz36_2 : wc.cell? ⟨gb376, 2, none⟩ = some (.string a2_2) := (blk_cell BK376.out 2).trans rfl
                    have hcz36_3 : wc.cell? ⟨gb376, 3, none⟩ = some (.string a2_3) := (blk_cell BK376.out 3).trans rfl
                    have hcz36_4 : wc.cell? ⟨gb376, 4, none⟩ = some (.int .i64 x377004_5) := (blk_cell BK376.out 4).trans rfl
                    have hcz36_5 : wc.cell? ⟨gb376, 5, none⟩ = some (.int .i64 x377005_11) := (blk_cell BK376.out 5).trans rfl
                    have hcz36_6 : wc.cell? ⟨gb376, 6, none⟩ = some (.int .i64 a2_6) := (blk_cell BK376.out 6).trans rfl
                    have hcz36_7 : wc.cell? ⟨gb376, 7, none⟩ = some (.bool a2_7) := (blk_cell BK376.out 7).trans rfl
                    have hcz36_8 : wc.cell? ⟨gb376, 8, none⟩ = some (.bool a2_8) := (blk_cell BK376.out 8).trans rfl
                    have hcz36_9 : wc.cell? ⟨gb376, 9, none⟩ = some (.bool a2_9) := (blk_cell BK376.out 9).trans rfl
                    have hcz36_10 : wc.cell? ⟨gb376, 10, none⟩ = some (.int .i64 a2_10) := (blk_cell BK376.out 10).trans rfl
                    have hfz36_0 := blk_frozen BK376.out 0
                    have hfz36_1 := blk_frozen BK376.out 1
                    have hfz36_2 := blk_frozen BK376.out 2
                    have hfz36_3 := blk_frozen BK376.out 3
                    have hfz36_4 := blk_frozen BK376.out 4
                    have hfz36_5 := blk_frozen BK376.out 5
                    have hfz36_6 := blk_frozen BK376.out 6
                    have hfz36_7 := blk_frozen BK376.out 7
                    have hfz36_8 := blk_frozen BK376.out 8
                    have hfz36_9 := blk_frozen BK376.out 9
                    have hfz36_10 := blk_frozen BK376.out 10
                    have hcz37_0 : wc.cell? ⟨gb377, 0, none⟩ = some (.string (⟨#[]⟩ : ByteArray)) := (blk_cell BK377.out 0).trans rfl
                    have hcz37_1 : wc.cell? ⟨gb377, 1, none⟩ = some (.string (⟨#[]⟩ : ByteArray)) := (blk_cell BK377.out 1).trans rfl
                    have hcz37_2 : wc.cell? ⟨gb377, 2, none⟩ = some (.string (⟨#[]⟩ : ByteArray)) := (blk_cell BK377.out 2).trans rfl
                    have hcz37_3 : wc.cell? ⟨gb377, 3, none⟩ = some (.string (⟨#[]⟩ : ByteArray)) := (blk_cell BK377.out 3).trans rfl
                    have hcz37_4 : wc.cell? ⟨gb377, 4, none⟩ = some (.int .i64 0) := (blk_cell BK377.out 4).trans rfl
                    have hcz37_5 : wc.cell? ⟨gb377, 5, none⟩ = some (.int .i64 0) := (blk_cell BK377.out 5).trans rfl
                    have hcz37_6 : wc.cell? ⟨gb377, 6, none⟩ = some (.int .i64 0) := (blk_cell BK377.out 6).trans rfl
                    have hcz37_7 : wc.cell? ⟨gb377, 7, none⟩ = some (.bool false) := (blk_cell BK377.out 7).trans rfl
                    have hcz37_8 : wc.cell? ⟨gb377, 8, none⟩ = some (.bool false) := (blk_cell BK377.out 8).trans rfl
                    have hcz37_9 : wc.cell? ⟨gb377, 9, none⟩ = some (.bool false) := (blk_cell BK377.out 9).trans rfl
                    have hcz37_10 : wc.cell? ⟨gb377, 10, none⟩ = some (.int .i64 0) := (blk_cell BK377.out 10).trans rfl
                    have hfz37_0 := blk_frozen BK377.out 0
                    have hfz37_1 := blk_frozen BK377.out 1
                    have hfz37_2 := blk_frozen BK377.out 2
                    have hfz37_3 := blk_frozen BK377.out 3
                    have hfz37_4 := blk_frozen BK377.out 4
                    have hfz37_5 := blk_frozen BK377.out 5
                    have hfz37_6 := blk_frozen BK377.out 6
                    have hfz37_7 := blk_frozen BK377.out 7
                    have hfz37_8 := blk_frozen BK377.out 8
                    have hfz37_9 := blk_frozen BK377.out 9
                    have hfz37_10 := blk_frozen BK377.out 10
                    go_wp2
                    refine bodyPost_ret (results_ct rfl _ _ gb377 27 #[.string a2_0, .string a2_1, .string a2_2, .string a2_3, .int .i64 x377004_5, .int .i64 x377005_11, .int .i64 a2_6, .bool a2_7, .bool a2_8, .bool a2_9, .int .i64 0] (0, 0) _ rfl xk Tryd.underlying27 rfl (by kernel_rfl)) rfl ?_
                    exact ⟨by first | rfl | (simp [errW_none, errW_some] <;> rfl) | (simp [*, errW_none, errW_some] <;> rfl), by repeat (first | (with_reducible first | exact HB.out | apply below_alloc | apply pw_below_drewN | apply below_drew1 | refine below_set ?_ GE376.out | refine below_set ?_ GE377.out) | exact HB.out)⟩
                  · rw [if_neg c34] at H
                    have c34b0 : (a0 == 1) = false := beq_eq_false_iff_ne.mpr c34
                    have c34b1 : (a0 != 1) = true := bne_iff_ne.mpr c34
                    by_cases c38 : a0 = 4
                    · rw [if_pos c38] at H
                      have c38b0 : (a0 == 4) = true := beq_iff_eq.mpr c38
                      have c38b1 : (a0 != 4) = false := bne_eq_false_iff_eq.mpr c38
                      clear c38
                      simp only [Option.some.injEq, Prod.mk.injEq] at H
                      obtain ⟨rfl, rfl, rfl, rfl, rfl, rfl, rfl, rfl, rfl, rfl, rfl, rfl⟩ := H
                      have hnb39 := NB376_377.out
                      have hnc39 := NB377_376.out
                      have hcz40_0 : wc.cell? ⟨gb376, 0, none⟩ = some (.string a2_0) := (blk_cell BK376.out 0).trans rfl
                      have hcz40_1 : wc.cell? ⟨gb376, 1, none⟩ = some (.string a2_1) := (blk_cell BK376.out 1).trans rfl
                      have hcz40_2 : wc.cell? ⟨gb376, 2, none⟩ = some (.string a2_2) := (blk_cell BK376.out 2).trans rfl
                      have hcz40_3 : wc.cell? ⟨gb376, 3, none⟩ = some (.string a2_3) := (blk_cell BK376.out 3).trans rfl
                      have hcz40_4 : wc.cell? ⟨gb376, 4, none⟩ = some (.int .i64 x377004_5) := (blk_cell BK376.out 4).trans rfl
                      have hcz40_5 : wc.cell? ⟨gb376, 5, none⟩ = some (.int .i64 x377005_11) := (blk_cell BK376.out 5).trans rfl
                      have hcz40_6 : wc.cell? ⟨gb376, 6, none⟩ = some (.int .i64 a2_6) := (blk_cell BK376.out 6).trans rfl
                      have hcz40_7 : wc.cell? ⟨gb376, 7, none⟩ = some (.bool a2_7) := (blk_cell BK376.out 7).trans rfl
                      have hcz40_8 : wc.cell? ⟨gb376, 8, none⟩ = some (.bool a2_8) := (blk_cell BK376.out 8).trans rfl
                      have hcz40_9 : wc.cell? ⟨gb376, 9, none⟩ = some (.bool a2_9) := (blk_cell BK376.out 9).trans rfl
                      have hcz40_10 : wc.cell? ⟨gb376, 10, none⟩ = some (.int .i64 a2_10) := (blk_cell BK376.out 10).trans rfl
                      have hfz40_0 := blk_frozen BK376.out 0
                      have hfz40_1 := blk_frozen BK376.out 1
                      have hfz40_2 := blk_frozen BK376.out 2
                      have hfz40_3 := blk_frozen BK376.out 3
                      have hfz40_4 := blk_frozen BK376.out 4
                      have hfz40_5 := blk_frozen BK376.out 5
                      have hfz40_6 := blk_frozen BK376.out 6
                      have hfz40_7 := blk_frozen BK376.out 7
                      have hfz40_8 := blk_frozen BK376.out 8
                      have hfz40_9 := blk_frozen BK376.out 9
                      have hfz40_10 := blk_frozen BK376.out 10
                      have hcz41_0 : wc.cell? ⟨gb377, 0, none⟩ = some (.string (⟨#[]⟩ : ByteArray)) := (blk_cell BK377.out 0).trans rfl
                      have hcz41_1 : wc.cell? ⟨gb377, 1, none⟩ = some (.string (⟨#[]⟩ : ByteArray)) := (blk_cell BK377.out 1).trans rfl
                      have hcz41_2 : wc.cell? ⟨gb377, 2, none⟩ = some (.string (⟨#[]⟩ : ByteArray)) := (blk_cell BK377.out 2).trans rfl
                      have hcz41_3 : wc.cell? ⟨gb377, 3, none⟩ = some (.string (⟨#[]⟩ : ByteArray)) := (blk_cell BK377.out 3).trans rfl
                      have hcz41_4 : wc.cell? ⟨gb377, 4, none⟩ = some (.int .i64 0) := (blk_cell BK377.out 4).trans rfl
                      have hcz41_5 : wc.cell? ⟨gb377, 5, none⟩ = some (.int .i64 0) := (blk_cell BK377.out 5).trans rfl
                      have hcz41_6 : wc.cell? ⟨gb377, 6, none⟩ = some (.int .i64 0) := (blk_cell BK377.out 6).trans rfl
                      have hcz41_7 : wc.cell? ⟨gb377, 7, none⟩ = some (.bool false) := (blk_cell BK377.out 7).trans rfl
                      have hcz41_8 : wc.cell? ⟨gb377, 8, none⟩ = some (.bool false) := (blk_cell BK377.out 8).trans rfl
                      have hcz41_9 : wc.cell? ⟨gb377, 9, none⟩ = some (.bool false) := (blk_cell BK377.out 9).trans rfl
                      have hcz41_10 : wc.cell? ⟨gb377, 10, none⟩ = some (.int .i64 0) := (blk_cell BK377.out 10).trans rfl
                      have hfz41_0 := blk_frozen BK377.out 0
                      have hfz41_1 := blk_frozen BK377.out 1
                      have hfz41_2 := blk_frozen BK377.out 2
                      have hfz41_3 := blk_frozen BK377.out 3
                      have hfz41_4 := blk_frozen BK377.out 4
                      have hfz41_5 := blk_frozen BK377.out 5
                      have hfz41_6 := blk_frozen BK377.out 6
                      have hfz41_7 := blk_frozen BK377.out 7
                      have hfz41_8 := blk_frozen BK377.out 8
                      have hfz41_9 := blk_frozen BK377.out 9
                      have hfz41_10 := blk_frozen BK377.out 10
                      go_wp2
                      refine bodyPost_ret (results_ct rfl _ _ gb377 27 #[.string a2_0, .string a2_1, .string a2_2, .string a2_3, .int .i64 x377004_5, .int .i64 x377005_11, .int .i64 a2_6, .bool a2_7, .bool a2_8, .bool a2_9, .int .i64 0] (0, 0) _ rfl xk Tryd.underlying27 rfl (by kernel_rfl)) rfl ?_
                      exact ⟨by first | rfl | (simp [errW_none, errW_some] <;> rfl) | (simp [*, errW_none, errW_some] <;> rfl), by repeat (first | (with_reducible first | exact HB.out | apply below_alloc | apply pw_below_drewN | apply below_drew1 | refine below_set ?_ GE376.out | refine below_set ?_ GE377.out) | exact HB.out)⟩
                    · rw [if_neg c38] at H
                      have c38b0 : (a0 == 4) = false := beq_eq_false_iff_ne.mpr c38
                      have c38b1 : (a0 != 4) = true := bne_iff_ne.mpr c38
                      by_cases c42 : a0 = 5
                      · rw [if_pos c42] at H
                        have c42b0 : (a0 == 5) = true := beq_iff_eq.mpr c42
                        have c42b1 : (a0 != 5) = false := bne_eq_false_iff_eq.mpr c42
                        clear c42
                        simp only [Option.some.injEq, Prod.mk.injEq] at H
                        obtain ⟨rfl, rfl, rfl, rfl, rfl, rfl, rfl, rfl, rfl, rfl, rfl, rfl⟩ := H
                        have hnb43 := NB376_377.out
                        have hnc43 := NB377_376.out
                        have hcz44_0 : wc.cell? ⟨gb376, 0, none⟩ = some (.string a2_0) := (blk_cell BK376.out 0).trans rfl
                        have hcz44_1 : wc.cell? ⟨gb376, 1, none⟩ = some (.string a2_1) := (blk_cell BK376.out 1).trans rfl
                        have hcz44_2 : wc.cell? ⟨gb376, 2, none⟩ = some (.string a2_2) := (blk_cell BK376.out 2).trans rfl
                        have hcz44_3 : wc.cell? ⟨gb376, 3, none⟩ = some (.string a2_3) := (blk_cell BK376.out 3).trans rfl
                        have hcz44_4 : wc.cell? ⟨gb376, 4, none⟩ = some (.int .i64 x377004_5) := (blk_cell BK376.out 4).trans rfl
                        have hcz44_5 : wc.cell? ⟨gb376, 5, none⟩ = some (.int .i64 x377005_11) := (blk_cell BK376.out 5).trans rfl
                        have hcz44_6 : wc.cell? ⟨gb376, 6, none⟩ = some (.int .i64 a2_6) := (blk_cell BK376.out 6).trans rfl
                        have hcz44_7 : wc.cell? ⟨gb376, 7, none⟩ = some (.bool a2_7) := (blk_cell BK376.out 7).trans rfl
                        have hcz44_8 : wc.cell? ⟨gb376, 8, none⟩ = some (.bool a2_8) := (blk_cell BK376.out 8).trans rfl
                        have hcz44_9 : wc.cell? ⟨gb376, 9, none⟩ = some (.bool a2_9) := (blk_cell BK376.out 9).trans rfl
                        have hcz44_10 : wc.cell? ⟨gb376, 10, none⟩ = some (.int .i64 a2_10) := (blk_cell BK376.out 10).trans rfl
                        have hfz44_0 := blk_frozen BK376.out 0
                        have hfz44_1 := blk_frozen BK376.out 1
                        have hfz44_2 := blk_frozen BK376.out 2
                        have hfz44_3 := blk_frozen BK376.out 3
                        have hfz44_4 := blk_frozen BK376.out 4
                        have hfz44_5 := blk_frozen BK376.out 5
                        have hfz44_6 := blk_frozen BK376.out 6
                        have hfz44_7 := blk_frozen BK376.out 7
                        have hfz44_8 := blk_frozen BK376.out 8
                        have hfz44_9 := blk_frozen BK376.out 9
                        have hfz44_10 := blk_frozen BK376.out 10
                        have hcz45_0 : wc.cell? ⟨gb377, 0, none⟩ = some (.string (⟨#[]⟩ : ByteArray)) := (blk_cell BK377.out 0).trans rfl
                        have hcz45_1 : wc.cell? ⟨gb377, 1, none⟩ = some (.string (⟨#[]⟩ : ByteArray)) := (blk_cell BK377.out 1).trans rfl
                        have hcz45_2 : wc.cell? ⟨gb377, 2, none⟩ = some (.string (⟨#[]⟩ : ByteArray)) := (blk_cell BK377.out 2).trans rfl
                        have hcz45_3 : wc.cell? ⟨gb377, 3, none⟩ = some (.string (⟨#[]⟩ : ByteArray)) := (blk_cell BK377.out 3).trans rfl
                        have hcz45_4 : wc.cell? ⟨gb377, 4, none⟩ = some (.int .i64 0) := (blk_cell BK377.out 4).trans rfl
                        have hcz45_5 : wc.cell? ⟨gb377, 5, none⟩ = some (.int .i64 0) := (blk_cell BK377.out 5).trans rfl
                        have hcz45_6 : wc.cell? ⟨gb377, 6, none⟩ = some (.int .i64 0) := (blk_cell BK377.out 6).trans rfl
                        have hcz45_7 : wc.cell? ⟨gb377, 7, none⟩ = some (.bool false) := (blk_cell BK377.out 7).trans rfl
                        have hcz45_8 : wc.cell? ⟨gb377, 8, none⟩ = some (.bool false) := (blk_cell BK377.out 8).trans rfl
                        have hcz45_9 : wc.cell? ⟨gb377, 9, none⟩ = some (.bool false) := (blk_cell BK377.out 9).trans rfl
                        have hcz45_10 : wc.cell? ⟨gb377, 10, none⟩ = some (.int .i64 0) := (blk_cell BK377.out 10).trans rfl
                        have hfz45_0 := blk_frozen BK377.out 0
                        have hfz45_1 := blk_frozen BK377.out 1
                        have hfz45_2 := blk_frozen BK377.out 2
                        have hfz45_3 := blk_frozen BK377.out 3
                        have hfz45_4 := blk_frozen BK377.out 4
                        have hfz45_5 := blk_frozen BK377.out 5
                        have hfz45_6 := blk_frozen BK377.out 6
                        have hfz45_7 := blk_frozen BK377.out 7
                        have hfz45_8 := blk_frozen BK377.out 8
                        have hfz45_9 := blk_frozen BK377.out 9
                        have hfz45_10 := blk_frozen BK377.out 10
                        go_wp2
                        refine bodyPost_ret (results_ct rfl _ _ gb377 27 #[.string a2_0, .string a2_1, .string a2_2, .string a2_3, .int .i64 x377004_5, .int .i64 x377005_11, .int .i64 a2_6, .bool a2_7, .bool a2_8, .bool a2_9, .int .i64 0] (0, 0) _ rfl xk Tryd.underlying27 rfl (by kernel_rfl)) rfl ?_
                        exact ⟨by first | rfl | (simp [errW_none, errW_some] <;> rfl) | (simp [*, errW_none, errW_some] <;> rfl), by repeat (first | (with_reducible first | exact HB.out | apply below_alloc | apply pw_below_drewN | apply below_drew1 | refine below_set ?_ GE376.out | refine below_set ?_ GE377.out) | exact HB.out)⟩
                      · rw [if_neg c42] at H
                        have c42b0 : (a0 == 5) = false := beq_eq_false_iff_ne.mpr c42
                        have c42b1 : (a0 != 5) = true := bne_iff_ne.mpr c42
                        simp only [Option.some.injEq, Prod.mk.injEq] at H
                        obtain ⟨rfl, rfl, rfl, rfl, rfl, rfl, rfl, rfl, rfl, rfl, rfl, rfl⟩ := H
                        have hnb46 := NB376_377.out
                        have hnc46 := NB377_376.out
                        have hcz47_0 : wc.cell? ⟨gb376, 0, none⟩ = some (.string a2_0) := (blk_cell BK376.out 0).trans rfl
                        have hcz47_1 : wc.cell? ⟨gb376, 1, none⟩ = some (.string a2_1) := (blk_cell BK376.out 1).trans rfl
                        have hcz47_2 : wc.cell? ⟨gb376, 2, none⟩ = some (.string a2_2) := (blk_cell BK376.out 2).trans rfl
                        have hcz47_3 : wc.cell? ⟨gb376, 3, none⟩ = some (.string a2_3) := (blk_cell BK376.out 3).trans rfl
                        have hcz47_4 : wc.cell? ⟨gb376, 4, none⟩ = some (.int .i64 x377004_5) := (blk_cell BK376.out 4).trans rfl
                        have hcz47_5 : wc.cell? ⟨gb376, 5, none⟩ = some (.int .i64 x377005_11) := (blk_cell BK376.out 5).trans rfl
                        have hcz47_6 : wc.cell? ⟨gb376, 6, none⟩ = some (.int .i64 a2_6) := (blk_cell BK376.out 6).trans rfl
                        have hcz47_7 : wc.cell? ⟨gb376, 7, none⟩ = some (.bool a2_7) := (blk_cell BK376.out 7).trans rfl
                        have hcz47_8 : wc.cell? ⟨gb376, 8, none⟩ = some (.bool a2_8) := (blk_cell BK376.out 8).trans rfl
                        have hcz47_9 : wc.cell? ⟨gb376, 9, none⟩ = some (.bool a2_9) := (blk_cell BK376.out 9).trans rfl
                        have hcz47_10 : wc.cell? ⟨gb376, 10, none⟩ = some (.int .i64 a2_10) := (blk_cell BK376.out 10).trans rfl
                        have hfz47_0 := blk_frozen BK376.out 0
                        have hfz47_1 := blk_frozen BK376.out 1
                        have hfz47_2 := blk_frozen BK376.out 2
                        have hfz47_3 := blk_frozen BK376.out 3
                        have hfz47_4 := blk_frozen BK376.out 4
                        have hfz47_5 := blk_frozen BK376.out 5
                        have hfz47_6 := blk_frozen BK376.out 6
                        have hfz47_7 := blk_frozen BK376.out 7
                        have hfz47_8 := blk_frozen BK376.out 8
                        have hfz47_9 := blk_frozen BK376.out 9
                        have hfz47_10 := blk_frozen BK376.out 10
                        have hcz48_0 : wc.cell? ⟨gb377, 0, none⟩ = some (.string (⟨#[]⟩ : ByteArray)) := (blk_cell BK377.out 0).trans rfl
                        have hcz48_1 : wc.cell? ⟨gb377, 1, none⟩ = some (.string (⟨#[]⟩ : ByteArray)) := (blk_cell BK377.out 1).trans rfl
                        have hcz48_2 : wc.cell? ⟨gb377, 2, none⟩ = some (.string (⟨#[]⟩ : ByteArray)) := (blk_cell BK377.out 2).trans rfl
                        have hcz48_3 : wc.cell? ⟨gb377, 3, none⟩ = some (.string (⟨#[]⟩ : ByteArray)) := (blk_cell BK377.out 3).trans rfl
                        have hcz48_4 : wc.cell? ⟨gb377, 4, none⟩ = some (.int .i64 0) := (blk_cell BK377.out 4).trans rfl
                        have hcz48_5 : wc.cell? ⟨gb377, 5, none⟩ = some (.int .i64 0) := (blk_cell BK377.out 5).trans rfl
                        have hcz48_6 : wc.cell? ⟨gb377, 6, none⟩ = some (.int .i64 0) := (blk_cell BK377.out 6).trans rfl
                        have hcz48_7 : wc.cell? ⟨gb377, 7, none⟩ = some (.bool false) := (blk_cell BK377.out 7).trans rfl
                        have hcz48_8 : wc.cell? ⟨gb377, 8, none⟩ = some (.bool false) := (blk_cell BK377.out 8).trans rfl
                        have hcz48_9 : wc.cell? ⟨gb377, 9, none⟩ = some (.bool false) := (blk_cell BK377.out 9).trans rfl
                        have hcz48_10 : wc.cell? ⟨gb377, 10, none⟩ = some (.int .i64 0) := (blk_cell BK377.out 10).trans rfl
                        have hfz48_0 := blk_frozen BK377.out 0
                        have hfz48_1 := blk_frozen BK377.out 1
                        have hfz48_2 := blk_frozen BK377.out 2
                        have hfz48_3 := blk_frozen BK377.out 3
                        have hfz48_4 := blk_frozen BK377.out 4
                        have hfz48_5 := blk_frozen BK377.out 5
                        have hfz48_6 := blk_frozen BK377.out 6
                        have hfz48_7 := blk_frozen BK377.out 7
                        have hfz48_8 := blk_frozen BK377.out 8
                        have hfz48_9 := blk_frozen BK377.out 9
                        have hfz48_10 := blk_frozen BK377.out 10
                        go_wp2
                        refine bodyPost_ret (results_ct rfl _ _ gb377 27 #[.string a2_0, .string a2_1, .string a2_2, .string a2_3, .int .i64 x377004_5, .int .i64 x377005_11, .int .i64 a2_6, .bool a2_7, .bool a2_8, .bool a2_9, .int .i64 a2_10] (0, 0) _ rfl xk Tryd.underlying27 rfl (by kernel_rfl)) rfl ?_
                        exact ⟨by first | rfl | (simp [errW_none, errW_some] <;> rfl) | (simp [*, errW_none, errW_some] <;> rfl), by repeat (first | (with_reducible first | exact HB.out | apply below_alloc | apply pw_below_drewN | apply below_drew1 | refine below_set ?_ GE376.out | refine below_set ?_ GE377.out) | exact HB.out)⟩
  · replace c5 := Bool.eq_false_iff.mpr c5
    subst c5
    have H1 : (some ((⟨#[]⟩ : ByteArray), (⟨#[]⟩ : ByteArray), (⟨#[]⟩ : ByteArray), (⟨#[]⟩ : ByteArray), 0, 0, 0, false, false, false, 0, false)) = some (r1, r2, r3, r4, r5, r6, r7, r8, r9, r10, r11, r12) := by rw [if_neg (show ¬ (false = true) by decide)] at H; exact H
    clear H
    have H := H1
    clear H1
    simp only [Option.some.injEq, Prod.mk.injEq] at H
    obtain ⟨rfl, rfl, rfl, rfl, rfl, rfl, rfl, rfl, rfl, rfl, rfl, rfl⟩ := H
    go_enter Tryd.func14, Tryd.ntmps14
    go_wp2_with (first | ((with_reducible refine gate_dst (N := 5) rfl ?_); refine box_event ?hg (N := 5) ?hd (cs := #[.string a2_0, .string a2_1, .string a2_2, .string a2_3, .int .i64 a2_4, .int .i64 a2_5, .int .i64 a2_6, .bool a2_7, .bool a2_8, .bool a2_9, .int .i64 a2_10]) (t := 27) ?hr ?_; (case hd => rfl); (case hg => rfl); (case hr => first | (go_simp; done) | (go_simp; rfl)); intro gb376 hg w49 hbox hb; have n0_ := Aside0.mk (below_step xb hb); have n1_ := Aside0.mk (hbox); have n2_ := Aside0.mk ((by rw [hg]; exact (below_size xb) : w.heap.size ≤ gb376)); have n3_ := Aside0.mk ((by rw [hg]; exact (below_size xb) : w.heap.size ≤ gb376)); clear HB; have HB := n0_; have BK376 := n1_; have GW376 := n2_; have GE376 := n3_; clear n0_ n1_ n2_ n3_; clear hb hbox hg) | ((with_reducible refine gate_dst (N := 6) rfl ?_); refine box_event ?hg (N := 6) ?hd (cs := #[.string (⟨#[]⟩ : ByteArray), .string (⟨#[]⟩ : ByteArray), .string (⟨#[]⟩ : ByteArray), .string (⟨#[]⟩ : ByteArray), .int .i64 0, .int .i64 0, .int .i64 0, .bool false, .bool false, .bool false, .int .i64 0]) (t := 27) ?hr ?_; (case hd => rfl); (case hg => rfl); (case hr => first | (go_simp; done) | (go_simp; rfl)); intro gb377 hg w50 hbox hb; have n0_ := blkB BK376 hb; have n1_ := Aside0.mk (below_step xb hb); have n2_ := Aside0.mk (hbox); have n3_ := Aside0.mk ((by rw [hg]; exact (below_size xb) : w.heap.size ≤ gb377)); have n4_ := Aside0.mk ((by rw [hg]; exact (below_size xb) : w.heap.size ≤ gb377)); have n5_ := Aside0.mk ((by rw [hg]; exact Nat.ne_of_lt (blkL BK376) : gb376 ≠ gb377)); have n6_ := Aside0.mk ((by rw [hg]; exact Nat.ne_of_gt (blkL BK376) : gb377 ≠ gb376)); clear BK376; clear HB; have BK376 := n0_; have HB := n1_; have BK377 := n2_; have GW377 := n3_; have GE377 := n4_; have NB376_377 := n5_; have NB377_376 := n6_; clear n0_ n1_ n2_ n3_ n4_ n5_ n6_; clear hb hbox hg) | ((with_reducible refine gate_callee (f := 23) rfl ?_); refine goesL_ (some 10) rfl rfl Tryd.func23 (by kernel_rfl) rfl #[.int .i64 a0, .int .i64 a1] rfl xg ?_; (with_reducible refine (cracknelref18_May.calls a0 a1 false _ A4.out).mono ?_); rintro e w' ⟨rfl, ⟨nd, rfl⟩⟩; refine ⟨_, rfl, ?_⟩; (try (rw [drewN_self w50]; generalize hq_ : World.drewN w50 _ = w50; have n0_ : Aside0 (w50.heap[gb376]? = some (.cells #[.string a2_0, .string a2_1, .string a2_2, .string a2_3, .int .i64 a2_4, .int .i64 a2_5, .int .i64 a2_6, .bool a2_7, .bool a2_8, .bool a2_9, .int .i64 a2_10] 27 (0, 0))) := ⟨by rw [← hq_]; exact xk⟩; have n1_ : Aside0 (w50.heap[gb377]? = some (.cells #[.string (⟨#[]⟩ : ByteArray), .string (⟨#[]⟩ : ByteArray), .string (⟨#[]⟩ : ByteArray), .string (⟨#[]⟩ : ByteArray), .int .i64 0, .int .i64 0, .int .i64 0, .bool false, .bool false, .bool false, .int .i64 0] 27 (0, 0))) := ⟨by rw [← hq_]; exact xk⟩; have n2_ : Aside0 (Below w.heap.size w w50) := ⟨by rw [← hq_]; exact xb⟩; clear BK376 BK377 HB hq_; have BK376 := n0_; have BK377 := n1_; have HB := n2_; clear n0_ n1_ n2_)); have hnb51 := NB377_376.out; have hnc51 := NB376_377.out; have hcz52_0 : w50.cell? ⟨gb377, 0, none⟩ = some (.string (⟨#[]⟩ : ByteArray)) := (blk_cell BK377.out 0).trans rfl; have hcz52_1 : w50.cell? ⟨gb377, 1, none⟩ = some (.string (⟨#[]⟩ : ByteArray)) := (blk_cell BK377.out 1).trans rfl; have hcz52_2 : w50.cell? ⟨gb377, 2, none⟩ = some (.string (⟨#[]⟩ : ByteArray)) := (blk_cell BK377.out 2).trans rfl; have hcz52_3 : w50.cell? ⟨gb377, 3, none⟩ = some (.string (⟨#[]⟩ : ByteArray)) := (blk_cell BK377.out 3).trans rfl; have hcz52_4 : w50.cell? ⟨gb377, 4, none⟩ = some (.int .i64 0) := (blk_cell BK377.out 4).trans rfl; have hcz52_5 : w50.cell? ⟨gb377, 5, none⟩ = some (.int .i64 0) := (blk_cell BK377.out 5).trans rfl; have hcz52_6 : w50.cell? ⟨gb377, 6, none⟩ = some (.int .i64 0) := (blk_cell BK377.out 6).trans rfl; have hcz52_7 : w50.cell? ⟨gb377, 7, none⟩ = some (.bool false) := (blk_cell BK377.out 7).trans rfl; have hcz52_8 : w50.cell? ⟨gb377, 8, none⟩ = some (.bool false) := (blk_cell BK377.out 8).trans rfl; have hcz52_9 : w50.cell? ⟨gb377, 9, none⟩ = some (.bool false) := (blk_cell BK377.out 9).trans rfl; have hcz52_10 : w50.cell? ⟨gb377, 10, none⟩ = some (.int .i64 0) := (blk_cell BK377.out 10).trans rfl; have hfz52_0 := blk_frozen BK377.out 0; have hfz52_1 := blk_frozen BK377.out 1; have hfz52_2 := blk_frozen BK377.out 2; have hfz52_3 := blk_frozen BK377.out 3; have hfz52_4 := blk_frozen BK377.out 4; have hfz52_5 := blk_frozen BK377.out 5; have hfz52_6 := blk_frozen BK377.out 6; have hfz52_7 := blk_frozen BK377.out 7; have hfz52_8 := blk_frozen BK377.out 8; have hfz52_9 := blk_frozen BK377.out 9; have hfz52_10 := blk_frozen BK377.out 10))
    refine bodyPost_ret (results_ct rfl _ _ gb377 27 #[.string (⟨#[]⟩ : ByteArray), .string (⟨#[]⟩ : ByteArray), .string (⟨#[]⟩ : ByteArray), .string (⟨#[]⟩ : ByteArray), .int .i64 0, .int .i64 0, .int .i64 0, .bool false, .bool false, .bool false, .int .i64 0] (0, 0) _ rfl xk Tryd.underlying27 rfl (by kernel_rfl)) rfl ?_
    exact ⟨by first | rfl | (simp [errW_none, errW_some] <;> rfl) | (simp [*, errW_none, errW_some] <;> rfl), by repeat (first | (with_reducible first | exact HB.out | apply below_alloc | apply pw_below_drewN | apply below_drew1 | refine below_set ?_ GE376.out | refine below_set ?_ GE377.out) | exact HB.out)⟩

end Go.Proofs.YtccmackhhppbdaaDoor.Print
