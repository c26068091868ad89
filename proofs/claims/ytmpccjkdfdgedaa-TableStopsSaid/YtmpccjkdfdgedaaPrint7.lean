/- Printed by a program of this claim's session (xprint.py): the machine's side: each Go function as a Lean function, and that a call of it comes to what that tells; the row of a statement. No condition. -/
import Derived.Test.YtmpccjkdfdgedaaPrint0
import Derived.Test.YtmpccjkdfdgedaaGpick
import Derived.Test.YtmpccjkdfdgedaaPrint1
namespace Go.Proofs.Ytmpccjkdfdgedaa.Print
open Go.RowKit Go.Proofs.YtmpccjkdfdgedaaW.PrintWords Go.Proofs.YtmpccjkdfdgedaaW.PrintLast Go.Proofs.YtmpccjkdfdgedaaW.PrintMore
attribute [local go_sem] max2_int min2_int max_two min_two max_three min_three max_four min_four   -- for this text's walks alone
set_option linter.unusedVariables false
set_option linter.unusedSimpArgs false

/-! ### cracknellaw14_Int_int_21: function 21 -/
section
set_option linter.unusedSectionVars false
variable [Pick]
mutual
def cracknellaw14_Int_int_21.l0 : Nat → List (S65) → List (S65) → List (S65) → Option ((List (S65)))
  | 0, _, _, _ => none
  | k + 1, x7, x8, x9 => if (x8.length : Int) > 0 then (cracknellaw14_Int_int_21.j1 k x7 x8 x9 (decide ((x9.length : Int) > 0))) else (cracknellaw14_Int_int_21.j1 k x7 x8 x9 false)
def cracknellaw14_Int_int_21.j1 : Nat → List (S65) → List (S65) → List (S65) → Bool → Option ((List (S65)))
  | 0, _, _, _, _ => none
  | k + 1, x7, x8, x9, x22 => if x22 = true then (if 0 < (x8.length : Int) then (if 0 < (x9.length : Int) then ((law14_IntCmp.f ((rd_T65 x8 0).f0) ((rd_T65 x9 0).f0)).bind fun t300 => (if t300 < 0 then (if x7.length < 8796093022208 then (if 1 ≤ (x8.length : Int) then (cracknellaw14_Int_int_21.l0 k (x7 ++ [(⟨(rd_T65 x8 0).f0, (rd_T65 x8 0).f1⟩ : S65)]) (x8.drop 1) x9) else (none)) else (none)) else (if t300 > 0 then (if x7.length < 8796093022208 then (if 1 ≤ (x9.length : Int) then (cracknellaw14_Int_int_21.l0 k (x7 ++ [(⟨(rd_T65 x9 0).f0, (rd_T65 x9 0).f1⟩ : S65)]) x8 (x9.drop 1)) else (none)) else (none)) else ((Pick.f ((rd_T65 x8 0).f1) ((rd_T65 x9 0).f1)).bind fun t322 => (if x7.length < 8796093022208 then (if 1 ≤ (x8.length : Int) then (if 1 ≤ (x9.length : Int) then (cracknellaw14_Int_int_21.l0 k (x7 ++ [(⟨(rd_T65 x8 0).f0, t322⟩ : S65)]) (x8.drop 1) (x9.drop 1)) else (none)) else (none)) else (none)))))) else (none)) else (none)) else ((cracknellaw14_Int_int_30.f k (([x7, x8, x9] : List (List (S65))))).bind fun t295 => (some t295))
end
def cracknellaw14_Int_int_21.f (k : Nat) (l0_0 : List (S65)) (l1_0 : List (S65)) : Option ((List (S65))) := cracknellaw14_Int_int_21.l0 k ([] : List (S65)) l0_0 l1_0
theorem cracknellaw14_Int_int_21.mono_l : ∀ k, (∀ y0 y1 y2, LeO (cracknellaw14_Int_int_21.l0 k y0 y1 y2) (cracknellaw14_Int_int_21.l0 (k + 1) y0 y1 y2)) ∧ (∀ y0 y1 y2 y3, LeO (cracknellaw14_Int_int_21.j1 k y0 y1 y2 y3) (cracknellaw14_Int_int_21.j1 (k + 1) y0 y1 y2 y3))
  | 0 => ⟨fun _ _ _ r h => by simp [cracknellaw14_Int_int_21.l0] at h, fun _ _ _ _ r h => by simp [cracknellaw14_Int_int_21.j1] at h⟩
  | k + 1 => by
    obtain ⟨ih0, ih1⟩ := cracknellaw14_Int_int_21.mono_l k
    refine ⟨?_, ?_⟩
    · intro y0 y1 y2
      unfold cracknellaw14_Int_int_21.l0
      repeat' first
      | (with_reducible exact ih0 _ _ _)
      | (with_reducible exact ih1 _ _ _ _)
      | (with_reducible exact cracknellaw14_Int_int_30.mono _ _)
      | (with_reducible exact LeO.refl _)
      | (with_reducible exact LeO.none _)
      | (with_reducible refine LeO.ite ?_ ?_)
      | (with_reducible refine LeO.bind ?_ (fun _ => ?_))
      | exact ih0 _ _ _
      | exact ih1 _ _ _ _
      | exact cracknellaw14_Int_int_30.mono _ _
      | exact LeO.none _
      | refine LeO.ite ?_ ?_
      | refine LeO.bind ?_ (fun _ => ?_)
    · intro y0 y1 y2 y3
      unfold cracknellaw14_Int_int_21.j1
      repeat' first
      | (with_reducible exact ih0 _ _ _)
      | (with_reducible exact ih1 _ _ _ _)
      | (with_reducible exact cracknellaw14_Int_int_30.mono _ _)
      | (with_reducible exact LeO.refl _)
      | (with_reducible exact LeO.none _)
      | (with_reducible refine LeO.ite ?_ ?_)
      | (with_reducible refine LeO.bind ?_ (fun _ => ?_))
      | exact ih0 _ _ _
      | exact ih1 _ _ _ _
      | exact cracknellaw14_Int_int_30.mono _ _
      | exact LeO.none _
      | refine LeO.ite ?_ ?_
      | refine LeO.bind ?_ (fun _ => ?_)
theorem cracknellaw14_Int_int_21.mono : ∀ a0 a1 k, LeO (cracknellaw14_Int_int_21.f k a0 a1) (cracknellaw14_Int_int_21.f (k + 1) a0 a1) := by
  intro a0 a1 k
  obtain ⟨ih0, ih1⟩ := cracknellaw14_Int_int_21.mono_l k
  unfold cracknellaw14_Int_int_21.f
  repeat' first
      | (with_reducible exact ih0 _ _ _)
      | (with_reducible exact ih1 _ _ _ _)
      | (with_reducible exact cracknellaw14_Int_int_30.mono _ _)
      | (with_reducible exact LeO.refl _)
      | (with_reducible exact LeO.none _)
      | (with_reducible refine LeO.ite ?_ ?_)
      | (with_reducible refine LeO.bind ?_ (fun _ => ?_))
      | exact ih0 _ _ _
      | exact ih1 _ _ _ _
      | exact cracknellaw14_Int_int_30.mono _ _
      | exact LeO.none _
      | refine LeO.ite ?_ ?_
      | refine LeO.bind ?_ (fun _ => ?_)
def cracknellaw14_Int_int_21.T4 : Bool × List (List Nat × List Nat) := (true, [([], []), ([0], [0]), ([1], [1]), ([2], [2]), ([3], [3]), ([], []), ([5], [5]), ([6], [6]), ([7], [7]), ([4, 8], [4, 8]), ([9, 9, 0, 1, 2, 3, 4, 5, 6, 7, 8, 9], [9])])
def cracknellaw14_Int_int_21.B4 : List Nat := [0, 1, 3, 7, 15, 0, 32, 96, 224, 511, 1023]
theorem cracknellaw14_Int_int_21.tab4 : rtab .any (opsOf Try.f21 4) = cracknellaw14_Int_int_21.T4 := by kernel_rfl
theorem cracknellaw14_Int_int_21.bits4 : waitsOk cracknellaw14_Int_int_21.T4.2 cracknellaw14_Int_int_21.B4 = true := by kernel_rfl
def cracknellaw14_Int_int_21.T5 : Bool × List (List Nat × List Nat) := (true, [([], []), ([], []), ([1], [1]), ([2], [2]), ([3], [3]), ([], []), ([], []), ([6], [6]), ([7], [7]), ([8], [8]), ([], []), ([10], [10]), ([11], [11]), ([12], [12]), ([5, 9, 13], [5, 9, 13]), ([4, 14], [4, 14]), ([15], [15]), ([0, 16, 14], [0, 16]), ([17, 17, 0, 1, 2, 3, 4, 5, 6, 7, 8, 9, 10, 11, 12, 13, 14, 15, 16, 17], [0, 17])])
def cracknellaw14_Int_int_21.B5 : List Nat := [0, 0, 2, 6, 14, 0, 0, 64, 192, 448, 0, 1024, 3072, 7168, 16352, 32766, 65534, 131071, 262143]
theorem cracknellaw14_Int_int_21.tab5 : rtab .any (opsOf Try.f21 5) = cracknellaw14_Int_int_21.T5 := by kernel_rfl
theorem cracknellaw14_Int_int_21.bits5 : waitsOk cracknellaw14_Int_int_21.T5.2 cracknellaw14_Int_int_21.B5 = true := by kernel_rfl
def cracknellaw14_Int_int_21.T8 : Bool × List (List Nat × List Nat) := (true, [([], []), ([], []), ([1], [1]), ([2], [2]), ([3], [3]), ([0, 4], [0, 4]), ([], []), ([6], [6]), ([5, 5, 0, 1, 2, 3, 4, 5], [0, 5]), ([7, 8, 0, 1, 2, 3, 4, 5, 6, 7, 8], [1, 6, 7])])
def cracknellaw14_Int_int_21.B8 : List Nat := [0, 0, 2, 6, 14, 31, 0, 64, 63, 511]
theorem cracknellaw14_Int_int_21.tab8 : rtab .any (opsOf Try.f21 8) = cracknellaw14_Int_int_21.T8 := by kernel_rfl
theorem cracknellaw14_Int_int_21.bits8 : waitsOk cracknellaw14_Int_int_21.T8.2 cracknellaw14_Int_int_21.B8 = true := by kernel_rfl
def cracknellaw14_Int_int_21.T10 : Bool × List (List Nat × List Nat) := (true, [([], []), ([], []), ([1], [1]), ([2], [2]), ([3], [3]), ([0, 4], [0, 4]), ([], []), ([6], [6]), ([5, 5, 0, 1, 2, 3, 4, 5], [0, 5]), ([7, 8, 0, 1, 2, 3, 4, 5, 6, 7, 8], [1, 6, 7])])
def cracknellaw14_Int_int_21.B10 : List Nat := [0, 0, 2, 6, 14, 31, 0, 64, 63, 511]
theorem cracknellaw14_Int_int_21.tab10 : rtab .any (opsOf Try.f21 10) = cracknellaw14_Int_int_21.T10 := by kernel_rfl
theorem cracknellaw14_Int_int_21.bits10 : waitsOk cracknellaw14_Int_int_21.T10.2 cracknellaw14_Int_int_21.B10 = true := by kernel_rfl
set_option maxHeartbeats 8000000 in
set_option maxRecDepth 100000 in
theorem cracknellaw14_Int_int_21.calls (k : Nat) (P0_0_ : Nat → Prop) (A0_0 : Option Addr) (c0_0 : Nat) (l0_0 : List (S65)) (P1_0_ : Nat → Prop) (A1_0 : Option Addr) (c1_0 : Nat) (l1_0 : List (S65)) (r : List (S65)) (w : World) (hs0_0 : Kd.V k65 65 w w.heap.size (fun k_ => P0_0_ k_) (.slice A0_0 l0_0.length c0_0) l0_0) (hs1_0 : Kd.V k65 65 w w.heap.size (fun k_ => P1_0_ k_) (.slice A1_0 l1_0.length c1_0) l1_0) (h : cracknellaw14_Int_int_21.f k l0_0 l1_0 = some r) :
    Calls Try.prog 21 #[.agg #[.slice A0_0 l0_0.length c0_0], .agg #[.slice A1_0 l1_0.length c1_0], .func (.func Pick.g) #[] #[]] w fun e w' => ∃ v0_ : Value, e = .returned (.agg #[v0_]) ∧ Kd.R k65 65 w' w.heap.size (fun k_ => (w.heap.size ≤ k_)) v0_ r ∧ Below w.heap.size w w' := by
  have hu27 := Try.underlying27
  have hu65 := Try.underlying65
  have HO0_0 := Aside0.mk (show Kd.V k65 65 w w.heap.size (fun k_ => ((P0_0_ k_ ∨ P1_0_ k_) ∨ w.heap.size ≤ k_)) (.slice A0_0 l0_0.length c0_0) l0_0 from Kd.V_mono hs0_0 (fun k_ hk => .inl (.inl hk)))
  have HO1_0 := Aside0.mk (show Kd.V k65 65 w w.heap.size (fun k_ => ((P0_0_ k_ ∨ P1_0_ k_) ∨ w.heap.size ≤ k_)) (.slice A1_0 l1_0.length c1_0) l1_0 from Kd.V_mono hs1_0 (fun k_ hk => .inl (.inr hk)))
  have HB := Aside0.mk (Below.refl w.heap.size w)
  have H : (cracknellaw14_Int_int_21.l0 k ([] : List (S65)) l0_0 l1_0) = some r := h
  clear h
  have H' := Aside0.mk H
  clear H
  go_enter Try.func21, Try.ntmps21
  try go_wp2_with (first | ((with_reducible refine gate_dst (N := 3) rfl ?_); (try (refine gate_guard (by rfl) ?_; dsimp only)); refine box_event ?hg (N := 3) ?hd (cs := #[.slice A0_0 l0_0.length c0_0]) (t := 27) ?hr ?_; (case hd => rfl); (case hg => rfl); (case hr => first | (go_simp; done) | (go_simp; rfl)); intro gb289 hg w3 hbox hb; have n0_ := Aside0.mk (Kd.V_below (Kd.V_elderB (by (with_reducible repeat (first | apply Kd.V_alloc | apply Kd.V_drewN | apply Kd.V_drew)); exact HO0_0.out) gb289 (Nat.le_of_eq hg.symm)) hb); have n1_ := Aside0.mk (Kd.V_below (Kd.V_elderB (by (with_reducible repeat (first | apply Kd.V_alloc | apply Kd.V_drewN | apply Kd.V_drew)); exact HO1_0.out) gb289 (Nat.le_of_eq hg.symm)) hb); have n2_ := Aside0.mk (below_step xb hb); have n3_ := Aside0.mk (hbox); have n4_ := Aside0.mk ((by rw [hg]; exact (below_size xb) : w.heap.size ≤ gb289)); have n5_ := Aside0.mk ((by rw [hg]; exact (below_size xb) : w.heap.size ≤ gb289)); clear HO0_0; clear HO1_0; clear HB; have HO0_0 := n0_; have HO1_0 := n1_; have HB := n2_; have BK289 := n3_; have GW289 := n4_; have GE289 := n5_; clear n0_ n1_ n2_ n3_ n4_ n5_; clear hb hbox hg) | ((with_reducible refine gate_dst (N := 4) rfl ?_); (try (refine gate_guard (by rfl) ?_; dsimp only)); refine box_event ?hg (N := 4) ?hd (cs := #[.slice A1_0 l1_0.length c1_0]) (t := 27) ?hr ?_; (case hd => rfl); (case hg => rfl); (case hr => first | (go_simp; done) | (go_simp; rfl)); intro gb290 hg w4 hbox hb; have n0_ := Aside0.mk (Kd.V_below (Kd.V_elderB (by (with_reducible repeat (first | apply Kd.V_alloc | apply Kd.V_drewN | apply Kd.V_drew)); exact HO0_0.out) gb290 (Nat.le_of_eq hg.symm)) hb); have n1_ := Aside0.mk (Kd.V_below (Kd.V_elderB (by (with_reducible repeat (first | apply Kd.V_alloc | apply Kd.V_drewN | apply Kd.V_drew)); exact HO1_0.out) gb290 (Nat.le_of_eq hg.symm)) hb); have n2_ := blkB BK289 hb; have n3_ := Aside0.mk (below_step xb hb); have n4_ := Aside0.mk (hbox); have n5_ := Aside0.mk ((by rw [hg]; exact (below_size xb) : w.heap.size ≤ gb290)); have n6_ := Aside0.mk ((by rw [hg]; exact (below_size xb) : w.heap.size ≤ gb290)); have n7_ := Aside0.mk ((by rw [hg]; exact Nat.ne_of_lt (blkL BK289) : gb289 ≠ gb290)); have n8_ := Aside0.mk ((by rw [hg]; exact Nat.ne_of_gt (blkL BK289) : gb290 ≠ gb289)); clear HO0_0; clear HO1_0; clear BK289; clear HB; have HO0_0 := n0_; have HO1_0 := n1_; have BK289 := n2_; have HB := n3_; have BK290 := n4_; have GW290 := n5_; have GE290 := n6_; have NB289_290 := n7_; have NB290_289 := n8_; clear n0_ n1_ n2_ n3_ n4_ n5_ n6_ n7_ n8_; clear hb hbox hg) | ((with_reducible refine gate_dst (N := 6) rfl ?_); (try (refine gate_guard (by rfl) ?_; dsimp only)); refine box_event ?hg (N := 6) ?hd (cs := #[.slice none 0 0]) (t := 27) ?hr ?_; (case hd => rfl); (case hg => rfl); (case hr => first | (go_simp; done) | (go_simp; rfl)); intro gb291 hg w5 hbox hb; have n0_ := Aside0.mk (Kd.V_below (Kd.V_elderB (by (with_reducible repeat (first | apply Kd.V_alloc | apply Kd.V_drewN | apply Kd.V_drew)); exact HO0_0.out) gb291 (Nat.le_of_eq hg.symm)) hb); have n1_ := Aside0.mk (Kd.V_below (Kd.V_elderB (by (with_reducible repeat (first | apply Kd.V_alloc | apply Kd.V_drewN | apply Kd.V_drew)); exact HO1_0.out) gb291 (Nat.le_of_eq hg.symm)) hb); have n2_ := blkB BK289 hb; have n3_ := blkB BK290 hb; have n4_ := Aside0.mk (below_step xb hb); have n5_ := Aside0.mk (hbox); have n6_ := Aside0.mk ((by rw [hg]; exact (below_size xb) : w.heap.size ≤ gb291)); have n7_ := Aside0.mk ((by rw [hg]; exact (below_size xb) : w.heap.size ≤ gb291)); have n8_ := Aside0.mk ((by rw [hg]; exact Nat.ne_of_lt (blkL BK289) : gb289 ≠ gb291)); have n9_ := Aside0.mk ((by rw [hg]; exact Nat.ne_of_gt (blkL BK289) : gb291 ≠ gb289)); have n10_ := Aside0.mk ((by rw [hg]; exact Nat.ne_of_lt (blkL BK290) : gb290 ≠ gb291)); have n11_ := Aside0.mk ((by rw [hg]; exact Nat.ne_of_gt (blkL BK290) : gb291 ≠ gb290)); clear HO0_0; clear HO1_0; clear BK289; clear BK290; clear HB; have HO0_0 := n0_; have HO1_0 := n1_; have BK289 := n2_; have BK290 := n3_; have HB := n4_; have BK291 := n5_; have GW291 := n6_; have GE291 := n7_; have NB289_291 := n8_; have NB291_289 := n9_; have NB290_291 := n10_; have NB291_290 := n11_; clear n0_ n1_ n2_ n3_ n4_ n5_ n6_ n7_ n8_ n9_ n10_ n11_; clear hb hbox hg))
  have n0_ := Aside0.mk (Kd.V_drew HO0_0.out)
  have n1_ := Aside0.mk (Kd.V_drew HO1_0.out)
  have n2_ := Aside0.mk (blk_drew BK289.out)
  have n3_ := Aside0.mk (blk_drew BK290.out)
  have n4_ := Aside0.mk (blk_drew BK291.out)
  have n5_ := Aside0.mk (below_drew1 HB.out)
  clear HO0_0
  clear HO1_0
  clear BK289
  clear BK290
  clear BK291
  clear HB
  have HO0_0 := n0_
  have HO1_0 := n1_
  have BK289 := n2_
  have BK290 := n3_
  have BK291 := n4_
  have HB := n5_
  clear n0_ n1_ n2_ n3_ n4_ n5_
  refine start_ (n := 6) (S := fun w' => w'.cell? ⟨gb289, 0, none⟩ = some (.slice A0_0 l0_0.length c0_0) ∧ w'.cell? ⟨gb290, 0, none⟩ = some (.slice A1_0 l1_0.length c1_0)) (ds := []) #[false, false, false, false, false, false] (by kernel_rfl) rfl rfl ⟨(blk_cell BK289.out 0).trans rfl, (blk_cell BK290.out 0).trans rfl⟩ (fun hHeld => ?_)
  generalize w5.drew = w6 at HO0_0 HO1_0 BK289 BK290 BK291 HB hHeld ⊢
  refine pure_ (i := 0) (N := some 11) (v := ?_) (a' := ?_) #[true, false, false, false, false, false] rfl rfl (by kernel_rfl) (fun _ _ _ h => h) (Or.inl ⟨by rfl, ?_⟩) ?_ ?_
  rotate_left
  · intro w'
    go_simp
    with_reducible rfl
  rotate_left
  · simp only [Act.put, List.setIfInBounds_toArray, List.set_cons_zero, List.set_cons_succ, i64_w, i32_w]
    rfl
  refine pure_ (i := 2) (N := some 13) (v := ?_) (a' := ?_) #[true, false, true, false, false, false] rfl rfl (by kernel_rfl) (fun _ _ _ h => h) (Or.inl ⟨by rfl, ?_⟩) ?_ ?_
  rotate_left
  · intro w'
    go_simp
    with_reducible rfl
  rotate_left
  · simp only [Act.put, List.setIfInBounds_toArray, List.set_cons_zero, List.set_cons_succ, i64_w, i32_w]
    rfl
  refine take_ (i := 1) (N := some 12) (v := ?_) (a' := ?_) #[true, true, true, false, false, false] rfl rfl (by kernel_rfl) (fun _ _ _ h => h) (Or.inl ⟨by rfl, ?_⟩) hHeld ?_ ?_
  rotate_left
  · rintro w' ⟨s0, s1⟩
    go_simp
    with_reducible rfl
  rotate_left
  · simp only [Act.put, List.setIfInBounds_toArray, List.set_cons_zero, List.set_cons_succ, i64_w, i32_w]
    rfl
  refine pure_ (i := 4) (N := some 8) (v := ?_) (a' := ?_) #[true, true, true, false, true, false] rfl rfl (by kernel_rfl) (fun _ _ _ h => h) (Or.inl ⟨by rfl, ?_⟩) ?_ ?_
  rotate_left
  · intro w'
    go_simp
    with_reducible rfl
  rotate_left
  · simp only [Act.put, List.setIfInBounds_toArray, List.set_cons_zero, List.set_cons_succ, i64_w, i32_w]
    rfl
  refine take_ (i := 3) (N := some 14) (v := ?_) (a' := ?_) #[true, true, true, true, true, false] rfl rfl (by kernel_rfl) (fun _ _ _ h => h) (Or.inl ⟨by rfl, ?_⟩) hHeld ?_ ?_
  rotate_left
  · rintro w' ⟨s0, s1⟩
    go_simp
    with_reducible rfl
  rotate_left
  · simp only [Act.put, List.setIfInBounds_toArray, List.set_cons_zero, List.set_cons_succ, i64_w, i32_w]
    rfl
  refine pure_ (i := 5) (N := some 9) (v := ?_) (a' := ?_) #[true, true, true, true, true, true] rfl rfl (by kernel_rfl) (fun _ _ _ h => h) (Or.inl ⟨by rfl, ?_⟩) ?_ ?_
  rotate_left
  · intro w'
    go_simp
    with_reducible rfl
  rotate_left
  · simp only [Act.put, List.setIfInBounds_toArray, List.set_cons_zero, List.set_cons_succ, i64_w, i32_w]
    rfl
  refine done_ (by kernel_rfl) ?_
  try go_wp2
  go_loopg [7, 8, 9] k (fun kq v7 v8 v9 w' => ∃ (x7_1 : List (S65)) (x8_1 : List (S65)) (x9_1 : List (S65)), Aside0 (cracknellaw14_Int_int_21.l0 kq x7_1 x8_1 x9_1 = some r) ∧ Aside0 (kq ≤ k) ∧ Aside0 (Kd.R k65 65 w' w.heap.size (fun k_ => (w.heap.size ≤ k_)) v7 x7_1) ∧ Aside0 (Kd.V k65 65 w' w.heap.size (fun k_ => ((P0_0_ k_ ∨ P1_0_ k_) ∨ w.heap.size ≤ k_) ∧ some k_ ≠ (v7 : Value).ownBlock ∧ k_ ≠ gb289 ∧ k_ ≠ gb290 ∧ k_ ≠ gb291) v8 x8_1) ∧ Aside0 (Kd.V k65 65 w' w.heap.size (fun k_ => ((P0_0_ k_ ∨ P1_0_ k_) ∨ w.heap.size ≤ k_) ∧ some k_ ≠ (v7 : Value).ownBlock ∧ k_ ≠ gb289 ∧ k_ ≠ gb290 ∧ k_ ≠ gb291) v9 x9_1) ∧ Aside0 (Kd.V k65 65 w' w.heap.size (fun k_ => ((P0_0_ k_ ∨ P1_0_ k_) ∨ w.heap.size ≤ k_) ∧ some k_ ≠ (v7 : Value).ownBlock ∧ k_ ≠ gb289 ∧ k_ ≠ gb290 ∧ k_ ≠ gb291) (.slice A0_0 l0_0.length c0_0) l0_0) ∧ Aside0 (Kd.V k65 65 w' w.heap.size (fun k_ => ((P0_0_ k_ ∨ P1_0_ k_) ∨ w.heap.size ≤ k_) ∧ some k_ ≠ (v7 : Value).ownBlock ∧ k_ ≠ gb289 ∧ k_ ≠ gb290 ∧ k_ ≠ gb291) (.slice A1_0 l1_0.length c1_0) l1_0) ∧ Aside0 (w'.heap[gb289]? = some (.cells #[(.slice A0_0 l0_0.length c0_0)] 27 (0, 0))) ∧ Aside0 (w'.heap[gb290]? = some (.cells #[(.slice A1_0 l1_0.length c1_0)] 27 (0, 0))) ∧ Aside0 (w'.heap[gb291]? = some (.cells #[(.slice none 0 0)] 27 (0, 0))) ∧ Aside0 (Below w.heap.size w w'))
  case atStart => exact ⟨(([] : List (S65))), (l0_0), (l1_0), H', ⟨Nat.le_refl _⟩, ⟨by first | exact Kd.R_nil _ _ _ _ _ | exact Kd.N_nil _ _ _ _ _ | exact Kd.V_nil _ _ _ _ _ | exact Kd.Q_nil _ _ _ _ _ | exact Kd.S_nil _ _ _ _ _⟩, ⟨by (with_reducible repeat (first | apply Kd.V_alloc | apply Kd.V_drewN | apply Kd.V_drew)); exact Kd.V_mono HO0_0.out (fun _ hk => ⟨hk.1.1.1, ⟨(by simp [Value.ownBlock]), ⟨hk.1.1.2, ⟨hk.1.2, hk.2⟩⟩⟩⟩)⟩, ⟨by (with_reducible repeat (first | apply Kd.V_alloc | apply Kd.V_drewN | apply Kd.V_drew)); exact Kd.V_mono HO1_0.out (fun _ hk => ⟨hk.1.1.1, ⟨(by simp [Value.ownBlock]), ⟨hk.1.1.2, ⟨hk.1.2, hk.2⟩⟩⟩⟩)⟩, ⟨by (with_reducible repeat (first | apply Kd.V_alloc | apply Kd.V_drewN | apply Kd.V_drew)); exact Kd.V_mono HO0_0.out (fun _ hk => ⟨hk.1.1.1, ⟨(by simp [Value.ownBlock]), ⟨hk.1.1.2, ⟨hk.1.2, hk.2⟩⟩⟩⟩)⟩, ⟨by (with_reducible repeat (first | apply Kd.V_alloc | apply Kd.V_drewN | apply Kd.V_drew)); exact Kd.V_mono HO1_0.out (fun _ hk => ⟨hk.1.1.1, ⟨(by simp [Value.ownBlock]), ⟨hk.1.1.2, ⟨hk.1.2, hk.2⟩⟩⟩⟩)⟩, ⟨xk⟩, ⟨xk⟩, ⟨xk⟩, ⟨xb⟩⟩
  case round =>
    clear H'
    try clear c1
    try clear c2
    try clear p2
    obtain ⟨x7_1, x8_1, x9_1, HA, HK1, HO_7, HO_8, HO_9, HO_290000, HO_291000, BK289, BK290, BK291, HB⟩ := hrel
    cases gk with
    | zero => exact absurd HA.out (by simp [cracknellaw14_Int_int_21.l0])
    | succ k1 =>
      have H := HA.out
      clear HA
      simp only [cracknellaw14_Int_int_21.l0] at H
      have HC7 := Aside0.mk H
      clear H
      go_upto_region 3 with (fail)
      go_cut [22] (fun v22 wc => ∃ (kq : Nat) (x22_6 : Bool), v22 = .bool x22_6 ∧ Aside0 (cracknellaw14_Int_int_21.j1 kq x7_1 x8_1 x9_1 x22_6 = some r) ∧ Aside0 (kq ≤ k1) ∧ Aside0 (Kd.R k65 65 wc w.heap.size (fun k_ => (w.heap.size ≤ k_)) u7 x7_1) ∧ Aside0 (Kd.V k65 65 wc w.heap.size (fun k_ => ((P0_0_ k_ ∨ P1_0_ k_) ∨ w.heap.size ≤ k_) ∧ some k_ ≠ (u7 : Value).ownBlock ∧ k_ ≠ gb289 ∧ k_ ≠ gb290 ∧ k_ ≠ gb291) u8 x8_1) ∧ Aside0 (Kd.V k65 65 wc w.heap.size (fun k_ => ((P0_0_ k_ ∨ P1_0_ k_) ∨ w.heap.size ≤ k_) ∧ some k_ ≠ (u7 : Value).ownBlock ∧ k_ ≠ gb289 ∧ k_ ≠ gb290 ∧ k_ ≠ gb291) u9 x9_1) ∧ Aside0 (Kd.V k65 65 wc w.heap.size (fun k_ => ((P0_0_ k_ ∨ P1_0_ k_) ∨ w.heap.size ≤ k_) ∧ some k_ ≠ (u7 : Value).ownBlock ∧ k_ ≠ gb289 ∧ k_ ≠ gb290 ∧ k_ ≠ gb291) (.slice A0_0 l0_0.length c0_0) l0_0) ∧ Aside0 (Kd.V k65 65 wc w.heap.size (fun k_ => ((P0_0_ k_ ∨ P1_0_ k_) ∨ w.heap.size ≤ k_) ∧ some k_ ≠ (u7 : Value).ownBlock ∧ k_ ≠ gb289 ∧ k_ ≠ gb290 ∧ k_ ≠ gb291) (.slice A1_0 l1_0.length c1_0) l1_0) ∧ Aside0 (wc.heap[gb289]? = some (.cells #[(.slice A0_0 l0_0.length c0_0)] 27 (0, 0))) ∧ Aside0 (wc.heap[gb290]? = some (.cells #[(.slice A1_0 l1_0.length c1_0)] 27 (0, 0))) ∧ Aside0 (wc.heap[gb291]? = some (.cells #[(.slice none 0 0)] 27 (0, 0))) ∧ Aside0 (Below w.heap.size w wc))
      case first =>
        have H := HC7.out
        clear HC7
        by_cases c8 : (x8_1.length : Int) > 0
        · rw [if_pos c8] at H
          have c8b0 : decide (0 < (x8_1.length : Int)) = true := decide_eq_true c8
          have c8b1 : decide (0 < x8_1.length) = true := decide_eq_true (by omega)
          clear c8
          (first | rw [c8b0] | (simp only [i64_w, i32_w]; rw [c8b0]) | skip)
          have H' := Aside0.mk H
          clear H
          obtain ⟨Ao9, co9, eo9⟩ := Kd.V_slice HO_8.out
          subst eo9
          obtain ⟨Ao10, co10, eo10⟩ := Kd.V_slice HO_9.out
          subst eo10
          go_wp2
          go_meet
          case rel => exact ⟨_, (decide ((x9_1.length : Int) > 0)), (by first | rfl | (simp; done) | (simp [*]; done)), H', ⟨by have := HK1.out; first | omega | exact Nat.le_refl _⟩, ⟨by (with_reducible repeat (first | apply Kd.R_alloc | apply Kd.R_drewN | apply Kd.R_drew)); exact HO_7.out⟩, ⟨by (with_reducible repeat (first | apply Kd.V_alloc | apply Kd.V_drewN | apply Kd.V_drew)); exact HO_8.out⟩, ⟨by (with_reducible repeat (first | apply Kd.V_alloc | apply Kd.V_drewN | apply Kd.V_drew)); exact HO_9.out⟩, ⟨by (with_reducible repeat (first | apply Kd.V_alloc | apply Kd.V_drewN | apply Kd.V_drew)); exact HO_290000.out⟩, ⟨by (with_reducible repeat (first | apply Kd.V_alloc | apply Kd.V_drewN | apply Kd.V_drew)); exact HO_291000.out⟩, ⟨xk⟩, ⟨xk⟩, ⟨xk⟩, ⟨xb⟩⟩
        · rw [if_neg c8] at H
          have c8b0 : decide (0 < (x8_1.length : Int)) = false := decide_eq_false c8
          have c8b1 : decide (0 < x8_1.length) = false := decide_eq_false (by omega)
          clear c8
          (first | rw [c8b0] | (simp only [i64_w, i32_w]; rw [c8b0]) | skip)
          have H' := Aside0.mk H
          clear H
          obtain ⟨Ao11, co11, eo11⟩ := Kd.V_slice HO_8.out
          subst eo11
          go_wp2
          go_meet
          case rel => exact ⟨_, (false), (by first | rfl | (simp; done) | (simp [*]; done)), H', ⟨by have := HK1.out; first | omega | exact Nat.le_refl _⟩, ⟨by (with_reducible repeat (first | apply Kd.R_alloc | apply Kd.R_drewN | apply Kd.R_drew)); exact HO_7.out⟩, ⟨by (with_reducible repeat (first | apply Kd.V_alloc | apply Kd.V_drewN | apply Kd.V_drew)); exact HO_8.out⟩, ⟨by (with_reducible repeat (first | apply Kd.V_alloc | apply Kd.V_drewN | apply Kd.V_drew)); exact HO_9.out⟩, ⟨by (with_reducible repeat (first | apply Kd.V_alloc | apply Kd.V_drewN | apply Kd.V_drew)); exact HO_290000.out⟩, ⟨by (with_reducible repeat (first | apply Kd.V_alloc | apply Kd.V_drewN | apply Kd.V_drew)); exact HO_291000.out⟩, ⟨xk⟩, ⟨xk⟩, ⟨xk⟩, ⟨xb⟩⟩
      case rest =>
        clear HC7
        try clear c1
        try clear c2
        try clear p2
        try clear c8
        try clear c8b0
        try clear c8b1
        try clear p2
        obtain ⟨kq, x22_6, rfl, HA, HJ6, HO_7, HO_8, HO_9, HO_290000, HO_291000, BK289, BK290, BK291, HB⟩ := hcut
        cases kq with
        | zero => exact absurd HA.out (by simp [cracknellaw14_Int_int_21.j1])
        | succ kj6 =>
          have H := HA.out
          clear HA
          simp only [cracknellaw14_Int_int_21.j1] at H
          by_cases c12 : x22_6 = true
          · subst c12
            have H1 : (if 0 < (x8_1.length : Int) then (if 0 < (x9_1.length : Int) then ((law14_IntCmp.f ((rd_T65 x8_1 0).f0) ((rd_T65 x9_1 0).f0)).bind fun t300 => (if t300 < 0 then (if x7_1.length < 8796093022208 then (if 1 ≤ (x8_1.length : Int) then (cracknellaw14_Int_int_21.l0 kj6 (x7_1 ++ [(⟨(rd_T65 x8_1 0).f0, (rd_T65 x8_1 0).f1⟩ : S65)]) (x8_1.drop 1) x9_1) else (none)) else (none)) else (if t300 > 0 then (if x7_1.length < 8796093022208 then (if 1 ≤ (x9_1.length : Int) then (cracknellaw14_Int_int_21.l0 kj6 (x7_1 ++ [(⟨(rd_T65 x9_1 0).f0, (rd_T65 x9_1 0).f1⟩ : S65)]) x8_1 (x9_1.drop 1)) else (none)) else (none)) else ((Pick.f ((rd_T65 x8_1 0).f1) ((rd_T65 x9_1 0).f1)).bind fun t322 => (if x7_1.length < 8796093022208 then (if 1 ≤ (x8_1.length : Int) then (if 1 ≤ (x9_1.length : Int) then (cracknellaw14_Int_int_21.l0 kj6 (x7_1 ++ [(⟨(rd_T65 x8_1 0).f0, t322⟩ : S65)]) (x8_1.drop 1) (x9_1.drop 1)) else (none)) else (none)) else (none)))))) else (none)) else (none)) = some r := by rw [if_pos rfl] at H; exact H
            clear H
            have H := H1
            clear H1
            by_cases c13 : 0 < (x8_1.length : Int)
            · rw [if_pos c13] at H
              have c13b0 : decide (0 < (x8_1.length : Int)) = true := decide_eq_true c13
              have c13b1 : decide (0 < x8_1.length) = true := decide_eq_true (by omega)
              clear c13
              by_cases c14 : 0 < (x9_1.length : Int)
              · rw [if_pos c14] at H
                have c14b0 : decide (0 < (x9_1.length : Int)) = true := decide_eq_true c14
                have c14b1 : decide (0 < x9_1.length) = true := decide_eq_true (by omega)
                clear c14
                replace H := Option.bind_eq_some_iff.mp H
                obtain ⟨t300, A150, H⟩ := H
                replace H : (if t300 < 0 then (if x7_1.length < 8796093022208 then (if 1 ≤ (x8_1.length : Int) then (cracknellaw14_Int_int_21.l0 kj6 (x7_1 ++ [(⟨(rd_T65 x8_1 0).f0, (rd_T65 x8_1 0).f1⟩ : S65)]) (x8_1.drop 1) x9_1) else (none)) else (none)) else (if t300 > 0 then (if x7_1.length < 8796093022208 then (if 1 ≤ (x9_1.length : Int) then (cracknellaw14_Int_int_21.l0 kj6 (x7_1 ++ [(⟨(rd_T65 x9_1 0).f0, (rd_T65 x9_1 0).f1⟩ : S65)]) x8_1 (x9_1.drop 1)) else (none)) else (none)) else ((Pick.f ((rd_T65 x8_1 0).f1) ((rd_T65 x9_1 0).f1)).bind fun t322 => (if x7_1.length < 8796093022208 then (if 1 ≤ (x8_1.length : Int) then (if 1 ≤ (x9_1.length : Int) then (cracknellaw14_Int_int_21.l0 kj6 (x7_1 ++ [(⟨(rd_T65 x8_1 0).f0, t322⟩ : S65)]) (x8_1.drop 1) (x9_1.drop 1)) else (none)) else (none)) else (none))))) = some r := H
                have A15 := Aside0.mk A150
                clear A150
                by_cases c16 : t300 < 0
                · rw [if_pos c16] at H
                  have c16b0 : decide (t300 < 0) = true := decide_eq_true c16
                  clear c16
                  by_cases c17 : x7_1.length < 8796093022208
                  · rw [if_pos c17] at H
                    have LMc17 := Aside0.mk c17
                    clear c17
                    obtain ⟨y302, hy302⟩ : ∃ y_ : List (S65), y_ = (x7_1 ++ [(⟨(rd_T65 x8_1 0).f0, (rd_T65 x8_1 0).f1⟩ : S65)]) := ⟨_, rfl⟩
                    replace H : (if 1 ≤ (x8_1.length : Int) then (cracknellaw14_Int_int_21.l0 kj6 y302 (x8_1.drop 1) x9_1) else (none)) = some r := by first | (rw [hy302]; with_reducible exact H) | (have H2_ := (Option.bind_some _ _).symm.trans H; rw [hy302]; with_reducible exact H2_) | (have H2_ := (Option.bind_some _ _).symm.trans H; with_reducible exact H2_) | with_reducible exact H | (rw [hy302]; exact H) | exact H
                    have Ny302 := Aside0.mk hy302
                    clear hy302
                    by_cases c18 : 1 ≤ (x8_1.length : Int)
                    · rw [if_pos c18] at H
                      have c18b0 := eq_true c18
                      have c18b1 : decide (1 ≤ (x8_1.length : Int)) = true := decide_eq_true c18
                      clear c18
                      obtain ⟨y305, hy305⟩ : ∃ y_ : List (S65), y_ = (x8_1.drop 1) := ⟨_, rfl⟩
                      replace H : (cracknellaw14_Int_int_21.l0 kj6 y302 y305 x9_1) = some r := by first | (rw [hy305]; with_reducible exact H) | (have H2_ := (Option.bind_some _ _).symm.trans H; rw [hy305]; with_reducible exact H2_) | (have H2_ := (Option.bind_some _ _).symm.trans H; with_reducible exact H2_) | with_reducible exact H | (rw [hy305]; exact H) | exact H
                      have Ny305 := Aside0.mk hy305
                      clear hy305
                      have H' := Aside0.mk H
                      clear H
                      try go_wp2
                      have n0_ := Aside0.mk (Kd.R_drew HO_7.out)
                      have n1_ := Aside0.mk (Kd.V_drew HO_8.out)
                      have n2_ := Aside0.mk (Kd.V_drew HO_9.out)
                      have n3_ := Aside0.mk (Kd.V_drew HO_290000.out)
                      have n4_ := Aside0.mk (Kd.V_drew HO_291000.out)
                      have n5_ := Aside0.mk (blk_drew BK289.out)
                      have n6_ := Aside0.mk (blk_drew BK290.out)
                      have n7_ := Aside0.mk (blk_drew BK291.out)
                      have n8_ := Aside0.mk (below_drew1 HB.out)
                      clear HO_7
                      clear HO_8
                      clear HO_9
                      clear HO_290000
                      clear HO_291000
                      clear BK289
                      clear BK290
                      clear BK291
                      clear HB
                      have HO_7 := n0_
                      have HO_8 := n1_
                      have HO_9 := n2_
                      have HO_290000 := n3_
                      have HO_291000 := n4_
                      have BK289 := n5_
                      have BK290 := n6_
                      have BK291 := n7_
                      have HB := n8_
                      clear n0_ n1_ n2_ n3_ n4_ n5_ n6_ n7_ n8_
                      obtain ⟨Ao20, co20, eo20⟩ := Kd.V_slice HO_8.out
                      (first | subst eo20 | (injection eo20 with f1_ f2_ f3_; have f4_ := f1_.symm; have f5_ := f3_.symm; clear f1_ f2_ f3_; subst f4_; subst f5_))
                      have p298 : 0 ≤ (0 : Int) := (by omega)
                      have q298 : 0 < (x8_1.length : Int) := of_decide_eq_true (by first | (with_reducible assumption) | assumption)
                      obtain ⟨ad298, e298, hx298_0, hx298_1⟩ := at_T65 (Kd.V_reads' HO_8.out).2.2 0 p298 q298
                      cases e298
                      have qi298 : (0 < x8_1.length) = True := eq_true (by omega)
                      (try rw [show ((0 : Int)).toNat = 0 from rfl] at hx298_0)
                      (try rw [show 0 * 2 = 0 from rfl] at hx298_0)
                      (try rw [Addr.add_zero'] at hx298_0)
                      (try rw [show ((0 : Int)).toNat = 0 from rfl] at hx298_1)
                      (try rw [show 0 * 2 = 0 from rfl] at hx298_1)
                      (try rw [Addr.add_zero'] at hx298_1)
                      replace p298 := eq_true p298
                      replace q298 := eq_true q298
                      obtain ⟨Ao21, co21, eo21⟩ := Kd.V_slice HO_9.out
                      (first | subst eo21 | (injection eo21 with f1_ f2_ f3_; have f4_ := f1_.symm; have f5_ := f3_.symm; clear f1_ f2_ f3_; subst f4_; subst f5_))
                      have p299 : 0 ≤ (0 : Int) := (by omega)
                      have q299 : 0 < (x9_1.length : Int) := of_decide_eq_true (by first | (with_reducible assumption) | assumption)
                      obtain ⟨ad299, e299, hx299_0, hx299_1⟩ := at_T65 (Kd.V_reads' HO_9.out).2.2 0 p299 q299
                      cases e299
                      have qi299 : (0 < x9_1.length) = True := eq_true (by omega)
                      (try rw [show ((0 : Int)).toNat = 0 from rfl] at hx299_0)
                      (try rw [show 0 * 2 = 0 from rfl] at hx299_0)
                      (try rw [Addr.add_zero'] at hx299_0)
                      (try rw [show ((0 : Int)).toNat = 0 from rfl] at hx299_1)
                      (try rw [show 0 * 2 = 0 from rfl] at hx299_1)
                      (try rw [Addr.add_zero'] at hx299_1)
                      replace p299 := eq_true p299
                      replace q299 := eq_true q299
                      refine start_ (n := 11) (S := fun w' => w'.cell? ad298 = some (.int .i64 ((rd_T65 x8_1 0).f0)) ∧ w'.cell? ⟨ad298.block, ad298.off + 1, none⟩ = some (.int .i64 ((rd_T65 x8_1 0).f1)) ∧ w'.cell? ad299 = some (.int .i64 ((rd_T65 x9_1 0).f0)) ∧ w'.cell? ⟨ad299.block, ad299.off + 1, none⟩ = some (.int .i64 ((rd_T65 x9_1 0).f1))) (ds := []) #[false, false, false, false, false, false, false, false, false, false, false] (by kernel_rfl) rfl rfl ⟨hx298_0, hx298_1, hx299_0, hx299_1⟩ (fun hHeld => ?_); refine with_tabW cracknellaw14_Int_int_21.tab4 cracknellaw14_Int_int_21.bits4 (fun HT_ HW_ => ?_)
                      generalize wc.drew = w19 at HO_7 HO_8 HO_9 HO_290000 HO_291000 BK289 BK290 BK291 HB hx298_0 hx298_1 hx299_0 hx299_1 hHeld ⊢
                      refine pure_ (i := 0) (N := some 23) (v := ?_) (a' := ?_) #[true, false, false, false, false, false, false, false, false, false, false] rfl rfl (any_of HT_.out (by kernel_rfl)) (fun _ _ _ h => h) (Or.inl ⟨by rfl, ?_⟩) ?_ ?_
                      rotate_left
                      · intro w'
                        go_simp
                        with_reducible rfl
                      rotate_left
                      · simp only [Act.put, List.setIfInBounds_toArray, List.set_cons_zero, List.set_cons_succ, i64_w, i32_w]
                        rfl
                      refine pure_ (i := 1) (N := some 24) (v := ?_) (a' := ?_) #[true, true, false, false, false, false, false, false, false, false, false] rfl rfl (any_of HT_.out (by kernel_rfl)) (fun _ _ _ h => h) (Or.inl ⟨by rfl, ?_⟩) ?_ ?_
                      rotate_left
                      · intro w'
                        go_simp
                        with_reducible rfl
                      rotate_left
                      · simp only [Act.put, List.setIfInBounds_toArray, List.set_cons_zero, List.set_cons_succ, i64_w, i32_w]
                        rfl
                      refine pure_ (i := 2) (N := some 25) (v := ?_) (a' := ?_) #[true, true, true, false, false, false, false, false, false, false, false] rfl rfl (any_of HT_.out (by kernel_rfl)) (fun _ _ _ h => h) (Or.inl ⟨by rfl, ?_⟩) ?_ ?_
                      rotate_left
                      · intro w'
                        go_simp
                        with_reducible rfl
                      rotate_left
                      · simp only [Act.put, List.setIfInBounds_toArray, List.set_cons_zero, List.set_cons_succ, i64_w, i32_w]
                        rfl
                      refine pure_ (i := 5) (N := some 28) (v := ?_) (a' := ?_) #[true, true, true, false, false, true, false, false, false, false, false] rfl rfl (any_of HT_.out (by kernel_rfl)) (fun _ _ _ h => h) (Or.inl ⟨by rfl, ?_⟩) ?_ ?_
                      rotate_left
                      · intro w'
                        go_simp
                        with_reducible rfl
                      rotate_left
                      · simp only [Act.put, List.setIfInBounds_toArray, List.set_cons_zero, List.set_cons_succ, i64_w, i32_w]
                        rfl
                      refine pure_ (i := 6) (N := some 29) (v := ?_) (a' := ?_) #[true, true, true, false, false, true, true, false, false, false, false] rfl rfl (any_of HT_.out (by kernel_rfl)) (fun _ _ _ h => h) (Or.inl ⟨by rfl, ?_⟩) ?_ ?_
                      rotate_left
                      · intro w'
                        go_simp
                        with_reducible rfl
                      rotate_left
                      · simp only [Act.put, List.setIfInBounds_toArray, List.set_cons_zero, List.set_cons_succ, i64_w, i32_w]
                        rfl
                      refine pure_ (i := 7) (N := some 30) (v := ?_) (a' := ?_) #[true, true, true, false, false, true, true, true, false, false, false] rfl rfl (any_of HT_.out (by kernel_rfl)) (fun _ _ _ h => h) (Or.inl ⟨by rfl, ?_⟩) ?_ ?_
                      rotate_left
                      · intro w'
                        go_simp
                        with_reducible rfl
                      rotate_left
                      · simp only [Act.put, List.setIfInBounds_toArray, List.set_cons_zero, List.set_cons_succ, i64_w, i32_w]
                        rfl
                      refine take_ (i := 3) (N := some 26) (v := ?_) (a' := ?_) #[true, true, true, true, false, true, true, true, false, false, false] rfl rfl (take_ofW HT_.out HW_.out (by kernel_rfl)) (fun _ _ _ h => h) (Or.inl ⟨by rfl, ?_⟩) hHeld ?_ ?_
                      rotate_left
                      · rintro w' ⟨s0, s1, s2, s3⟩
                        go_simp
                        with_reducible rfl
                      rotate_left
                      · simp only [Act.put, List.setIfInBounds_toArray, List.set_cons_zero, List.set_cons_succ, i64_w, i32_w]
                        rfl
                      refine pure_ (i := 4) (N := some 27) (v := ?_) (a' := ?_) #[true, true, true, true, true, true, true, true, false, false, false] rfl rfl (any_of HT_.out (by kernel_rfl)) (fun _ _ _ h => h) (Or.inl ⟨by rfl, ?_⟩) ?_ ?_
                      rotate_left
                      · intro w'
                        go_simp
                        with_reducible rfl
                      rotate_left
                      · simp only [Act.put, List.setIfInBounds_toArray, List.set_cons_zero, List.set_cons_succ, i64_w, i32_w]
                        rfl
                      refine take_ (i := 8) (N := some 31) (v := ?_) (a' := ?_) #[true, true, true, true, true, true, true, true, true, false, false] rfl rfl (take_ofW HT_.out HW_.out (by kernel_rfl)) (fun _ _ _ h => h) (Or.inl ⟨by rfl, ?_⟩) hHeld ?_ ?_
                      rotate_left
                      · rintro w' ⟨s0, s1, s2, s3⟩
                        go_simp
                        with_reducible rfl
                      rotate_left
                      · simp only [Act.put, List.setIfInBounds_toArray, List.set_cons_zero, List.set_cons_succ, i64_w, i32_w]
                        rfl
                      refine one_ (i := 9) (N := some 32) #[true, true, true, true, true, true, true, true, true, true, false] rfl rfl (one_of HT_.out (by kernel_rfl)) (by decide) (fun K hK => ?_)
                      refine goesI_ Try.func55 (by kernel_rfl) rfl #[.int .i64 ((rd_T65 x8_1 0).f0), .int .i64 ((rd_T65 x9_1 0).f0)] (by rfl) rfl rfl xg ?_
                      with_reducible refine (law14_IntCmp.calls ((rd_T65 x8_1 0).f0) ((rd_T65 x9_1 0).f0) t300 _ A15.out).mono ?_
                      rintro e w' ⟨rfl, ⟨nd, rfl⟩⟩
                      refine ⟨_, rfl, ?_⟩
                      refine hK.out _ _ ⟨hHeld.1, hHeld.2.1, hHeld.2.2.1, hHeld.2.2.2⟩ (fun hHeld => ?_)
                      clear hK K
                      refine norm_ (a' := ?_) ?_ ?_
                      rotate_left
                      · show Act.put _ (some 32) _ = _
                        simp only [Act.put, List.setIfInBounds_toArray, List.set_cons_zero, List.set_cons_succ, i64_w, i32_w]
                        rfl
                      refine pure_ (i := 10) (N := some 10) (v := ?_) (a' := ?_) #[true, true, true, true, true, true, true, true, true, true, true] rfl rfl (any_of HT_.out (by kernel_rfl)) (fun _ _ _ h => h) (Or.inl ⟨by rfl, ?_⟩) ?_ ?_
                      rotate_left
                      · intro w'
                        go_simp
                        with_reducible rfl
                      rotate_left
                      · simp only [Act.put, List.setIfInBounds_toArray, List.set_cons_zero, List.set_cons_succ, i64_w, i32_w]
                        rfl
                      refine done_ (done_of HT_.out (by kernel_rfl)) ?_
                      try go_wp2
                      (try (rw [drewN_self w19]; generalize hq_ : World.drewN w19 _ = w19; have n0_ : Aside0 (Kd.V k65 65 w19 w.heap.size (fun k_ => ((P0_0_ k_ ∨ P1_0_ k_) ∨ w.heap.size ≤ k_) ∧ some k_ ≠ (u7 : Value).ownBlock ∧ k_ ≠ gb289 ∧ k_ ≠ gb290 ∧ k_ ≠ gb291) (.slice A0_0 l0_0.length c0_0) l0_0) := ⟨by rw [← hq_]; exact (by (with_reducible repeat (first | apply Kd.V_alloc | apply Kd.V_drewN | apply Kd.V_drew)); exact HO_290000.out)⟩; have n1_ : Aside0 (Kd.V k65 65 w19 w.heap.size (fun k_ => ((P0_0_ k_ ∨ P1_0_ k_) ∨ w.heap.size ≤ k_) ∧ some k_ ≠ (u7 : Value).ownBlock ∧ k_ ≠ gb289 ∧ k_ ≠ gb290 ∧ k_ ≠ gb291) (.slice A1_0 l1_0.length c1_0) l1_0) := ⟨by rw [← hq_]; exact (by (with_reducible repeat (first | apply Kd.V_alloc | apply Kd.V_drewN | apply Kd.V_drew)); exact HO_291000.out)⟩; have n2_ : Aside0 (Kd.R k65 65 w19 w.heap.size (fun k_ => (w.heap.size ≤ k_)) u7 x7_1) := ⟨by rw [← hq_]; exact (by (with_reducible repeat (first | apply Kd.R_alloc | apply Kd.R_drewN | apply Kd.R_drew)); exact HO_7.out)⟩; have n3_ : Aside0 (Kd.V k65 65 w19 w.heap.size (fun k_ => ((P0_0_ k_ ∨ P1_0_ k_) ∨ w.heap.size ≤ k_) ∧ some k_ ≠ (u7 : Value).ownBlock ∧ k_ ≠ gb289 ∧ k_ ≠ gb290 ∧ k_ ≠ gb291) (.slice (some ad298) x8_1.length co20) x8_1) := ⟨by rw [← hq_]; exact (by (with_reducible repeat (first | apply Kd.V_alloc | apply Kd.V_drewN | apply Kd.V_drew)); exact HO_8.out)⟩; have n4_ : Aside0 (Kd.V k65 65 w19 w.heap.size (fun k_ => ((P0_0_ k_ ∨ P1_0_ k_) ∨ w.heap.size ≤ k_) ∧ some k_ ≠ (u7 : Value).ownBlock ∧ k_ ≠ gb289 ∧ k_ ≠ gb290 ∧ k_ ≠ gb291) (.slice (some ad299) x9_1.length co21) x9_1) := ⟨by rw [← hq_]; exact (by (with_reducible repeat (first | apply Kd.V_alloc | apply Kd.V_drewN | apply Kd.V_drew)); exact HO_9.out)⟩; have n5_ : Aside0 (w19.heap[gb289]? = some (.cells #[.slice A0_0 l0_0.length c0_0] 27 (0, 0))) := ⟨by rw [← hq_]; exact xk⟩; have n6_ : Aside0 (w19.heap[gb290]? = some (.cells #[.slice A1_0 l1_0.length c1_0] 27 (0, 0))) := ⟨by rw [← hq_]; exact xk⟩; have n7_ : Aside0 (w19.heap[gb291]? = some (.cells #[.slice none 0 0] 27 (0, 0))) := ⟨by rw [← hq_]; exact xk⟩; have n8_ : Aside0 (Below w.heap.size w w19) := ⟨by rw [← hq_]; exact xb⟩; clear HO_290000 HO_291000 HO_7 HO_8 HO_9 BK289 BK290 BK291 HB hq_; have HO_290000 := n0_; have HO_291000 := n1_; have HO_7 := n2_; have HO_8 := n3_; have HO_9 := n4_; have BK289 := n5_; have BK290 := n6_; have BK291 := n7_; have HB := n8_; clear n0_ n1_ n2_ n3_ n4_ n5_ n6_ n7_ n8_))
                      have n0_ := Aside0.mk (Kd.R_drew HO_7.out)
                      have n1_ := Aside0.mk (Kd.V_drew HO_8.out)
                      have n2_ := Aside0.mk (Kd.V_drew HO_9.out)
                      have n3_ := Aside0.mk (Kd.V_drew HO_290000.out)
                      have n4_ := Aside0.mk (Kd.V_drew HO_291000.out)
                      have n5_ := Aside0.mk (blk_drew BK289.out)
                      have n6_ := Aside0.mk (blk_drew BK290.out)
                      have n7_ := Aside0.mk (blk_drew BK291.out)
                      have n8_ := Aside0.mk (below_drew1 HB.out)
                      clear HO_7
                      clear HO_8
                      clear HO_9
                      clear HO_290000
                      clear HO_291000
                      clear BK289
                      clear BK290
                      clear BK291
                      clear HB
                      have HO_7 := n0_
                      have HO_8 := n1_
                      have HO_9 := n2_
                      have HO_290000 := n3_
                      have HO_291000 := n4_
                      have BK289 := n5_
                      have BK290 := n6_
                      have BK291 := n7_
                      have HB := n8_
                      clear n0_ n1_ n2_ n3_ n4_ n5_ n6_ n7_ n8_
                      have p301 : 0 ≤ (0 : Int) := (by omega)
                      have q301 : 0 < (x8_1.length : Int) := of_decide_eq_true (by first | (with_reducible assumption) | assumption)
                      obtain ⟨ad301, e301, hx301_0, hx301_1⟩ := at_T65 (Kd.V_reads' HO_8.out).2.2 0 p301 q301
                      obtain rfl : ad298 = ad301 := (by injection e301)
                      have qi301 : (0 < x8_1.length) = True := eq_true (by omega)
                      (try rw [show ((0 : Int)).toNat = 0 from rfl] at hx301_0)
                      (try rw [show 0 * 2 = 0 from rfl] at hx301_0)
                      (try rw [Addr.add_zero'] at hx301_0)
                      (try rw [show ((0 : Int)).toNat = 0 from rfl] at hx301_1)
                      (try rw [show 0 * 2 = 0 from rfl] at hx301_1)
                      (try rw [Addr.add_zero'] at hx301_1)
                      replace p301 := eq_true p301
                      replace q301 := eq_true q301
                      have q23 : (1 : Int) ≤ ((x8_1.length : Int) : Int) := of_decide_eq_true (by first | (with_reducible assumption) | assumption)
                      obtain ⟨i023, hi023, _, hsz23, _⟩ := info_parts info65
                      have hroom23 : x8_1.length ≤ co20 := (Kd.V_reads' HO_8.out).2.1
                      have hC23 : Kd.F k65 _ _ (some ad298) x8_1.length x8_1 := (Kd.V_at (base := w.heap.size) HO_8.out).2.2
                      have hcut23 := cut_from (P := Try.prog) 25 65 .i64 Try.underlying25 hi023 2 hsz23 (some ad298) x8_1.length co20 1 (by omega) q23
                      have hr23 := Kd.F_cut (m := (1 : Int).toNat) (c := co20) hC23 (by omega) hroom23
                      obtain ⟨A23, hA23⟩ : ∃ A1, A1 = (if co20 = (1 : Int).toNat then (some ad298) else ((some ad298) : Option Addr).map (·.add ((1 : Int).toNat * 2))) := ⟨_, rfl⟩
                      obtain ⟨c23, hc23⟩ : ∃ c1, c1 = co20 - (1 : Int).toNat := ⟨_, rfl⟩
                      have hy23 : y305.length = x8_1.length - (1 : Int).toNat := (by rw [Ny305.out, List.length_drop] <;> omega)
                      rw [show (x8_1).drop (1 : Int).toNat = y305 from Ny305.out.symm] at hr23
                      replace hr23 : Kd.F k65 _ _ A23 y305.length y305 := (by rw [hA23]; exact hr23)
                      rw [← hy23, ← hA23, ← hc23] at hcut23
                      have HO309 := Aside0.mk (show Kd.V k65 65 _ w.heap.size _ (.slice A23 y305.length c23) y305 from Kd.V_mk (by rw [hy23, hc23]; exact Nat.sub_le_sub_right hroom23 _) hr23)
                      have HC309 := Aside0.mk (show y305.length ≤ c23 from by rw [hy23, hc23]; exact Nat.sub_le_sub_right hroom23 _)
                      clear hr23 hC23 hroom23 hi023 hsz23 hc23
                      have KY23 := Aside0.mk hy23
                      have KA23 := Aside0.mk hA23
                      clear hy23 hA23
                      replace q23 := eq_true q23
                      refine start_ (n := 10) (S := fun w' => w'.cell? ad298 = some (.int .i64 ((rd_T65 x8_1 0).f0)) ∧ w'.cell? ⟨ad298.block, ad298.off + 1, none⟩ = some (.int .i64 ((rd_T65 x8_1 0).f1))) (ds := [4, 5]) #[false, false, false, false, false, false, false, false, false, false] (by kernel_rfl) rfl rfl ⟨hx301_0, hx301_1⟩ (fun hHeld => ?_); refine with_tabW cracknellaw14_Int_int_21.tab8 cracknellaw14_Int_int_21.bits8 (fun HT_ HW_ => ?_)
                      generalize w19.drew = w22 at HO_7 HO_8 HO_9 HO_290000 HO_291000 BK289 BK290 BK291 HB HO309 hx301_0 hx301_1 hHeld ⊢
                      refine pure_ (i := 0) (N := some 58) (v := ?_) (a' := ?_) #[true, false, false, false, false, false, false, false, false, false] rfl rfl (any_of HT_.out (by kernel_rfl)) (fun _ _ _ h => h) (Or.inl ⟨by rfl, ?_⟩) ?_ ?_
                      rotate_left
                      · intro w'
                        go_simp
                        with_reducible rfl
                      rotate_left
                      · simp only [Act.put, List.setIfInBounds_toArray, List.set_cons_zero, List.set_cons_succ, i64_w, i32_w]
                        rfl
                      refine pure_ (i := 1) (N := some 59) (v := ?_) (a' := ?_) #[true, true, false, false, false, false, false, false, false, false] rfl rfl (any_of HT_.out (by kernel_rfl)) (fun _ _ _ h => h) (Or.inl ⟨by rfl, ?_⟩) ?_ ?_
                      rotate_left
                      · intro w'
                        go_simp
                        with_reducible rfl
                      rotate_left
                      · simp only [Act.put, List.setIfInBounds_toArray, List.set_cons_zero, List.set_cons_succ, i64_w, i32_w]
                        rfl
                      refine pure_ (i := 2) (N := some 60) (v := ?_) (a' := ?_) #[true, true, true, false, false, false, false, false, false, false] rfl rfl (any_of HT_.out (by kernel_rfl)) (fun _ _ _ h => h) (Or.inl ⟨by rfl, ?_⟩) ?_ ?_
                      rotate_left
                      · intro w'
                        go_simp
                        with_reducible rfl
                      rotate_left
                      · simp only [Act.put, List.setIfInBounds_toArray, List.set_cons_zero, List.set_cons_succ, i64_w, i32_w]
                        rfl
                      refine pure_ (i := 6) (N := some 64) (v := ?_) (a' := ?_) #[true, true, true, false, false, false, true, false, false, false] rfl rfl (any_of HT_.out (by kernel_rfl)) (fun _ _ _ h => h) (Or.inl ⟨by rfl, ?_⟩) ?_ ?_
                      rotate_left
                      · intro w'
                        go_simp
                        with_reducible rfl
                      rotate_left
                      · simp only [Act.put, List.setIfInBounds_toArray, List.set_cons_zero, List.set_cons_succ, i64_w, i32_w]
                        rfl
                      refine pure_ (i := 7) (N := some 65) (v := ?_) (a' := ?_) #[true, true, true, false, false, false, true, true, false, false] rfl rfl (any_of HT_.out (by kernel_rfl)) (fun _ _ _ h => h) (Or.inl ⟨by rfl, ?_⟩) ?_ ?_
                      rotate_left
                      · intro w'
                        go_simp
                        with_reducible rfl
                      rotate_left
                      · simp only [Act.put, List.setIfInBounds_toArray, List.set_cons_zero, List.set_cons_succ, i64_w, i32_w]
                        rfl
                      refine take_ (i := 3) (N := some 61) (v := ?_) (a' := ?_) #[true, true, true, true, false, false, true, true, false, false] rfl rfl (take_ofW HT_.out HW_.out (by kernel_rfl)) (fun _ _ _ h => h) (Or.inl ⟨by rfl, ?_⟩) hHeld ?_ ?_
                      rotate_left
                      · rintro w' ⟨s0, s1⟩
                        go_simp
                        with_reducible rfl
                      rotate_left
                      · simp only [Act.put, List.setIfInBounds_toArray, List.set_cons_zero, List.set_cons_succ, i64_w, i32_w]
                        rfl
                      refine last_ (i := 4) (N := some 62) #[true, true, true, true, true, false, true, true, false, false] rfl rfl (one_of HT_.out (by kernel_rfl)) (by decide) (fun K hK => ?_)
                      refine value_ (w1 := ?_) (v := ?_) (by rfl) rfl ?_ ?_
                      rotate_left 2
                      · go_simp
                        constructor
                        · rfl
                        · rfl
                      refine hK.out _ _ ?_
                      clear hK K
                      refine norm_ (a' := ?_) ?_ ?_
                      rotate_left
                      · show Act.put _ (some 62) _ = _
                        simp only [Act.put, List.setIfInBounds_toArray, List.set_cons_zero, List.set_cons_succ, i64_w, i32_w]
                        rfl
                      refine last_ (i := 5) (N := some 63) #[true, true, true, true, true, true, true, true, false, false] rfl rfl (one_of HT_.out (by kernel_rfl)) (by decide) (fun K hK => ?_)
                      refine Kd.R_append_step k65 (w0 := w) w.heap.size (by rfl) (.tmp 58) (.tmp 62) 25 65 (.agg #[(.int .i64 0), (.int .i64 0)]) 16 rfl Try.underlying25 info65 rfl (by decide) (by omega) u7 x7_1 (⟨(rd_T65 x8_1 0).f0, (rd_T65 x8_1 0).f1⟩ : S65) [.int .i64 ((rd_T65 x8_1 0).f0), .int .i64 ((rd_T65 x8_1 0).f1)] (fun k_ => (w.heap.size ≤ k_)) (fun _ => False) rfl rfl ?aP (fun _ hk => hk.elim) ?aF ?aO ?aB ?aS ?aL ?_
                      (case aP => exact k65_mkM _ _ _ (⟨(rd_T65 x8_1 0).f0, (rd_T65 x8_1 0).f1⟩ : S65))
                      (case aB => exact xb)
                      (case aF => exact (fun k_ hk => (Nat.le_trans (below_size xb) hk)))
                      (case aO => exact (by (with_reducible repeat (first | apply Kd.R_alloc | apply Kd.R_drewN | apply Kd.R_drew)); exact HO_7.out))
                      (case aS => exact (below_size xb))
                      (case aL => have := LMc17.out; omega)
                      intro v303 w24 ho hb hg hat
                      rw [← Ny302.out] at ho
                      have n0_ := Aside0.mk (Kd.V_afterv (ok := (fun k_ => ((P0_0_ k_ ∨ P1_0_ k_) ∨ w.heap.size ≤ k_) ∧ k_ ≠ gb289 ∧ k_ ≠ gb290 ∧ k_ ≠ gb291)) (by (with_reducible repeat (first | apply Kd.V_alloc | apply Kd.V_drewN | apply Kd.V_drew)); exact Kd.V_mono HO_8.out (fun _ hk => ⟨⟨hk.1, ⟨hk.2.2.1, ⟨hk.2.2.2.1, hk.2.2.2.2⟩⟩⟩, hk.2.1⟩)) hg hat)
                      have n1_ := Aside0.mk (Kd.V_afterv (ok := (fun k_ => ((P0_0_ k_ ∨ P1_0_ k_) ∨ w.heap.size ≤ k_) ∧ k_ ≠ gb289 ∧ k_ ≠ gb290 ∧ k_ ≠ gb291)) (by (with_reducible repeat (first | apply Kd.V_alloc | apply Kd.V_drewN | apply Kd.V_drew)); exact Kd.V_mono HO_9.out (fun _ hk => ⟨⟨hk.1, ⟨hk.2.2.1, ⟨hk.2.2.2.1, hk.2.2.2.2⟩⟩⟩, hk.2.1⟩)) hg hat)
                      have n2_ := Aside0.mk (Kd.V_afterv (ok := (fun k_ => ((P0_0_ k_ ∨ P1_0_ k_) ∨ w.heap.size ≤ k_) ∧ k_ ≠ gb289 ∧ k_ ≠ gb290 ∧ k_ ≠ gb291)) (by (with_reducible repeat (first | apply Kd.V_alloc | apply Kd.V_drewN | apply Kd.V_drew)); exact Kd.V_mono HO_290000.out (fun _ hk => ⟨⟨hk.1, ⟨hk.2.2.1, ⟨hk.2.2.2.1, hk.2.2.2.2⟩⟩⟩, hk.2.1⟩)) hg hat)
                      have n3_ := Aside0.mk (Kd.V_afterv (ok := (fun k_ => ((P0_0_ k_ ∨ P1_0_ k_) ∨ w.heap.size ≤ k_) ∧ k_ ≠ gb289 ∧ k_ ≠ gb290 ∧ k_ ≠ gb291)) (by (with_reducible repeat (first | apply Kd.V_alloc | apply Kd.V_drewN | apply Kd.V_drew)); exact Kd.V_mono HO_291000.out (fun _ hk => ⟨⟨hk.1, ⟨hk.2.2.1, ⟨hk.2.2.2.1, hk.2.2.2.2⟩⟩⟩, hk.2.1⟩)) hg hat)
                      have n4_ := Aside0.mk (blk_grown (g := gb289) (o := .cells #[.slice A0_0 l0_0.length c0_0] 27 (0, 0)) xk hg (Kd.R_ne HO_7.out BK289.out (by decide)))
                      have n5_ := Aside0.mk (blk_grown (g := gb290) (o := .cells #[.slice A1_0 l1_0.length c1_0] 27 (0, 0)) xk hg (Kd.R_ne HO_7.out BK290.out (by decide)))
                      have n6_ := Aside0.mk (blk_grown (g := gb291) (o := .cells #[.slice none 0 0] 27 (0, 0)) xk hg (Kd.R_ne HO_7.out BK291.out (by decide)))
                      have n7_ := Aside0.mk (Kd.V_afterv (ok := (fun k_ => ((P0_0_ k_ ∨ P1_0_ k_) ∨ w.heap.size ≤ k_) ∧ k_ ≠ gb289 ∧ k_ ≠ gb290 ∧ k_ ≠ gb291)) (by (with_reducible repeat (first | apply Kd.V_alloc | apply Kd.V_drewN | apply Kd.V_drew)); exact Kd.V_mono HO309.out (fun _ hk => ⟨⟨hk.1, ⟨hk.2.2.1, ⟨hk.2.2.2.1, hk.2.2.2.2⟩⟩⟩, hk.2.1⟩)) hg hat)
                      have n8_ := Aside0.mk (hb)
                      have n9_ := Aside0.mk (ho)
                      clear HO_8
                      clear HO_9
                      clear HO_290000
                      clear HO_291000
                      clear BK289
                      clear BK290
                      clear BK291
                      clear HO309
                      clear HB
                      clear HO_7
                      have HO_8 := n0_
                      have HO_9 := n1_
                      have HO_290000 := n2_
                      have HO_291000 := n3_
                      have BK289 := n4_
                      have BK290 := n5_
                      have BK291 := n6_
                      have HO309 := n7_
                      have HB := n8_
                      have HO304 := n9_
                      clear n0_ n1_ n2_ n3_ n4_ n5_ n6_ n7_ n8_ n9_
                      clear ho hb hg hat
                      refine hK.out _ _ ?_
                      clear hK K
                      refine norm_ (a' := ?_) ?_ ?_
                      rotate_left
                      · show Act.put _ (some 63) _ = _
                        simp only [Act.put, List.setIfInBounds_toArray, List.set_cons_zero, List.set_cons_succ, i64_w, i32_w]
                        rfl
                      refine pure_ (i := 8) (N := some 7) (v := ?_) (a' := ?_) #[true, true, true, true, true, true, true, true, true, false] rfl rfl (any_of HT_.out (by kernel_rfl)) (fun _ _ _ h => h) (Or.inl ⟨by rfl, ?_⟩) ?_ ?_
                      rotate_left
                      · intro w'
                        go_simp
                        with_reducible rfl
                      rotate_left
                      · simp only [Act.put, List.setIfInBounds_toArray, List.set_cons_zero, List.set_cons_succ, i64_w, i32_w]
                        rfl
                      refine pure_ (i := 9) (N := some 8) (v := ?_) (a' := ?_) #[true, true, true, true, true, true, true, true, true, true] rfl rfl (any_of HT_.out (by kernel_rfl)) (fun _ _ _ h => h) (Or.inl ⟨by rfl, ?_⟩) ?_ ?_
                      rotate_left
                      · intro w'
                        go_simp
                        with_reducible rfl
                      rotate_left
                      · simp only [Act.put, List.setIfInBounds_toArray, List.set_cons_zero, List.set_cons_succ, i64_w, i32_w]
                        rfl
                      refine done_ (done_of HT_.out (by kernel_rfl)) ?_
                      try go_wp2
                      go_roundg kj6
                      case measure => have := HK1.out; have := HJ6.out; omega
                      case rel => exact ⟨(y302), (y305), (x9_1), H', ⟨by have := HK1.out; have := HJ6.out; omega⟩, ⟨by (with_reducible repeat (first | apply Kd.R_alloc | apply Kd.R_drewN | apply Kd.R_drew)); exact HO304.out⟩, ⟨by (with_reducible repeat (first | apply Kd.V_alloc | apply Kd.V_drewN | apply Kd.V_drew)); exact Kd.V_mono HO309.out (fun _ hk => ⟨hk.1.1, ⟨hk.2, ⟨hk.1.2.1, ⟨hk.1.2.2.1, hk.1.2.2.2⟩⟩⟩⟩)⟩, ⟨by (with_reducible repeat (first | apply Kd.V_alloc | apply Kd.V_drewN | apply Kd.V_drew)); exact Kd.V_mono HO_9.out (fun _ hk => ⟨hk.1.1, ⟨hk.2, ⟨hk.1.2.1, ⟨hk.1.2.2.1, hk.1.2.2.2⟩⟩⟩⟩)⟩, ⟨by (with_reducible repeat (first | apply Kd.V_alloc | apply Kd.V_drewN | apply Kd.V_drew)); exact Kd.V_mono HO_290000.out (fun _ hk => ⟨hk.1.1, ⟨hk.2, ⟨hk.1.2.1, ⟨hk.1.2.2.1, hk.1.2.2.2⟩⟩⟩⟩)⟩, ⟨by (with_reducible repeat (first | apply Kd.V_alloc | apply Kd.V_drewN | apply Kd.V_drew)); exact Kd.V_mono HO_291000.out (fun _ hk => ⟨hk.1.1, ⟨hk.2, ⟨hk.1.2.1, ⟨hk.1.2.2.1, hk.1.2.2.2⟩⟩⟩⟩)⟩, ⟨xk⟩, ⟨xk⟩, ⟨xk⟩, ⟨xb⟩⟩
                    · rw [if_neg c18] at H
                      exact absurd H (by simp)
                  · rw [if_neg c17] at H
                    exact absurd H (by simp)
                · rw [if_neg c16] at H
                  have c16b0 : decide (t300 < 0) = false := decide_eq_false c16
                  clear c16
                  by_cases c25 : t300 > 0
                  · rw [if_pos c25] at H
                    have c25b0 : decide (0 < t300) = true := decide_eq_true c25
                    clear c25
                    by_cases c26 : x7_1.length < 8796093022208
                    · rw [if_pos c26] at H
                      have LMc26 := Aside0.mk c26
                      clear c26
                      obtain ⟨y311, hy311⟩ : ∃ y_ : List (S65), y_ = (x7_1 ++ [(⟨(rd_T65 x9_1 0).f0, (rd_T65 x9_1 0).f1⟩ : S65)]) := ⟨_, rfl⟩
                      replace H : (if 1 ≤ (x9_1.length : Int) then (cracknellaw14_Int_int_21.l0 kj6 y311 x8_1 (x9_1.drop 1)) else (none)) = some r := by first | (rw [hy311]; with_reducible exact H) | (have H2_ := (Option.bind_some _ _).symm.trans H; rw [hy311]; with_reducible exact H2_) | (have H2_ := (Option.bind_some _ _).symm.trans H; with_reducible exact H2_) | with_reducible exact H | (rw [hy311]; exact H) | exact H
                      have Ny311 := Aside0.mk hy311
                      clear hy311
                      by_cases c27 : 1 ≤ (x9_1.length : Int)
                      · rw [if_pos c27] at H
                        have c27b0 := eq_true c27
                        have c27b1 : decide (1 ≤ (x9_1.length : Int)) = true := decide_eq_true c27
                        clear c27
                        obtain ⟨y314, hy314⟩ : ∃ y_ : List (S65), y_ = (x9_1.drop 1) := ⟨_, rfl⟩
                        replace H : (cracknellaw14_Int_int_21.l0 kj6 y311 x8_1 y314) = some r := by first | (rw [hy314]; with_reducible exact H) | (have H2_ := (Option.bind_some _ _).symm.trans H; rw [hy314]; with_reducible exact H2_) | (have H2_ := (Option.bind_some _ _).symm.trans H; with_reducible exact H2_) | with_reducible exact H | (rw [hy314]; exact H) | exact H
                        have Ny314 := Aside0.mk hy314
                        clear hy314
                        have H' := Aside0.mk H
                        clear H
                        try go_wp2
                        have n0_ := Aside0.mk (Kd.R_drew HO_7.out)
                        have n1_ := Aside0.mk (Kd.V_drew HO_8.out)
                        have n2_ := Aside0.mk (Kd.V_drew HO_9.out)
                        have n3_ := Aside0.mk (Kd.V_drew HO_290000.out)
                        have n4_ := Aside0.mk (Kd.V_drew HO_291000.out)
                        have n5_ := Aside0.mk (blk_drew BK289.out)
                        have n6_ := Aside0.mk (blk_drew BK290.out)
                        have n7_ := Aside0.mk (blk_drew BK291.out)
                        have n8_ := Aside0.mk (below_drew1 HB.out)
                        clear HO_7
                        clear HO_8
                        clear HO_9
                        clear HO_290000
                        clear HO_291000
                        clear BK289
                        clear BK290
                        clear BK291
                        clear HB
                        have HO_7 := n0_
                        have HO_8 := n1_
                        have HO_9 := n2_
                        have HO_290000 := n3_
                        have HO_291000 := n4_
                        have BK289 := n5_
                        have BK290 := n6_
                        have BK291 := n7_
                        have HB := n8_
                        clear n0_ n1_ n2_ n3_ n4_ n5_ n6_ n7_ n8_
                        obtain ⟨Ao29, co29, eo29⟩ := Kd.V_slice HO_8.out
                        (first | subst eo29 | (injection eo29 with f1_ f2_ f3_; have f4_ := f1_.symm; have f5_ := f3_.symm; clear f1_ f2_ f3_; subst f4_; subst f5_))
                        have p298 : 0 ≤ (0 : Int) := (by omega)
                        have q298 : 0 < (x8_1.length : Int) := of_decide_eq_true (by first | (with_reducible assumption) | assumption)
                        obtain ⟨ad298, e298, hx298_0, hx298_1⟩ := at_T65 (Kd.V_reads' HO_8.out).2.2 0 p298 q298
                        cases e298
                        have qi298 : (0 < x8_1.length) = True := eq_true (by omega)
                        (try rw [show ((0 : Int)).toNat = 0 from rfl] at hx298_0)
                        (try rw [show 0 * 2 = 0 from rfl] at hx298_0)
                        (try rw [Addr.add_zero'] at hx298_0)
                        (try rw [show ((0 : Int)).toNat = 0 from rfl] at hx298_1)
                        (try rw [show 0 * 2 = 0 from rfl] at hx298_1)
                        (try rw [Addr.add_zero'] at hx298_1)
                        replace p298 := eq_true p298
                        replace q298 := eq_true q298
                        obtain ⟨Ao30, co30, eo30⟩ := Kd.V_slice HO_9.out
                        (first | subst eo30 | (injection eo30 with f1_ f2_ f3_; have f4_ := f1_.symm; have f5_ := f3_.symm; clear f1_ f2_ f3_; subst f4_; subst f5_))
                        have p299 : 0 ≤ (0 : Int) := (by omega)
                        have q299 : 0 < (x9_1.length : Int) := of_decide_eq_true (by first | (with_reducible assumption) | assumption)
                        obtain ⟨ad299, e299, hx299_0, hx299_1⟩ := at_T65 (Kd.V_reads' HO_9.out).2.2 0 p299 q299
                        cases e299
                        have qi299 : (0 < x9_1.length) = True := eq_true (by omega)
                        (try rw [show ((0 : Int)).toNat = 0 from rfl] at hx299_0)
                        (try rw [show 0 * 2 = 0 from rfl] at hx299_0)
                        (try rw [Addr.add_zero'] at hx299_0)
                        (try rw [show ((0 : Int)).toNat = 0 from rfl] at hx299_1)
                        (try rw [show 0 * 2 = 0 from rfl] at hx299_1)
                        (try rw [Addr.add_zero'] at hx299_1)
                        replace p299 := eq_true p299
                        replace q299 := eq_true q299
                        refine start_ (n := 11) (S := fun w' => w'.cell? ad298 = some (.int .i64 ((rd_T65 x8_1 0).f0)) ∧ w'.cell? ⟨ad298.block, ad298.off + 1, none⟩ = some (.int .i64 ((rd_T65 x8_1 0).f1)) ∧ w'.cell? ad299 = some (.int .i64 ((rd_T65 x9_1 0).f0)) ∧ w'.cell? ⟨ad299.block, ad299.off + 1, none⟩ = some (.int .i64 ((rd_T65 x9_1 0).f1))) (ds := []) #[false, false, false, false, false, false, false, false, false, false, false] (by kernel_rfl) rfl rfl ⟨hx298_0, hx298_1, hx299_0, hx299_1⟩ (fun hHeld => ?_); refine with_tabW cracknellaw14_Int_int_21.tab4 cracknellaw14_Int_int_21.bits4 (fun HT_ HW_ => ?_)
                        generalize wc.drew = w28 at HO_7 HO_8 HO_9 HO_290000 HO_291000 BK289 BK290 BK291 HB hx298_0 hx298_1 hx299_0 hx299_1 hHeld ⊢
                        refine pure_ (i := 0) (N := some 23) (v := ?_) (a' := ?_) #[true, false, false, false, false, false, false, false, false, false, false] rfl rfl (any_of HT_.out (by kernel_rfl)) (fun _ _ _ h => h) (Or.inl ⟨by rfl, ?_⟩) ?_ ?_
                        rotate_left
                        · intro w'
                          go_simp
                          with_reducible rfl
                        rotate_left
                        · simp only [Act.put, List.setIfInBounds_toArray, List.set_cons_zero, List.set_cons_succ, i64_w, i32_w]
                          rfl
                        refine pure_ (i := 1) (N := some 24) (v := ?_) (a' := ?_) #[true, true, false, false, false, false, false, false, false, false, false] rfl rfl (any_of HT_.out (by kernel_rfl)) (fun _ _ _ h => h) (Or.inl ⟨by rfl, ?_⟩) ?_ ?_
                        rotate_left
                        · intro w'
                          go_simp
                          with_reducible rfl
                        rotate_left
                        · simp only [Act.put, List.setIfInBounds_toArray, List.set_cons_zero, List.set_cons_succ, i64_w, i32_w]
                          rfl
                        refine pure_ (i := 2) (N := some 25) (v := ?_) (a' := ?_) #[true, true, true, false, false, false, false, false, false, false, false] rfl rfl (any_of HT_.out (by kernel_rfl)) (fun _ _ _ h => h) (Or.inl ⟨by rfl, ?_⟩) ?_ ?_
                        rotate_left
                        · intro w'
                          go_simp
                          with_reducible rfl
                        rotate_left
                        · simp only [Act.put, List.setIfInBounds_toArray, List.set_cons_zero, List.set_cons_succ, i64_w, i32_w]
                          rfl
                        refine pure_ (i := 5) (N := some 28) (v := ?_) (a' := ?_) #[true, true, true, false, false, true, false, false, false, false, false] rfl rfl (any_of HT_.out (by kernel_rfl)) (fun _ _ _ h => h) (Or.inl ⟨by rfl, ?_⟩) ?_ ?_
                        rotate_left
                        · intro w'
                          go_simp
                          with_reducible rfl
                        rotate_left
                        · simp only [Act.put, List.setIfInBounds_toArray, List.set_cons_zero, List.set_cons_succ, i64_w, i32_w]
                          rfl
                        refine pure_ (i := 6) (N := some 29) (v := ?_) (a' := ?_) #[true, true, true, false, false, true, true, false, false, false, false] rfl rfl (any_of HT_.out (by kernel_rfl)) (fun _ _ _ h => h) (Or.inl ⟨by rfl, ?_⟩) ?_ ?_
                        rotate_left
                        · intro w'
                          go_simp
                          with_reducible rfl
                        rotate_left
                        · simp only [Act.put, List.setIfInBounds_toArray, List.set_cons_zero, List.set_cons_succ, i64_w, i32_w]
                          rfl
                        refine pure_ (i := 7) (N := some 30) (v := ?_) (a' := ?_) #[true, true, true, false, false, true, true, true, false, false, false] rfl rfl (any_of HT_.out (by kernel_rfl)) (fun _ _ _ h => h) (Or.inl ⟨by rfl, ?_⟩) ?_ ?_
                        rotate_left
                        · intro w'
                          go_simp
                          with_reducible rfl
                        rotate_left
                        · simp only [Act.put, List.setIfInBounds_toArray, List.set_cons_zero, List.set_cons_succ, i64_w, i32_w]
                          rfl
                        refine take_ (i := 3) (N := some 26) (v := ?_) (a' := ?_) #[true, true, true, true, false, true, true, true, false, false, false] rfl rfl (take_ofW HT_.out HW_.out (by kernel_rfl)) (fun _ _ _ h => h) (Or.inl ⟨by rfl, ?_⟩) hHeld ?_ ?_
                        rotate_left
                        · rintro w' ⟨s0, s1, s2, s3⟩
                          go_simp
                          with_reducible rfl
                        rotate_left
                        · simp only [Act.put, List.setIfInBounds_toArray, List.set_cons_zero, List.set_cons_succ, i64_w, i32_w]
                          rfl
                        refine pure_ (i := 4) (N := some 27) (v := ?_) (a' := ?_) #[true, true, true, true, true, true, true, true, false, false, false] rfl rfl (any_of HT_.out (by kernel_rfl)) (fun _ _ _ h => h) (Or.inl ⟨by rfl, ?_⟩) ?_ ?_
                        rotate_left
                        · intro w'
                          go_simp
                          with_reducible rfl
                        rotate_left
                        · simp only [Act.put, List.setIfInBounds_toArray, List.set_cons_zero, List.set_cons_succ, i64_w, i32_w]
                          rfl
                        refine take_ (i := 8) (N := some 31) (v := ?_) (a' := ?_) #[true, true, true, true, true, true, true, true, true, false, false] rfl rfl (take_ofW HT_.out HW_.out (by kernel_rfl)) (fun _ _ _ h => h) (Or.inl ⟨by rfl, ?_⟩) hHeld ?_ ?_
                        rotate_left
                        · rintro w' ⟨s0, s1, s2, s3⟩
                          go_simp
                          with_reducible rfl
                        rotate_left
                        · simp only [Act.put, List.setIfInBounds_toArray, List.set_cons_zero, List.set_cons_succ, i64_w, i32_w]
                          rfl
                        refine one_ (i := 9) (N := some 32) #[true, true, true, true, true, true, true, true, true, true, false] rfl rfl (one_of HT_.out (by kernel_rfl)) (by decide) (fun K hK => ?_)
                        refine goesI_ Try.func55 (by kernel_rfl) rfl #[.int .i64 ((rd_T65 x8_1 0).f0), .int .i64 ((rd_T65 x9_1 0).f0)] (by rfl) rfl rfl xg ?_
                        with_reducible refine (law14_IntCmp.calls ((rd_T65 x8_1 0).f0) ((rd_T65 x9_1 0).f0) t300 _ A15.out).mono ?_
                        rintro e w' ⟨rfl, ⟨nd, rfl⟩⟩
                        refine ⟨_, rfl, ?_⟩
                        refine hK.out _ _ ⟨hHeld.1, hHeld.2.1, hHeld.2.2.1, hHeld.2.2.2⟩ (fun hHeld => ?_)
                        clear hK K
                        refine norm_ (a' := ?_) ?_ ?_
                        rotate_left
                        · show Act.put _ (some 32) _ = _
                          simp only [Act.put, List.setIfInBounds_toArray, List.set_cons_zero, List.set_cons_succ, i64_w, i32_w]
                          rfl
                        refine pure_ (i := 10) (N := some 10) (v := ?_) (a' := ?_) #[true, true, true, true, true, true, true, true, true, true, true] rfl rfl (any_of HT_.out (by kernel_rfl)) (fun _ _ _ h => h) (Or.inl ⟨by rfl, ?_⟩) ?_ ?_
                        rotate_left
                        · intro w'
                          go_simp
                          with_reducible rfl
                        rotate_left
                        · simp only [Act.put, List.setIfInBounds_toArray, List.set_cons_zero, List.set_cons_succ, i64_w, i32_w]
                          rfl
                        refine done_ (done_of HT_.out (by kernel_rfl)) ?_
                        try go_wp2
                        (try (rw [drewN_self w28]; generalize hq_ : World.drewN w28 _ = w28; have n0_ : Aside0 (Kd.V k65 65 w28 w.heap.size (fun k_ => ((P0_0_ k_ ∨ P1_0_ k_) ∨ w.heap.size ≤ k_) ∧ some k_ ≠ (u7 : Value).ownBlock ∧ k_ ≠ gb289 ∧ k_ ≠ gb290 ∧ k_ ≠ gb291) (.slice A0_0 l0_0.length c0_0) l0_0) := ⟨by rw [← hq_]; exact (by (with_reducible repeat (first | apply Kd.V_alloc | apply Kd.V_drewN | apply Kd.V_drew)); exact HO_290000.out)⟩; have n1_ : Aside0 (Kd.V k65 65 w28 w.heap.size (fun k_ => ((P0_0_ k_ ∨ P1_0_ k_) ∨ w.heap.size ≤ k_) ∧ some k_ ≠ (u7 : Value).ownBlock ∧ k_ ≠ gb289 ∧ k_ ≠ gb290 ∧ k_ ≠ gb291) (.slice A1_0 l1_0.length c1_0) l1_0) := ⟨by rw [← hq_]; exact (by (with_reducible repeat (first | apply Kd.V_alloc | apply Kd.V_drewN | apply Kd.V_drew)); exact HO_291000.out)⟩; have n2_ : Aside0 (Kd.R k65 65 w28 w.heap.size (fun k_ => (w.heap.size ≤ k_)) u7 x7_1) := ⟨by rw [← hq_]; exact (by (with_reducible repeat (first | apply Kd.R_alloc | apply Kd.R_drewN | apply Kd.R_drew)); exact HO_7.out)⟩; have n3_ : Aside0 (Kd.V k65 65 w28 w.heap.size (fun k_ => ((P0_0_ k_ ∨ P1_0_ k_) ∨ w.heap.size ≤ k_) ∧ some k_ ≠ (u7 : Value).ownBlock ∧ k_ ≠ gb289 ∧ k_ ≠ gb290 ∧ k_ ≠ gb291) (.slice (some ad298) x8_1.length co29) x8_1) := ⟨by rw [← hq_]; exact (by (with_reducible repeat (first | apply Kd.V_alloc | apply Kd.V_drewN | apply Kd.V_drew)); exact HO_8.out)⟩; have n4_ : Aside0 (Kd.V k65 65 w28 w.heap.size (fun k_ => ((P0_0_ k_ ∨ P1_0_ k_) ∨ w.heap.size ≤ k_) ∧ some k_ ≠ (u7 : Value).ownBlock ∧ k_ ≠ gb289 ∧ k_ ≠ gb290 ∧ k_ ≠ gb291) (.slice (some ad299) x9_1.length co30) x9_1) := ⟨by rw [← hq_]; exact (by (with_reducible repeat (first | apply Kd.V_alloc | apply Kd.V_drewN | apply Kd.V_drew)); exact HO_9.out)⟩; have n5_ : Aside0 (w28.heap[gb289]? = some (.cells #[.slice A0_0 l0_0.length c0_0] 27 (0, 0))) := ⟨by rw [← hq_]; exact xk⟩; have n6_ : Aside0 (w28.heap[gb290]? = some (.cells #[.slice A1_0 l1_0.length c1_0] 27 (0, 0))) := ⟨by rw [← hq_]; exact xk⟩; have n7_ : Aside0 (w28.heap[gb291]? = some (.cells #[.slice none 0 0] 27 (0, 0))) := ⟨by rw [← hq_]; exact xk⟩; have n8_ : Aside0 (Below w.heap.size w w28) := ⟨by rw [← hq_]; exact xb⟩; clear HO_290000 HO_291000 HO_7 HO_8 HO_9 BK289 BK290 BK291 HB hq_; have HO_290000 := n0_; have HO_291000 := n1_; have HO_7 := n2_; have HO_8 := n3_; have HO_9 := n4_; have BK289 := n5_; have BK290 := n6_; have BK291 := n7_; have HB := n8_; clear n0_ n1_ n2_ n3_ n4_ n5_ n6_ n7_ n8_))
                        have n0_ := Aside0.mk (Kd.R_drew HO_7.out)
                        have n1_ := Aside0.mk (Kd.V_drew HO_8.out)
                        have n2_ := Aside0.mk (Kd.V_drew HO_9.out)
                        have n3_ := Aside0.mk (Kd.V_drew HO_290000.out)
                        have n4_ := Aside0.mk (Kd.V_drew HO_291000.out)
                        have n5_ := Aside0.mk (blk_drew BK289.out)
                        have n6_ := Aside0.mk (blk_drew BK290.out)
                        have n7_ := Aside0.mk (blk_drew BK291.out)
                        have n8_ := Aside0.mk (below_drew1 HB.out)
                        clear HO_7
                        clear HO_8
                        clear HO_9
                        clear HO_290000
                        clear HO_291000
                        clear BK289
                        clear BK290
                        clear BK291
                        clear HB
                        have HO_7 := n0_
                        have HO_8 := n1_
                        have HO_9 := n2_
                        have HO_290000 := n3_
                        have HO_291000 := n4_
                        have BK289 := n5_
                        have BK290 := n6_
                        have BK291 := n7_
                        have HB := n8_
                        clear n0_ n1_ n2_ n3_ n4_ n5_ n6_ n7_ n8_
                        have p310 : 0 ≤ (0 : Int) := (by omega)
                        have q310 : 0 < (x9_1.length : Int) := of_decide_eq_true (by first | (with_reducible assumption) | assumption)
                        obtain ⟨ad310, e310, hx310_0, hx310_1⟩ := at_T65 (Kd.V_reads' HO_9.out).2.2 0 p310 q310
                        obtain rfl : ad299 = ad310 := (by injection e310)
                        have qi310 : (0 < x9_1.length) = True := eq_true (by omega)
                        (try rw [show ((0 : Int)).toNat = 0 from rfl] at hx310_0)
                        (try rw [show 0 * 2 = 0 from rfl] at hx310_0)
                        (try rw [Addr.add_zero'] at hx310_0)
                        (try rw [show ((0 : Int)).toNat = 0 from rfl] at hx310_1)
                        (try rw [show 0 * 2 = 0 from rfl] at hx310_1)
                        (try rw [Addr.add_zero'] at hx310_1)
                        replace p310 := eq_true p310
                        replace q310 := eq_true q310
                        have q32 : (1 : Int) ≤ ((x9_1.length : Int) : Int) := of_decide_eq_true (by first | (with_reducible assumption) | assumption)
                        obtain ⟨i032, hi032, _, hsz32, _⟩ := info_parts info65
                        have hroom32 : x9_1.length ≤ co30 := (Kd.V_reads' HO_9.out).2.1
                        have hC32 : Kd.F k65 _ _ (some ad299) x9_1.length x9_1 := (Kd.V_at (base := w.heap.size) HO_9.out).2.2
                        have hcut32 := cut_from (P := Try.prog) 25 65 .i64 Try.underlying25 hi032 2 hsz32 (some ad299) x9_1.length co30 1 (by omega) q32
                        have hr32 := Kd.F_cut (m := (1 : Int).toNat) (c := co30) hC32 (by omega) hroom32
                        obtain ⟨A32, hA32⟩ : ∃ A1, A1 = (if co30 = (1 : Int).toNat then (some ad299) else ((some ad299) : Option Addr).map (·.add ((1 : Int).toNat * 2))) := ⟨_, rfl⟩
                        obtain ⟨c32, hc32⟩ : ∃ c1, c1 = co30 - (1 : Int).toNat := ⟨_, rfl⟩
                        have hy32 : y314.length = x9_1.length - (1 : Int).toNat := (by rw [Ny314.out, List.length_drop] <;> omega)
                        rw [show (x9_1).drop (1 : Int).toNat = y314 from Ny314.out.symm] at hr32
                        replace hr32 : Kd.F k65 _ _ A32 y314.length y314 := (by rw [hA32]; exact hr32)
                        rw [← hy32, ← hA32, ← hc32] at hcut32
                        have HO318 := Aside0.mk (show Kd.V k65 65 _ w.heap.size _ (.slice A32 y314.length c32) y314 from Kd.V_mk (by rw [hy32, hc32]; exact Nat.sub_le_sub_right hroom32 _) hr32)
                        have HC318 := Aside0.mk (show y314.length ≤ c32 from by rw [hy32, hc32]; exact Nat.sub_le_sub_right hroom32 _)
                        clear hr32 hC32 hroom32 hi032 hsz32 hc32
                        have KY32 := Aside0.mk hy32
                        have KA32 := Aside0.mk hA32
                        clear hy32 hA32
                        replace q32 := eq_true q32
                        refine start_ (n := 10) (S := fun w' => w'.cell? ad299 = some (.int .i64 ((rd_T65 x9_1 0).f0)) ∧ w'.cell? ⟨ad299.block, ad299.off + 1, none⟩ = some (.int .i64 ((rd_T65 x9_1 0).f1))) (ds := [4, 5]) #[false, false, false, false, false, false, false, false, false, false] (by kernel_rfl) rfl rfl ⟨hx310_0, hx310_1⟩ (fun hHeld => ?_); refine with_tabW cracknellaw14_Int_int_21.tab10 cracknellaw14_Int_int_21.bits10 (fun HT_ HW_ => ?_)
                        generalize w28.drew = w31 at HO_7 HO_8 HO_9 HO_290000 HO_291000 BK289 BK290 BK291 HB HO318 hx310_0 hx310_1 hHeld ⊢
                        refine pure_ (i := 0) (N := some 69) (v := ?_) (a' := ?_) #[true, false, false, false, false, false, false, false, false, false] rfl rfl (any_of HT_.out (by kernel_rfl)) (fun _ _ _ h => h) (Or.inl ⟨by rfl, ?_⟩) ?_ ?_
                        rotate_left
                        · intro w'
                          go_simp
                          with_reducible rfl
                        rotate_left
                        · simp only [Act.put, List.setIfInBounds_toArray, List.set_cons_zero, List.set_cons_succ, i64_w, i32_w]
                          rfl
                        refine pure_ (i := 1) (N := some 70) (v := ?_) (a' := ?_) #[true, true, false, false, false, false, false, false, false, false] rfl rfl (any_of HT_.out (by kernel_rfl)) (fun _ _ _ h => h) (Or.inl ⟨by rfl, ?_⟩) ?_ ?_
                        rotate_left
                        · intro w'
                          go_simp
                          with_reducible rfl
                        rotate_left
                        · simp only [Act.put, List.setIfInBounds_toArray, List.set_cons_zero, List.set_cons_succ, i64_w, i32_w]
                          rfl
                        refine pure_ (i := 2) (N := some 71) (v := ?_) (a' := ?_) #[true, true, true, false, false, false, false, false, false, false] rfl rfl (any_of HT_.out (by kernel_rfl)) (fun _ _ _ h => h) (Or.inl ⟨by rfl, ?_⟩) ?_ ?_
                        rotate_left
                        · intro w'
                          go_simp
                          with_reducible rfl
                        rotate_left
                        · simp only [Act.put, List.setIfInBounds_toArray, List.set_cons_zero, List.set_cons_succ, i64_w, i32_w]
                          rfl
                        refine pure_ (i := 6) (N := some 75) (v := ?_) (a' := ?_) #[true, true, true, false, false, false, true, false, false, false] rfl rfl (any_of HT_.out (by kernel_rfl)) (fun _ _ _ h => h) (Or.inl ⟨by rfl, ?_⟩) ?_ ?_
                        rotate_left
                        · intro w'
                          go_simp
                          with_reducible rfl
                        rotate_left
                        · simp only [Act.put, List.setIfInBounds_toArray, List.set_cons_zero, List.set_cons_succ, i64_w, i32_w]
                          rfl
                        refine pure_ (i := 7) (N := some 76) (v := ?_) (a' := ?_) #[true, true, true, false, false, false, true, true, false, false] rfl rfl (any_of HT_.out (by kernel_rfl)) (fun _ _ _ h => h) (Or.inl ⟨by rfl, ?_⟩) ?_ ?_
                        rotate_left
                        · intro w'
                          go_simp
                          with_reducible rfl
                        rotate_left
                        · simp only [Act.put, List.setIfInBounds_toArray, List.set_cons_zero, List.set_cons_succ, i64_w, i32_w]
                          rfl
                        refine take_ (i := 3) (N := some 72) (v := ?_) (a' := ?_) #[true, true, true, true, false, false, true, true, false, false] rfl rfl (take_ofW HT_.out HW_.out (by kernel_rfl)) (fun _ _ _ h => h) (Or.inl ⟨by rfl, ?_⟩) hHeld ?_ ?_
                        rotate_left
                        · rintro w' ⟨s0, s1⟩
                          go_simp
                          with_reducible rfl
                        rotate_left
                        · simp only [Act.put, List.setIfInBounds_toArray, List.set_cons_zero, List.set_cons_succ, i64_w, i32_w]
                          rfl
                        refine last_ (i := 4) (N := some 73) #[true, true, true, true, true, false, true, true, false, false] rfl rfl (one_of HT_.out (by kernel_rfl)) (by decide) (fun K hK => ?_)
                        refine value_ (w1 := ?_) (v := ?_) (by rfl) rfl ?_ ?_
                        rotate_left 2
                        · go_simp
                          constructor
                          · rfl
                          · rfl
                        refine hK.out _ _ ?_
                        clear hK K
                        refine norm_ (a' := ?_) ?_ ?_
                        rotate_left
                        · show Act.put _ (some 73) _ = _
                          simp only [Act.put, List.setIfInBounds_toArray, List.set_cons_zero, List.set_cons_succ, i64_w, i32_w]
                          rfl
                        refine last_ (i := 5) (N := some 74) #[true, true, true, true, true, true, true, true, false, false] rfl rfl (one_of HT_.out (by kernel_rfl)) (by decide) (fun K hK => ?_)
                        refine Kd.R_append_step k65 (w0 := w) w.heap.size (by rfl) (.tmp 69) (.tmp 73) 25 65 (.agg #[(.int .i64 0), (.int .i64 0)]) 16 rfl Try.underlying25 info65 rfl (by decide) (by omega) u7 x7_1 (⟨(rd_T65 x9_1 0).f0, (rd_T65 x9_1 0).f1⟩ : S65) [.int .i64 ((rd_T65 x9_1 0).f0), .int .i64 ((rd_T65 x9_1 0).f1)] (fun k_ => (w.heap.size ≤ k_)) (fun _ => False) rfl rfl ?aP (fun _ hk => hk.elim) ?aF ?aO ?aB ?aS ?aL ?_
                        (case aP => exact k65_mkM _ _ _ (⟨(rd_T65 x9_1 0).f0, (rd_T65 x9_1 0).f1⟩ : S65))
                        (case aB => exact xb)
                        (case aF => exact (fun k_ hk => (Nat.le_trans (below_size xb) hk)))
                        (case aO => exact (by (with_reducible repeat (first | apply Kd.R_alloc | apply Kd.R_drewN | apply Kd.R_drew)); exact HO_7.out))
                        (case aS => exact (below_size xb))
                        (case aL => have := LMc26.out; omega)
                        intro v312 w33 ho hb hg hat
                        rw [← Ny311.out] at ho
                        have n0_ := Aside0.mk (Kd.V_afterv (ok := (fun k_ => ((P0_0_ k_ ∨ P1_0_ k_) ∨ w.heap.size ≤ k_) ∧ k_ ≠ gb289 ∧ k_ ≠ gb290 ∧ k_ ≠ gb291)) (by (with_reducible repeat (first | apply Kd.V_alloc | apply Kd.V_drewN | apply Kd.V_drew)); exact Kd.V_mono HO_8.out (fun _ hk => ⟨⟨hk.1, ⟨hk.2.2.1, ⟨hk.2.2.2.1, hk.2.2.2.2⟩⟩⟩, hk.2.1⟩)) hg hat)
                        have n1_ := Aside0.mk (Kd.V_afterv (ok := (fun k_ => ((P0_0_ k_ ∨ P1_0_ k_) ∨ w.heap.size ≤ k_) ∧ k_ ≠ gb289 ∧ k_ ≠ gb290 ∧ k_ ≠ gb291)) (by (with_reducible repeat (first | apply Kd.V_alloc | apply Kd.V_drewN | apply Kd.V_drew)); exact Kd.V_mono HO_9.out (fun _ hk => ⟨⟨hk.1, ⟨hk.2.2.1, ⟨hk.2.2.2.1, hk.2.2.2.2⟩⟩⟩, hk.2.1⟩)) hg hat)
                        have n2_ := Aside0.mk (Kd.V_afterv (ok := (fun k_ => ((P0_0_ k_ ∨ P1_0_ k_) ∨ w.heap.size ≤ k_) ∧ k_ ≠ gb289 ∧ k_ ≠ gb290 ∧ k_ ≠ gb291)) (by (with_reducible repeat (first | apply Kd.V_alloc | apply Kd.V_drewN | apply Kd.V_drew)); exact Kd.V_mono HO_290000.out (fun _ hk => ⟨⟨hk.1, ⟨hk.2.2.1, ⟨hk.2.2.2.1, hk.2.2.2.2⟩⟩⟩, hk.2.1⟩)) hg hat)
                        have n3_ := Aside0.mk (Kd.V_afterv (ok := (fun k_ => ((P0_0_ k_ ∨ P1_0_ k_) ∨ w.heap.size ≤ k_) ∧ k_ ≠ gb289 ∧ k_ ≠ gb290 ∧ k_ ≠ gb291)) (by (with_reducible repeat (first | apply Kd.V_alloc | apply Kd.V_drewN | apply Kd.V_drew)); exact Kd.V_mono HO_291000.out (fun _ hk => ⟨⟨hk.1, ⟨hk.2.2.1, ⟨hk.2.2.2.1, hk.2.2.2.2⟩⟩⟩, hk.2.1⟩)) hg hat)
                        have n4_ := Aside0.mk (blk_grown (g := gb289) (o := .cells #[.slice A0_0 l0_0.length c0_0] 27 (0, 0)) xk hg (Kd.R_ne HO_7.out BK289.out (by decide)))
                        have n5_ := Aside0.mk (blk_grown (g := gb290) (o := .cells #[.slice A1_0 l1_0.length c1_0] 27 (0, 0)) xk hg (Kd.R_ne HO_7.out BK290.out (by decide)))
                        have n6_ := Aside0.mk (blk_grown (g := gb291) (o := .cells #[.slice none 0 0] 27 (0, 0)) xk hg (Kd.R_ne HO_7.out BK291.out (by decide)))
                        have n7_ := Aside0.mk (Kd.V_afterv (ok := (fun k_ => ((P0_0_ k_ ∨ P1_0_ k_) ∨ w.heap.size ≤ k_) ∧ k_ ≠ gb289 ∧ k_ ≠ gb290 ∧ k_ ≠ gb291)) (by (with_reducible repeat (first | apply Kd.V_alloc | apply Kd.V_drewN | apply Kd.V_drew)); exact Kd.V_mono HO318.out (fun _ hk => ⟨⟨hk.1, ⟨hk.2.2.1, ⟨hk.2.2.2.1, hk.2.2.2.2⟩⟩⟩, hk.2.1⟩)) hg hat)
                        have n8_ := Aside0.mk (hb)
                        have n9_ := Aside0.mk (ho)
                        clear HO_8
                        clear HO_9
                        clear HO_290000
                        clear HO_291000
                        clear BK289
                        clear BK290
                        clear BK291
                        clear HO318
                        clear HB
                        clear HO_7
                        have HO_8 := n0_
                        have HO_9 := n1_
                        have HO_290000 := n2_
                        have HO_291000 := n3_
                        have BK289 := n4_
                        have BK290 := n5_
                        have BK291 := n6_
                        have HO318 := n7_
                        have HB := n8_
                        have HO313 := n9_
                        clear n0_ n1_ n2_ n3_ n4_ n5_ n6_ n7_ n8_ n9_
                        clear ho hb hg hat
                        refine hK.out _ _ ?_
                        clear hK K
                        refine norm_ (a' := ?_) ?_ ?_
                        rotate_left
                        · show Act.put _ (some 74) _ = _
                          simp only [Act.put, List.setIfInBounds_toArray, List.set_cons_zero, List.set_cons_succ, i64_w, i32_w]
                          rfl
                        refine pure_ (i := 8) (N := some 7) (v := ?_) (a' := ?_) #[true, true, true, true, true, true, true, true, true, false] rfl rfl (any_of HT_.out (by kernel_rfl)) (fun _ _ _ h => h) (Or.inl ⟨by rfl, ?_⟩) ?_ ?_
                        rotate_left
                        · intro w'
                          go_simp
                          with_reducible rfl
                        rotate_left
                        · simp only [Act.put, List.setIfInBounds_toArray, List.set_cons_zero, List.set_cons_succ, i64_w, i32_w]
                          rfl
                        refine pure_ (i := 9) (N := some 9) (v := ?_) (a' := ?_) #[true, true, true, true, true, true, true, true, true, true] rfl rfl (any_of HT_.out (by kernel_rfl)) (fun _ _ _ h => h) (Or.inl ⟨by rfl, ?_⟩) ?_ ?_
                        rotate_left
                        · intro w'
                          go_simp
                          with_reducible rfl
                        rotate_left
                        · simp only [Act.put, List.setIfInBounds_toArray, List.set_cons_zero, List.set_cons_succ, i64_w, i32_w]
                          rfl
                        refine done_ (done_of HT_.out (by kernel_rfl)) ?_
                        try go_wp2
                        go_roundg kj6
                        case measure => have := HK1.out; have := HJ6.out; omega
                        case rel => exact ⟨(y311), (x8_1), (y314), H', ⟨by have := HK1.out; have := HJ6.out; omega⟩, ⟨by (with_reducible repeat (first | apply Kd.R_alloc | apply Kd.R_drewN | apply Kd.R_drew)); exact HO313.out⟩, ⟨by (with_reducible repeat (first | apply Kd.V_alloc | apply Kd.V_drewN | apply Kd.V_drew)); exact Kd.V_mono HO_8.out (fun _ hk => ⟨hk.1.1, ⟨hk.2, ⟨hk.1.2.1, ⟨hk.1.2.2.1, hk.1.2.2.2⟩⟩⟩⟩)⟩, ⟨by (with_reducible repeat (first | apply Kd.V_alloc | apply Kd.V_drewN | apply Kd.V_drew)); exact Kd.V_mono HO318.out (fun _ hk => ⟨hk.1.1, ⟨hk.2, ⟨hk.1.2.1, ⟨hk.1.2.2.1, hk.1.2.2.2⟩⟩⟩⟩)⟩, ⟨by (with_reducible repeat (first | apply Kd.V_alloc | apply Kd.V_drewN | apply Kd.V_drew)); exact Kd.V_mono HO_290000.out (fun _ hk => ⟨hk.1.1, ⟨hk.2, ⟨hk.1.2.1, ⟨hk.1.2.2.1, hk.1.2.2.2⟩⟩⟩⟩)⟩, ⟨by (with_reducible repeat (first | apply Kd.V_alloc | apply Kd.V_drewN | apply Kd.V_drew)); exact Kd.V_mono HO_291000.out (fun _ hk => ⟨hk.1.1, ⟨hk.2, ⟨hk.1.2.1, ⟨hk.1.2.2.1, hk.1.2.2.2⟩⟩⟩⟩)⟩, ⟨xk⟩, ⟨xk⟩, ⟨xk⟩, ⟨xb⟩⟩
                      · rw [if_neg c27] at H
                        exact absurd H (by simp)
                    · rw [if_neg c26] at H
                      exact absurd H (by simp)
                  · rw [if_neg c25] at H
                    have c25b0 : decide (0 < t300) = false := decide_eq_false c25
                    clear c25
                    replace H := Option.bind_eq_some_iff.mp H
                    obtain ⟨t322, A340, H⟩ := H
                    replace H : (if x7_1.length < 8796093022208 then (if 1 ≤ (x8_1.length : Int) then (if 1 ≤ (x9_1.length : Int) then (cracknellaw14_Int_int_21.l0 kj6 (x7_1 ++ [(⟨(rd_T65 x8_1 0).f0, t322⟩ : S65)]) (x8_1.drop 1) (x9_1.drop 1)) else (none)) else (none)) else (none)) = some r := H
                    have A34 := Aside0.mk A340
                    clear A340
                    by_cases c35 : x7_1.length < 8796093022208
                    · rw [if_pos c35] at H
                      have LMc35 := Aside0.mk c35
                      clear c35
                      obtain ⟨y323, hy323⟩ : ∃ y_ : List (S65), y_ = (x7_1 ++ [(⟨(rd_T65 x8_1 0).f0, t322⟩ : S65)]) := ⟨_, rfl⟩
                      replace H : (if 1 ≤ (x8_1.length : Int) then (if 1 ≤ (x9_1.length : Int) then (cracknellaw14_Int_int_21.l0 kj6 y323 (x8_1.drop 1) (x9_1.drop 1)) else (none)) else (none)) = some r := by first | (rw [hy323]; with_reducible exact H) | (have H2_ := (Option.bind_some _ _).symm.trans H; rw [hy323]; with_reducible exact H2_) | (have H2_ := (Option.bind_some _ _).symm.trans H; with_reducible exact H2_) | with_reducible exact H | (rw [hy323]; exact H) | exact H
                      have Ny323 := Aside0.mk hy323
                      clear hy323
                      by_cases c36 : 1 ≤ (x8_1.length : Int)
                      · rw [if_pos c36] at H
                        have c36b0 := eq_true c36
                        have c36b1 : decide (1 ≤ (x8_1.length : Int)) = true := decide_eq_true c36
                        clear c36
                        obtain ⟨y326, hy326⟩ : ∃ y_ : List (S65), y_ = (x8_1.drop 1) := ⟨_, rfl⟩
                        replace H : (if 1 ≤ (x9_1.length : Int) then (cracknellaw14_Int_int_21.l0 kj6 y323 y326 (x9_1.drop 1)) else (none)) = some r := by first | (rw [hy326]; with_reducible exact H) | (have H2_ := (Option.bind_some _ _).symm.trans H; rw [hy326]; with_reducible exact H2_) | (have H2_ := (Option.bind_some _ _).symm.trans H; with_reducible exact H2_) | with_reducible exact H | (rw [hy326]; exact H) | exact H
                        have Ny326 := Aside0.mk hy326
                        clear hy326
                        by_cases c37 : 1 ≤ (x9_1.length : Int)
                        · rw [if_pos c37] at H
                          have c37b0 := eq_true c37
                          have c37b1 : decide (1 ≤ (x9_1.length : Int)) = true := decide_eq_true c37
                          clear c37
                          obtain ⟨y331, hy331⟩ : ∃ y_ : List (S65), y_ = (x9_1.drop 1) := ⟨_, rfl⟩
                          replace H : (cracknellaw14_Int_int_21.l0 kj6 y323 y326 y331) = some r := by first | (rw [hy331]; with_reducible exact H) | (have H2_ := (Option.bind_some _ _).symm.trans H; rw [hy331]; with_reducible exact H2_) | (have H2_ := (Option.bind_some _ _).symm.trans H; with_reducible exact H2_) | with_reducible exact H | (rw [hy331]; exact H) | exact H
                          have Ny331 := Aside0.mk hy331
                          clear hy331
                          have H' := Aside0.mk H
                          clear H
                          try go_wp2
                          have n0_ := Aside0.mk (Kd.R_drew HO_7.out)
                          have n1_ := Aside0.mk (Kd.V_drew HO_8.out)
                          have n2_ := Aside0.mk (Kd.V_drew HO_9.out)
                          have n3_ := Aside0.mk (Kd.V_drew HO_290000.out)
                          have n4_ := Aside0.mk (Kd.V_drew HO_291000.out)
                          have n5_ := Aside0.mk (blk_drew BK289.out)
                          have n6_ := Aside0.mk (blk_drew BK290.out)
                          have n7_ := Aside0.mk (blk_drew BK291.out)
                          have n8_ := Aside0.mk (below_drew1 HB.out)
                          clear HO_7
                          clear HO_8
                          clear HO_9
                          clear HO_290000
                          clear HO_291000
                          clear BK289
                          clear BK290
                          clear BK291
                          clear HB
                          have HO_7 := n0_
                          have HO_8 := n1_
                          have HO_9 := n2_
                          have HO_290000 := n3_
                          have HO_291000 := n4_
                          have BK289 := n5_
                          have BK290 := n6_
                          have BK291 := n7_
                          have HB := n8_
                          clear n0_ n1_ n2_ n3_ n4_ n5_ n6_ n7_ n8_
                          obtain ⟨Ao39, co39, eo39⟩ := Kd.V_slice HO_8.out
                          (first | subst eo39 | (injection eo39 with f1_ f2_ f3_; have f4_ := f1_.symm; have f5_ := f3_.symm; clear f1_ f2_ f3_; subst f4_; subst f5_))
                          have p298 : 0 ≤ (0 : Int) := (by omega)
                          have q298 : 0 < (x8_1.length : Int) := of_decide_eq_true (by first | (with_reducible assumption) | assumption)
                          obtain ⟨ad298, e298, hx298_0, hx298_1⟩ := at_T65 (Kd.V_reads' HO_8.out).2.2 0 p298 q298
                          cases e298
                          have qi298 : (0 < x8_1.length) = True := eq_true (by omega)
                          (try rw [show ((0 : Int)).toNat = 0 from rfl] at hx298_0)
                          (try rw [show 0 * 2 = 0 from rfl] at hx298_0)
                          (try rw [Addr.add_zero'] at hx298_0)
                          (try rw [show ((0 : Int)).toNat = 0 from rfl] at hx298_1)
                          (try rw [show 0 * 2 = 0 from rfl] at hx298_1)
                          (try rw [Addr.add_zero'] at hx298_1)
                          replace p298 := eq_true p298
                          replace q298 := eq_true q298
                          obtain ⟨Ao40, co40, eo40⟩ := Kd.V_slice HO_9.out
                          (first | subst eo40 | (injection eo40 with f1_ f2_ f3_; have f4_ := f1_.symm; have f5_ := f3_.symm; clear f1_ f2_ f3_; subst f4_; subst f5_))
                          have p299 : 0 ≤ (0 : Int) := (by omega)
                          have q299 : 0 < (x9_1.length : Int) := of_decide_eq_true (by first | (with_reducible assumption) | assumption)
                          obtain ⟨ad299, e299, hx299_0, hx299_1⟩ := at_T65 (Kd.V_reads' HO_9.out).2.2 0 p299 q299
                          cases e299
                          have qi299 : (0 < x9_1.length) = True := eq_true (by omega)
                          (try rw [show ((0 : Int)).toNat = 0 from rfl] at hx299_0)
                          (try rw [show 0 * 2 = 0 from rfl] at hx299_0)
                          (try rw [Addr.add_zero'] at hx299_0)
                          (try rw [show ((0 : Int)).toNat = 0 from rfl] at hx299_1)
                          (try rw [show 0 * 2 = 0 from rfl] at hx299_1)
                          (try rw [Addr.add_zero'] at hx299_1)
                          replace p299 := eq_true p299
                          replace q299 := eq_true q299
                          refine start_ (n := 11) (S := fun w' => w'.cell? ad298 = some (.int .i64 ((rd_T65 x8_1 0).f0)) ∧ w'.cell? ⟨ad298.block, ad298.off + 1, none⟩ = some (.int .i64 ((rd_T65 x8_1 0).f1)) ∧ w'.cell? ad299 = some (.int .i64 ((rd_T65 x9_1 0).f0)) ∧ w'.cell? ⟨ad299.block, ad299.off + 1, none⟩ = some (.int .i64 ((rd_T65 x9_1 0).f1))) (ds := []) #[false, false, false, false, false, false, false, false, false, false, false] (by kernel_rfl) rfl rfl ⟨hx298_0, hx298_1, hx299_0, hx299_1⟩ (fun hHeld => ?_); refine with_tabW cracknellaw14_Int_int_21.tab4 cracknellaw14_Int_int_21.bits4 (fun HT_ HW_ => ?_)
                          generalize wc.drew = w38 at HO_7 HO_8 HO_9 HO_290000 HO_291000 BK289 BK290 BK291 HB hx298_0 hx298_1 hx299_0 hx299_1 hHeld ⊢
                          refine pure_ (i := 0) (N := some 23) (v := ?_) (a' := ?_) #[true, false, false, false, false, false, false, false, false, false, false] rfl rfl (any_of HT_.out (by kernel_rfl)) (fun _ _ _ h => h) (Or.inl ⟨by rfl, ?_⟩) ?_ ?_
                          rotate_left
                          · intro w'
                            go_simp
                            with_reducible rfl
                          rotate_left
                          · simp only [Act.put, List.setIfInBounds_toArray, List.set_cons_zero, List.set_cons_succ, i64_w, i32_w]
                            rfl
                          refine pure_ (i := 1) (N := some 24) (v := ?_) (a' := ?_) #[true, true, false, false, false, false, false, false, false, false, false] rfl rfl (any_of HT_.out (by kernel_rfl)) (fun _ _ _ h => h) (Or.inl ⟨by rfl, ?_⟩) ?_ ?_
                          rotate_left
                          · intro w'
                            go_simp
                            with_reducible rfl
                          rotate_left
                          · simp only [Act.put, List.setIfInBounds_toArray, List.set_cons_zero, List.set_cons_succ, i64_w, i32_w]
                            rfl
                          refine pure_ (i := 2) (N := some 25) (v := ?_) (a' := ?_) #[true, true, true, false, false, false, false, false, false, false, false] rfl rfl (any_of HT_.out (by kernel_rfl)) (fun _ _ _ h => h) (Or.inl ⟨by rfl, ?_⟩) ?_ ?_
                          rotate_left
                          · intro w'
                            go_simp
                            with_reducible rfl
                          rotate_left
                          · simp only [Act.put, List.setIfInBounds_toArray, List.set_cons_zero, List.set_cons_succ, i64_w, i32_w]
                            rfl
                          refine pure_ (i := 5) (N := some 28) (v := ?_) (a' := ?_) #[true, true, true, false, false, true, false, false, false, false, false] rfl rfl (any_of HT_.out (by kernel_rfl)) (fun _ _ _ h => h) (Or.inl ⟨by rfl, ?_⟩) ?_ ?_
                          rotate_left
                          · intro w'
                            go_simp
                            with_reducible rfl
                          rotate_left
                          · simp only [Act.put, List.setIfInBounds_toArray, List.set_cons_zero, List.set_cons_succ, i64_w, i32_w]
                            rfl
                          refine pure_ (i := 6) (N := some 29) (v := ?_) (a' := ?_) #[true, true, true, false, false, true, true, false, false, false, false] rfl rfl (any_of HT_.out (by kernel_rfl)) (fun _ _ _ h => h) (Or.inl ⟨by rfl, ?_⟩) ?_ ?_
                          rotate_left
                          · intro w'
                            go_simp
                            with_reducible rfl
                          rotate_left
                          · simp only [Act.put, List.setIfInBounds_toArray, List.set_cons_zero, List.set_cons_succ, i64_w, i32_w]
                            rfl
                          refine pure_ (i := 7) (N := some 30) (v := ?_) (a' := ?_) #[true, true, true, false, false, true, true, true, false, false, false] rfl rfl (any_of HT_.out (by kernel_rfl)) (fun _ _ _ h => h) (Or.inl ⟨by rfl, ?_⟩) ?_ ?_
                          rotate_left
                          · intro w'
                            go_simp
                            with_reducible rfl
                          rotate_left
                          · simp only [Act.put, List.setIfInBounds_toArray, List.set_cons_zero, List.set_cons_succ, i64_w, i32_w]
                            rfl
                          refine take_ (i := 3) (N := some 26) (v := ?_) (a' := ?_) #[true, true, true, true, false, true, true, true, false, false, false] rfl rfl (take_ofW HT_.out HW_.out (by kernel_rfl)) (fun _ _ _ h => h) (Or.inl ⟨by rfl, ?_⟩) hHeld ?_ ?_
                          rotate_left
                          · rintro w' ⟨s0, s1, s2, s3⟩
                            go_simp
                            with_reducible rfl
                          rotate_left
                          · simp only [Act.put, List.setIfInBounds_toArray, List.set_cons_zero, List.set_cons_succ, i64_w, i32_w]
                            rfl
                          refine pure_ (i := 4) (N := some 27) (v := ?_) (a' := ?_) #[true, true, true, true, true, true, true, true, false, false, false] rfl rfl (any_of HT_.out (by kernel_rfl)) (fun _ _ _ h => h) (Or.inl ⟨by rfl, ?_⟩) ?_ ?_
                          rotate_left
                          · intro w'
                            go_simp
                            with_reducible rfl
                          rotate_left
                          · simp only [Act.put, List.setIfInBounds_toArray, List.set_cons_zero, List.set_cons_succ, i64_w, i32_w]
                            rfl
                          refine take_ (i := 8) (N := some 31) (v := ?_) (a' := ?_) #[true, true, true, true, true, true, true, true, true, false, false] rfl rfl (take_ofW HT_.out HW_.out (by kernel_rfl)) (fun _ _ _ h => h) (Or.inl ⟨by rfl, ?_⟩) hHeld ?_ ?_
                          rotate_left
                          · rintro w' ⟨s0, s1, s2, s3⟩
                            go_simp
                            with_reducible rfl
                          rotate_left
                          · simp only [Act.put, List.setIfInBounds_toArray, List.set_cons_zero, List.set_cons_succ, i64_w, i32_w]
                            rfl
                          refine one_ (i := 9) (N := some 32) #[true, true, true, true, true, true, true, true, true, true, false] rfl rfl (one_of HT_.out (by kernel_rfl)) (by decide) (fun K hK => ?_)
                          refine goesI_ Try.func55 (by kernel_rfl) rfl #[.int .i64 ((rd_T65 x8_1 0).f0), .int .i64 ((rd_T65 x9_1 0).f0)] (by rfl) rfl rfl xg ?_
                          with_reducible refine (law14_IntCmp.calls ((rd_T65 x8_1 0).f0) ((rd_T65 x9_1 0).f0) t300 _ A15.out).mono ?_
                          rintro e w' ⟨rfl, ⟨nd, rfl⟩⟩
                          refine ⟨_, rfl, ?_⟩
                          refine hK.out _ _ ⟨hHeld.1, hHeld.2.1, hHeld.2.2.1, hHeld.2.2.2⟩ (fun hHeld => ?_)
                          clear hK K
                          refine norm_ (a' := ?_) ?_ ?_
                          rotate_left
                          · show Act.put _ (some 32) _ = _
                            simp only [Act.put, List.setIfInBounds_toArray, List.set_cons_zero, List.set_cons_succ, i64_w, i32_w]
                            rfl
                          refine pure_ (i := 10) (N := some 10) (v := ?_) (a' := ?_) #[true, true, true, true, true, true, true, true, true, true, true] rfl rfl (any_of HT_.out (by kernel_rfl)) (fun _ _ _ h => h) (Or.inl ⟨by rfl, ?_⟩) ?_ ?_
                          rotate_left
                          · intro w'
                            go_simp
                            with_reducible rfl
                          rotate_left
                          · simp only [Act.put, List.setIfInBounds_toArray, List.set_cons_zero, List.set_cons_succ, i64_w, i32_w]
                            rfl
                          refine done_ (done_of HT_.out (by kernel_rfl)) ?_
                          try go_wp2
                          (try (rw [drewN_self w38]; generalize hq_ : World.drewN w38 _ = w38; have n0_ : Aside0 (Kd.V k65 65 w38 w.heap.size (fun k_ => ((P0_0_ k_ ∨ P1_0_ k_) ∨ w.heap.size ≤ k_) ∧ some k_ ≠ (u7 : Value).ownBlock ∧ k_ ≠ gb289 ∧ k_ ≠ gb290 ∧ k_ ≠ gb291) (.slice A0_0 l0_0.length c0_0) l0_0) := ⟨by rw [← hq_]; exact (by (with_reducible repeat (first | apply Kd.V_alloc | apply Kd.V_drewN | apply Kd.V_drew)); exact HO_290000.out)⟩; have n1_ : Aside0 (Kd.V k65 65 w38 w.heap.size (fun k_ => ((P0_0_ k_ ∨ P1_0_ k_) ∨ w.heap.size ≤ k_) ∧ some k_ ≠ (u7 : Value).ownBlock ∧ k_ ≠ gb289 ∧ k_ ≠ gb290 ∧ k_ ≠ gb291) (.slice A1_0 l1_0.length c1_0) l1_0) := ⟨by rw [← hq_]; exact (by (with_reducible repeat (first | apply Kd.V_alloc | apply Kd.V_drewN | apply Kd.V_drew)); exact HO_291000.out)⟩; have n2_ : Aside0 (Kd.R k65 65 w38 w.heap.size (fun k_ => (w.heap.size ≤ k_)) u7 x7_1) := ⟨by rw [← hq_]; exact (by (with_reducible repeat (first | apply Kd.R_alloc | apply Kd.R_drewN | apply Kd.R_drew)); exact HO_7.out)⟩; have n3_ : Aside0 (Kd.V k65 65 w38 w.heap.size (fun k_ => ((P0_0_ k_ ∨ P1_0_ k_) ∨ w.heap.size ≤ k_) ∧ some k_ ≠ (u7 : Value).ownBlock ∧ k_ ≠ gb289 ∧ k_ ≠ gb290 ∧ k_ ≠ gb291) (.slice (some ad298) x8_1.length co39) x8_1) := ⟨by rw [← hq_]; exact (by (with_reducible repeat (first | apply Kd.V_alloc | apply Kd.V_drewN | apply Kd.V_drew)); exact HO_8.out)⟩; have n4_ : Aside0 (Kd.V k65 65 w38 w.heap.size (fun k_ => ((P0_0_ k_ ∨ P1_0_ k_) ∨ w.heap.size ≤ k_) ∧ some k_ ≠ (u7 : Value).ownBlock ∧ k_ ≠ gb289 ∧ k_ ≠ gb290 ∧ k_ ≠ gb291) (.slice (some ad299) x9_1.length co40) x9_1) := ⟨by rw [← hq_]; exact (by (with_reducible repeat (first | apply Kd.V_alloc | apply Kd.V_drewN | apply Kd.V_drew)); exact HO_9.out)⟩; have n5_ : Aside0 (w38.heap[gb289]? = some (.cells #[.slice A0_0 l0_0.length c0_0] 27 (0, 0))) := ⟨by rw [← hq_]; exact xk⟩; have n6_ : Aside0 (w38.heap[gb290]? = some (.cells #[.slice A1_0 l1_0.length c1_0] 27 (0, 0))) := ⟨by rw [← hq_]; exact xk⟩; have n7_ : Aside0 (w38.heap[gb291]? = some (.cells #[.slice none 0 0] 27 (0, 0))) := ⟨by rw [← hq_]; exact xk⟩; have n8_ : Aside0 (Below w.heap.size w w38) := ⟨by rw [← hq_]; exact xb⟩; clear HO_290000 HO_291000 HO_7 HO_8 HO_9 BK289 BK290 BK291 HB hq_; have HO_290000 := n0_; have HO_291000 := n1_; have HO_7 := n2_; have HO_8 := n3_; have HO_9 := n4_; have BK289 := n5_; have BK290 := n6_; have BK291 := n7_; have HB := n8_; clear n0_ n1_ n2_ n3_ n4_ n5_ n6_ n7_ n8_))
                          have n0_ := Aside0.mk (Kd.R_drew HO_7.out)
                          have n1_ := Aside0.mk (Kd.V_drew HO_8.out)
                          have n2_ := Aside0.mk (Kd.V_drew HO_9.out)
                          have n3_ := Aside0.mk (Kd.V_drew HO_290000.out)
                          have n4_ := Aside0.mk (Kd.V_drew HO_291000.out)
                          have n5_ := Aside0.mk (blk_drew BK289.out)
                          have n6_ := Aside0.mk (blk_drew BK290.out)
                          have n7_ := Aside0.mk (blk_drew BK291.out)
                          have n8_ := Aside0.mk (below_drew1 HB.out)
                          clear HO_7
                          clear HO_8
                          clear HO_9
                          clear HO_290000
                          clear HO_291000
                          clear BK289
                          clear BK290
                          clear BK291
                          clear HB
                          have HO_7 := n0_
                          have HO_8 := n1_
                          have HO_9 := n2_
                          have HO_290000 := n3_
                          have HO_291000 := n4_
                          have BK289 := n5_
                          have BK290 := n6_
                          have BK291 := n7_
                          have HB := n8_
                          clear n0_ n1_ n2_ n3_ n4_ n5_ n6_ n7_ n8_
                          have p319 : 0 ≤ (0 : Int) := (by omega)
                          have q319 : 0 < (x8_1.length : Int) := of_decide_eq_true (by first | (with_reducible assumption) | assumption)
                          obtain ⟨ad319, e319, hx319_0, hx319_1⟩ := at_T65 (Kd.V_reads' HO_8.out).2.2 0 p319 q319
                          obtain rfl : ad298 = ad319 := (by injection e319)
                          have qi319 : (0 < x8_1.length) = True := eq_true (by omega)
                          (try rw [show ((0 : Int)).toNat = 0 from rfl] at hx319_0)
                          (try rw [show 0 * 2 = 0 from rfl] at hx319_0)
                          (try rw [Addr.add_zero'] at hx319_0)
                          (try rw [show ((0 : Int)).toNat = 0 from rfl] at hx319_1)
                          (try rw [show 0 * 2 = 0 from rfl] at hx319_1)
                          (try rw [Addr.add_zero'] at hx319_1)
                          replace p319 := eq_true p319
                          replace q319 := eq_true q319
                          have p320 : 0 ≤ (0 : Int) := (by omega)
                          have q320 : 0 < (x8_1.length : Int) := of_decide_eq_true (by first | (with_reducible assumption) | assumption)
                          obtain ⟨ad320, e320, hx320_0, hx320_1⟩ := at_T65 (Kd.V_reads' HO_8.out).2.2 0 p320 q320
                          obtain rfl : ad298 = ad320 := (by injection e320)
                          have qi320 : (0 < x8_1.length) = True := eq_true (by omega)
                          (try rw [show ((0 : Int)).toNat = 0 from rfl] at hx320_0)
                          (try rw [show 0 * 2 = 0 from rfl] at hx320_0)
                          (try rw [Addr.add_zero'] at hx320_0)
                          (try rw [show ((0 : Int)).toNat = 0 from rfl] at hx320_1)
                          (try rw [show 0 * 2 = 0 from rfl] at hx320_1)
                          (try rw [Addr.add_zero'] at hx320_1)
                          replace p320 := eq_true p320
                          replace q320 := eq_true q320
                          have p321 : 0 ≤ (0 : Int) := (by omega)
                          have q321 : 0 < (x9_1.length : Int) := of_decide_eq_true (by first | (with_reducible assumption) | assumption)
                          obtain ⟨ad321, e321, hx321_0, hx321_1⟩ := at_T65 (Kd.V_reads' HO_9.out).2.2 0 p321 q321
                          obtain rfl : ad299 = ad321 := (by injection e321)
                          have qi321 : (0 < x9_1.length) = True := eq_true (by omega)
                          (try rw [show ((0 : Int)).toNat = 0 from rfl] at hx321_0)
                          (try rw [show 0 * 2 = 0 from rfl] at hx321_0)
                          (try rw [Addr.add_zero'] at hx321_0)
                          (try rw [show ((0 : Int)).toNat = 0 from rfl] at hx321_1)
                          (try rw [show 0 * 2 = 0 from rfl] at hx321_1)
                          (try rw [Addr.add_zero'] at hx321_1)
                          replace p321 := eq_true p321
                          replace q321 := eq_true q321
                          refine start_ (n := 19) (S := fun w' => w'.cell? ad298 = some (.int .i64 ((rd_T65 x8_1 0).f0)) ∧ w'.cell? ⟨ad298.block, ad298.off + 1, none⟩ = some (.int .i64 ((rd_T65 x8_1 0).f1)) ∧ w'.cell? ad298 = some (.int .i64 ((rd_T65 x8_1 0).f0)) ∧ w'.cell? ⟨ad298.block, ad298.off + 1, none⟩ = some (.int .i64 ((rd_T65 x8_1 0).f1)) ∧ w'.cell? ad299 = some (.int .i64 ((rd_T65 x9_1 0).f0)) ∧ w'.cell? ⟨ad299.block, ad299.off + 1, none⟩ = some (.int .i64 ((rd_T65 x9_1 0).f1))) (ds := [16, 17]) #[false, false, false, false, false, false, false, false, false, false, false, false, false, false, false, false, false, false, false] (by kernel_rfl) rfl rfl ⟨hx319_0, hx319_1, hx320_0, hx320_1, hx321_0, hx321_1⟩ (fun hHeld => ?_); refine with_tabW cracknellaw14_Int_int_21.tab5 cracknellaw14_Int_int_21.bits5 (fun HT_ HW_ => ?_)
                          generalize w38.drew = w41 at HO_7 HO_8 HO_9 HO_290000 HO_291000 BK289 BK290 BK291 HB hx319_0 hx319_1 hx320_0 hx320_1 hx321_0 hx321_1 hHeld ⊢
                          refine pure_ (i := 0) (N := some 33) (v := ?_) (a' := ?_) #[true, false, false, false, false, false, false, false, false, false, false, false, false, false, false, false, false, false, false] rfl rfl (any_of HT_.out (by kernel_rfl)) (fun _ _ _ h => h) (Or.inl ⟨by rfl, ?_⟩) ?_ ?_
                          rotate_left
                          · intro w'
                            go_simp
                            with_reducible rfl
                          rotate_left
                          · simp only [Act.put, List.setIfInBounds_toArray, List.set_cons_zero, List.set_cons_succ, i64_w, i32_w]
                            rfl
                          refine pure_ (i := 1) (N := some 34) (v := ?_) (a' := ?_) #[true, true, false, false, false, false, false, false, false, false, false, false, false, false, false, false, false, false, false] rfl rfl (any_of HT_.out (by kernel_rfl)) (fun _ _ _ h => h) (Or.inl ⟨by rfl, ?_⟩) ?_ ?_
                          rotate_left
                          · intro w'
                            go_simp
                            with_reducible rfl
                          rotate_left
                          · simp only [Act.put, List.setIfInBounds_toArray, List.set_cons_zero, List.set_cons_succ, i64_w, i32_w]
                            rfl
                          refine pure_ (i := 2) (N := some 35) (v := ?_) (a' := ?_) #[true, true, true, false, false, false, false, false, false, false, false, false, false, false, false, false, false, false, false] rfl rfl (any_of HT_.out (by kernel_rfl)) (fun _ _ _ h => h) (Or.inl ⟨by rfl, ?_⟩) ?_ ?_
                          rotate_left
                          · intro w'
                            go_simp
                            with_reducible rfl
                          rotate_left
                          · simp only [Act.put, List.setIfInBounds_toArray, List.set_cons_zero, List.set_cons_succ, i64_w, i32_w]
                            rfl
                          refine pure_ (i := 3) (N := some 36) (v := ?_) (a' := ?_) #[true, true, true, true, false, false, false, false, false, false, false, false, false, false, false, false, false, false, false] rfl rfl (any_of HT_.out (by kernel_rfl)) (fun _ _ _ h => h) (Or.inl ⟨by rfl, ?_⟩) ?_ ?_
                          rotate_left
                          · intro w'
                            go_simp
                            with_reducible rfl
                          rotate_left
                          · simp only [Act.put, List.setIfInBounds_toArray, List.set_cons_zero, List.set_cons_succ, i64_w, i32_w]
                            rfl
                          refine pure_ (i := 5) (N := some 38) (v := ?_) (a' := ?_) #[true, true, true, true, false, true, false, false, false, false, false, false, false, false, false, false, false, false, false] rfl rfl (any_of HT_.out (by kernel_rfl)) (fun _ _ _ h => h) (Or.inl ⟨by rfl, ?_⟩) ?_ ?_
                          rotate_left
                          · intro w'
                            go_simp
                            with_reducible rfl
                          rotate_left
                          · simp only [Act.put, List.setIfInBounds_toArray, List.set_cons_zero, List.set_cons_succ, i64_w, i32_w]
                            rfl
                          refine pure_ (i := 6) (N := some 39) (v := ?_) (a' := ?_) #[true, true, true, true, false, true, true, false, false, false, false, false, false, false, false, false, false, false, false] rfl rfl (any_of HT_.out (by kernel_rfl)) (fun _ _ _ h => h) (Or.inl ⟨by rfl, ?_⟩) ?_ ?_
                          rotate_left
                          · intro w'
                            go_simp
                            with_reducible rfl
                          rotate_left
                          · simp only [Act.put, List.setIfInBounds_toArray, List.set_cons_zero, List.set_cons_succ, i64_w, i32_w]
                            rfl
                          refine pure_ (i := 7) (N := some 40) (v := ?_) (a' := ?_) #[true, true, true, true, false, true, true, true, false, false, false, false, false, false, false, false, false, false, false] rfl rfl (any_of HT_.out (by kernel_rfl)) (fun _ _ _ h => h) (Or.inl ⟨by rfl, ?_⟩) ?_ ?_
                          rotate_left
                          · intro w'
                            go_simp
                            with_reducible rfl
                          rotate_left
                          · simp only [Act.put, List.setIfInBounds_toArray, List.set_cons_zero, List.set_cons_succ, i64_w, i32_w]
                            rfl
                          refine pure_ (i := 8) (N := some 41) (v := ?_) (a' := ?_) #[true, true, true, true, false, true, true, true, true, false, false, false, false, false, false, false, false, false, false] rfl rfl (any_of HT_.out (by kernel_rfl)) (fun _ _ _ h => h) (Or.inl ⟨by rfl, ?_⟩) ?_ ?_
                          rotate_left
                          · intro w'
                            go_simp
                            with_reducible rfl
                          rotate_left
                          · simp only [Act.put, List.setIfInBounds_toArray, List.set_cons_zero, List.set_cons_succ, i64_w, i32_w]
                            rfl
                          refine pure_ (i := 10) (N := some 43) (v := ?_) (a' := ?_) #[true, true, true, true, false, true, true, true, true, false, true, false, false, false, false, false, false, false, false] rfl rfl (any_of HT_.out (by kernel_rfl)) (fun _ _ _ h => h) (Or.inl ⟨by rfl, ?_⟩) ?_ ?_
                          rotate_left
                          · intro w'
                            go_simp
                            with_reducible rfl
                          rotate_left
                          · simp only [Act.put, List.setIfInBounds_toArray, List.set_cons_zero, List.set_cons_succ, i64_w, i32_w]
                            rfl
                          refine pure_ (i := 11) (N := some 44) (v := ?_) (a' := ?_) #[true, true, true, true, false, true, true, true, true, false, true, true, false, false, false, false, false, false, false] rfl rfl (any_of HT_.out (by kernel_rfl)) (fun _ _ _ h => h) (Or.inl ⟨by rfl, ?_⟩) ?_ ?_
                          rotate_left
                          · intro w'
                            go_simp
                            with_reducible rfl
                          rotate_left
                          · simp only [Act.put, List.setIfInBounds_toArray, List.set_cons_zero, List.set_cons_succ, i64_w, i32_w]
                            rfl
                          refine pure_ (i := 12) (N := some 45) (v := ?_) (a' := ?_) #[true, true, true, true, false, true, true, true, true, false, true, true, true, false, false, false, false, false, false] rfl rfl (any_of HT_.out (by kernel_rfl)) (fun _ _ _ h => h) (Or.inl ⟨by rfl, ?_⟩) ?_ ?_
                          rotate_left
                          · intro w'
                            go_simp
                            with_reducible rfl
                          rotate_left
                          · simp only [Act.put, List.setIfInBounds_toArray, List.set_cons_zero, List.set_cons_succ, i64_w, i32_w]
                            rfl
                          refine take_ (i := 4) (N := some 37) (v := ?_) (a' := ?_) #[true, true, true, true, true, true, true, true, true, false, true, true, true, false, false, false, false, false, false] rfl rfl (take_ofW HT_.out HW_.out (by kernel_rfl)) (fun _ _ _ h => h) (Or.inl ⟨by rfl, ?_⟩) hHeld ?_ ?_
                          rotate_left
                          · rintro w' ⟨s0, s1, s2, s3, s4, s5⟩
                            go_simp
                            with_reducible rfl
                          rotate_left
                          · simp only [Act.put, List.setIfInBounds_toArray, List.set_cons_zero, List.set_cons_succ, i64_w, i32_w]
                            rfl
                          refine take_ (i := 9) (N := some 42) (v := ?_) (a' := ?_) #[true, true, true, true, true, true, true, true, true, true, true, true, true, false, false, false, false, false, false] rfl rfl (take_ofW HT_.out HW_.out (by kernel_rfl)) (fun _ _ _ h => h) (Or.inl ⟨by rfl, ?_⟩) hHeld ?_ ?_
                          rotate_left
                          · rintro w' ⟨s0, s1, s2, s3, s4, s5⟩
                            go_simp
                            with_reducible rfl
                          rotate_left
                          · simp only [Act.put, List.setIfInBounds_toArray, List.set_cons_zero, List.set_cons_succ, i64_w, i32_w]
                            rfl
                          refine take_ (i := 13) (N := some 46) (v := ?_) (a' := ?_) #[true, true, true, true, true, true, true, true, true, true, true, true, true, true, false, false, false, false, false] rfl rfl (take_ofW HT_.out HW_.out (by kernel_rfl)) (fun _ _ _ h => h) (Or.inl ⟨by rfl, ?_⟩) hHeld ?_ ?_
                          rotate_left
                          · rintro w' ⟨s0, s1, s2, s3, s4, s5⟩
                            go_simp
                            with_reducible rfl
                          rotate_left
                          · simp only [Act.put, List.setIfInBounds_toArray, List.set_cons_zero, List.set_cons_succ, i64_w, i32_w]
                            rfl
                          refine one_ (i := 14) (N := some 47) #[true, true, true, true, true, true, true, true, true, true, true, true, true, true, true, false, false, false, false] rfl rfl (one_of HT_.out (by kernel_rfl)) (by decide) (fun K hK => ?_)
                          refine goesV_ Pick.hE #[.int .i64 ((rd_T65 x8_1 0).f1), .int .i64 ((rd_T65 x9_1 0).f1)] (by rfl) rfl rfl xg ?_
                          with_reducible refine (Pick.calls ((rd_T65 x8_1 0).f1) ((rd_T65 x9_1 0).f1) t322 _ A34.out).mono ?_
                          rintro e w' ⟨rfl, ⟨nd, rfl⟩⟩
                          refine ⟨_, rfl, ?_⟩
                          refine hK.out _ _ ⟨hHeld.1, hHeld.2.1, hHeld.2.2.1, hHeld.2.2.2.1, hHeld.2.2.2.2.1, hHeld.2.2.2.2.2⟩ (fun hHeld => ?_)
                          clear hK K
                          refine norm_ (a' := ?_) ?_ ?_
                          rotate_left
                          · show Act.put _ (some 47) _ = _
                            simp only [Act.put, List.setIfInBounds_toArray, List.set_cons_zero, List.set_cons_succ, i64_w, i32_w]
                            rfl
                          refine pure_ (i := 15) (N := some 48) (v := ?_) (a' := ?_) #[true, true, true, true, true, true, true, true, true, true, true, true, true, true, true, true, false, false, false] rfl rfl (any_of HT_.out (by kernel_rfl)) (fun _ _ _ h => h) (Or.inl ⟨by rfl, ?_⟩) ?_ ?_
                          rotate_left
                          · intro w'
                            go_simp
                            with_reducible rfl
                          rotate_left
                          · simp only [Act.put, List.setIfInBounds_toArray, List.set_cons_zero, List.set_cons_succ, i64_w, i32_w]
                            rfl
                          refine last_ (i := 16) (N := some 49) #[true, true, true, true, true, true, true, true, true, true, true, true, true, true, true, true, true, false, false] rfl rfl (one_of HT_.out (by kernel_rfl)) (by decide) (fun K hK => ?_)
                          refine value_ (w1 := ?_) (v := ?_) (by rfl) rfl ?_ ?_
                          rotate_left 2
                          · go_simp
                            constructor
                            · rfl
                            · rfl
                          refine hK.out _ _ ?_
                          clear hK K
                          refine norm_ (a' := ?_) ?_ ?_
                          rotate_left
                          · show Act.put _ (some 49) _ = _
                            simp only [Act.put, List.setIfInBounds_toArray, List.set_cons_zero, List.set_cons_succ, i64_w, i32_w]
                            rfl
                          refine last_ (i := 17) (N := some 50) #[true, true, true, true, true, true, true, true, true, true, true, true, true, true, true, true, true, true, false] rfl rfl (one_of HT_.out (by kernel_rfl)) (by decide) (fun K hK => ?_)
                          refine Kd.R_append_step k65 (w0 := w) w.heap.size (by rfl) (.tmp 33) (.tmp 49) 25 65 (.agg #[(.int .i64 0), (.int .i64 0)]) 16 rfl Try.underlying25 info65 rfl (by decide) (by omega) u7 x7_1 (⟨(rd_T65 x8_1 0).f0, t322⟩ : S65) [.int .i64 ((rd_T65 x8_1 0).f0), .int .i64 t322] (fun k_ => (w.heap.size ≤ k_)) (fun _ => False) rfl rfl ?aP (fun _ hk => hk.elim) ?aF ?aO ?aB ?aS ?aL ?_
                          (case aP => exact k65_mkM _ _ _ (⟨(rd_T65 x8_1 0).f0, t322⟩ : S65))
                          (case aB => exact xb)
                          (case aF => exact (fun k_ hk => (Nat.le_trans (below_size xb) hk)))
                          (case aO => exact (by (with_reducible repeat (first | apply Kd.R_alloc | apply Kd.R_drewN | apply Kd.R_drew)); exact HO_7.out))
                          (case aS => exact (below_size xb))
                          (case aL => have := LMc35.out; omega)
                          intro v324 w42 ho hb hg hat
                          rw [← Ny323.out] at ho
                          have n0_ := Aside0.mk (Kd.V_afterv (ok := (fun k_ => ((P0_0_ k_ ∨ P1_0_ k_) ∨ w.heap.size ≤ k_) ∧ k_ ≠ gb289 ∧ k_ ≠ gb290 ∧ k_ ≠ gb291)) (by (with_reducible repeat (first | apply Kd.V_alloc | apply Kd.V_drewN | apply Kd.V_drew)); exact Kd.V_mono HO_8.out (fun _ hk => ⟨⟨hk.1, ⟨hk.2.2.1, ⟨hk.2.2.2.1, hk.2.2.2.2⟩⟩⟩, hk.2.1⟩)) hg hat)
                          have n1_ := Aside0.mk (Kd.V_afterv (ok := (fun k_ => ((P0_0_ k_ ∨ P1_0_ k_) ∨ w.heap.size ≤ k_) ∧ k_ ≠ gb289 ∧ k_ ≠ gb290 ∧ k_ ≠ gb291)) (by (with_reducible repeat (first | apply Kd.V_alloc | apply Kd.V_drewN | apply Kd.V_drew)); exact Kd.V_mono HO_9.out (fun _ hk => ⟨⟨hk.1, ⟨hk.2.2.1, ⟨hk.2.2.2.1, hk.2.2.2.2⟩⟩⟩, hk.2.1⟩)) hg hat)
                          have n2_ := Aside0.mk (Kd.V_afterv (ok := (fun k_ => ((P0_0_ k_ ∨ P1_0_ k_) ∨ w.heap.size ≤ k_) ∧ k_ ≠ gb289 ∧ k_ ≠ gb290 ∧ k_ ≠ gb291)) (by (with_reducible repeat (first | apply Kd.V_alloc | apply Kd.V_drewN | apply Kd.V_drew)); exact Kd.V_mono HO_290000.out (fun _ hk => ⟨⟨hk.1, ⟨hk.2.2.1, ⟨hk.2.2.2.1, hk.2.2.2.2⟩⟩⟩, hk.2.1⟩)) hg hat)
                          have n3_ := Aside0.mk (Kd.V_afterv (ok := (fun k_ => ((P0_0_ k_ ∨ P1_0_ k_) ∨ w.heap.size ≤ k_) ∧ k_ ≠ gb289 ∧ k_ ≠ gb290 ∧ k_ ≠ gb291)) (by (with_reducible repeat (first | apply Kd.V_alloc | apply Kd.V_drewN | apply Kd.V_drew)); exact Kd.V_mono HO_291000.out (fun _ hk => ⟨⟨hk.1, ⟨hk.2.2.1, ⟨hk.2.2.2.1, hk.2.2.2.2⟩⟩⟩, hk.2.1⟩)) hg hat)
                          have n4_ := Aside0.mk (blk_grown (g := gb289) (o := .cells #[.slice A0_0 l0_0.length c0_0] 27 (0, 0)) xk hg (Kd.R_ne HO_7.out BK289.out (by decide)))
                          have n5_ := Aside0.mk (blk_grown (g := gb290) (o := .cells #[.slice A1_0 l1_0.length c1_0] 27 (0, 0)) xk hg (Kd.R_ne HO_7.out BK290.out (by decide)))
                          have n6_ := Aside0.mk (blk_grown (g := gb291) (o := .cells #[.slice none 0 0] 27 (0, 0)) xk hg (Kd.R_ne HO_7.out BK291.out (by decide)))
                          have n7_ := Aside0.mk (hb)
                          have n8_ := Aside0.mk (ho)
                          clear HO_8
                          clear HO_9
                          clear HO_290000
                          clear HO_291000
                          clear BK289
                          clear BK290
                          clear BK291
                          clear HB
                          clear HO_7
                          have HO_8 := n0_
                          have HO_9 := n1_
                          have HO_290000 := n2_
                          have HO_291000 := n3_
                          have BK289 := n4_
                          have BK290 := n5_
                          have BK291 := n6_
                          have HB := n7_
                          have HO325 := n8_
                          clear n0_ n1_ n2_ n3_ n4_ n5_ n6_ n7_ n8_
                          clear ho hb hg hat
                          refine hK.out _ _ ?_
                          clear hK K
                          refine norm_ (a' := ?_) ?_ ?_
                          rotate_left
                          · show Act.put _ (some 50) _ = _
                            simp only [Act.put, List.setIfInBounds_toArray, List.set_cons_zero, List.set_cons_succ, i64_w, i32_w]
                            rfl
                          refine pure_ (i := 18) (N := some 7) (v := ?_) (a' := ?_) #[true, true, true, true, true, true, true, true, true, true, true, true, true, true, true, true, true, true, true] rfl rfl (any_of HT_.out (by kernel_rfl)) (fun _ _ _ h => h) (Or.inl ⟨by rfl, ?_⟩) ?_ ?_
                          rotate_left
                          · intro w'
                            go_simp
                            with_reducible rfl
                          rotate_left
                          · simp only [Act.put, List.setIfInBounds_toArray, List.set_cons_zero, List.set_cons_succ, i64_w, i32_w]
                            rfl
                          refine done_ (done_of HT_.out (by kernel_rfl)) ?_
                          try go_wp2
                          have n0_ := Aside0.mk (Kd.V_drew HO_8.out)
                          have n1_ := Aside0.mk (Kd.V_drew HO_9.out)
                          have n2_ := Aside0.mk (Kd.V_drew HO_290000.out)
                          have n3_ := Aside0.mk (Kd.V_drew HO_291000.out)
                          have n4_ := Aside0.mk (Kd.R_drew HO325.out)
                          have n5_ := Aside0.mk (blk_drew BK289.out)
                          have n6_ := Aside0.mk (blk_drew BK290.out)
                          have n7_ := Aside0.mk (blk_drew BK291.out)
                          have n8_ := Aside0.mk (below_drew1 HB.out)
                          clear HO_8
                          clear HO_9
                          clear HO_290000
                          clear HO_291000
                          clear HO325
                          clear BK289
                          clear BK290
                          clear BK291
                          clear HB
                          have HO_8 := n0_
                          have HO_9 := n1_
                          have HO_290000 := n2_
                          have HO_291000 := n3_
                          have HO325 := n4_
                          have BK289 := n5_
                          have BK290 := n6_
                          have BK291 := n7_
                          have HB := n8_
                          clear n0_ n1_ n2_ n3_ n4_ n5_ n6_ n7_ n8_
                          have q44 : (1 : Int) ≤ ((x8_1.length : Int) : Int) := of_decide_eq_true (by first | (with_reducible assumption) | assumption)
                          obtain ⟨i044, hi044, _, hsz44, _⟩ := info_parts info65
                          have hroom44 : x8_1.length ≤ co39 := (Kd.V_reads' HO_8.out).2.1
                          have hC44 : Kd.F k65 _ _ (some ad298) x8_1.length x8_1 := (Kd.V_at (base := w.heap.size) HO_8.out).2.2
                          have hcut44 := cut_from (P := Try.prog) 25 65 .i64 Try.underlying25 hi044 2 hsz44 (some ad298) x8_1.length co39 1 (by omega) q44
                          have hr44 := Kd.F_cut (m := (1 : Int).toNat) (c := co39) hC44 (by omega) hroom44
                          obtain ⟨A44, hA44⟩ : ∃ A1, A1 = (if co39 = (1 : Int).toNat then (some ad298) else ((some ad298) : Option Addr).map (·.add ((1 : Int).toNat * 2))) := ⟨_, rfl⟩
                          obtain ⟨c44, hc44⟩ : ∃ c1, c1 = co39 - (1 : Int).toNat := ⟨_, rfl⟩
                          have hy44 : y326.length = x8_1.length - (1 : Int).toNat := (by rw [Ny326.out, List.length_drop] <;> omega)
                          rw [show (x8_1).drop (1 : Int).toNat = y326 from Ny326.out.symm] at hr44
                          replace hr44 : Kd.F k65 _ _ A44 y326.length y326 := (by rw [hA44]; exact hr44)
                          rw [← hy44, ← hA44, ← hc44] at hcut44
                          have HO330 := Aside0.mk (show Kd.V k65 65 _ w.heap.size _ (.slice A44 y326.length c44) y326 from Kd.V_mk (by rw [hy44, hc44]; exact Nat.sub_le_sub_right hroom44 _) hr44)
                          have HC330 := Aside0.mk (show y326.length ≤ c44 from by rw [hy44, hc44]; exact Nat.sub_le_sub_right hroom44 _)
                          clear hr44 hC44 hroom44 hi044 hsz44 hc44
                          have KY44 := Aside0.mk hy44
                          have KA44 := Aside0.mk hA44
                          clear hy44 hA44
                          replace q44 := eq_true q44
                          have q45 : (1 : Int) ≤ ((x9_1.length : Int) : Int) := of_decide_eq_true (by first | (with_reducible assumption) | assumption)
                          obtain ⟨i045, hi045, _, hsz45, _⟩ := info_parts info65
                          have hroom45 : x9_1.length ≤ co40 := (Kd.V_reads' HO_9.out).2.1
                          have hC45 : Kd.F k65 _ _ (some ad299) x9_1.length x9_1 := (Kd.V_at (base := w.heap.size) HO_9.out).2.2
                          have hcut45 := cut_from (P := Try.prog) 25 65 .i64 Try.underlying25 hi045 2 hsz45 (some ad299) x9_1.length co40 1 (by omega) q45
                          have hr45 := Kd.F_cut (m := (1 : Int).toNat) (c := co40) hC45 (by omega) hroom45
                          obtain ⟨A45, hA45⟩ : ∃ A1, A1 = (if co40 = (1 : Int).toNat then (some ad299) else ((some ad299) : Option Addr).map (·.add ((1 : Int).toNat * 2))) := ⟨_, rfl⟩
                          obtain ⟨c45, hc45⟩ : ∃ c1, c1 = co40 - (1 : Int).toNat := ⟨_, rfl⟩
                          have hy45 : y331.length = x9_1.length - (1 : Int).toNat := (by rw [Ny331.out, List.length_drop] <;> omega)
                          rw [show (x9_1).drop (1 : Int).toNat = y331 from Ny331.out.symm] at hr45
                          replace hr45 : Kd.F k65 _ _ A45 y331.length y331 := (by rw [hA45]; exact hr45)
                          rw [← hy45, ← hA45, ← hc45] at hcut45
                          have HO335 := Aside0.mk (show Kd.V k65 65 _ w.heap.size _ (.slice A45 y331.length c45) y331 from Kd.V_mk (by rw [hy45, hc45]; exact Nat.sub_le_sub_right hroom45 _) hr45)
                          have HC335 := Aside0.mk (show y331.length ≤ c45 from by rw [hy45, hc45]; exact Nat.sub_le_sub_right hroom45 _)
                          clear hr45 hC45 hroom45 hi045 hsz45 hc45
                          have KY45 := Aside0.mk hy45
                          have KA45 := Aside0.mk hA45
                          clear hy45 hA45
                          replace q45 := eq_true q45
                          refine start_ (n := 6) (S := fun w' => True) (ds := []) #[false, false, false, false, false, false] (by kernel_rfl) rfl rfl trivial (fun hHeld => ?_)
                          generalize w42.drew = w43 at HO_8 HO_9 HO_290000 HO_291000 HO325 BK289 BK290 BK291 HB HO330 HO335 hHeld ⊢
                          refine pure_ (i := 0) (N := some 51) (v := ?_) (a' := ?_) #[true, false, false, false, false, false] rfl rfl (by kernel_rfl) (fun _ _ _ h => h) (Or.inl ⟨by rfl, ?_⟩) ?_ ?_
                          rotate_left
                          · intro w'
                            go_simp
                            with_reducible rfl
                          rotate_left
                          · simp only [Act.put, List.setIfInBounds_toArray, List.set_cons_zero, List.set_cons_succ, i64_w, i32_w]
                            rfl
                          refine pure_ (i := 1) (N := some 52) (v := ?_) (a' := ?_) #[true, true, false, false, false, false] rfl rfl (by kernel_rfl) (fun _ _ _ h => h) (Or.inl ⟨by rfl, ?_⟩) ?_ ?_
                          rotate_left
                          · intro w'
                            go_simp
                            with_reducible rfl
                          rotate_left
                          · simp only [Act.put, List.setIfInBounds_toArray, List.set_cons_zero, List.set_cons_succ, i64_w, i32_w]
                            rfl
                          refine pure_ (i := 2) (N := some 53) (v := ?_) (a' := ?_) #[true, true, true, false, false, false] rfl rfl (by kernel_rfl) (fun _ _ _ h => h) (Or.inl ⟨by rfl, ?_⟩) ?_ ?_
                          rotate_left
                          · intro w'
                            go_simp
                            with_reducible rfl
                          rotate_left
                          · simp only [Act.put, List.setIfInBounds_toArray, List.set_cons_zero, List.set_cons_succ, i64_w, i32_w]
                            rfl
                          refine pure_ (i := 3) (N := some 54) (v := ?_) (a' := ?_) #[true, true, true, true, false, false] rfl rfl (by kernel_rfl) (fun _ _ _ h => h) (Or.inl ⟨by rfl, ?_⟩) ?_ ?_
                          rotate_left
                          · intro w'
                            go_simp
                            with_reducible rfl
                          rotate_left
                          · simp only [Act.put, List.setIfInBounds_toArray, List.set_cons_zero, List.set_cons_succ, i64_w, i32_w]
                            rfl
                          refine pure_ (i := 4) (N := some 8) (v := ?_) (a' := ?_) #[true, true, true, true, true, false] rfl rfl (by kernel_rfl) (fun _ _ _ h => h) (Or.inl ⟨by rfl, ?_⟩) ?_ ?_
                          rotate_left
                          · intro w'
                            go_simp
                            with_reducible rfl
                          rotate_left
                          · simp only [Act.put, List.setIfInBounds_toArray, List.set_cons_zero, List.set_cons_succ, i64_w, i32_w]
                            rfl
                          refine pure_ (i := 5) (N := some 9) (v := ?_) (a' := ?_) #[true, true, true, true, true, true] rfl rfl (by kernel_rfl) (fun _ _ _ h => h) (Or.inl ⟨by rfl, ?_⟩) ?_ ?_
                          rotate_left
                          · intro w'
                            go_simp
                            with_reducible rfl
                          rotate_left
                          · simp only [Act.put, List.setIfInBounds_toArray, List.set_cons_zero, List.set_cons_succ, i64_w, i32_w]
                            rfl
                          refine done_ (by kernel_rfl) ?_
                          try go_wp2
                          go_roundg kj6
                          case measure => have := HK1.out; have := HJ6.out; omega
                          case rel => exact ⟨(y323), (y326), (y331), H', ⟨by have := HK1.out; have := HJ6.out; omega⟩, ⟨by (with_reducible repeat (first | apply Kd.R_alloc | apply Kd.R_drewN | apply Kd.R_drew)); exact HO325.out⟩, ⟨by (with_reducible repeat (first | apply Kd.V_alloc | apply Kd.V_drewN | apply Kd.V_drew)); exact Kd.V_mono HO330.out (fun _ hk => ⟨hk.1.1, ⟨hk.2, ⟨hk.1.2.1, ⟨hk.1.2.2.1, hk.1.2.2.2⟩⟩⟩⟩)⟩, ⟨by (with_reducible repeat (first | apply Kd.V_alloc | apply Kd.V_drewN | apply Kd.V_drew)); exact Kd.V_mono HO335.out (fun _ hk => ⟨hk.1.1, ⟨hk.2, ⟨hk.1.2.1, ⟨hk.1.2.2.1, hk.1.2.2.2⟩⟩⟩⟩)⟩, ⟨by (with_reducible repeat (first | apply Kd.V_alloc | apply Kd.V_drewN | apply Kd.V_drew)); exact Kd.V_mono HO_290000.out (fun _ hk => ⟨hk.1.1, ⟨hk.2, ⟨hk.1.2.1, ⟨hk.1.2.2.1, hk.1.2.2.2⟩⟩⟩⟩)⟩, ⟨by (with_reducible repeat (first | apply Kd.V_alloc | apply Kd.V_drewN | apply Kd.V_drew)); exact Kd.V_mono HO_291000.out (fun _ hk => ⟨hk.1.1, ⟨hk.2, ⟨hk.1.2.1, ⟨hk.1.2.2.1, hk.1.2.2.2⟩⟩⟩⟩)⟩, ⟨xk⟩, ⟨xk⟩, ⟨xk⟩, ⟨xb⟩⟩
                        · rw [if_neg c37] at H
                          exact absurd H (by simp)
                      · rw [if_neg c36] at H
                        exact absurd H (by simp)
                    · rw [if_neg c35] at H
                      exact absurd H (by simp)
              · rw [if_neg c14] at H
                exact absurd H (by simp)
            · rw [if_neg c13] at H
              exact absurd H (by simp)
          · replace c12 := Bool.eq_false_iff.mpr c12
            subst c12
            have H1 : ((cracknellaw14_Int_int_30.f kj6 (([x7_1, x8_1, x9_1] : List (List (S65))))).bind fun t295 => (some t295)) = some r := by rw [if_neg (show ¬ (false = true) by decide)] at H; exact H
            clear H
            have H := H1
            clear H1
            obtain ⟨y292, hy292⟩ : ∃ y_ : List (List (S65)), y_ = (([x7_1, x8_1, x9_1] : List (List (S65)))) := ⟨_, rfl⟩
            replace H : ((cracknellaw14_Int_int_30.f kj6 y292).bind fun t295 => (some t295)) = some r := by first | (rw [hy292]; with_reducible exact H) | (have H2_ := (Option.bind_some _ _).symm.trans H; rw [hy292]; with_reducible exact H2_) | (have H2_ := (Option.bind_some _ _).symm.trans H; with_reducible exact H2_) | with_reducible exact H | (rw [hy292]; exact H) | exact H
            have Ny292 := Aside0.mk hy292
            clear hy292
            replace H := Option.bind_eq_some_iff.mp H
            obtain ⟨t295, A460, H⟩ := H
            replace H : (some t295) = some r := H
            have A46 := Aside0.mk A460
            clear A460
            obtain rfl := Option.some.inj H
            obtain ⟨Ao47, co47, eo47⟩ := Kd.R_slice HO_7.out
            subst eo47
            obtain ⟨Ao48, co48, eo48⟩ := Kd.V_slice HO_8.out
            subst eo48
            obtain ⟨Ao49, co49, eo49⟩ := Kd.V_slice HO_9.out
            subst eo49
            go_wp2_with (first | ((with_reducible refine gate_dst (N := 80) rfl ?_); (try (refine gate_guard (by rfl) ?_; dsimp only)); refine Kd.N_lit (Kd.slice 65 k65) _ 25 ?hg (N' := 80) ?hd (xs := ([x7_1, x8_1, x9_1] : List (List (S65)))) (inner := [.slice Ao47 x7_1.length co47, .slice Ao48 x8_1.length co48, .slice Ao49 x9_1.length co49]) (ok := (fun k_ => ((P0_0_ k_ ∨ P1_0_ k_) ∨ w.heap.size ≤ k_) ∧ k_ ≠ gb289 ∧ k_ ≠ gb290 ∧ k_ ≠ gb291)) (okp := (fun k_ => ((P0_0_ k_ ∨ P1_0_ k_) ∨ w.heap.size ≤ k_) ∧ k_ ≠ gb289 ∧ k_ ≠ gb290 ∧ k_ ≠ gb291)) ?hr ?hp (fun _ hk => hk) ((show ∀ k_, wc.heap.size ≤ k_ → (fun k_ => ((P0_0_ k_ ∨ P1_0_ k_) ∨ w.heap.size ≤ k_) ∧ k_ ≠ gb289 ∧ k_ ≠ gb290 ∧ k_ ≠ gb291) k_ from fun k_ hk => ⟨(.inr (Nat.le_trans (below_size xb) hk)), Kd.freshB (g := gb289) (o := .cells #[.slice A0_0 l0_0.length c0_0] 27 (0, 0)) xk k_ hk, Kd.freshB (g := gb290) (o := .cells #[.slice A1_0 l1_0.length c1_0] 27 (0, 0)) xk k_ hk, Kd.freshB (g := gb291) (o := .cells #[.slice none 0 0] 27 (0, 0)) xk k_ hk⟩) _ (Nat.le_refl _)) (Below.refl _ _) (Nat.le_refl _) (by simp) ?_; (case hd => rfl); (case hg => rfl); (case hr => first | (go_simp; done) | (go_simp; rfl)); (case hp => exact (Reps.one (show Kd.FK (Kd.slice 65 k65) _ _ x7_1 [.slice Ao47 x7_1.length co47] from (Kd.FK_slice_mk (Kd.R_reads' (Kd.R_mono (ok' := (fun k_ => ((P0_0_ k_ ∨ P1_0_ k_) ∨ w.heap.size ≤ k_) ∧ k_ ≠ gb289 ∧ k_ ≠ gb290 ∧ k_ ≠ gb291)) (Kd.R_types (Kd.R_types (Kd.R_types (HO_7.out) BK289.out (by decide)) BK290.out (by decide)) BK291.out (by decide)) (fun k_ hk => ⟨(.inr (hk.1.1.1)), ⟨hk.1.1.2, ⟨hk.1.2, hk.2⟩⟩⟩))).2.1 (Kd.R_F (Kd.R_mono (ok' := (fun k_ => ((P0_0_ k_ ∨ P1_0_ k_) ∨ w.heap.size ≤ k_) ∧ k_ ≠ gb289 ∧ k_ ≠ gb290 ∧ k_ ≠ gb291)) (Kd.R_types (Kd.R_types (Kd.R_types (HO_7.out) BK289.out (by decide)) BK290.out (by decide)) BK291.out (by decide)) (fun k_ hk => ⟨(.inr (hk.1.1.1)), ⟨hk.1.1.2, ⟨hk.1.2, hk.2⟩⟩⟩))))) (Reps.one (show Kd.FK (Kd.slice 65 k65) _ _ x8_1 [.slice Ao48 x8_1.length co48] from (Kd.FK_slice_mk (Kd.V_reads' (Kd.V_mono (ok' := (fun k_ => ((P0_0_ k_ ∨ P1_0_ k_) ∨ w.heap.size ≤ k_) ∧ k_ ≠ gb289 ∧ k_ ≠ gb290 ∧ k_ ≠ gb291)) (HO_8.out) (fun k_ hk => ⟨hk.1, ⟨hk.2.2.1, ⟨hk.2.2.2.1, hk.2.2.2.2⟩⟩⟩))).2.1 (Kd.V_F (Kd.V_mono (ok' := (fun k_ => ((P0_0_ k_ ∨ P1_0_ k_) ∨ w.heap.size ≤ k_) ∧ k_ ≠ gb289 ∧ k_ ≠ gb290 ∧ k_ ≠ gb291)) (HO_8.out) (fun k_ hk => ⟨hk.1, ⟨hk.2.2.1, ⟨hk.2.2.2.1, hk.2.2.2.2⟩⟩⟩))))) (Reps.one (show Kd.FK (Kd.slice 65 k65) _ _ x9_1 [.slice Ao49 x9_1.length co49] from (Kd.FK_slice_mk (Kd.V_reads' (Kd.V_mono (ok' := (fun k_ => ((P0_0_ k_ ∨ P1_0_ k_) ∨ w.heap.size ≤ k_) ∧ k_ ≠ gb289 ∧ k_ ≠ gb290 ∧ k_ ≠ gb291)) (HO_9.out) (fun k_ hk => ⟨hk.1, ⟨hk.2.2.1, ⟨hk.2.2.2.1, hk.2.2.2.2⟩⟩⟩))).2.1 (Kd.V_F (Kd.V_mono (ok' := (fun k_ => ((P0_0_ k_ ∨ P1_0_ k_) ∨ w.heap.size ≤ k_) ∧ k_ ≠ gb289 ∧ k_ ≠ gb290 ∧ k_ ≠ gb291)) (HO_9.out) (fun k_ hk => ⟨hk.1, ⟨hk.2.2.1, ⟨hk.2.2.2.1, hk.2.2.2.2⟩⟩⟩))))) (Reps.none _ _))))); intro v293 w50 ho51 hb hg_ hnew_; clear hg_ hnew_; (first | rw [← Ny292.out] at ho51 | (simp only [Int.reduceToNat] at ho51; rw [← Ny292.out] at ho51)); have n0_ := Aside0.mk (Kd.V_elder' (by (with_reducible repeat (first | apply Kd.V_alloc | apply Kd.V_drewN | apply Kd.V_drew)); exact HO_8.out) (Kd.N_base ho51) hb); have n1_ := Aside0.mk (Kd.V_elder' (by (with_reducible repeat (first | apply Kd.V_alloc | apply Kd.V_drewN | apply Kd.V_drew)); exact HO_9.out) (Kd.N_base ho51) hb); have n2_ := Aside0.mk (Kd.V_elder' (by (with_reducible repeat (first | apply Kd.V_alloc | apply Kd.V_drewN | apply Kd.V_drew)); exact HO_290000.out) (Kd.N_base ho51) hb); have n3_ := Aside0.mk (Kd.V_elder' (by (with_reducible repeat (first | apply Kd.V_alloc | apply Kd.V_drewN | apply Kd.V_drew)); exact HO_291000.out) (Kd.N_base ho51) hb); have n4_ := Aside0.mk (Kd.N_lower ho51 (below_size xb)); have n5_ := blkB BK289 hb; have n6_ := blkB BK290 hb; have n7_ := blkB BK291 hb; have n8_ := Aside0.mk (below_step xb hb); clear HO_8; clear HO_9; clear HO_290000; clear HO_291000; clear BK289; clear BK290; clear BK291; clear HB; clear HO_7; have HO_8 := n0_; have HO_9 := n1_; have HO_290000 := n2_; have HO_291000 := n3_; have HO294 := n4_; have BK289 := n5_; have BK290 := n6_; have BK291 := n7_; have HB := n8_; clear n0_ n1_ n2_ n3_ n4_ n5_ n6_ n7_ n8_; clear hb ho51; obtain ⟨Ao52, co52, eo52⟩ := Kd.N_slice HO294.out; subst eo52) | ((with_reducible refine gate_callee (f := 30) rfl ?_); refine goesL_ (some 81) rfl rfl Try.func30 (by kernel_rfl) rfl #[.slice Ao52 y292.length co52] rfl xg ?_; (with_reducible refine (cracknellaw14_Int_int_30.calls kj6 _ _ y292 t295 _ ?side1 ?side2 A46.out).mono ?_); (case side1 => repeat (first | exact (Kd.N_reads' HO294.out).2.2 | (with_reducible refine Kd.C_alloc ?_ _) | (with_reducible refine Kd.C_drewN ?_ _) | (with_reducible refine Kd.C_drew ?_))); (case side2 => exact (Kd.N_reads' HO294.out).2.1); rintro e w53 ⟨v296, rfl, ho0, hb⟩; refine ⟨_, rfl, ?_⟩; have n0_ := Aside0.mk (Kd.V_elder' (by (with_reducible repeat (first | apply Kd.V_alloc | apply Kd.V_drewN | apply Kd.V_drew)); exact HO_8.out) (Kd.R_base ho0) hb); have n1_ := Aside0.mk (Kd.V_elder' (by (with_reducible repeat (first | apply Kd.V_alloc | apply Kd.V_drewN | apply Kd.V_drew)); exact HO_9.out) (Kd.R_base ho0) hb); have n2_ := Aside0.mk (Kd.V_elder' (by (with_reducible repeat (first | apply Kd.V_alloc | apply Kd.V_drewN | apply Kd.V_drew)); exact HO_290000.out) (Kd.R_base ho0) hb); have n3_ := Aside0.mk (Kd.V_elder' (by (with_reducible repeat (first | apply Kd.V_alloc | apply Kd.V_drewN | apply Kd.V_drew)); exact HO_291000.out) (Kd.R_base ho0) hb); have n4_ := Aside0.mk (Kd.N_elder' (by (with_reducible repeat (first | apply Kd.N_alloc | apply Kd.N_drewN | apply Kd.N_drew)); exact HO294.out) (Kd.R_base ho0) hb); have n5_ := Aside0.mk (Kd.R_lower (Kd.R_newM (M := fun k_ => (w.heap.size ≤ k_)) ho0 (below_size xb) (fun k_ h_ => h_)) (below_size xb)); have n6_ := blkB BK289 hb; have n7_ := blkB BK290 hb; have n8_ := blkB BK291 hb; have n9_ := Aside0.mk (below_step xb hb); clear HO_8; clear HO_9; clear HO_290000; clear HO_291000; clear HO294; clear BK289; clear BK290; clear BK291; clear HB; have HO_8 := n0_; have HO_9 := n1_; have HO_290000 := n2_; have HO_291000 := n3_; have HO294 := n4_; have HO297 := n5_; have BK289 := n6_; have BK290 := n7_; have BK291 := n8_; have HB := n9_; clear n0_ n1_ n2_ n3_ n4_ n5_ n6_ n7_ n8_ n9_; (try clear hb); (try clear hb2); (try clear hk); (try clear hi); (try clear ho0); obtain ⟨Ao54, co54, eo54⟩ := Kd.R_slice HO297.out; subst eo54; have hnb55 := NB291_289.out; have hnc55 := NB289_291.out; have hnb56 := NB291_290.out; have hnc56 := NB290_291.out; have hcz57_0 : w53.cell? ⟨gb291, 0, none⟩ = some (.slice none 0 0) := (blk_cell BK291.out 0).trans rfl; have hfz57_0 := blk_frozen BK291.out 0))
            refine bodyPost_ret (results_cell_row rfl _ _ gb291 27 #[.slice Ao54 t295.length co54] (0, 0) _ rfl xk Try.underlying27 rfl (by kernel_rfl)) rfl ?_
            exact ⟨_, by first | rfl | (simp [errW_none, errW_some] <;> rfl) | (simp [*, errW_none, errW_some] <;> rfl), by (with_reducible repeat (first | apply Kd.R_alloc | apply Kd.R_drewN | apply Kd.R_drew)); exact Kd.R_mono (Kd.R_far (p := ⟨gb291, 0, none⟩) (Kd.R_types HO297.out BK291.out (by decide)) (fun _ hk => hk.2) (.slice Ao54 t295.length co54)) (fun _ hk => hk.1.1), by repeat (first | (with_reducible first | exact HB.out | apply below_alloc | apply pw_below_drewN | apply below_drew1 | refine below_set ?_ GE289.out | refine below_set ?_ GE290.out | refine below_set ?_ GE291.out) | exact HB.out)⟩

end
abbrev cracknellaw14_Int_int_21_19.f := @cracknellaw14_Int_int_21.f pick_19
theorem cracknellaw14_Int_int_21_19.mono : type_of% (@cracknellaw14_Int_int_21.mono pick_19) := @cracknellaw14_Int_int_21.mono pick_19
theorem cracknellaw14_Int_int_21_19.calls : ∀ (k : Nat) (P0_0_ : Nat → Prop) (A0_0 : Option Addr) (c0_0 : Nat) (l0_0 : List (S65)) (P1_0_ : Nat → Prop) (A1_0 : Option Addr) (c1_0 : Nat) (l1_0 : List (S65)) (r : List (S65)) (w : World) (hs0_0 : Kd.V k65 65 w w.heap.size (fun k_ => P0_0_ k_) (.slice A0_0 l0_0.length c0_0) l0_0) (hs1_0 : Kd.V k65 65 w w.heap.size (fun k_ => P1_0_ k_) (.slice A1_0 l1_0.length c1_0) l1_0) (h : cracknellaw14_Int_int_21_19.f k l0_0 l1_0 = some r),
    Calls Try.prog 21 #[.agg #[.slice A0_0 l0_0.length c0_0], .agg #[.slice A1_0 l1_0.length c1_0], .func (.func 19) #[] #[]] w fun e w' => ∃ v0_ : Value, e = .returned (.agg #[v0_]) ∧ Kd.R k65 65 w' w.heap.size (fun k_ => (w.heap.size ≤ k_)) v0_ r ∧ Below w.heap.size w w' := @cracknellaw14_Int_int_21.calls pick_19
abbrev cracknellaw14_Int_int_21_22.f := @cracknellaw14_Int_int_21.f pick_22
theorem cracknellaw14_Int_int_21_22.mono : type_of% (@cracknellaw14_Int_int_21.mono pick_22) := @cracknellaw14_Int_int_21.mono pick_22
theorem cracknellaw14_Int_int_21_22.calls : ∀ (k : Nat) (P0_0_ : Nat → Prop) (A0_0 : Option Addr) (c0_0 : Nat) (l0_0 : List (S65)) (P1_0_ : Nat → Prop) (A1_0 : Option Addr) (c1_0 : Nat) (l1_0 : List (S65)) (r : List (S65)) (w : World) (hs0_0 : Kd.V k65 65 w w.heap.size (fun k_ => P0_0_ k_) (.slice A0_0 l0_0.length c0_0) l0_0) (hs1_0 : Kd.V k65 65 w w.heap.size (fun k_ => P1_0_ k_) (.slice A1_0 l1_0.length c1_0) l1_0) (h : cracknellaw14_Int_int_21_22.f k l0_0 l1_0 = some r),
    Calls Try.prog 21 #[.agg #[.slice A0_0 l0_0.length c0_0], .agg #[.slice A1_0 l1_0.length c1_0], .func (.func 22) #[] #[]] w fun e w' => ∃ v0_ : Value, e = .returned (.agg #[v0_]) ∧ Kd.R k65 65 w' w.heap.size (fun k_ => (w.heap.size ≤ k_)) v0_ r ∧ Below w.heap.size w w' := @cracknellaw14_Int_int_21.calls pick_22

end Go.Proofs.Ytmpccjkdfdgedaa.Print
