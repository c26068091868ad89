/- Printed by a program of this claim's session (xprint.py): the machine's side: each Go function as a Lean function, and that a call of it comes to what that tells; the row of a statement. No condition. -/
import Derived.Test.YtpcakfldmcfhlaaDoorPrint0
import Derived.Test.YtpcakfldmcfhlaaDoorPrint11
import Derived.Test.YtpcakfldmcfhlaaDoorPrint15
namespace Go.Proofs.YtpcakfldmcfhlaaDoor.Print
open Go.RowKit Go.Proofs.YtpcakfldmcfhlaaDoorW.PrintWords Go.Proofs.YtpcakfldmcfhlaaDoorW.PrintLast Go.Proofs.YtpcakfldmcfhlaaDoorW.PrintMore
attribute [local go_sem] max2_int min2_int max_two min_two max_three min_three max_four min_four   -- for this text's walks alone
set_option linter.unusedVariables false
set_option linter.unusedSimpArgs false

/-! ### cracknelref13_Sends: function 21 -/
mutual
def cracknelref13_Sends.j0 : Nat → Int → Bool → ByteArray → ByteArray → ByteArray → ByteArray → Int → Int → Int → Bool → Bool → Bool → Int → Bool → ByteArray → ByteArray → Option (Bool)
  | 0, _, _, _, _, _, _, _, _, _, _, _, _, _, _, _, _ => none
  | k + 1, x2, x15, x425000, x425001, x425002, x425003, x425004, x425005, x425006, x425007, x425008, x425009, x425010, x426000, x426001, x426002 => if x15 = true then (some false) else (if x425007 = true then (cracknelref13_Sends.j1 k x2 false x425000 x425001 x425002 x425003 x425004 x425005 x425006 x425007 x425008 x425009 x425010 x426000 x426001 x426002) else ((cracknelref11_Match.f k x426001 x425000).bind fun t426 => (cracknelref13_Sends.j1 k x2 (!t426) x425000 x425001 x425002 x425003 x425004 x425005 x425006 x425007 x425008 x425009 x425010 x426000 x426001 x426002)))
def cracknelref13_Sends.j1 : Nat → Int → Bool → ByteArray → ByteArray → ByteArray → ByteArray → Int → Int → Int → Bool → Bool → Bool → Int → Bool → ByteArray → ByteArray → Option (Bool)
  | 0, _, _, _, _, _, _, _, _, _, _, _, _, _, _, _, _ => none
  | k + 1, x2, x26, x425000, x425001, x425002, x425003, x425004, x425005, x425006, x425007, x425008, x425009, x425010, x426000, x426001, x426002 => if x26 = true then (some false) else (if x425008 = true then (cracknelref13_Sends.j2 k x2 (!x426000) x425000 x425001 x425002 x425003 x425004 x425005 x425006 x425007 x425008 x425009 x425010 x426000 x426001 x426002) else (cracknelref13_Sends.j2 k x2 false x425000 x425001 x425002 x425003 x425004 x425005 x425006 x425007 x425008 x425009 x425010 x426000 x426001 x426002))
def cracknelref13_Sends.j2 : Nat → Int → Bool → ByteArray → ByteArray → ByteArray → ByteArray → Int → Int → Int → Bool → Bool → Bool → Int → Bool → ByteArray → ByteArray → Option (Bool)
  | 0, _, _, _, _, _, _, _, _, _, _, _, _, _, _, _, _ => none
  | k + 1, x2, x33, x425000, x425001, x425002, x425003, x425004, x425005, x425006, x425007, x425008, x425009, x425010, x426000, x426001, x426002 => if x33 = true then (some false) else ((cracknelref13_Live.f x425000 x425001 x425002 x425003 x425004 x425005 x425006 x425007 x425008 x425009 x425010 x2).bind fun t427 => (if t427 = true then ((cracknelref12_Match.f x426002 x425001).bind fun t428 => (some t428)) else (some false)))
end
def cracknelref13_Sends.f (k : Nat) (a0_0 : ByteArray) (a0_1 : ByteArray) (a0_2 : ByteArray) (a0_3 : ByteArray) (a0_4 : Int) (a0_5 : Int) (a0_6 : Int) (a0_7 : Bool) (a0_8 : Bool) (a0_9 : Bool) (a0_10 : Int) (a1_0 : Bool) (a1_1 : ByteArray) (a1_2 : ByteArray) (a2 : Int) : Option (Bool) := if a0_7 = true then (cracknelref13_Sends.j0 k a2 (a1_1.toList != a0_0.toList) a0_0 a0_1 a0_2 a0_3 a0_4 a0_5 a0_6 a0_7 a0_8 a0_9 a0_10 a1_0 a1_1 a1_2) else (cracknelref13_Sends.j0 k a2 false a0_0 a0_1 a0_2 a0_3 a0_4 a0_5 a0_6 a0_7 a0_8 a0_9 a0_10 a1_0 a1_1 a1_2)
theorem cracknelref13_Sends.mono_l : ∀ k, (∀ y0 y1 y2 y3 y4 y5 y6 y7 y8 y9 y10 y11 y12 y13 y14 y15, LeO (cracknelref13_Sends.j0 k y0 y1 y2 y3 y4 y5 y6 y7 y8 y9 y10 y11 y12 y13 y14 y15) (cracknelref13_Sends.j0 (k + 1) y0 y1 y2 y3 y4 y5 y6 y7 y8 y9 y10 y11 y12 y13 y14 y15)) ∧ (∀ y0 y1 y2 y3 y4 y5 y6 y7 y8 y9 y10 y11 y12 y13 y14 y15, LeO (cracknelref13_Sends.j1 k y0 y1 y2 y3 y4 y5 y6 y7 y8 y9 y10 y11 y12 y13 y14 y15) (cracknelref13_Sends.j1 (k + 1) y0 y1 y2 y3 y4 y5 y6 y7 y8 y9 y10 y11 y12 y13 y14 y15)) ∧ (∀ y0 y1 y2 y3 y4 y5 y6 y7 y8 y9 y10 y11 y12 y13 y14 y15, LeO (cracknelref13_Sends.j2 k y0 y1 y2 y3 y4 y5 y6 y7 y8 y9 y10 y11 y12 y13 y14 y15) (cracknelref13_Sends.j2 (k + 1) y0 y1 y2 y3 y4 y5 y6 y7 y8 y9 y10 y11 y12 y13 y14 y15))
  | 0 => ⟨fun _ _ _ _ _ _ _ _ _ _ _ _ _ _ _ _ r h => by simp [cracknelref13_Sends.j0] at h, fun _ _ _ _ _ _ _ _ _ _ _ _ _ _ _ _ r h => by simp [cracknelref13_Sends.j1] at h, fun _ _ _ _ _ _ _ _ _ _ _ _ _ _ _ _ r h => by simp [cracknelref13_Sends.j2] at h⟩
  | k + 1 => by
    obtain ⟨ih0, ih1, ih2⟩ := cracknelref13_Sends.mono_l k
    refine ⟨?_, ?_, ?_⟩
    · intro y0 y1 y2 y3 y4 y5 y6 y7 y8 y9 y10 y11 y12 y13 y14 y15
      unfold cracknelref13_Sends.j0
      repeat' first
      | (with_reducible exact ih0 _ _ _ _ _ _ _ _ _ _ _ _ _ _ _ _)
      | (with_reducible exact ih1 _ _ _ _ _ _ _ _ _ _ _ _ _ _ _ _)
      | (with_reducible exact ih2 _ _ _ _ _ _ _ _ _ _ _ _ _ _ _ _)
      | (with_reducible exact cracknelref11_Match.mono _ _ _)
      | (with_reducible exact LeO.refl _)
      | (with_reducible exact LeO.none _)
      | (with_reducible refine LeO.ite ?_ ?_)
      | (with_reducible refine LeO.bind ?_ (fun _ => ?_))
      | exact ih0 _ _ _ _ _ _ _ _ _ _ _ _ _ _ _ _
      | exact ih1 _ _ _ _ _ _ _ _ _ _ _ _ _ _ _ _
      | exact ih2 _ _ _ _ _ _ _ _ _ _ _ _ _ _ _ _
      | exact cracknelref11_Match.mono _ _ _
      | exact LeO.none _
      | refine LeO.ite ?_ ?_
      | refine LeO.bind ?_ (fun _ => ?_)
    · intro y0 y1 y2 y3 y4 y5 y6 y7 y8 y9 y10 y11 y12 y13 y14 y15
      unfold cracknelref13_Sends.j1
      repeat' first
      | (with_reducible exact ih0 _ _ _ _ _ _ _ _ _ _ _ _ _ _ _ _)
      | (with_reducible exact ih1 _ _ _ _ _ _ _ _ _ _ _ _ _ _ _ _)
      | (with_reducible exact ih2 _ _ _ _ _ _ _ _ _ _ _ _ _ _ _ _)
      | (with_reducible exact cracknelref11_Match.mono _ _ _)
      | (with_reducible exact LeO.refl _)
      | (with_reducible exact LeO.none _)
      | (with_reducible refine LeO.ite ?_ ?_)
      | (with_reducible refine LeO.bind ?_ (fun _ => ?_))
      | exact ih0 _ _ _ _ _ _ _ _ _ _ _ _ _ _ _ _
      | exact ih1 _ _ _ _ _ _ _ _ _ _ _ _ _ _ _ _
      | exact ih2 _ _ _ _ _ _ _ _ _ _ _ _ _ _ _ _
      | exact cracknelref11_Match.mono _ _ _
      | exact LeO.none _
      | refine LeO.ite ?_ ?_
      | refine LeO.bind ?_ (fun _ => ?_)
    · intro y0 y1 y2 y3 y4 y5 y6 y7 y8 y9 y10 y11 y12 y13 y14 y15
      unfold cracknelref13_Sends.j2
      repeat' first
      | (with_reducible exact ih0 _ _ _ _ _ _ _ _ _ _ _ _ _ _ _ _)
      | (with_reducible exact ih1 _ _ _ _ _ _ _ _ _ _ _ _ _ _ _ _)
      | (with_reducible exact ih2 _ _ _ _ _ _ _ _ _ _ _ _ _ _ _ _)
      | (with_reducible exact cracknelref11_Match.mono _ _ _)
      | (with_reducible exact LeO.refl _)
      | (with_reducible exact LeO.none _)
      | (with_reducible refine LeO.ite ?_ ?_)
      | (with_reducible refine LeO.bind ?_ (fun _ => ?_))
      | exact ih0 _ _ _ _ _ _ _ _ _ _ _ _ _ _ _ _
      | exact ih1 _ _ _ _ _ _ _ _ _ _ _ _ _ _ _ _
      | exact ih2 _ _ _ _ _ _ _ _ _ _ _ _ _ _ _ _
      | exact cracknelref11_Match.mono _ _ _
      | exact LeO.none _
      | refine LeO.ite ?_ ?_
      | refine LeO.bind ?_ (fun _ => ?_)
theorem cracknelref13_Sends.mono : ∀ a0 a1 a2 a3 a4 a5 a6 a7 a8 a9 a10 a11 a12 a13 a14 k, LeO (cracknelref13_Sends.f k a0 a1 a2 a3 a4 a5 a6 a7 a8 a9 a10 a11 a12 a13 a14) (cracknelref13_Sends.f (k + 1) a0 a1 a2 a3 a4 a5 a6 a7 a8 a9 a10 a11 a12 a13 a14) := by
  intro a0 a1 a2 a3 a4 a5 a6 a7 a8 a9 a10 a11 a12 a13 a14 k
  obtain ⟨ih0, ih1, ih2⟩ := cracknelref13_Sends.mono_l k
  unfold cracknelref13_Sends.f
  repeat' first
      | (with_reducible exact ih0 _ _ _ _ _ _ _ _ _ _ _ _ _ _ _ _)
      | (with_reducible exact ih1 _ _ _ _ _ _ _ _ _ _ _ _ _ _ _ _)
      | (with_reducible exact ih2 _ _ _ _ _ _ _ _ _ _ _ _ _ _ _ _)
      | (with_reducible exact cracknelref11_Match.mono _ _ _)
      | (with_reducible exact LeO.refl _)
      | (with_reducible exact LeO.none _)
      | (with_reducible refine LeO.ite ?_ ?_)
      | (with_reducible refine LeO.bind ?_ (fun _ => ?_))
      | exact ih0 _ _ _ _ _ _ _ _ _ _ _ _ _ _ _ _
      | exact ih1 _ _ _ _ _ _ _ _ _ _ _ _ _ _ _ _
      | exact ih2 _ _ _ _ _ _ _ _ _ _ _ _ _ _ _ _
      | exact cracknelref11_Match.mono _ _ _
      | exact LeO.none _
      | refine LeO.ite ?_ ?_
      | refine LeO.bind ?_ (fun _ => ?_)
set_option maxHeartbeats 8000000 in
set_option maxRecDepth 100000 in
theorem cracknelref13_Sends.calls (k : Nat) (a0_0 : ByteArray) (a0_1 : ByteArray) (a0_2 : ByteArray) (a0_3 : ByteArray) (a0_4 : Int) (a0_5 : Int) (a0_6 : Int) (a0_7 : Bool) (a0_8 : Bool) (a0_9 : Bool) (a0_10 : Int) (a1_0 : Bool) (a1_1 : ByteArray) (a1_2 : ByteArray) (a2 : Int) (r : Bool) (w : World) (h : cracknelref13_Sends.f k a0_0 a0_1 a0_2 a0_3 a0_4 a0_5 a0_6 a0_7 a0_8 a0_9 a0_10 a1_0 a1_1 a1_2 a2 = some r) :
    Calls Tryd.prog 21 #[.agg #[.string a0_0, .string a0_1, .string a0_2, .string a0_3, .int .i64 a0_4, .int .i64 a0_5, .int .i64 a0_6, .bool a0_7, .bool a0_8, .bool a0_9, .int .i64 a0_10], .agg #[.bool a1_0, .string a1_1, .string a1_2], .int .i64 a2] w fun e w' => e = .returned (.bool r) ∧ Below w.heap.size w w' := by
  have hu23 := Tryd.underlying23
  have hu39 := Tryd.underlying39
  have HB := Aside0.mk (Below.refl w.heap.size w)
  have H : (if a0_7 = true then (cracknelref13_Sends.j0 k a2 (a1_1.toList != a0_0.toList) a0_0 a0_1 a0_2 a0_3 a0_4 a0_5 a0_6 a0_7 a0_8 a0_9 a0_10 a1_0 a1_1 a1_2) else (cracknelref13_Sends.j0 k a2 false a0_0 a0_1 a0_2 a0_3 a0_4 a0_5 a0_6 a0_7 a0_8 a0_9 a0_10 a1_0 a1_1 a1_2)) = some r := h
  clear h
  have HC4 := Aside0.mk H
  clear H
  go_enter Tryd.func21, Tryd.ntmps21
  go_upto_region 1 with (first | ((with_reducible refine gate_dst (N := 3) rfl ?_); refine box_event ?hg (N := 3) ?hd (cs := #[.string a0_0, .string a0_1, .string a0_2, .string a0_3, .int .i64 a0_4, .int .i64 a0_5, .int .i64 a0_6, .bool a0_7, .bool a0_8, .bool a0_9, .int .i64 a0_10]) (t := 23) ?hr ?_; (case hd => rfl); (case hg => rfl); (case hr => first | (go_simp; done) | (go_simp; rfl)); intro gb424 hg w5 hbox hb; have n0_ := Aside0.mk (below_step xb hb); have n1_ := Aside0.mk (hbox); have n2_ := Aside0.mk ((by rw [hg]; exact (below_size xb) : w.heap.size ≤ gb424)); have n3_ := Aside0.mk ((by rw [hg]; exact (below_size xb) : w.heap.size ≤ gb424)); clear HB; have HB := n0_; have BK424 := n1_; have GW424 := n2_; have GE424 := n3_; clear n0_ n1_ n2_ n3_; clear hb hbox hg) | ((with_reducible refine gate_dst (N := 4) rfl ?_); refine box_event ?hg (N := 4) ?hd (cs := #[.bool a1_0, .string a1_1, .string a1_2]) (t := 39) ?hr ?_; (case hd => rfl); (case hg => rfl); (case hr => first | (go_simp; done) | (go_simp; rfl)); intro gb425 hg w6 hbox hb; have n0_ := blkB BK424 hb; have n1_ := Aside0.mk (below_step xb hb); have n2_ := Aside0.mk (hbox); have n3_ := Aside0.mk ((by rw [hg]; exact (below_size xb) : w.heap.size ≤ gb425)); have n4_ := Aside0.mk ((by rw [hg]; exact (below_size xb) : w.heap.size ≤ gb425)); have n5_ := Aside0.mk ((by rw [hg]; exact Nat.ne_of_lt (blkL BK424) : gb424 ≠ gb425)); have n6_ := Aside0.mk ((by rw [hg]; exact Nat.ne_of_gt (blkL BK424) : gb425 ≠ gb424)); clear BK424; clear HB; have BK424 := n0_; have HB := n1_; have BK425 := n2_; have GW425 := n3_; have GE425 := n4_; have NB424_425 := n5_; have NB425_424 := n6_; clear n0_ n1_ n2_ n3_ n4_ n5_ n6_; clear hb hbox hg))
  (try simp only [Act.put, List.setIfInBounds_toArray, List.set_cons_zero, List.set_cons_succ])
  go_cut [15] (fun v15 wc => ∃ (kq : Nat) (x15_3 : Bool), v15 = .bool x15_3 ∧ Aside0 (cracknelref13_Sends.j0 kq a2 x15_3 a0_0 a0_1 a0_2 a0_3 a0_4 a0_5 a0_6 a0_7 a0_8 a0_9 a0_10 a1_0 a1_1 a1_2 = some r) ∧ Aside0 (kq ≤ k) ∧ Aside0 (wc.heap[gb424]? = some (.cells #[.string a0_0, .string a0_1, .string a0_2, .string a0_3, .int .i64 a0_4, .int .i64 a0_5, .int .i64 a0_6, .bool a0_7, .bool a0_8, .bool a0_9, .int .i64 a0_10] 23 (0, 0))) ∧ Aside0 (wc.heap[gb425]? = some (.cells #[.bool a1_0, .string a1_1, .string a1_2] 39 (0, 0))) ∧ Aside0 (Below w.heap.size w wc))
  case first =>
    have H := HC4.out
    clear HC4
    by_cases c7 : a0_7 = true
    · subst c7
      have H1 : (cracknelref13_Sends.j0 k a2 (a1_1.toList != a0_0.toList) a0_0 a0_1 a0_2 a0_3 a0_4 a0_5 a0_6 true a0_8 a0_9 a0_10 a1_0 a1_1 a1_2) = some r := by rw [if_pos rfl] at H; exact H
      clear H
      have H := H1
      clear H1
      have H' := Aside0.mk H
      clear H
      have hnb8 := NB424_425.out
      have hnc8 := NB425_424.out
      have hcz9_0 : w6.cell? ⟨gb424, 0, none⟩ = some (.string a0_0) := (blk_cell BK424.out 0).trans rfl
      have hcz9_1 : w6.cell? ⟨gb424, 1, none⟩ = some (.string a0_1) := (blk_cell BK424.out 1).trans rfl
      have hcz9_2 : w6.cell? ⟨gb424, 2, none⟩ = some (.string a0_2) := (blk_cell BK424.out 2).trans rfl
      have hcz9_3 : w6.cell? ⟨gb424, 3, none⟩ = some (.string a0_3) := (blk_cell BK424.out 3).trans rfl
      have hcz9_4 : w6.cell? ⟨gb424, 4, none⟩ = some (.int .i64 a0_4) := (blk_cell BK424.out 4).trans rfl
      have hcz9_5 : w6.cell? ⟨gb424, 5, none⟩ = some (.int .i64 a0_5) := (blk_cell BK424.out 5).trans rfl
      have hcz9_6 : w6.cell? ⟨gb424, 6, none⟩ = some (.int .i64 a0_6) := (blk_cell BK424.out 6).trans rfl
      have hcz9_7 : w6.cell? ⟨gb424, 7, none⟩ = some (.bool true) := (blk_cell BK424.out 7).trans rfl
      have hcz9_8 : w6.cell? ⟨gb424, 8, none⟩ = some (.bool a0_8) := (blk_cell BK424.out 8).trans rfl
      have hcz9_9 : w6.cell? ⟨gb424, 9, none⟩ = some (.bool a0_9) := (blk_cell BK424.out 9).trans rfl
      have hcz9_10 : w6.cell? ⟨gb424, 10, none⟩ = some (.int .i64 a0_10) := (blk_cell BK424.out 10).trans rfl
      have hfz9_0 := blk_frozen BK424.out 0
      have hfz9_1 := blk_frozen BK424.out 1
      have hfz9_2 := blk_frozen BK424.out 2
      have hfz9_3 := blk_frozen BK424.out 3
      have hfz9_4 := blk_frozen BK424.out 4
      have hfz9_5 := blk_frozen BK424.out 5
      have hfz9_6 := blk_frozen BK424.out 6
      have hfz9_7 := blk_frozen BK424.out 7
      have hfz9_8 := blk_frozen BK424.out 8
      have hfz9_9 := blk_frozen BK424.out 9
      have hfz9_10 := blk_frozen BK424.out 10
      have hcz10_0 : w6.cell? ⟨gb425, 0, none⟩ = some (.bool a1_0) := (blk_cell BK425.out 0).trans rfl
      have hcz10_1 : w6.cell? ⟨gb425, 1, none⟩ = some (.string a1_1) := (blk_cell BK425.out 1).trans rfl
      have hcz10_2 : w6.cell? ⟨gb425, 2, none⟩ = some (.string a1_2) := (blk_cell BK425.out 2).trans rfl
      have hfz10_0 := blk_frozen BK425.out 0
      have hfz10_1 := blk_frozen BK425.out 1
      have hfz10_2 := blk_frozen BK425.out 2
      go_wp2
      go_meet
      case rel => exact ⟨_, ((a1_1.toList != a0_0.toList)), (by first | rfl | (simp; done) | (simp [*]; done)), H', ⟨by first | omega | exact Nat.le_refl _⟩, ⟨xk⟩, ⟨xk⟩, ⟨xb⟩⟩
    · replace c7 := Bool.eq_false_iff.mpr c7
      subst c7
      have H1 : (cracknelref13_Sends.j0 k a2 false a0_0 a0_1 a0_2 a0_3 a0_4 a0_5 a0_6 false a0_8 a0_9 a0_10 a1_0 a1_1 a1_2) = some r := by rw [if_neg (show ¬ (false = true) by decide)] at H; exact H
      clear H
      have H := H1
      clear H1
      have H' := Aside0.mk H
      clear H
      have hnb11 := NB424_425.out
      have hnc11 := NB425_424.out
      have hcz12_0 : w6.cell? ⟨gb424, 0, none⟩ = some (.string a0_0) := (blk_cell BK424.out 0).trans rfl
      have hcz12_1 : w6.cell? ⟨gb424, 1, none⟩ = some (.string a0_1) := (blk_cell BK424.out 1).trans rfl
      have hcz12_2 : w6.cell? ⟨gb424, 2, none⟩ = some (.string a0_2) := (blk_cell BK424.out 2).trans rfl
      have hcz12_3 : w6.cell? ⟨gb424, 3, none⟩ = some (.string a0_3) := (blk_cell BK424.out 3).trans rfl
      have hcz12_4 : w6.cell? ⟨gb424, 4, none⟩ = some (.int .i64 a0_4) := (blk_cell BK424.out 4).trans rfl
      have hcz12_5 : w6.cell? ⟨gb424, 5, none⟩ = some (.int .i64 a0_5) := (blk_cell BK424.out 5).trans rfl
      have hcz12_6 : w6.cell? ⟨gb424, 6, none⟩ = some (.int .i64 a0_6) := (blk_cell BK424.out 6).trans rfl
      have hcz12_7 : w6.cell? ⟨gb424, 7, none⟩ = some (.bool false) := (blk_cell BK424.out 7).trans rfl
      have hcz12_8 : w6.cell? ⟨gb424, 8, none⟩ = some (.bool a0_8) := (blk_cell BK424.out 8).trans rfl
      have hcz12_9 : w6.cell? ⟨gb424, 9, none⟩ = some (.bool a0_9) := (blk_cell BK424.out 9).trans rfl
      have hcz12_10 : w6.cell? ⟨gb424, 10, none⟩ = some (.int .i64 a0_10) := (blk_cell BK424.out 10).trans rfl
      have hfz12_0 := blk_frozen BK424.out 0
      have hfz12_1 := blk_frozen BK424.out 1
      have hfz12_2 := blk_frozen BK424.out 2
      have hfz12_3 := blk_frozen BK424.out 3
      have hfz12_4 := blk_frozen BK424.out 4
      have hfz12_5 := blk_frozen BK424.out 5
      have hfz12_6 := blk_frozen BK424.out 6
      have hfz12_7 := blk_frozen BK424.out 7
      have hfz12_8 := blk_frozen BK424.out 8
      have hfz12_9 := blk_frozen BK424.out 9
      have hfz12_10 := blk_frozen BK424.out 10
      go_wp2
      go_meet
      case rel => exact ⟨_, (false), (by first | rfl | (simp; done) | (simp [*]; done)), H', ⟨by first | omega | exact Nat.le_refl _⟩, ⟨xk⟩, ⟨xk⟩, ⟨xb⟩⟩
  case rest =>
    clear HC4
    try clear c1
    try clear c2
    try clear p2
    try clear c7
    try clear c8
    try clear c11
    try clear hcz10_0
    try clear hcz10_1
    try clear hcz10_2
    try clear hcz12_0
    try clear hcz12_1
    try clear hcz12_10
    try clear hcz12_2
    try clear hcz12_3
    try clear hcz12_4
    try clear hcz12_5
    try clear hcz12_6
    try clear hcz12_7
    try clear hcz12_8
    try clear hcz12_9
    try clear hcz9_0
    try clear hcz9_1
    try clear hcz9_10
    try clear hcz9_2
    try clear hcz9_3
    try clear hcz9_4
    try clear hcz9_5
    try clear hcz9_6
    try clear hcz9_7
    try clear hcz9_8
    try clear hcz9_9
    try clear hfz10_0
    try clear hfz10_1
    try clear hfz10_2
    try clear hfz12_0
    try clear hfz12_1
    try clear hfz12_10
    try clear hfz12_2
    try clear hfz12_3
    try clear hfz12_4
    try clear hfz12_5
    try clear hfz12_6
    try clear hfz12_7
    try clear hfz12_8
    try clear hfz12_9
    try clear hfz9_0
    try clear hfz9_1
    try clear hfz9_10
    try clear hfz9_2
    try clear hfz9_3
    try clear hfz9_4
    try clear hfz9_5
    try clear hfz9_6
    try clear hfz9_7
    try clear hfz9_8
    try clear hfz9_9
    obtain ⟨kq, x15_3, rfl, HA, HJ3, BK424, BK425, HB⟩ := hcut
    cases kq with
    | zero => exact absurd HA.out (by simp [cracknelref13_Sends.j0])
    | succ kj3 =>
      have H := HA.out
      clear HA
      simp only [cracknelref13_Sends.j0] at H
      by_cases c13 : x15_3 = true
      · subst c13
        have H1 : (some false) = some r := by rw [if_pos rfl] at H; exact H
        clear H
        have H := H1
        clear H1
        obtain rfl := Option.some.inj H
        go_wp2
        go_ret
        exact ⟨by first | rfl | (simp [errW_none, errW_some] <;> rfl) | (simp [*, errW_none, errW_some] <;> rfl), by repeat (first | (with_reducible first | exact HB.out | apply below_alloc | apply pw_below_drewN | apply below_drew1 | refine below_set ?_ GE424.out | refine below_set ?_ GE425.out) | exact HB.out)⟩
      · replace c13 := Bool.eq_false_iff.mpr c13
        subst c13
        have H1 : (if a0_7 = true then (cracknelref13_Sends.j1 kj3 a2 false a0_0 a0_1 a0_2 a0_3 a0_4 a0_5 a0_6 a0_7 a0_8 a0_9 a0_10 a1_0 a1_1 a1_2) else ((cracknelref11_Match.f kj3 a1_1 a0_0).bind fun t426 => (cracknelref13_Sends.j1 kj3 a2 (!t426) a0_0 a0_1 a0_2 a0_3 a0_4 a0_5 a0_6 a0_7 a0_8 a0_9 a0_10 a1_0 a1_1 a1_2))) = some r := by rw [if_neg (show ¬ (false = true) by decide)] at H; exact H
        clear H
        have H := H1
        clear H1
        have HC14 := Aside0.mk H
        clear H
        go_upto_region 3 with (fail)
        go_cut [26] (fun v26 wc => ∃ (kq : Nat) (x26_13 : Bool), v26 = .bool x26_13 ∧ Aside0 (cracknelref13_Sends.j1 kq a2 x26_13 a0_0 a0_1 a0_2 a0_3 a0_4 a0_5 a0_6 a0_7 a0_8 a0_9 a0_10 a1_0 a1_1 a1_2 = some r) ∧ Aside0 (kq ≤ kj3) ∧ Aside0 (wc.heap[gb424]? = some (.cells #[.string a0_0, .string a0_1, .string a0_2, .string a0_3, .int .i64 a0_4, .int .i64 a0_5, .int .i64 a0_6, .bool a0_7, .bool a0_8, .bool a0_9, .int .i64 a0_10] 23 (0, 0))) ∧ Aside0 (wc.heap[gb425]? = some (.cells #[.bool a1_0, .string a1_1, .string a1_2] 39 (0, 0))) ∧ Aside0 (Below w.heap.size w wc))
        case first =>
          have H := HC14.out
          clear HC14
          by_cases c15 : a0_7 = true
          · subst c15
            have H1 : (cracknelref13_Sends.j1 kj3 a2 false a0_0 a0_1 a0_2 a0_3 a0_4 a0_5 a0_6 true a0_8 a0_9 a0_10 a1_0 a1_1 a1_2) = some r := by rw [if_pos rfl] at H; exact H
            clear H
            have H := H1
            clear H1
            have H' := Aside0.mk H
            clear H
            have hnb16 := NB424_425.out
            have hnc16 := NB425_424.out
            have hcz17_0 : wc.cell? ⟨gb424, 0, none⟩ = some (.string a0_0) := (blk_cell BK424.out 0).trans rfl
            have hcz17_1 : wc.cell? ⟨gb424, 1, none⟩ = some (.string a0_1) := (blk_cell BK424.out 1).trans rfl
            have hcz17_2 : wc.cell? ⟨gb424, 2, none⟩ = some (.string a0_2) := (blk_cell BK424.out 2).trans rfl
            have hcz17_3 : wc.cell? ⟨gb424, 3, none⟩ = some (.string a0_3) := (blk_cell BK424.out 3).trans rfl
            have hcz17_4 : wc.cell? ⟨gb424, 4, none⟩ = some (.int .i64 a0_4) := (blk_cell BK424.out 4).trans rfl
            have hcz17_5 : wc.cell? ⟨gb424, 5, none⟩ = some (.int .i64 a0_5) := (blk_cell BK424.out 5).trans rfl
            have hcz17_6 : wc.cell? ⟨gb424, 6, none⟩ = some (.int .i64 a0_6) := (blk_cell BK424.out 6).trans rfl
            have hcz17_7 : wc.cell? ⟨gb424, 7, none⟩ = some (.bool true) := (blk_cell BK424.out 7).trans rfl
            have hcz17_8 : wc.cell? ⟨gb424, 8, none⟩ = some (.bool a0_8) := (blk_cell BK424.out 8).trans rfl
            have hcz17_9 : wc.cell? ⟨gb424, 9, none⟩ = some (.bool a0_9) := (blk_cell BK424.out 9).trans rfl
            have hcz17_10 : wc.cell? ⟨gb424, 10, none⟩ = some (.int .i64 a0_10) := (blk_cell BK424.out 10).trans rfl
            have hfz17_0 := blk_frozen BK424.out 0
            have hfz17_1 := blk_frozen BK424.out 1
            have hfz17_2 := blk_frozen BK424.out 2
            have hfz17_3 := blk_frozen BK424.out 3
            have hfz17_4 := blk_frozen BK424.out 4
            have hfz17_5 := blk_frozen BK424.out 5
            have hfz17_6 := blk_frozen BK424.out 6
            have hfz17_7 := blk_frozen BK424.out 7
            have hfz17_8 := blk_frozen BK424.out 8
            have hfz17_9 := blk_frozen BK424.out 9
            have hfz17_10 := blk_frozen BK424.out 10
            go_wp2
            go_meet
            case rel => exact ⟨_, (false), (by first | rfl | (simp; done) | (simp [*]; done)), H', ⟨by have := HJ3.out; first | omega | exact Nat.le_refl _⟩, ⟨xk⟩, ⟨xk⟩, ⟨xb⟩⟩
          · replace c15 := Bool.eq_false_iff.mpr c15
            subst c15
            have H1 : ((cracknelref11_Match.f kj3 a1_1 a0_0).bind fun t426 => (cracknelref13_Sends.j1 kj3 a2 (!t426) a0_0 a0_1 a0_2 a0_3 a0_4 a0_5 a0_6 false a0_8 a0_9 a0_10 a1_0 a1_1 a1_2)) = some r := by rw [if_neg (show ¬ (false = true) by decide)] at H; exact H
            clear H
            have H := H1
            clear H1
            replace H := Option.bind_eq_some_iff.mp H
            obtain ⟨t426, A180, H⟩ := H
            replace H : (cracknelref13_Sends.j1 kj3 a2 (!t426) a0_0 a0_1 a0_2 a0_3 a0_4 a0_5 a0_6 false a0_8 a0_9 a0_10 a1_0 a1_1 a1_2) = some r := H
            have A18 := Aside0.mk A180
            clear A180
            have H' := Aside0.mk H
            clear H
            have hnb19 := NB424_425.out
            have hnc19 := NB425_424.out
            have hcz20_0 : wc.cell? ⟨gb424, 0, none⟩ = some (.string a0_0) := (blk_cell BK424.out 0).trans rfl
            have hcz20_1 : wc.cell? ⟨gb424, 1, none⟩ = some (.string a0_1) := (blk_cell BK424.out 1).trans rfl
            have hcz20_2 : wc.cell? ⟨gb424, 2, none⟩ = some (.string a0_2) := (blk_cell BK424.out 2).trans rfl
            have hcz20_3 : wc.cell? ⟨gb424, 3, none⟩ = some (.string a0_3) := (blk_cell BK424.out 3).trans rfl
            have hcz20_4 : wc.cell? ⟨gb424, 4, none⟩ = some (.int .i64 a0_4) := (blk_cell BK424.out 4).trans rfl
            have hcz20_5 : wc.cell? ⟨gb424, 5, none⟩ = some (.int .i64 a0_5) := (blk_cell BK424.out 5).trans rfl
            have hcz20_6 : wc.cell? ⟨gb424, 6, none⟩ = some (.int .i64 a0_6) := (blk_cell BK424.out 6).trans rfl
            have hcz20_7 : wc.cell? ⟨gb424, 7, none⟩ = some (.bool false) := (blk_cell BK424.out 7).trans rfl
            have hcz20_8 : wc.cell? ⟨gb424, 8, none⟩ = some (.bool a0_8) := (blk_cell BK424.out 8).trans rfl
            have hcz20_9 : wc.cell? ⟨gb424, 9, none⟩ = some (.bool a0_9) := (blk_cell BK424.out 9).trans rfl
            have hcz20_10 : wc.cell? ⟨gb424, 10, none⟩ = some (.int .i64 a0_10) := (blk_cell BK424.out 10).trans rfl
            have hfz20_0 := blk_frozen BK424.out 0
            have hfz20_1 := blk_frozen BK424.out 1
            have hfz20_2 := blk_frozen BK424.out 2
            have hfz20_3 := blk_frozen BK424.out 3
            have hfz20_4 := blk_frozen BK424.out 4
            have hfz20_5 := blk_frozen BK424.out 5
            have hfz20_6 := blk_frozen BK424.out 6
            have hfz20_7 := blk_frozen BK424.out 7
            have hfz20_8 := blk_frozen BK424.out 8
            have hfz20_9 := blk_frozen BK424.out 9
            have hfz20_10 := blk_frozen BK424.out 10
            have hcz21_0 : wc.cell? ⟨gb425, 0, none⟩ = some (.bool a1_0) := (blk_cell BK425.out 0).trans rfl
            have hcz21_1 : wc.cell? ⟨gb425, 1, none⟩ = some (.string a1_1) := (blk_cell BK425.out 1).trans rfl
            have hcz21_2 : wc.cell? ⟨gb425, 2, none⟩ = some (.string a1_2) := (blk_cell BK425.out 2).trans rfl
            have hfz21_0 := blk_frozen BK425.out 0
            have hfz21_1 := blk_frozen BK425.out 1
            have hfz21_2 := blk_frozen BK425.out 2
            go_wp2_with (first | (go_at_call 35; (with_reducible refine (cracknelref11_Match.calls kj3 a1_1 a0_0 t426 _ A18.out).mono ?_); rintro e w22 ⟨rfl, hb⟩; have n0_ := blkB BK424 hb; have n1_ := blkB BK425 hb; have n2_ := Aside0.mk (below_step xb hb); clear BK424; clear BK425; clear HB; have BK424 := n0_; have BK425 := n1_; have HB := n2_; clear n0_ n1_ n2_; (try clear hb); (try clear hb2); (try clear hk); (try clear hi)))
            go_meet
            case rel => exact ⟨_, (!t426), (by first | rfl | (simp; done) | (simp [*]; done)), H', ⟨by have := HJ3.out; first | omega | exact Nat.le_refl _⟩, ⟨xk⟩, ⟨xk⟩, ⟨xb⟩⟩
        case rest =>
          clear HC14
          try clear c1
          try clear c2
          try clear p2
          try clear c7
          try clear c8
          try clear c11
          try clear c13
          try clear c15
          try clear c16
          try clear c19
          try clear c21
          try clear hcz10_0
          try clear hcz10_1
          try clear hcz10_2
          try clear hcz12_0
          try clear hcz12_1
          try clear hcz12_10
          try clear hcz12_2
          try clear hcz12_3
          try clear hcz12_4
          try clear hcz12_5
          try clear hcz12_6
          try clear hcz12_7
          try clear hcz12_8
          try clear hcz12_9
          try clear hcz17_0
          try clear hcz17_1
          try clear hcz17_10
          try clear hcz17_2
          try clear hcz17_3
          try clear hcz17_4
          try clear hcz17_5
          try clear hcz17_6
          try clear hcz17_7
          try clear hcz17_8
          try clear hcz17_9
          try clear hcz20_0
          try clear hcz20_1
          try clear hcz20_10
          try clear hcz20_2
          try clear hcz20_3
          try clear hcz20_4
          try clear hcz20_5
          try clear hcz20_6
          try clear hcz20_7
          try clear hcz20_8
          try clear hcz20_9
          try clear hcz21_0
          try clear hcz21_1
          try clear hcz21_2
          try clear hcz9_0
          try clear hcz9_1
          try clear hcz9_10
          try clear hcz9_2
          try clear hcz9_3
          try clear hcz9_4
          try clear hcz9_5
          try clear hcz9_6
          try clear hcz9_7
          try clear hcz9_8
          try clear hcz9_9
          try clear hfz10_0
          try clear hfz10_1
          try clear hfz10_2
          try clear hfz12_0
          try clear hfz12_1
          try clear hfz12_10
          try clear hfz12_2
          try clear hfz12_3
          try clear hfz12_4
          try clear hfz12_5
          try clear hfz12_6
          try clear hfz12_7
          try clear hfz12_8
          try clear hfz12_9
          try clear hfz17_0
          try clear hfz17_1
          try clear hfz17_10
          try clear hfz17_2
          try clear hfz17_3
          try clear hfz17_4
          try clear hfz17_5
          try clear hfz17_6
          try clear hfz17_7
          try clear hfz17_8
          try clear hfz17_9
          try clear hfz20_0
          try clear hfz20_1
          try clear hfz20_10
          try clear hfz20_2
          try clear hfz20_3
          try clear hfz20_4
          try clear hfz20_5
          try clear hfz20_6
          try clear hfz20_7
          try clear hfz20_8
          try clear hfz20_9
          try clear hfz21_0
          try clear hfz21_1
          try clear hfz21_2
          try clear hfz9_0
          try clear hfz9_1
          try clear hfz9_10
          try clear hfz9_2
          try clear hfz9_3
          try clear hfz9_4
          try clear hfz9_5
          try clear hfz9_6
          try clear hfz9_7
          try clear hfz9_8
          try clear hfz9_9
          try clear p2
          obtain ⟨kq, x26_13, rfl, HA, HJ13, BK424, BK425, HB⟩ := hcut
          cases kq with
          | zero => exact absurd HA.out (by simp [cracknelref13_Sends.j1])
          | succ kj13 =>
            have H := HA.out
            clear HA
            simp only [cracknelref13_Sends.j1] at H
            by_cases c23 : x26_13 = true
            · subst c23
              have H1 : (some false) = some r := by rw [if_pos rfl] at H; exact H
              clear H
              have H := H1
              clear H1
              obtain rfl := Option.some.inj H
              go_wp2
              go_ret
              exact ⟨by first | rfl | (simp [errW_none, errW_some] <;> rfl) | (simp [*, errW_none, errW_some] <;> rfl), by repeat (first | (with_reducible first | exact HB.out | apply below_alloc | apply pw_below_drewN | apply below_drew1 | refine below_set ?_ GE424.out | refine below_set ?_ GE425.out) | exact HB.out)⟩
            · replace c23 := Bool.eq_false_iff.mpr c23
              subst c23
              have H1 : (if a0_8 = true then (cracknelref13_Sends.j2 kj13 a2 (!a1_0) a0_0 a0_1 a0_2 a0_3 a0_4 a0_5 a0_6 a0_7 a0_8 a0_9 a0_10 a1_0 a1_1 a1_2) else (cracknelref13_Sends.j2 kj13 a2 false a0_0 a0_1 a0_2 a0_3 a0_4 a0_5 a0_6 a0_7 a0_8 a0_9 a0_10 a1_0 a1_1 a1_2)) = some r := by rw [if_neg (show ¬ (false = true) by decide)] at H; exact H
              clear H
              have H := H1
              clear H1
              have HC24 := Aside0.mk H
              clear H
              go_upto_region 5 with (fail)
              go_cut [33] (fun v33 wc => ∃ (kq : Nat) (x33_23 : Bool), v33 = .bool x33_23 ∧ Aside0 (cracknelref13_Sends.j2 kq a2 x33_23 a0_0 a0_1 a0_2 a0_3 a0_4 a0_5 a0_6 a0_7 a0_8 a0_9 a0_10 a1_0 a1_1 a1_2 = some r) ∧ Aside0 (kq ≤ kj13) ∧ Aside0 (wc.heap[gb424]? = some (.cells #[.string a0_0, .string a0_1, .string a0_2, .string a0_3, .int .i64 a0_4, .int .i64 a0_5, .int .i64 a0_6, .bool a0_7, .bool a0_8, .bool a0_9, .int .i64 a0_10] 23 (0, 0))) ∧ Aside0 (wc.heap[gb425]? = some (.cells #[.bool a1_0, .string a1_1, .string a1_2] 39 (0, 0))) ∧ Aside0 (Below w.heap.size w wc))
              case first =>
                have H := HC24.out
                clear HC24
                by_cases c25 : a0_8 = true
                · subst c25
                  have H1 : (cracknelref13_Sends.j2 kj13 a2 (!a1_0) a0_0 a0_1 a0_2 a0_3 a0_4 a0_5 a0_6 a0_7 true a0_9 a0_10 a1_0 a1_1 a1_2) = some r := by rw [if_pos rfl] at H; exact H
                  clear H
                  have H := H1
                  clear H1
                  have H' := Aside0.mk H
                  clear H
                  have hnb26 := NB424_425.out
                  have hnc26 := NB425_424.out
                  have hcz27_0 : wc.cell? ⟨gb424, 0, none⟩ = some (.string a0_0) := (blk_cell BK424.out 0).trans rfl
                  have hcz27_1 : wc.cell? ⟨gb424, 1, none⟩ = some (.string a0_1) := (blk_cell BK424.out 1).trans rfl
                  have hcz27_2 : wc.cell? ⟨gb424, 2, none⟩ = some (.string a0_2) := (blk_cell BK424.out 2).trans rfl
                  have hcz27_3 : wc.cell? ⟨gb424, 3, none⟩ = some (.string a0_3) := (blk_cell BK424.out 3).trans rfl
                  have hcz27_4 : wc.cell? ⟨gb424, 4, none⟩ = some (.int .i64 a0_4) := (blk_cell BK424.out 4).trans rfl
                  have hcz27_5 : wc.cell? ⟨gb424, 5, none⟩ = some (.int .i64 a0_5) := (blk_cell BK424.out 5).trans rfl
                  have hcz27_6 : wc.cell? ⟨gb424, 6, none⟩ = some (.int .i64 a0_6) := (blk_cell BK424.out 6).trans rfl
                  have hcz27_7 : wc.cell? ⟨gb424, 7, none⟩ = some (.bool a0_7) := (blk_cell BK424.out 7).trans rfl
                  have hcz27_8 : wc.cell? ⟨gb424, 8, none⟩ = some (.bool true) := (blk_cell BK424.out 8).trans rfl
                  have hcz27_9 : wc.cell? ⟨gb424, 9, none⟩ = some (.bool a0_9) := (blk_cell BK424.out 9).trans rfl
                  have hcz27_10 : wc.cell? ⟨gb424, 10, none⟩ = some (.int .i64 a0_10) := (blk_cell BK424.out 10).trans rfl
                  have hfz27_0 := blk_frozen BK424.out 0
                  have hfz27_1 := blk_frozen BK424.out 1
                  have hfz27_2 := blk_frozen BK424.out 2
                  have hfz27_3 := blk_frozen BK424.out 3
                  have hfz27_4 := blk_frozen BK424.out 4
                  have hfz27_5 := blk_frozen BK424.out 5
                  have hfz27_6 := blk_frozen BK424.out 6
                  have hfz27_7 := blk_frozen BK424.out 7
                  have hfz27_8 := blk_frozen BK424.out 8
                  have hfz27_9 := blk_frozen BK424.out 9
                  have hfz27_10 := blk_frozen BK424.out 10
                  have hcz28_0 : wc.cell? ⟨gb425, 0, none⟩ = some (.bool a1_0) := (blk_cell BK425.out 0).trans rfl
                  have hcz28_1 : wc.cell? ⟨gb425, 1, none⟩ = some (.string a1_1) := (blk_cell BK425.out 1).trans rfl
                  have hcz28_2 : wc.cell? ⟨gb425, 2, none⟩ = some (.string a1_2) := (blk_cell BK425.out 2).trans rfl
                  have hfz28_0 := blk_frozen BK425.out 0
                  have hfz28_1 := blk_frozen BK425.out 1
                  have hfz28_2 := blk_frozen BK425.out 2
                  go_wp2
                  go_meet
                  case rel => exact ⟨_, (!a1_0), (by first | rfl | (simp; done) | (simp [*]; done)), H', ⟨by have := HJ3.out; have := HJ13.out; first | omega | exact Nat.le_refl _⟩, ⟨xk⟩, ⟨xk⟩, ⟨xb⟩⟩
                · replace c25 := Bool.eq_false_iff.mpr c25
                  subst c25
                  have H1 : (cracknelref13_Sends.j2 kj13 a2 false a0_0 a0_1 a0_2 a0_3 a0_4 a0_5 a0_6 a0_7 false a0_9 a0_10 a1_0 a1_1 a1_2) = some r := by rw [if_neg (show ¬ (false = true) by decide)] at H; exact H
                  clear H
                  have H := H1
                  clear H1
                  have H' := Aside0.mk H
                  clear H
                  have hnb29 := NB424_425.out
                  have hnc29 := NB425_424.out
                  have hcz30_0 : wc.cell? ⟨gb424, 0, none⟩ = some (.string a0_0) := (blk_cell BK424.out 0).trans rfl
                  have hcz30_1 : wc.cell? ⟨gb424, 1, none⟩ = some (.string a0_1) := (blk_cell BK424.out 1).trans rfl
                  have hcz30_2 : wc.cell? ⟨gb424, 2, none⟩ = some (.string a0_2) := (blk_cell BK424.out 2).trans rfl
                  have hcz30_3 : wc.cell? ⟨gb424, 3, none⟩ = some (.string a0_3) := (blk_cell BK424.out 3).trans rfl
                  have hcz30_4 : wc.cell? ⟨gb424, 4, none⟩ = some (.int .i64 a0_4) := (blk_cell BK424.out 4).trans rfl
                  have hcz30_5 : wc.cell? ⟨gb424, 5, none⟩ = some (.int .i64 a0_5) := (blk_cell BK424.out 5).trans rfl
                  have hcz30_6 : wc.cell? ⟨gb424, 6, none⟩ = some (.int .i64 a0_6) := (blk_cell BK424.out 6).trans rfl
                  have hcz30_7 : wc.cell? ⟨gb424, 7, none⟩ = some (.bool a0_7) := (blk_cell BK424.out 7).trans rfl
                  have hcz30_8 : wc.cell? ⟨gb424, 8, none⟩ = some (.bool false) := (blk_cell BK424.out 8).trans rfl
                  have hcz30_9 : wc.cell? ⟨gb424, 9, none⟩ = some (.bool a0_9) := (blk_cell BK424.out 9).trans rfl
                  have hcz30_10 : wc.cell? ⟨gb424, 10, none⟩ = some (.int .i64 a0_10) := (blk_cell BK424.out 10).trans rfl
                  have hfz30_0 := blk_frozen BK424.out 0
                  have hfz30_1 := blk_frozen BK424.out 1
                  have hfz30_2 := blk_frozen BK424.out 2
                  have hfz30_3 := blk_frozen BK424.out 3
                  have hfz30_4 := blk_frozen BK424.out 4
                  have hfz30_5 := blk_frozen BK424.out 5
                  have hfz30_6 := blk_frozen BK424.out 6
                  have hfz30_7 := blk_frozen BK424.out 7
                  have hfz30_8 := blk_frozen BK424.out 8
                  have hfz30_9 := blk_frozen BK424.out 9
                  have hfz30_10 := blk_frozen BK424.out 10
                  go_wp2
                  go_meet
                  case rel => exact ⟨_, (false), (by first | rfl | (simp; done) | (simp [*]; done)), H', ⟨by have := HJ3.out; have := HJ13.out; first | omega | exact Nat.le_refl _⟩, ⟨xk⟩, ⟨xk⟩, ⟨xb⟩⟩
              case rest =>
                clear HC24
                try clear c1
                try clear c2
                try clear p2
                try clear c7
                try clear c8
                try clear c11
                try clear c13
                try clear c15
                try clear c16
                try clear c19
                try clear c21
                try clear c23
                try clear c25
                try clear c26
                try clear c29
                try clear hcz10_0
                try clear hcz10_1
                try clear hcz10_2
                try clear hcz12_0
                try clear hcz12_1
                try clear hcz12_10
                try clear hcz12_2
                try clear hcz12_3
                try clear hcz12_4
                try clear hcz12_5
                try clear hcz12_6
                try clear hcz12_7
                try clear hcz12_8
                try clear hcz12_9
                try clear hcz17_0
                try clear hcz17_1
                try clear hcz17_10
                try clear hcz17_2
                try clear hcz17_3
                try clear hcz17_4
                try clear hcz17_5
                try clear hcz17_6
                try clear hcz17_7
                try clear hcz17_8
                try clear hcz17_9
                try clear hcz20_0
                try clear hcz20_1
                try clear hcz20_10
                try clear hcz20_2
                try clear hcz20_3
                try clear hcz20_4
                try clear hcz20_5
                try clear hcz20_6
                try clear hcz20_7
                try clear hcz20_8
                try clear hcz20_9
                try clear hcz21_0
                try clear hcz21_1
                try clear hcz21_2
                try clear hcz27_0
                try clear hcz27_1
                try clear hcz27_10
                try clear hcz27_2
                try clear hcz27_3
                try clear hcz27_4
                try clear hcz27_5
                try clear hcz27_6
                try clear hcz27_7
                try clear hcz27_8
                try clear hcz27_9
                try clear hcz28_0
                try clear hcz28_1
                try clear hcz28_2
                try clear hcz30_0
                try clear hcz30_1
                try clear hcz30_10
                try clear hcz30_2
                try clear hcz30_3
                try clear hcz30_4
                try clear hcz30_5
                try clear hcz30_6
                try clear hcz30_7
                try clear hcz30_8
                try clear hcz30_9
                try clear hcz9_0
                try clear hcz9_1
                try clear hcz9_10
                try clear hcz9_2
                try clear hcz9_3
                try clear hcz9_4
                try clear hcz9_5
                try clear hcz9_6
                try clear hcz9_7
                try clear hcz9_8
                try clear hcz9_9
                try clear hfz10_0
                try clear hfz10_1
                try clear hfz10_2
                try clear hfz12_0
                try clear hfz12_1
                try clear hfz12_10
                try clear hfz12_2
                try clear hfz12_3
                try clear hfz12_4
                try clear hfz12_5
                try clear hfz12_6
                try clear hfz12_7
                try clear hfz12_8
                try clear hfz12_9
                try clear hfz17_0
                try clear hfz17_1
                try clear hfz17_10
                try clear hfz17_2
                try clear hfz17_3
                try clear hfz17_4
                try clear hfz17_5
                try clear hfz17_6
                try clear hfz17_7
                try clear hfz17_8
                try clear hfz17_9
                try clear hfz20_0
                try clear hfz20_1
                try clear hfz20_10
                try clear hfz20_2
                try clear hfz20_3
                try clear hfz20_4
                try clear hfz20_5
                try clear hfz20_6
                try clear hfz20_7
                try clear hfz20_8
                try clear hfz20_9
                try clear hfz21_0
                try clear hfz21_1
                try clear hfz21_2
                try clear hfz27_0
                try clear hfz27_1
                try clear hfz27_10
                try clear hfz27_2
                try clear hfz27_3
                try clear hfz27_4
                try clear hfz27_5
                try clear hfz27_6
                try clear hfz27_7
                try clear hfz27_8
                try clear hfz27_9
                try clear hfz28_0
                try clear hfz28_1
                try clear hfz28_2
                try clear hfz30_0
                try clear hfz30_1
                try clear hfz30_10
                try clear hfz30_2
                try clear hfz30_3
                try clear hfz30_4
                try clear hfz30_5
                try clear hfz30_6
                try clear hfz30_7
                try clear hfz30_8
                try clear hfz30_9
                try clear hfz9_0
                try clear hfz9_1
                try clear hfz9_10
                try clear hfz9_2
                try clear hfz9_3
                try clear hfz9_4
                try clear hfz9_5
                try clear hfz9_6
                try clear hfz9_7
                try clear hfz9_8
                try clear hfz9_9
                try clear p2
                obtain ⟨kq, x33_23, rfl, HA, HJ23, BK424, BK425, HB⟩ := hcut
                cases kq with
                | zero => exact absurd HA.out (by simp [cracknelref13_Sends.j2])
                | succ kj23 =>
                  have H := HA.out
                  clear HA
                  simp only [cracknelref13_Sends.j2] at H
                  by_cases c31 : x33_23 = true
                  · subst c31
                    have H1 : (some false) = some r := by rw [if_pos rfl] at H; exact H
                    clear H
                    have H := H1
                    clear H1
                    obtain rfl := Option.some.inj H
                    go_wp2
                    go_ret
                    exact ⟨by first | rfl | (simp [errW_none, errW_some] <;> rfl) | (simp [*, errW_none, errW_some] <;> rfl), by repeat (first | (with_reducible first | exact HB.out | apply below_alloc | apply pw_below_drewN | apply below_drew1 | refine below_set ?_ GE424.out | refine below_set ?_ GE425.out) | exact HB.out)⟩
                  · replace c31 := Bool.eq_false_iff.mpr c31
                    subst c31
                    have H1 : ((cracknelref13_Live.f a0_0 a0_1 a0_2 a0_3 a0_4 a0_5 a0_6 a0_7 a0_8 a0_9 a0_10 a2).bind fun t427 => (if t427 = true then ((cracknelref12_Match.f a1_2 a0_1).bind fun t428 => (some t428)) else (some false))) = some r := by rw [if_neg (show ¬ (false = true) by decide)] at H; exact H
                    clear H
                    have H := H1
                    clear H1
                    replace H := Option.bind_eq_some_iff.mp H
                    obtain ⟨t427, A320, H⟩ := H
                    replace H : (if t427 = true then ((cracknelref12_Match.f a1_2 a0_1).bind fun t428 => (some t428)) else (some false)) = some r := H
                    have A32 := Aside0.mk A320
                    clear A320
                    by_cases c33 : t427 = true
                    · subst c33
                      have H1 : ((cracknelref12_Match.f a1_2 a0_1).bind fun t428 => (some t428)) = some r := by rw [if_pos rfl] at H; exact H
                      clear H
                      have H := H1
                      clear H1
                      replace H := Option.bind_eq_some_iff.mp H
                      obtain ⟨t428, A340, H⟩ := H
                      replace H : (some t428) = some r := H
                      have A34 := Aside0.mk A340
                      clear A340
                      obtain rfl := Option.some.inj H
                      have hnb35 := NB424_425.out
                      have hnc35 := NB425_424.out
                      have hcz36_0 : wc.cell? ⟨gb424, 0, none⟩ = some (.string a0_0) := (blk_cell BK424.out 0).trans rfl
                      have hcz36_1 : wc.cell? ⟨gb424, 1, none⟩ = some (.string a0_1) := (blk_cell BK424.out 1).trans rfl
                      have hcz36_2 : wc.cell? ⟨gb424, 2, none⟩ = some (.string a0_2) := (blk_cell BK424.out 2).trans rfl
                      have hcz36_3 : wc.cell? ⟨gb424, 3, none⟩ = some (.string a0_3) := (blk_cell BK424.out 3).trans rfl
                      have hcz36_4 : wc.cell? ⟨gb424, 4, none⟩ = some (.int .i64 a0_4) := (blk_cell BK424.out 4).trans rfl
                      have hcz36_5 : wc.cell? ⟨gb424, 5, none⟩ = some (.int .i64 a0_5) := (blk_cell BK424.out 5).trans rfl
                      have hcz36_6 : wc.cell? ⟨gb424, 6, none⟩ = some (.int .i64 a0_6) := (blk_cell BK424.out 6).trans rfl
                      have hcz36_7 : wc.cell? ⟨gb424, 7, none⟩ = some (.bool a0_7) := (blk_cell BK424.out 7).trans rfl
                      have hcz36_8 : wc.cell? ⟨gb424, 8, none⟩ = some (.bool a0_8) := (blk_cell BK424.out 8).trans rfl
                      have hcz36_9 : wc.cell? ⟨gb424, 9, none⟩ = some (.bool a0_9) := (blk_cell BK424.out 9).trans rfl
                      have hcz36_10 : wc.cell? ⟨gb424, 10, none⟩ = some (.int .i64 a0_10) := (blk_cell BK424.out 10).trans rfl
                      have hfz36_0 := blk_frozen BK424.out 0
                      have hfz36_1 := blk_frozen BK424.out 1
                      have hfz36_2 := blk_frozen BK424.out 2
                      have hfz36_3 := blk_frozen BK424.out 3
                      have hfz36_4 := blk_frozen BK424.out 4
                      have hfz36_5 := blk_frozen BK424.out 5
                      have hfz36_6 := blk_frozen BK424.out 6
                      have hfz36_7 := blk_frozen BK424.out 7
                      have hfz36_8 := blk_frozen BK424.out 8
                      have hfz36_9 := blk_frozen BK424.out 9
                      have hfz36_10 := blk_frozen BK424.out 10
                      go_wp2_with (first | ((with_reducible refine gate_callee (f := 19) rfl ?_); refine goesL_ (some 36) rfl rfl Tryd.func19 (by kernel_rfl) rfl #[.agg #[.string a0_0, .string a0_1, .string a0_2, .string a0_3, .int .i64 a0_4, .int .i64 a0_5, .int .i64 a0_6, .bool a0_7, .bool a0_8, .bool a0_9, .int .i64 a0_10], .int .i64 a2] rfl xg ?_; (with_reducible refine (cracknelref13_Live.calls a0_0 a0_1 a0_2 a0_3 a0_4 a0_5 a0_6 a0_7 a0_8 a0_9 a0_10 a2 true _ A32.out).mono ?_); rintro e w37 ⟨rfl, hb⟩; refine ⟨_, rfl, ?_⟩; have n0_ := blkB BK424 hb; have n1_ := blkB BK425 hb; have n2_ := Aside0.mk (below_step xb hb); clear BK424; clear BK425; clear HB; have BK424 := n0_; have BK425 := n1_; have HB := n2_; clear n0_ n1_ n2_; (try clear hb); (try clear hb2); (try clear hk); (try clear hi); have hcz38_0 : w37.cell? ⟨gb425, 0, none⟩ = some (.bool a1_0) := (blk_cell BK425.out 0).trans rfl; have hcz38_1 : w37.cell? ⟨gb425, 1, none⟩ = some (.string a1_1) := (blk_cell BK425.out 1).trans rfl; have hcz38_2 : w37.cell? ⟨gb425, 2, none⟩ = some (.string a1_2) := (blk_cell BK425.out 2).trans rfl; have hfz38_0 := blk_frozen BK425.out 0; have hfz38_1 := blk_frozen BK425.out 1; have hfz38_2 := blk_frozen BK425.out 2; have hcz39_0 : w37.cell? ⟨gb424, 0, none⟩ = some (.string a0_0) := (blk_cell BK424.out 0).trans rfl; have hcz39_1 : w37.cell? ⟨gb424, 1, none⟩ = some (.string a0_1) := (blk_cell BK424.out 1).trans rfl; have hcz39_2 : w37.cell? ⟨gb424, 2, none⟩ = some (.string a0_2) := (blk_cell BK424.out 2).trans rfl; have hcz39_3 : w37.cell? ⟨gb424, 3, none⟩ = some (.string a0_3) := (blk_cell BK424.out 3).trans rfl; have hcz39_4 : w37.cell? ⟨gb424, 4, none⟩ = some (.int .i64 a0_4) := (blk_cell BK424.out 4).trans rfl; have hcz39_5 : w37.cell? ⟨gb424, 5, none⟩ = some (.int .i64 a0_5) := (blk_cell BK424.out 5).trans rfl; have hcz39_6 : w37.cell? ⟨gb424, 6, none⟩ = some (.int .i64 a0_6) := (blk_cell BK424.out 6).trans rfl; have hcz39_7 : w37.cell? ⟨gb424, 7, none⟩ = some (.bool a0_7) := (blk_cell BK424.out 7).trans rfl; have hcz39_8 : w37.cell? ⟨gb424, 8, none⟩ = some (.bool a0_8) := (blk_cell BK424.out 8).trans rfl; have hcz39_9 : w37.cell? ⟨gb424, 9, none⟩ = some (.bool a0_9) := (blk_cell BK424.out 9).trans rfl; have hcz39_10 : w37.cell? ⟨gb424, 10, none⟩ = some (.int .i64 a0_10) := (blk_cell BK424.out 10).trans rfl; have hfz39_0 := blk_frozen BK424.out 0; have hfz39_1 := blk_frozen BK424.out 1; have hfz39_2 := blk_frozen BK424.out 2; have hfz39_3 := blk_frozen BK424.out 3; have hfz39_4 := blk_frozen BK424.out 4; have hfz39_5 := blk_frozen BK424.out 5; have hfz39_6 := blk_frozen BK424.out 6; have hfz39_7 := blk_frozen BK424.out 7; have hfz39_8 := blk_frozen BK424.out 8; have hfz39_9 := blk_frozen BK424.out 9; have hfz39_10 := blk_frozen BK424.out 10) | (go_at_call 36; (with_reducible refine (cracknelref12_Match.calls a1_2 a0_1 t428 _ A34.out).mono ?_); rintro e w' ⟨rfl, ⟨nd, rfl⟩⟩))
                      go_ret
                      exact ⟨by first | rfl | (simp [errW_none, errW_some] <;> rfl) | (simp [*, errW_none, errW_some] <;> rfl), by repeat (first | (with_reducible first | exact HB.out | apply below_alloc | apply pw_below_drewN | apply below_drew1 | refine below_set ?_ GE424.out | refine below_set ?_ GE425.out) | exact HB.out)⟩
                    · replace c33 := Bool.eq_false_iff.mpr c33
                      subst c33
                      have H1 : (some false) = some r := by rw [if_neg (show ¬ (false = true) by decide)] at H; exact H
                      clear H
                      have H := H1
                      clear H1
                      obtain rfl := Option.some.inj H
                      have hnb40 := NB424_425.out
                      have hnc40 := NB425_424.out
                      have hcz41_0 : wc.cell? ⟨gb424, 0, none⟩ = some (.string a0_0) := (blk_cell BK424.out 0).trans rfl
                      have hcz41_1 : wc.cell? ⟨gb424, 1, none⟩ = some (.string a0_1) := (blk_cell BK424.out 1).trans rfl
                      have hcz41_2 : wc.cell? ⟨gb424, 2, none⟩ = some (.string a0_2) := (blk_cell BK424.out 2).trans rfl
                      have hcz41_3 : wc.cell? ⟨gb424, 3, none⟩ = some (.string a0_3) := (blk_cell BK424.out 3).trans rfl
                      have hcz41_4 : wc.cell? ⟨gb424, 4, none⟩ = some (.int .i64 a0_4) := (blk_cell BK424.out 4).trans rfl
                      have hcz41_5 : wc.cell? ⟨gb424, 5, none⟩ = some (.int .i64 a0_5) := (blk_cell BK424.out 5).trans rfl
                      have hcz41_6 : wc.cell? ⟨gb424, 6, none⟩ = some (.int .i64 a0_6) := (blk_cell BK424.out 6).trans rfl
                      have hcz41_7 : wc.cell? ⟨gb424, 7, none⟩ = some (.bool a0_7) := (blk_cell BK424.out 7).trans rfl
                      have hcz41_8 : wc.cell? ⟨gb424, 8, none⟩ = some (.bool a0_8) := (blk_cell BK424.out 8).trans rfl
                      have hcz41_9 : wc.cell? ⟨gb424, 9, none⟩ = some (.bool a0_9) := (blk_cell BK424.out 9).trans rfl
                      have hcz41_10 : wc.cell? ⟨gb424, 10, none⟩ = some (.int .i64 a0_10) := (blk_cell BK424.out 10).trans rfl
                      have hfz41_0 := blk_frozen BK424.out 0
                      have hfz41_1 := blk_frozen BK424.out 1
                      have hfz41_2 := blk_frozen BK424.out 2
                      have hfz41_3 := blk_frozen BK424.out 3
                      have hfz41_4 := blk_frozen BK424.out 4
                      have hfz41_5 := blk_frozen BK424.out 5
                      have hfz41_6 := blk_frozen BK424.out 6
                      have hfz41_7 := blk_frozen BK424.out 7
                      have hfz41_8 := blk_frozen BK424.out 8
                      have hfz41_9 := blk_frozen BK424.out 9
                      have hfz41_10 := blk_frozen BK424.out 10
                      go_wp2_with (first | ((with_reducible refine gate_callee (f := 19) rfl ?_); refine goesL_ (some 36) rfl rfl Tryd.func19 (by kernel_rfl) rfl #[.agg #[.string a0_0, .string a0_1, .string a0_2, .string a0_3, .int .i64 a0_4, .int .i64 a0_5, .int .i64 a0_6, .bool a0_7, .bool a0_8, .bool a0_9, .int .i64 a0_10], .int .i64 a2] rfl xg ?_; (with_reducible refine (cracknelref13_Live.calls a0_0 a0_1 a0_2 a0_3 a0_4 a0_5 a0_6 a0_7 a0_8 a0_9 a0_10 a2 false _ A32.out).mono ?_); rintro e w42 ⟨rfl, hb⟩; refine ⟨_, rfl, ?_⟩; have n0_ := blkB BK424 hb; have n1_ := blkB BK425 hb; have n2_ := Aside0.mk (below_step xb hb); clear BK424; clear BK425; clear HB; have BK424 := n0_; have BK425 := n1_; have HB := n2_; clear n0_ n1_ n2_; (try clear hb); (try clear hb2); (try clear hk); (try clear hi)))
                      go_ret
                      exact ⟨by first | rfl | (simp [errW_none, errW_some] <;> rfl) | (simp [*, errW_none, errW_some] <;> rfl), by repeat (first | (with_reducible first | exact HB.out | apply below_alloc | apply pw_below_drewN | apply below_drew1 | refine below_set ?_ GE424.out | refine below_set ?_ GE425.out) | exact HB.out)⟩

end Go.Proofs.YtpcakfldmcfhlaaDoor.Print
