/- Printed by a program of this claim's session (xprint.py): the machine's side: each Go function as a Lean function, and that a call of it comes to what that tells; the row of a statement. No condition. -/
import Derived.Test.YtccmackhhppbdaaDoorPrint0
import Derived.Test.YtccmackhhppbdaaDoorPrint1
import Derived.Test.YtccmackhhppbdaaDoorPrint2
import Derived.Test.YtccmackhhppbdaaDoorPrint4
import Derived.Test.YtccmackhhppbdaaDoorPrint8
import Derived.Test.YtccmackhhppbdaaDoorPrint13
namespace Go.Proofs.YtccmackhhppbdaaDoor.Print
open Go.RowKit Go.Proofs.YtccmackhhppbdaaDoorW.PrintWords Go.Proofs.YtccmackhhppbdaaDoorW.PrintLast Go.Proofs.YtccmackhhppbdaaDoorW.PrintMore
attribute [local go_sem] max2_int min2_int max_two min_two max_three min_three max_four min_four   -- for this text's walks alone
set_option linter.unusedVariables false
set_option linter.unusedSimpArgs false

attribute [local go_sem high] eqA27 eqA32
/-! ### cracknellaw18_ProjTwice: function 5 -/
def cracknellaw18_ProjTwice.j0 : Nat → Int → Int → Bool → ByteArray → ByteArray → ByteArray → ByteArray → Int → Int → Int → Bool → Bool → Bool → Int → ByteArray → ByteArray → ByteArray → ByteArray → Int → Int → Int → Bool → Bool → Bool → Int → Option (Bool)
  | 0, _, _, _, _, _, _, _, _, _, _, _, _, _, _, _, _, _, _, _, _, _, _, _, _, _ => none
  | k + 1, x0, x1, x43, x456000, x456001, x456002, x456003, x456004, x456005, x456006, x456007, x456008, x456009, x456010, x469000, x469001, x469002, x469003, x469004, x469005, x469006, x469007, x469008, x469009, x469010 => if x43 = true then ((cracknellaw18_alive.f k).bind fun t469 => (some t469)) else ((proj_Cookie.f k x0 x1 x469000 x469001 x469002 x469003 x469004 x469005 x469006 x469007 x469008 x469009 x469010).bind fun bt470 => ((cracknellaw18_alive.f k).bind fun t483 => (if t483 = true then (if bt470.2.2.2.2.2.2.2.2.2.2.2 = true then (if (bt470.1.toList == x469000.toList && (bt470.2.1.toList == x469001.toList && (bt470.2.2.1.toList == x469002.toList && (bt470.2.2.2.1.toList == x469003.toList && (bt470.2.2.2.2.1 == x469004 && (bt470.2.2.2.2.2.1 == x469005 && (bt470.2.2.2.2.2.2.1 == x469006 && (bt470.2.2.2.2.2.2.2.1 == x469007 && (bt470.2.2.2.2.2.2.2.2.1 == x469008 && (bt470.2.2.2.2.2.2.2.2.2.1 == x469009 && (bt470.2.2.2.2.2.2.2.2.2.2.1 == x469010))))))))))) = true then ((PrintC.cookie_Of.f x469000 x469001 x469002 x469003 x469004 x469005 x469006 x469007 x469008 x469009 x469010).bind fun bt484 => ((PrintC.cookie_Of.f x456000 x456001 x456002 x456003 x456004 x456005 x456006 x456007 x456008 x456009 x456010).bind fun bt487 => (if (bt484.1.toList == bt487.1.toList && (bt484.2.1.toList == bt487.2.1.toList && (bt484.2.2.toList == bt487.2.2.toList))) = true then ((cookie_Right.f k x456000 x456001 x456002 x456003 x456004 x456005 x456006 x456007 x456008 x456009 x456010).bind fun t490 => (if t490 = true then ((cookie_Right.f k x469000 x469001 x469002 x469003 x469004 x469005 x469006 x469007 x469008 x469009 x469010).bind fun t491 => (some t491)) else (some true))) else (some false)))) else (some false)) else (some false)) else (some false))))
def cracknellaw18_ProjTwice.f (k : Nat) (a0 : Int) (a1 : Int) (a2_0 : ByteArray) (a2_1 : ByteArray) (a2_2 : ByteArray) (a2_3 : ByteArray) (a2_4 : Int) (a2_5 : Int) (a2_6 : Int) (a2_7 : Bool) (a2_8 : Bool) (a2_9 : Bool) (a2_10 : Int) : Option (Bool) := (proj_Cookie.f k a0 a1 a2_0 a2_1 a2_2 a2_3 a2_4 a2_5 a2_6 a2_7 a2_8 a2_9 a2_10).bind fun bt456 => (if bt456.2.2.2.2.2.2.2.2.2.2.2 = true then (if (a2_0.size : Int) > 300 then (cracknellaw18_ProjTwice.j0 k a0 a1 true a2_0 a2_1 a2_2 a2_3 a2_4 a2_5 a2_6 a2_7 a2_8 a2_9 a2_10 bt456.1 bt456.2.1 bt456.2.2.1 bt456.2.2.2.1 bt456.2.2.2.2.1 bt456.2.2.2.2.2.1 bt456.2.2.2.2.2.2.1 bt456.2.2.2.2.2.2.2.1 bt456.2.2.2.2.2.2.2.2.1 bt456.2.2.2.2.2.2.2.2.2.1 bt456.2.2.2.2.2.2.2.2.2.2.1) else (if (a2_1.size : Int) > 300 then (cracknellaw18_ProjTwice.j0 k a0 a1 true a2_0 a2_1 a2_2 a2_3 a2_4 a2_5 a2_6 a2_7 a2_8 a2_9 a2_10 bt456.1 bt456.2.1 bt456.2.2.1 bt456.2.2.2.1 bt456.2.2.2.2.1 bt456.2.2.2.2.2.1 bt456.2.2.2.2.2.2.1 bt456.2.2.2.2.2.2.2.1 bt456.2.2.2.2.2.2.2.2.1 bt456.2.2.2.2.2.2.2.2.2.1 bt456.2.2.2.2.2.2.2.2.2.2.1) else (if (a2_2.size : Int) > 300 then (cracknellaw18_ProjTwice.j0 k a0 a1 true a2_0 a2_1 a2_2 a2_3 a2_4 a2_5 a2_6 a2_7 a2_8 a2_9 a2_10 bt456.1 bt456.2.1 bt456.2.2.1 bt456.2.2.2.1 bt456.2.2.2.2.1 bt456.2.2.2.2.2.1 bt456.2.2.2.2.2.2.1 bt456.2.2.2.2.2.2.2.1 bt456.2.2.2.2.2.2.2.2.1 bt456.2.2.2.2.2.2.2.2.2.1 bt456.2.2.2.2.2.2.2.2.2.2.1) else (cracknellaw18_ProjTwice.j0 k a0 a1 (decide ((a2_3.size : Int) > 300)) a2_0 a2_1 a2_2 a2_3 a2_4 a2_5 a2_6 a2_7 a2_8 a2_9 a2_10 bt456.1 bt456.2.1 bt456.2.2.1 bt456.2.2.2.1 bt456.2.2.2.2.1 bt456.2.2.2.2.2.1 bt456.2.2.2.2.2.2.1 bt456.2.2.2.2.2.2.2.1 bt456.2.2.2.2.2.2.2.2.1 bt456.2.2.2.2.2.2.2.2.2.1 bt456.2.2.2.2.2.2.2.2.2.2.1)))) else (cracknellaw18_ProjTwice.j0 k a0 a1 true a2_0 a2_1 a2_2 a2_3 a2_4 a2_5 a2_6 a2_7 a2_8 a2_9 a2_10 bt456.1 bt456.2.1 bt456.2.2.1 bt456.2.2.2.1 bt456.2.2.2.2.1 bt456.2.2.2.2.2.1 bt456.2.2.2.2.2.2.1 bt456.2.2.2.2.2.2.2.1 bt456.2.2.2.2.2.2.2.2.1 bt456.2.2.2.2.2.2.2.2.2.1 bt456.2.2.2.2.2.2.2.2.2.2.1))
theorem cracknellaw18_ProjTwice.mono_l : ∀ k, (∀ y0 y1 y2 y3 y4 y5 y6 y7 y8 y9 y10 y11 y12 y13 y14 y15 y16 y17 y18 y19 y20 y21 y22 y23 y24, LeO (cracknellaw18_ProjTwice.j0 k y0 y1 y2 y3 y4 y5 y6 y7 y8 y9 y10 y11 y12 y13 y14 y15 y16 y17 y18 y19 y20 y21 y22 y23 y24) (cracknellaw18_ProjTwice.j0 (k + 1) y0 y1 y2 y3 y4 y5 y6 y7 y8 y9 y10 y11 y12 y13 y14 y15 y16 y17 y18 y19 y20 y21 y22 y23 y24))
  | 0 => fun _ _ _ _ _ _ _ _ _ _ _ _ _ _ _ _ _ _ _ _ _ _ _ _ _ r h => by simp [cracknellaw18_ProjTwice.j0] at h
  | k + 1 => by
    have ih0 := cracknellaw18_ProjTwice.mono_l k
    · intro y0 y1 y2 y3 y4 y5 y6 y7 y8 y9 y10 y11 y12 y13 y14 y15 y16 y17 y18 y19 y20 y21 y22 y23 y24
      unfold cracknellaw18_ProjTwice.j0
      repeat' first
      | (with_reducible exact ih0 _ _ _ _ _ _ _ _ _ _ _ _ _ _ _ _ _ _ _ _ _ _ _ _ _)
      | (with_reducible exact cookie_Right.mono _ _ _ _ _ _ _ _ _ _ _ _)
      | (with_reducible exact cracknellaw18_alive.mono _)
      | (with_reducible exact proj_Cookie.mono _ _ _ _ _ _ _ _ _ _ _ _ _ _)
      | (with_reducible exact LeO.refl _)
      | (with_reducible exact LeO.none _)
      | (with_reducible refine LeO.ite ?_ ?_)
      | (with_reducible refine LeO.bind ?_ (fun _ => ?_))
      | exact ih0 _ _ _ _ _ _ _ _ _ _ _ _ _ _ _ _ _ _ _ _ _ _ _ _ _
      | exact cookie_Right.mono _ _ _ _ _ _ _ _ _ _ _ _
      | exact cracknellaw18_alive.mono _
      | exact proj_Cookie.mono _ _ _ _ _ _ _ _ _ _ _ _ _ _
      | exact LeO.none _
      | refine LeO.ite ?_ ?_
      | refine LeO.bind ?_ (fun _ => ?_)
theorem cracknellaw18_ProjTwice.mono : ∀ a0 a1 a2 a3 a4 a5 a6 a7 a8 a9 a10 a11 a12 k, LeO (cracknellaw18_ProjTwice.f k a0 a1 a2 a3 a4 a5 a6 a7 a8 a9 a10 a11 a12) (cracknellaw18_ProjTwice.f (k + 1) a0 a1 a2 a3 a4 a5 a6 a7 a8 a9 a10 a11 a12) := by
  intro a0 a1 a2 a3 a4 a5 a6 a7 a8 a9 a10 a11 a12 k
  have ih0 := cracknellaw18_ProjTwice.mono_l k
  unfold cracknellaw18_ProjTwice.f
  repeat' first
      | (with_reducible exact ih0 _ _ _ _ _ _ _ _ _ _ _ _ _ _ _ _ _ _ _ _ _ _ _ _ _)
      | (with_reducible exact cookie_Right.mono _ _ _ _ _ _ _ _ _ _ _ _)
      | (with_reducible exact cracknellaw18_alive.mono _)
      | (with_reducible exact proj_Cookie.mono _ _ _ _ _ _ _ _ _ _ _ _ _ _)
      | (with_reducible exact LeO.refl _)
      | (with_reducible exact LeO.none _)
      | (with_reducible refine LeO.ite ?_ ?_)
      | (with_reducible refine LeO.bind ?_ (fun _ => ?_))
      | exact ih0 _ _ _ _ _ _ _ _ _ _ _ _ _ _ _ _ _ _ _ _ _ _ _ _ _
      | exact cookie_Right.mono _ _ _ _ _ _ _ _ _ _ _ _
      | exact cracknellaw18_alive.mono _
      | exact proj_Cookie.mono _ _ _ _ _ _ _ _ _ _ _ _ _ _
      | exact LeO.none _
      | refine LeO.ite ?_ ?_
      | refine LeO.bind ?_ (fun _ => ?_)
def cracknellaw18_ProjTwice.T5 : Bool × List (List Nat × List Nat) := (true, [([], []), ([0, 0], [0]), ([1], [1]), ([1, 2], [1, 2]), ([3, 1], [3]), ([4], [4]), ([4], [4]), ([5, 6, 4], [4, 5, 6]), ([4, 7], [4, 7]), ([8, 4], [8]), ([9], [9]), ([10, 9, 9], [9, 10]), ([9], [9]), ([12, 11, 9], [9, 12]), ([11, 13, 9], [9, 11, 13]), ([9, 14], [9, 14]), ([15, 13], [15]), ([16], [16]), ([17, 16, 16], [16, 17]), ([18, 16], [16, 18]), ([19, 18, 16], [16, 19]), ([20], [20]), ([21, 20, 20], [20, 21]), ([20, 22, 16], [16, 20, 22]), ([16, 23], [16, 23]), ([24, 22, 0, 1, 2, 3, 4, 5, 6, 7, 8, 9, 10, 11, 12, 13, 14, 15, 16, 17, 18, 19, 20, 21, 22, 23, 24], [24])])
def cracknellaw18_ProjTwice.B5 : List Nat := [0, 1, 3, 7, 15, 31, 31, 127, 255, 511, 1023, 2047, 1023, 8191, 16383, 32767, 65535, 131071, 262143, 524287, 1048575, 2097151, 4194303, 8388607, 16777215, 33554431]
theorem cracknellaw18_ProjTwice.tab5 : rtab .any (opsOf Tryd.f5 5) = cracknellaw18_ProjTwice.T5 := by kernel_rfl
theorem cracknellaw18_ProjTwice.bits5 : waitsOk cracknellaw18_ProjTwice.T5.2 cracknellaw18_ProjTwice.B5 = true := by kernel_rfl
set_option maxHeartbeats 8000000 in
set_option maxRecDepth 100000 in
theorem cracknellaw18_ProjTwice.calls (k : Nat) (a0 : Int) (a1 : Int) (a2_0 : ByteArray) (a2_1 : ByteArray) (a2_2 : ByteArray) (a2_3 : ByteArray) (a2_4 : Int) (a2_5 : Int) (a2_6 : Int) (a2_7 : Bool) (a2_8 : Bool) (a2_9 : Bool) (a2_10 : Int) (r : Bool) (w : World) (hG : Aside0 (LaidG w)) (hT_ : Aside0 (r = true)) (h : cracknellaw18_ProjTwice.f k a0 a1 a2_0 a2_1 a2_2 a2_3 a2_4 a2_5 a2_6 a2_7 a2_8 a2_9 a2_10 = some r) :
    Calls Tryd.prog 5 #[.int .i64 a0, .int .i64 a1, .agg #[.string a2_0, .string a2_1, .string a2_2, .string a2_3, .int .i64 a2_4, .int .i64 a2_5, .int .i64 a2_6, .bool a2_7, .bool a2_8, .bool a2_9, .int .i64 a2_10]] w fun e w' => e = .returned (.bool r) ∧ Below w.heap.size w w' := by
  have hu27 := Tryd.underlying27
  have HB := Aside0.mk (Below.refl w.heap.size w)
  have H : ((proj_Cookie.f k a0 a1 a2_0 a2_1 a2_2 a2_3 a2_4 a2_5 a2_6 a2_7 a2_8 a2_9 a2_10).bind fun bt456 => (if bt456.2.2.2.2.2.2.2.2.2.2.2 = true then (if (a2_0.size : Int) > 300 then (cracknellaw18_ProjTwice.j0 k a0 a1 true a2_0 a2_1 a2_2 a2_3 a2_4 a2_5 a2_6 a2_7 a2_8 a2_9 a2_10 bt456.1 bt456.2.1 bt456.2.2.1 bt456.2.2.2.1 bt456.2.2.2.2.1 bt456.2.2.2.2.2.1 bt456.2.2.2.2.2.2.1 bt456.2.2.2.2.2.2.2.1 bt456.2.2.2.2.2.2.2.2.1 bt456.2.2.2.2.2.2.2.2.2.1 bt456.2.2.2.2.2.2.2.2.2.2.1) else (if (a2_1.size : Int) > 300 then (cracknellaw18_ProjTwice.j0 k a0 a1 true a2_0 a2_1 a2_2 a2_3 a2_4 a2_5 a2_6 a2_7 a2_8 a2_9 a2_10 bt456.1 bt456.2.1 bt456.2.2.1 bt456.2.2.2.1 bt456.2.2.2.2.1 bt456.2.2.2.2.2.1 bt456.2.2.2.2.2.2.1 bt456.2.2.2.2.2.2.2.1 bt456.2.2.2.2.2.2.2.2.1 bt456.2.2.2.2.2.2.2.2.2.1 bt456.2.2.2.2.2.2.2.2.2.2.1) else (if (a2_2.size : Int) > 300 then (cracknellaw18_ProjTwice.j0 k a0 a1 true a2_0 a2_1 a2_2 a2_3 a2_4 a2_5 a2_6 a2_7 a2_8 a2_9 a2_10 bt456.1 bt456.2.1 bt456.2.2.1 bt456.2.2.2.1 bt456.2.2.2.2.1 bt456.2.2.2.2.2.1 bt456.2.2.2.2.2.2.1 bt456.2.2.2.2.2.2.2.1 bt456.2.2.2.2.2.2.2.2.1 bt456.2.2.2.2.2.2.2.2.2.1 bt456.2.2.2.2.2.2.2.2.2.2.1) else (cracknellaw18_ProjTwice.j0 k a0 a1 (decide ((a2_3.size : Int) > 300)) a2_0 a2_1 a2_2 a2_3 a2_4 a2_5 a2_6 a2_7 a2_8 a2_9 a2_10 bt456.1 bt456.2.1 bt456.2.2.1 bt456.2.2.2.1 bt456.2.2.2.2.1 bt456.2.2.2.2.2.1 bt456.2.2.2.2.2.2.1 bt456.2.2.2.2.2.2.2.1 bt456.2.2.2.2.2.2.2.2.1 bt456.2.2.2.2.2.2.2.2.2.1 bt456.2.2.2.2.2.2.2.2.2.2.1)))) else (cracknellaw18_ProjTwice.j0 k a0 a1 true a2_0 a2_1 a2_2 a2_3 a2_4 a2_5 a2_6 a2_7 a2_8 a2_9 a2_10 bt456.1 bt456.2.1 bt456.2.2.1 bt456.2.2.2.1 bt456.2.2.2.2.1 bt456.2.2.2.2.2.1 bt456.2.2.2.2.2.2.1 bt456.2.2.2.2.2.2.2.1 bt456.2.2.2.2.2.2.2.2.1 bt456.2.2.2.2.2.2.2.2.2.1 bt456.2.2.2.2.2.2.2.2.2.2.1))) = some r := h
  clear h
  replace H := Option.bind_eq_some_iff.mp H
  obtain ⟨⟨t456, t457, t458, t459, t460, t461, t462, t463, t464, t465, t466, t467⟩, A40, H⟩ := H
  replace H : (if t467 = true then (if (a2_0.size : Int) > 300 then (cracknellaw18_ProjTwice.j0 k a0 a1 true a2_0 a2_1 a2_2 a2_3 a2_4 a2_5 a2_6 a2_7 a2_8 a2_9 a2_10 t456 t457 t458 t459 t460 t461 t462 t463 t464 t465 t466) else (if (a2_1.size : Int) > 300 then (cracknellaw18_ProjTwice.j0 k a0 a1 true a2_0 a2_1 a2_2 a2_3 a2_4 a2_5 a2_6 a2_7 a2_8 a2_9 a2_10 t456 t457 t458 t459 t460 t461 t462 t463 t464 t465 t466) else (if (a2_2.size : Int) > 300 then (cracknellaw18_ProjTwice.j0 k a0 a1 true a2_0 a2_1 a2_2 a2_3 a2_4 a2_5 a2_6 a2_7 a2_8 a2_9 a2_10 t456 t457 t458 t459 t460 t461 t462 t463 t464 t465 t466) else (cracknellaw18_ProjTwice.j0 k a0 a1 (decide ((a2_3.size : Int) > 300)) a2_0 a2_1 a2_2 a2_3 a2_4 a2_5 a2_6 a2_7 a2_8 a2_9 a2_10 t456 t457 t458 t459 t460 t461 t462 t463 t464 t465 t466)))) else (cracknellaw18_ProjTwice.j0 k a0 a1 true a2_0 a2_1 a2_2 a2_3 a2_4 a2_5 a2_6 a2_7 a2_8 a2_9 a2_10 t456 t457 t458 t459 t460 t461 t462 t463 t464 t465 t466)) = some r := H
  have A4 := Aside0.mk A40
  clear A40
  have HC5 := Aside0.mk H
  clear H
  go_enter Tryd.func5, Tryd.ntmps5
  go_upto_region 2 with (first | ((with_reducible refine gate_dst (N := 5) rfl ?_); refine box_event ?hg (N := 5) ?hd (cs := #[.string a2_0, .string a2_1, .string a2_2, .string a2_3, .int .i64 a2_4, .int .i64 a2_5, .int .i64 a2_6, .bool a2_7, .bool a2_8, .bool a2_9, .int .i64 a2_10]) (t := 27) ?hr ?_; (case hd => rfl); (case hg => rfl); (case hr => first | (go_simp; done) | (go_simp; rfl)); intro gb455 hg w6 hbox hb; have n0_ := Aside0.mk (below_step xb hb); have n1_ := Aside0.mk (hbox); have n2_ := Aside0.mk ((by rw [hg]; exact (below_size xb) : w.heap.size ≤ gb455)); have n3_ := Aside0.mk ((by rw [hg]; exact (below_size xb) : w.heap.size ≤ gb455)); clear HB; have HB := n0_; have BK455 := n1_; have GW455 := n2_; have GE455 := n3_; clear n0_ n1_ n2_ n3_; clear hb hbox hg; have hcz7_0 : w6.cell? ⟨gb455, 0, none⟩ = some (.string a2_0) := (blk_cell BK455.out 0).trans rfl; have hcz7_1 : w6.cell? ⟨gb455, 1, none⟩ = some (.string a2_1) := (blk_cell BK455.out 1).trans rfl; have hcz7_2 : w6.cell? ⟨gb455, 2, none⟩ = some (.string a2_2) := (blk_cell BK455.out 2).trans rfl; have hcz7_3 : w6.cell? ⟨gb455, 3, none⟩ = some (.string a2_3) := (blk_cell BK455.out 3).trans rfl; have hcz7_4 : w6.cell? ⟨gb455, 4, none⟩ = some (.int .i64 a2_4) := (blk_cell BK455.out 4).trans rfl; have hcz7_5 : w6.cell? ⟨gb455, 5, none⟩ = some (.int .i64 a2_5) := (blk_cell BK455.out 5).trans rfl; have hcz7_6 : w6.cell? ⟨gb455, 6, none⟩ = some (.int .i64 a2_6) := (blk_cell BK455.out 6).trans rfl; have hcz7_7 : w6.cell? ⟨gb455, 7, none⟩ = some (.bool a2_7) := (blk_cell BK455.out 7).trans rfl; have hcz7_8 : w6.cell? ⟨gb455, 8, none⟩ = some (.bool a2_8) := (blk_cell BK455.out 8).trans rfl; have hcz7_9 : w6.cell? ⟨gb455, 9, none⟩ = some (.bool a2_9) := (blk_cell BK455.out 9).trans rfl; have hcz7_10 : w6.cell? ⟨gb455, 10, none⟩ = some (.int .i64 a2_10) := (blk_cell BK455.out 10).trans rfl; have hfz7_0 := blk_frozen BK455.out 0; have hfz7_1 := blk_frozen BK455.out 1; have hfz7_2 := blk_frozen BK455.out 2; have hfz7_3 := blk_frozen BK455.out 3; have hfz7_4 := blk_frozen BK455.out 4; have hfz7_5 := blk_frozen BK455.out 5; have hfz7_6 := blk_frozen BK455.out 6; have hfz7_7 := blk_frozen BK455.out 7; have hfz7_8 := blk_frozen BK455.out 8; have hfz7_9 := blk_frozen BK455.out 9; have hfz7_10 := blk_frozen BK455.out 10) | ((with_reducible refine gate_callee (f := 13) rfl ?_); refine goesL_ (some 15) rfl rfl Tryd.func13 (by kernel_rfl) rfl #[.int .i64 a0, .int .i64 a1, .agg #[.string a2_0, .string a2_1, .string a2_2, .string a2_3, .int .i64 a2_4, .int .i64 a2_5, .int .i64 a2_6, .bool a2_7, .bool a2_8, .bool a2_9, .int .i64 a2_10]] rfl xg ?_; (with_reducible refine (proj_Cookie.calls k a0 a1 a2_0 a2_1 a2_2 a2_3 a2_4 a2_5 a2_6 a2_7 a2_8 a2_9 a2_10 t456 t457 t458 t459 t460 t461 t462 t463 t464 t465 t466 t467 _ A4.out).mono ?_); rintro e w8 ⟨rfl, hb⟩; refine ⟨_, rfl, ?_⟩; have n0_ := blkB BK455 hb; have n1_ := Aside0.mk (below_step xb hb); clear BK455; clear HB; have BK455 := n0_; have HB := n1_; clear n0_ n1_; (try clear hb); (try clear hb2); (try clear hk); (try clear hi)) | ((with_reducible refine gate_dst (N := 7) rfl ?_); refine box_event ?hg (N := 7) ?hd (cs := #[.string (⟨#[]⟩ : ByteArray), .string (⟨#[]⟩ : ByteArray), .string (⟨#[]⟩ : ByteArray), .string (⟨#[]⟩ : ByteArray), .int .i64 0, .int .i64 0, .int .i64 0, .bool false, .bool false, .bool false, .int .i64 0]) (t := 27) ?hr ?_; (case hd => rfl); (case hg => rfl); (case hr => first | (go_simp; done) | (go_simp; rfl)); intro gb468 hg w9 hbox hb; have n0_ := blkB BK455 hb; have n1_ := Aside0.mk (below_step xb hb); have n2_ := Aside0.mk (hbox); have n3_ := Aside0.mk ((by rw [hg]; exact (below_size xb) : w.heap.size ≤ gb468)); have n4_ := Aside0.mk ((by rw [hg]; exact (below_size xb) : w.heap.size ≤ gb468)); have n5_ := Aside0.mk ((by rw [hg]; exact Nat.ne_of_lt (blkL BK455) : gb455 ≠ gb468)); have n6_ := Aside0.mk ((by rw [hg]; exact Nat.ne_of_gt (blkL BK455) : gb468 ≠ gb455)); clear BK455; clear HB; have BK455 := n0_; have HB := n1_; have BK468 := n2_; have GW468 := n3_; have GE468 := n4_; have NB455_468 := n5_; have NB468_455 := n6_; clear n0_ n1_ n2_ n3_ n4_ n5_ n6_; clear hb hbox hg; have hnb10 := NB468_455.out; have hnc10 := NB455_468.out; have hcz11_0 : w9.cell? ⟨gb468, 0, none⟩ = some (.string (⟨#[]⟩ : ByteArray)) := (blk_cell BK468.out 0).trans rfl; have hcz11_1 : w9.cell? ⟨gb468, 1, none⟩ = some (.string (⟨#[]⟩ : ByteArray)) := (blk_cell BK468.out 1).trans rfl; have hcz11_2 : w9.cell? ⟨gb468, 2, none⟩ = some (.string (⟨#[]⟩ : ByteArray)) := (blk_cell BK468.out 2).trans rfl; have hcz11_3 : w9.cell? ⟨gb468, 3, none⟩ = some (.string (⟨#[]⟩ : ByteArray)) := (blk_cell BK468.out 3).trans rfl; have hcz11_4 : w9.cell? ⟨gb468, 4, none⟩ = some (.int .i64 0) := (blk_cell BK468.out 4).trans rfl; have hcz11_5 : w9.cell? ⟨gb468, 5, none⟩ = some (.int .i64 0) := (blk_cell BK468.out 5).trans rfl; have hcz11_6 : w9.cell? ⟨gb468, 6, none⟩ = some (.int .i64 0) := (blk_cell BK468.out 6).trans rfl; have hcz11_7 : w9.cell? ⟨gb468, 7, none⟩ = some (.bool false) := (blk_cell BK468.out 7).trans rfl; have hcz11_8 : w9.cell? ⟨gb468, 8, none⟩ = some (.bool false) := (blk_cell BK468.out 8).trans rfl; have hcz11_9 : w9.cell? ⟨gb468, 9, none⟩ = some (.bool false) := (blk_cell BK468.out 9).trans rfl; have hcz11_10 : w9.cell? ⟨gb468, 10, none⟩ = some (.int .i64 0) := (blk_cell BK468.out 10).trans rfl; have hfz11_0 := blk_frozen BK468.out 0; have hfz11_1 := blk_frozen BK468.out 1; have hfz11_2 := blk_frozen BK468.out 2; have hfz11_3 := blk_frozen BK468.out 3; have hfz11_4 := blk_frozen BK468.out 4; have hfz11_5 := blk_frozen BK468.out 5; have hfz11_6 := blk_frozen BK468.out 6; have hfz11_7 := blk_frozen BK468.out 7; have hfz11_8 := blk_frozen BK468.out 8; have hfz11_9 := blk_frozen BK468.out 9; have hfz11_10 := blk_frozen BK468.out 10))
  (try simp only [Act.put, List.setIfInBounds_toArray, List.set_cons_zero, List.set_cons_succ])
  go_cut [43] (fun v43 wc => ∃ (kq : Nat) (x43_4 : Bool), v43 = .bool x43_4 ∧ Aside0 (cracknellaw18_ProjTwice.j0 kq a0 a1 x43_4 a2_0 a2_1 a2_2 a2_3 a2_4 a2_5 a2_6 a2_7 a2_8 a2_9 a2_10 t456 t457 t458 t459 t460 t461 t462 t463 t464 t465 t466 = some r) ∧ Aside0 (kq ≤ k) ∧ Aside0 (wc.heap[gb455]? = some (.cells #[.string a2_0, .string a2_1, .string a2_2, .string a2_3, .int .i64 a2_4, .int .i64 a2_5, .int .i64 a2_6, .bool a2_7, .bool a2_8, .bool a2_9, .int .i64 a2_10] 27 (0, 0))) ∧ Aside0 (wc.heap[gb468]? = some (.cells #[.string t456, .string t457, .string t458, .string t459, .int .i64 t460, .int .i64 t461, .int .i64 t462, .bool t463, .bool t464, .bool t465, .int .i64 t466] 27 (0, 0))) ∧ Aside0 (Below w.heap.size w wc))
  case first =>
    have H := HC5.out
    clear HC5
    by_cases c12 : t467 = true
    · subst c12
      have H1 : (if (a2_0.size : Int) > 300 then (cracknellaw18_ProjTwice.j0 k a0 a1 true a2_0 a2_1 a2_2 a2_3 a2_4 a2_5 a2_6 a2_7 a2_8 a2_9 a2_10 t456 t457 t458 t459 t460 t461 t462 t463 t464 t465 t466) else (if (a2_1.size : Int) > 300 then (cracknellaw18_ProjTwice.j0 k a0 a1 true a2_0 a2_1 a2_2 a2_3 a2_4 a2_5 a2_6 a2_7 a2_8 a2_9 a2_10 t456 t457 t458 t459 t460 t461 t462 t463 t464 t465 t466) else (if (a2_2.size : Int) > 300 then (cracknellaw18_ProjTwice.j0 k a0 a1 true a2_0 a2_1 a2_2 a2_3 a2_4 a2_5 a2_6 a2_7 a2_8 a2_9 a2_10 t456 t457 t458 t459 t460 t461 t462 t463 t464 t465 t466) else (cracknellaw18_ProjTwice.j0 k a0 a1 (decide ((a2_3.size : Int) > 300)) a2_0 a2_1 a2_2 a2_3 a2_4 a2_5 a2_6 a2_7 a2_8 a2_9 a2_10 t456 t457 t458 t459 t460 t461 t462 t463 t464 t465 t466)))) = some r := by rw [if_pos rfl] at H; exact H
      clear H
      have H := H1
      clear H1
      by_cases c13 : (a2_0.size : Int) > 300
      · rw [if_pos c13] at H
        have c13b0 : decide (300 < (a2_0.size : Int)) = true := decide_eq_true c13
        have c13b1 : decide (300 < a2_0.size) = true := decide_eq_true (by omega)
        clear c13
        (first | rw [c13b0] | (simp only [i64_w, i32_w]; rw [c13b0]) | skip)
        have H' := Aside0.mk H
        clear H
        have hnb14 := NB455_468.out
        have hnc14 := NB468_455.out
        have hcz15_0 : w9.cell? ⟨gb455, 0, none⟩ = some (.string a2_0) := (blk_cell BK455.out 0).trans rfl
        have hcz15_1 : w9.cell? ⟨gb455, 1, none⟩ = some (.string a2_1) := (blk_cell BK455.out 1).trans rfl
        have hcz15_2 : w9.cell? ⟨gb455, 2, none⟩ = some (.string a2_2) := (blk_cell BK455.out 2).trans rfl
        have hcz15_3 : w9.cell? ⟨gb455, 3, none⟩ = some (.string a2_3) := (blk_cell BK455.out 3).trans rfl
        have hcz15_4 : w9.cell? ⟨gb455, 4, none⟩ = some (.int .i64 a2_4) := (blk_cell BK455.out 4).trans rfl
        have hcz15_5 : w9.cell? ⟨gb455, 5, none⟩ = some (.int .i64 a2_5) := (blk_cell BK455.out 5).trans rfl
        have hcz15_6 : w9.cell? ⟨gb455, 6, none⟩ = some (.int .i64 a2_6) := (blk_cell BK455.out 6).trans rfl
        have hcz15_7 : w9.cell? ⟨gb455, 7, none⟩ = some (.bool a2_7) := (blk_cell BK455.out 7).trans rfl
        have hcz15_8 : w9.cell? ⟨gb455, 8, none⟩ = some (.bool a2_8) := (blk_cell BK455.out 8).trans rfl
        have hcz15_9 : w9.cell? ⟨gb455, 9, none⟩ = some (.bool a2_9) := (blk_cell BK455.out 9).trans rfl
        have hcz15_10 : w9.cell? ⟨gb455, 10, none⟩ = some (.int .i64 a2_10) := (blk_cell BK455.out 10).trans rfl
        have hfz15_0 := blk_frozen BK455.out 0
        have hfz15_1 := blk_frozen BK455.out 1
        have hfz15_2 := blk_frozen BK455.out 2
        have hfz15_3 := blk_frozen BK455.out 3
        have hfz15_4 := blk_frozen BK455.out 4
        have hfz15_5 := blk_frozen BK455.out 5
        have hfz15_6 := blk_frozen BK455.out 6
        have hfz15_7 := blk_frozen BK455.out 7
        have hfz15_8 := blk_frozen BK455.out 8
        have hfz15_9 := blk_frozen BK455.out 9
        have hfz15_10 := blk_frozen BK455.out 10
        go_wp2
        go_meet
        case rel => exact ⟨_, (true), (by first | rfl | (simp; done) | (simp [*]; done)), H', ⟨by first | omega | exact Nat.le_refl _⟩, ⟨xk⟩, ⟨xk⟩, ⟨xb⟩⟩
      · rw [if_neg c13] at H
        have c13b0 : decide (300 < (a2_0.size : Int)) = false := decide_eq_false c13
        have c13b1 : decide (300 < a2_0.size) = false := decide_eq_false (by omega)
        clear c13
        (first | rw [c13b0] | (simp only [i64_w, i32_w]; rw [c13b0]) | skip)
        by_cases c16 : (a2_1.size : Int) > 300
        · rw [if_pos c16] at H
          have c16b0 : decide (300 < (a2_1.size : Int)) = true := decide_eq_true c16
          have c16b1 : decide (300 < a2_1.size) = true := decide_eq_true (by omega)
          clear c16
          have H' := Aside0.mk H
          clear H
          have hnb17 := NB455_468.out
          have hnc17 := NB468_455.out
          have hcz18_0 : w9.cell? ⟨gb455, 0, none⟩ = some (.string a2_0) := (blk_cell BK455.out 0).trans rfl
          have hcz18_1 : w9.cell? ⟨gb455, 1, none⟩ = some (.string a2_1) := (blk_cell BK455.out 1).trans rfl
          have hcz18_2 : w9.cell? ⟨gb455, 2, none⟩ = some (.string a2_2) := (blk_cell BK455.out 2).trans rfl
          have hcz18_3 : w9.cell? ⟨gb455, 3, none⟩ = some (.string a2_3) := (blk_cell BK455.out 3).trans rfl
          have hcz18_4 : w9.cell? ⟨gb455, 4, none⟩ = some (.int .i64 a2_4) := (blk_cell BK455.out 4).trans rfl
          have hcz18_5 : w9.cell? ⟨gb455, 5, none⟩ = some (.int .i64 a2_5) := (blk_cell BK455.out 5).trans rfl
          have hcz18_6 : w9.cell? ⟨gb455, 6, none⟩ = some (.int .i64 a2_6) := (blk_cell BK455.out 6).trans rfl
          have hcz18_7 : w9.cell? ⟨gb455, 7, none⟩ = some (.bool a2_7) := (blk_cell BK455.out 7).trans rfl
          have hcz18_8 : w9.cell? ⟨gb455, 8, none⟩ = some (.bool a2_8) := (blk_cell BK455.out 8).trans rfl
          have hcz18_9 : w9.cell? ⟨gb455, 9, none⟩ = some (.bool a2_9) := (blk_cell BK455.out 9).trans rfl
          have hcz18_10 : w9.cell? ⟨gb455, 10, none⟩ = some (.int .i64 a2_10) := (blk_cell BK455.out 10).trans rfl
          have hfz18_0 := blk_frozen BK455.out 0
          have hfz18_1 := blk_frozen BK455.out 1
          have hfz18_2 := blk_frozen BK455.out 2
          have hfz18_3 := blk_frozen BK455.out 3
          have hfz18_4 := blk_frozen BK455.out 4
          have hfz18_5 := blk_frozen BK455.out 5
          have hfz18_6 := blk_frozen BK455.out 6
          have hfz18_7 := blk_frozen BK455.out 7
          have hfz18_8 := blk_frozen BK455.out 8
          have hfz18_9 := blk_frozen BK455.out 9
          have hfz18_10 := blk_frozen BK455.out 10
          go_wp2
          go_meet
          case rel => exact ⟨_, (true), (by first | rfl | (simp; done) | (simp [*]; done)), H', ⟨by first | omega | exact Nat.le_refl _⟩, ⟨xk⟩, ⟨xk⟩, ⟨xb⟩⟩
        · rw [if_neg c16] at H
          have c16b0 : decide (300 < (a2_1.size : Int)) = false := decide_eq_false c16
          have c16b1 : decide (300 < a2_1.size) = false := decide_eq_false (by omega)
          clear c16
          by_cases c19 : (a2_2.size : Int) > 300
          · rw [if_pos c19] at H
            have c19b0 : decide (300 < (a2_2.size : Int)) = true := decide_eq_true c19
            have c19b1 : decide (300 < a2_2.size) = true := decide_eq_true (by omega)
            clear c19
            have H' := Aside0.mk H
            clear H
            have hnb20 := NB455_468.out
            have hnc20 := NB468_455.out
            have hcz21_0 : w9.cell? ⟨gb455, 0, none⟩ = some (.string a2_0) := (blk_cell BK455.out 0).trans rfl
            have hcz21_1 : w9.cell? ⟨gb455, 1, none⟩ = some (.string a2_1) := (blk_cell BK455.out 1).trans rfl
            have hcz21_2 : w9.cell? ⟨gb455, 2, none⟩ = some (.string a2_2) := (blk_cell BK455.out 2).trans rfl
            have hcz21_3 : w9.cell? ⟨gb455, 3, none⟩ = some (.string a2_3) := (blk_cell BK455.out 3).trans rfl
            have hcz21_4 : w9.cell? ⟨gb455, 4, none⟩ = some (.int .i64 a2_4) := (blk_cell BK455.out 4).trans rfl
            have hcz21_5 : w9.cell? ⟨gb455, 5, none⟩ = some (.int .i64 a2_5) := (blk_cell BK455.out 5).trans rfl
            have hcz21_6 : w9.cell? ⟨gb455, 6, none⟩ = some (.int .i64 a2_6) := (blk_cell BK455.out 6).trans rfl
            have hcz21_7 : w9.cell? ⟨gb455, 7, none⟩ = some (.bool a2_7) := (blk_cell BK455.out 7).trans rfl
            have hcz21_8 : w9.cell? ⟨gb455, 8, none⟩ = some (.bool a2_8) := (blk_cell BK455.out 8).trans rfl
            have hcz21_9 : w9.cell? ⟨gb455, 9, none⟩ = some (.bool a2_9) := (blk_cell BK455.out 9).trans rfl
            have hcz21_10 : w9.cell? ⟨gb455, 10, none⟩ = some (.int .i64 a2_10) := (blk_cell BK455.out 10).trans rfl
            have hfz21_0 := blk_frozen BK455.out 0
            have hfz21_1 := blk_frozen BK455.out 1
            have hfz21_2 := blk_frozen BK455.out 2
            have hfz21_3 := blk_frozen BK455.out 3
            have hfz21_4 := blk_frozen BK455.out 4
            have hfz21_5 := blk_frozen BK455.out 5
            have hfz21_6 := blk_frozen BK455.out 6
            have hfz21_7 := blk_frozen BK455.out 7
            have hfz21_8 := blk_frozen BK455.out 8
            have hfz21_9 := blk_frozen BK455.out 9
            have hfz21_10 := blk_frozen BK455.out 10
            go_wp2
            go_meet
            case rel => exact ⟨_, (true), (by first | rfl | (simp; done) | (simp [*]; done)), H', ⟨by first | omega | exact Nat.le_refl _⟩, ⟨xk⟩, ⟨xk⟩, ⟨xb⟩⟩
          · rw [if_neg c19] at H
            have c19b0 : decide (300 < (a2_2.size : Int)) = false := decide_eq_false c19
            have c19b1 : decide (300 < a2_2.size) = false := decide_eq_false (by omega)
            clear c19
            have H' := Aside0.mk H
            clear H
            have hnb22 := NB455_468.out
            have hnc22 := NB468_455.out
            have hcz23_0 : w9.cell? ⟨gb455, 0, none⟩ = some (.string a2_0) := (blk_cell BK455.out 0).trans rfl
            have hcz23_1 : w9.cell? ⟨gb455, 1, none⟩ = some (.string a2_1) := (blk_cell BK455.out 1).trans rfl
            have hcz23_2 : w9.cell? ⟨gb455, 2, none⟩ = some (.string a2_2) := (blk_cell BK455.out 2).trans rfl
            have hcz23_3 : w9.cell? ⟨gb455, 3, none⟩ = some (.string a2_3) := (blk_cell BK455.out 3).trans rfl
            have hcz23_4 : w9.cell? ⟨gb455, 4, none⟩ = some (.int .i64 a2_4) := (blk_cell BK455.out 4).trans rfl
            have hcz23_5 : w9.cell? ⟨gb455, 5, none⟩ = some (.int .i64 a2_5) := (blk_cell BK455.out 5).trans rfl
            have hcz23_6 : w9.cell? ⟨gb455, 6, none⟩ = some (.int .i64 a2_6) := (blk_cell BK455.out 6).trans rfl
            have hcz23_7 : w9.cell? ⟨gb455, 7, none⟩ = some (.bool a2_7) := (blk_cell BK455.out 7).trans rfl
            have hcz23_8 : w9.cell? ⟨gb455, 8, none⟩ = some (.bool a2_8) := (blk_cell BK455.out 8).trans rfl
            have hcz23_9 : w9.cell? ⟨gb455, 9, none⟩ = some (.bool a2_9) := (blk_cell BK455.out 9).trans rfl
            have hcz23_10 : w9.cell? ⟨gb455, 10, none⟩ = some (.int .i64 a2_10) := (blk_cell BK455.out 10).trans rfl
            have hfz23_0 := blk_frozen BK455.out 0
            have hfz23_1 := blk_frozen BK455.out 1
            have hfz23_2 := blk_frozen BK455.out 2
            have hfz23_3 := blk_frozen BK455.out 3
            have hfz23_4 := blk_frozen BK455.out 4
            have hfz23_5 := blk_frozen BK455.out 5
            have hfz23_6 := blk_frozen BK455.out 6
            have hfz23_7 := blk_frozen BK455.out 7
            have hfz23_8 := blk_frozen BK455.out 8
            have hfz23_9 := blk_frozen BK455.out 9
            have hfz23_10 := blk_frozen BK455.out 10
            go_wp2
            go_meet
            case rel => exact ⟨_, (decide ((a2_3.size : Int) > 300)), (by first | rfl | (simp; done) | (simp [*]; done)), H', ⟨by first | omega | exact Nat.le_refl _⟩, ⟨xk⟩, ⟨xk⟩, ⟨xb⟩⟩
    · replace c12 := Bool.eq_false_iff.mpr c12
      subst c12
      have H1 : (cracknellaw18_ProjTwice.j0 k a0 a1 true a2_0 a2_1 a2_2 a2_3 a2_4 a2_5 a2_6 a2_7 a2_8 a2_9 a2_10 t456 t457 t458 t459 t460 t461 t462 t463 t464 t465 t466) = some r := by rw [if_neg (show ¬ (false = true) by decide)] at H; exact H
      clear H
      have H := H1
      clear H1
      have H' := Aside0.mk H
      clear H
      go_wp2
      go_meet
      case rel => exact ⟨_, (true), (by first | rfl | (simp; done) | (simp [*]; done)), H', ⟨by first | omega | exact Nat.le_refl _⟩, ⟨xk⟩, ⟨xk⟩, ⟨xb⟩⟩
  case rest =>
    clear HC5
    try clear c1
    try clear c2
    try clear p2
    try clear p3
    try clear c5
    try clear p6
    try clear c10
    try clear c12
    try clear c13
    try clear c13b0
    try clear c13b1
    try clear c14
    try clear c16
    try clear c16b0
    try clear c16b1
    try clear c17
    try clear c19
    try clear c19b0
    try clear c19b1
    try clear c20
    try clear c22
    try clear hcz11_0
    try clear hcz11_1
    try clear hcz11_10
    try clear hcz11_2
    try clear hcz11_3
    try clear hcz11_4
    try clear hcz11_5
    try clear hcz11_6
    try clear hcz11_7
    try clear hcz11_8
    try clear hcz11_9
    try clear hcz15_0
    try clear hcz15_1
    try clear hcz15_10
    try clear hcz15_2
    try clear hcz15_3
    try clear hcz15_4
    try clear hcz15_5
    try clear hcz15_6
    try clear hcz15_7
    try clear hcz15_8
    try clear hcz15_9
    try clear hcz18_0
    try clear hcz18_1
    try clear hcz18_10
    try clear hcz18_2
    try clear hcz18_3
    try clear hcz18_4
    try clear hcz18_5
    try clear hcz18_6
    try clear hcz18_7
    try clear hcz18_8
    try clear hcz18_9
    try clear hcz21_0
    try clear hcz21_1
    try clear hcz21_10
    try clear hcz21_2
    try clear hcz21_3
    try clear hcz21_4
    try clear hcz21_5
    try clear hcz21_6
    try clear hcz21_7
    try clear hcz21_8
    try clear hcz21_9
    try clear hcz23_0
    try clear hcz23_1
    try clear hcz23_10
    try clear hcz23_2
    try clear hcz23_3
    try clear hcz23_4
    try clear hcz23_5
    try clear hcz23_6
    try clear hcz23_7
    try clear hcz23_8
    try clear hcz23_9
    try clear hcz7_0
    try clear hcz7_1
    try clear hcz7_10
    try clear hcz7_2
    try clear hcz7_3
    try clear hcz7_4
    try clear hcz7_5
    try clear hcz7_6
    try clear hcz7_7
    try clear hcz7_8
    try clear hcz7_9
    try clear hfz11_0
    try clear hfz11_1
    try clear hfz11_10
    try clear hfz11_2
    try clear hfz11_3
    try clear hfz11_4
    try clear hfz11_5
    try clear hfz11_6
    try clear hfz11_7
    try clear hfz11_8
    try clear hfz11_9
    try clear hfz15_0
    try clear hfz15_1
    try clear hfz15_10
    try clear hfz15_2
    try clear hfz15_3
    try clear hfz15_4
    try clear hfz15_5
    try clear hfz15_6
    try clear hfz15_7
    try clear hfz15_8
    try clear hfz15_9
    try clear hfz18_0
    try clear hfz18_1
    try clear hfz18_10
    try clear hfz18_2
    try clear hfz18_3
    try clear hfz18_4
    try clear hfz18_5
    try clear hfz18_6
    try clear hfz18_7
    try clear hfz18_8
    try clear hfz18_9
    try clear hfz21_0
    try clear hfz21_1
    try clear hfz21_10
    try clear hfz21_2
    try clear hfz21_3
    try clear hfz21_4
    try clear hfz21_5
    try clear hfz21_6
    try clear hfz21_7
    try clear hfz21_8
    try clear hfz21_9
    try clear hfz23_0
    try clear hfz23_1
    try clear hfz23_10
    try clear hfz23_2
    try clear hfz23_3
    try clear hfz23_4
    try clear hfz23_5
    try clear hfz23_6
    try clear hfz23_7
    try clear hfz23_8
    try clear hfz23_9
    try clear hfz7_0
    try clear hfz7_1
    try clear hfz7_10
    try clear hfz7_2
    try clear hfz7_3
    try clear hfz7_4
    try clear hfz7_5
    try clear hfz7_6
    try clear hfz7_7
    try clear hfz7_8
    try clear hfz7_9
    obtain ⟨kq, x43_4, rfl, HA, HJ4, BK455, BK468, HB⟩ := hcut
    cases kq with
    | zero => exact absurd HA.out (by simp [cracknellaw18_ProjTwice.j0])
    | succ kj4 =>
      have H := HA.out
      clear HA
      simp only [cracknellaw18_ProjTwice.j0] at H
      by_cases c24 : x43_4 = true
      · subst c24
        have H1 : ((cracknellaw18_alive.f kj4).bind fun t469 => (some t469)) = some r := by rw [if_pos rfl] at H; exact H
        clear H
        have H := H1
        clear H1
        replace H := Option.bind_eq_some_iff.mp H
        obtain ⟨t469, A250, H⟩ := H
        replace H : (some t469) = some r := H
        have A25 := Aside0.mk A250
        clear A250
        obtain rfl := Option.some.inj H
        go_wp2_with (first | ((with_reducible refine gate_callee (f := 10) rfl ?_); refine goesL_ (some 44) rfl rfl Tryd.func10 (by kernel_rfl) rfl #[] rfl xg ?_; (with_reducible refine (cracknellaw18_alive.calls kj4  t469 _ (Aside0.mk (by first | exact hG.out | ((with_reducible repeat (first | apply LaidG.drewN | apply LaidG.drew | apply LaidG.alloc)); exact hG.out) | exact LaidG.below hG.out xb)) ⟨by first | rfl | assumption | exact hT_.out⟩ A25.out).mono ?_); rintro e w26 ⟨rfl, hb⟩; refine ⟨_, rfl, ?_⟩; have n0_ := blkB BK455 hb; have n1_ := blkB BK468 hb; have n2_ := Aside0.mk (below_step xb hb); clear BK455; clear BK468; clear HB; have BK455 := n0_; have BK468 := n1_; have HB := n2_; clear n0_ n1_ n2_; (try clear hb); (try clear hb2); (try clear hk); (try clear hi)))
        go_ret
        exact ⟨by first | rfl | (simp [errW_none, errW_some] <;> rfl) | (simp [*, errW_none, errW_some] <;> rfl), by repeat (first | (with_reducible first | exact HB.out | apply below_alloc | apply pw_below_drewN | apply below_drew1 | refine below_set ?_ GE455.out | refine below_set ?_ GE468.out) | exact HB.out)⟩
      · replace c24 := Bool.eq_false_iff.mpr c24
        subst c24
        have H1 : ((proj_Cookie.f kj4 a0 a1 t456 t457 t458 t459 t460 t461 t462 t463 t464 t465 t466).bind fun bt470 => ((cracknellaw18_alive.f kj4).bind fun t483 => (if t483 = true then (if bt470.2.2.2.2.2.2.2.2.2.2.2 = true then (if (bt470.1.toList == t456.toList && (bt470.2.1.toList == t457.toList && (bt470.2.2.1.toList == t458.toList && (bt470.2.2.2.1.toList == t459.toList && (bt470.2.2.2.2.1 == t460 && (bt470.2.2.2.2.2.1 == t461 && (bt470.2.2.2.2.2.2.1 == t462 && (bt470.2.2.2.2.2.2.2.1 == t463 && (bt470.2.2.2.2.2.2.2.2.1 == t464 && (bt470.2.2.2.2.2.2.2.2.2.1 == t465 && (bt470.2.2.2.2.2.2.2.2.2.2.1 == t466))))))))))) = true then ((PrintC.cookie_Of.f t456 t457 t458 t459 t460 t461 t462 t463 t464 t465 t466).bind fun bt484 => ((PrintC.cookie_Of.f a2_0 a2_1 a2_2 a2_3 a2_4 a2_5 a2_6 a2_7 a2_8 a2_9 a2_10).bind fun bt487 => (if (bt484.1.toList == bt487.1.toList && (bt484.2.1.toList == bt487.2.1.toList && (bt484.2.2.toList == bt487.2.2.toList))) = true then ((cookie_Right.f kj4 a2_0 a2_1 a2_2 a2_3 a2_4 a2_5 a2_6 a2_7 a2_8 a2_9 a2_10).bind fun t490 => (if t490 = true then ((cookie_Right.f kj4 t456 t457 t458 t459 t460 t461 t462 t463 t464 t465 t466).bind fun t491 => (some t491)) else (some true))) else (some false)))) else (some false)) else (some false)) else (some false)))) = some r := by rw [if_neg (show ¬ (false = true) by decide)] at H; exact H
        clear H
        have H := H1
        clear H1
        replace H := Option.bind_eq_some_iff.mp H
        obtain ⟨⟨t470, t471, t472, t473, t474, t475, t476, t477, t478, t479, t480, t481⟩, A270, H⟩ := H
        replace H : ((cracknellaw18_alive.f kj4).bind fun t483 => (if t483 = true then (if t481 = true then (if (t470.toList == t456.toList && (t471.toList == t457.toList && (t472.toList == t458.toList && (t473.toList == t459.toList && (t474 == t460 && (t475 == t461 && (t476 == t462 && (t477 == t463 && (t478 == t464 && (t479 == t465 && (t480 == t466))))))))))) = true then ((PrintC.cookie_Of.f t456 t457 t458 t459 t460 t461 t462 t463 t464 t465 t466).bind fun bt484 => ((PrintC.cookie_Of.f a2_0 a2_1 a2_2 a2_3 a2_4 a2_5 a2_6 a2_7 a2_8 a2_9 a2_10).bind fun bt487 => (if (bt484.1.toList == bt487.1.toList && (bt484.2.1.toList == bt487.2.1.toList && (bt484.2.2.toList == bt487.2.2.toList))) = true then ((cookie_Right.f kj4 a2_0 a2_1 a2_2 a2_3 a2_4 a2_5 a2_6 a2_7 a2_8 a2_9 a2_10).bind fun t490 => (if t490 = true then ((cookie_Right.f kj4 t456 t457 t458 t459 t460 t461 t462 t463 t464 t465 t466).bind fun t491 => (some t491)) else (some true))) else (some false)))) else (some false)) else (some false)) else (some false))) = some r := H
        have A27 := Aside0.mk A270
        clear A270
        replace H := Option.bind_eq_some_iff.mp H
        obtain ⟨t483, A280, H⟩ := H
        replace H : (if t483 = true then (if t481 = true then (if (t470.toList == t456.toList && (t471.toList == t457.toList && (t472.toList == t458.toList && (t473.toList == t459.toList && (t474 == t460 && (t475 == t461 && (t476 == t462 && (t477 == t463 && (t478 == t464 && (t479 == t465 && (t480 == t466))))))))))) = true then ((PrintC.cookie_Of.f t456 t457 t458 t459 t460 t461 t462 t463 t464 t465 t466).bind fun bt484 => ((PrintC.cookie_Of.f a2_0 a2_1 a2_2 a2_3 a2_4 a2_5 a2_6 a2_7 a2_8 a2_9 a2_10).bind fun bt487 => (if (bt484.1.toList == bt487.1.toList && (bt484.2.1.toList == bt487.2.1.toList && (bt484.2.2.toList == bt487.2.2.toList))) = true then ((cookie_Right.f kj4 a2_0 a2_1 a2_2 a2_3 a2_4 a2_5 a2_6 a2_7 a2_8 a2_9 a2_10).bind fun t490 => (if t490 = true then ((cookie_Right.f kj4 t456 t457 t458 t459 t460 t461 t462 t463 t464 t465 t466).bind fun t491 => (some t491)) else (some true))) else (some false)))) else (some false)) else (some false)) else (some false)) = some r := H
        have A28 := Aside0.mk A280
        clear A280
        by_cases c29 : t483 = true
        · subst c29
          have H1 : (if t481 = true then (if (t470.toList == t456.toList && (t471.toList == t457.toList && (t472.toList == t458.toList && (t473.toList == t459.toList && (t474 == t460 && (t475 == t461 && (t476 == t462 && (t477 == t463 && (t478 == t464 && (t479 == t465 && (t480 == t466))))))))))) = true then ((PrintC.cookie_Of.f t456 t457 t458 t459 t460 t461 t462 t463 t464 t465 t466).bind fun bt484 => ((PrintC.cookie_Of.f a2_0 a2_1 a2_2 a2_3 a2_4 a2_5 a2_6 a2_7 a2_8 a2_9 a2_10).bind fun bt487 => (if (bt484.1.toList == bt487.1.toList && (bt484.2.1.toList == bt487.2.1.toList && (bt484.2.2.toList == bt487.2.2.toList))) = true then ((cookie_Right.f kj4 a2_0 a2_1 a2_2 a2_3 a2_4 a2_5 a2_6 a2_7 a2_8 a2_9 a2_10).bind fun t490 => (if t490 = true then ((cookie_Right.f kj4 t456 t457 t458 t459 t460 t461 t462 t463 t464 t465 t466).bind fun t491 => (some t491)) else (some true))) else (some false)))) else (some false)) else (some false)) = some r := by rw [if_pos rfl] at H; exact H
          clear H
          have H := H1
          clear H1
          by_cases c30 : t481 = true
          · subst c30
            have H1 : (if (t470.toList == t456.toList && (t471.toList == t457.toList && (t472.toList == t458.toList && (t473.toList == t459.toList && (t474 == t460 && (t475 == t461 && (t476 == t462 && (t477 == t463 && (t478 == t464 && (t479 == t465 && (t480 == t466))))))))))) = true then ((PrintC.cookie_Of.f t456 t457 t458 t459 t460 t461 t462 t463 t464 t465 t466).bind fun bt484 => ((PrintC.cookie_Of.f a2_0 a2_1 a2_2 a2_3 a2_4 a2_5 a2_6 a2_7 a2_8 a2_9 a2_10).bind fun bt487 => (if (bt484.1.toList == bt487.1.toList && (bt484.2.1.toList == bt487.2.1.toList && (bt484.2.2.toList == bt487.2.2.toList))) = true then ((cookie_Right.f kj4 a2_0 a2_1 a2_2 a2_3 a2_4 a2_5 a2_6 a2_7 a2_8 a2_9 a2_10).bind fun t490 => (if t490 = true then ((cookie_Right.f kj4 t456 t457 t458 t459 t460 t461 t462 t463 t464 t465 t466).bind fun t491 => (some t491)) else (some true))) else (some false)))) else (some false)) = some r := by rw [if_pos rfl] at H; exact H
            clear H
            have H := H1
            clear H1
            by_cases c31 : (t470.toList == t456.toList && (t471.toList == t457.toList && (t472.toList == t458.toList && (t473.toList == t459.toList && (t474 == t460 && (t475 == t461 && (t476 == t462 && (t477 == t463 && (t478 == t464 && (t479 == t465 && (t480 == t466))))))))))) = true
            · rw [if_pos c31] at H
              have c31b0 : (t470.toList == t456.toList && (t471.toList == t457.toList && (t472.toList == t458.toList && (t473.toList == t459.toList && (t474 == t460 && (t475 == t461 && (t476 == t462 && (t477 == t463 && (t478 == t464 && (t479 == t465 && (t480 == t466))))))))))) = true := c31
              (try (have c31b1 : decide (t470.toList = t456.toList && (t471.toList == t457.toList && (t472.toList == t458.toList && (t473.toList == t459.toList && (t474 == t460 && (t475 == t461 && (t476 == t462 && (t477 == t463 && (t478 == t464 && (t479 == t465 && (t480 == t466))))))))))) = true := by simpa using c31))
              (try (have c31b2 : (t470.toList == t456.toList && (t471.toList == t457.toList && (t472.toList == t458.toList && (t473.toList == t459.toList && (t474 == t460 && (t475 == t461 && (t476 == t462 && (t477 == t463 && (t478 == t464 && (t479 == t465 && (t480 == t466))))))))))) = true := by simpa using c31))
              clear c31
              replace H := Option.bind_eq_some_iff.mp H
              obtain ⟨⟨t484, t485, t486⟩, A320, H⟩ := H
              replace H : ((PrintC.cookie_Of.f a2_0 a2_1 a2_2 a2_3 a2_4 a2_5 a2_6 a2_7 a2_8 a2_9 a2_10).bind fun bt487 => (if (t484.toList == bt487.1.toList && (t485.toList == bt487.2.1.toList && (t486.toList == bt487.2.2.toList))) = true then ((cookie_Right.f kj4 a2_0 a2_1 a2_2 a2_3 a2_4 a2_5 a2_6 a2_7 a2_8 a2_9 a2_10).bind fun t490 => (if t490 = true then ((cookie_Right.f kj4 t456 t457 t458 t459 t460 t461 t462 t463 t464 t465 t466).bind fun t491 => (some t491)) else (some true))) else (some false))) = some r := H
              have A32 := Aside0.mk A320
              clear A320
              replace H := Option.bind_eq_some_iff.mp H
              obtain ⟨⟨t487, t488, t489⟩, A330, H⟩ := H
              replace H : (if (t484.toList == t487.toList && (t485.toList == t488.toList && (t486.toList == t489.toList))) = true then ((cookie_Right.f kj4 a2_0 a2_1 a2_2 a2_3 a2_4 a2_5 a2_6 a2_7 a2_8 a2_9 a2_10).bind fun t490 => (if t490 = true then ((cookie_Right.f kj4 t456 t457 t458 t459 t460 t461 t462 t463 t464 t465 t466).bind fun t491 => (some t491)) else (some true))) else (some false)) = some r := H
              have A33 := Aside0.mk A330
              clear A330
              by_cases c34 : (t484.toList == t487.toList && (t485.toList == t488.toList && (t486.toList == t489.toList))) = true
              · rw [if_pos c34] at H
                have c34b0 : (t484.toList == t487.toList && (t485.toList == t488.toList && (t486.toList == t489.toList))) = true := c34
                (try (have c34b1 : decide (t484.toList = t487.toList && (t485.toList == t488.toList && (t486.toList == t489.toList))) = true := by simpa using c34))
                (try (have c34b2 : (t484.toList == t487.toList && (t485.toList == t488.toList && (t486.toList == t489.toList))) = true := by simpa using c34))
                clear c34
                replace H := Option.bind_eq_some_iff.mp H
                obtain ⟨t490, A350, H⟩ := H
                replace H : (if t490 = true then ((cookie_Right.f kj4 t456 t457 t458 t459 t460 t461 t462 t463 t464 t465 t466).bind fun t491 => (some t491)) else (some true)) = some r := H
                have A35 := Aside0.mk A350
                clear A350
                by_cases c36 : t490 = true
                · subst c36
                  have H1 : ((cookie_Right.f kj4 t456 t457 t458 t459 t460 t461 t462 t463 t464 t465 t466).bind fun t491 => (some t491)) = some r := by rw [if_pos rfl] at H; exact H
                  clear H
                  have H := H1
                  clear H1
                  replace H := Option.bind_eq_some_iff.mp H
                  obtain ⟨t491, A370, H⟩ := H
                  replace H : (some t491) = some r := H
                  have A37 := Aside0.mk A370
                  clear A370
                  obtain rfl := Option.some.inj H
                  have hnb38 := NB468_455.out
                  have hnc38 := NB455_468.out
                  have hcz39_0 : wc.cell? ⟨gb468, 0, none⟩ = some (.string t456) := (blk_cell BK468.out 0).trans rfl
                  have hcz39_1 : wc.cell? ⟨gb468, 1, none⟩ = some (.string t457) := (blk_cell BK468.out 1).trans rfl
                  have hcz39_2 : wc.cell? ⟨gb468, 2, none⟩ = some (.string t458) := (blk_cell BK468.out 2).trans rfl
                  have hcz39_3 : wc.cell? ⟨gb468, 3, none⟩ = some (.string t459) := (blk_cell BK468.out 3).trans rfl
                  have hcz39_4 : wc.cell? ⟨gb468, 4, none⟩ = some (.int .i64 t460) := (blk_cell BK468.out 4).trans rfl
                  have hcz39_5 : wc.cell? ⟨gb468, 5, none⟩ = some (.int .i64 t461) := (blk_cell BK468.out 5).trans rfl
                  have hcz39_6 : wc.cell? ⟨gb468, 6, none⟩ = some (.int .i64 t462) := (blk_cell BK468.out 6).trans rfl
                  have hcz39_7 : wc.cell? ⟨gb468, 7, none⟩ = some (.bool t463) := (blk_cell BK468.out 7).trans rfl
                  have hcz39_8 : wc.cell? ⟨gb468, 8, none⟩ = some (.bool t464) := (blk_cell BK468.out 8).trans rfl
                  have hcz39_9 : wc.cell? ⟨gb468, 9, none⟩ = some (.bool t465) := (blk_cell BK468.out 9).trans rfl
                  have hcz39_10 : wc.cell? ⟨gb468, 10, none⟩ = some (.int .i64 t466) := (blk_cell BK468.out 10).trans rfl
                  have hfz39_0 := blk_frozen BK468.out 0
                  have hfz39_1 := blk_frozen BK468.out 1
                  have hfz39_2 := blk_frozen BK468.out 2
                  have hfz39_3 := blk_frozen BK468.out 3
                  have hfz39_4 := blk_frozen BK468.out 4
                  have hfz39_5 := blk_frozen BK468.out 5
                  have hfz39_6 := blk_frozen BK468.out 6
                  have hfz39_7 := blk_frozen BK468.out 7
                  have hfz39_8 := blk_frozen BK468.out 8
                  have hfz39_9 := blk_frozen BK468.out 9
                  have hfz39_10 := blk_frozen BK468.out 10
                  try go_wp2_with (first | ((with_reducible refine gate_callee (f := 13) rfl ?_); refine goesL_ (some 49) rfl rfl Tryd.func13 (by kernel_rfl) rfl #[.int .i64 a0, .int .i64 a1, .agg #[.string t456, .string t457, .string t458, .string t459, .int .i64 t460, .int .i64 t461, .int .i64 t462, .bool t463, .bool t464, .bool t465, .int .i64 t466]] rfl xg ?_; (with_reducible refine (proj_Cookie.calls kj4 a0 a1 t456 t457 t458 t459 t460 t461 t462 t463 t464 t465 t466 t470 t471 t472 t473 t474 t475 t476 t477 t478 t479 t480 true _ A27.out).mono ?_); rintro e w40 ⟨rfl, hb⟩; refine ⟨_, rfl, ?_⟩; have n0_ := blkB BK455 hb; have n1_ := blkB BK468 hb; have n2_ := Aside0.mk (below_step xb hb); clear BK455; clear BK468; clear HB; have BK455 := n0_; have BK468 := n1_; have HB := n2_; clear n0_ n1_ n2_; (try clear hb); (try clear hb2); (try clear hk); (try clear hi)) | ((with_reducible refine gate_dst (N := 9) rfl ?_); refine box_event ?hg (N := 9) ?hd (cs := #[.string (⟨#[]⟩ : ByteArray), .string (⟨#[]⟩ : ByteArray), .string (⟨#[]⟩ : ByteArray), .string (⟨#[]⟩ : ByteArray), .int .i64 0, .int .i64 0, .int .i64 0, .bool false, .bool false, .bool false, .int .i64 0]) (t := 27) ?hr ?_; (case hd => rfl); (case hg => rfl); (case hr => first | (go_simp; done) | (go_simp; rfl)); intro gb482 hg w41 hbox hb; have n0_ := blkB BK455 hb; have n1_ := blkB BK468 hb; have n2_ := Aside0.mk (below_step xb hb); have n3_ := Aside0.mk (hbox); have n4_ := Aside0.mk ((by rw [hg]; exact (below_size xb) : w.heap.size ≤ gb482)); have n5_ := Aside0.mk ((by rw [hg]; exact (below_size xb) : w.heap.size ≤ gb482)); have n6_ := Aside0.mk ((by rw [hg]; exact Nat.ne_of_lt (blkL BK455) : gb455 ≠ gb482)); have n7_ := Aside0.mk ((by rw [hg]; exact Nat.ne_of_gt (blkL BK455) : gb482 ≠ gb455)); have n8_ := Aside0.mk ((by rw [hg]; exact Nat.ne_of_lt (blkL BK468) : gb468 ≠ gb482)); have n9_ := Aside0.mk ((by rw [hg]; exact Nat.ne_of_gt (blkL BK468) : gb482 ≠ gb468)); clear BK455; clear BK468; clear HB; have BK455 := n0_; have BK468 := n1_; have HB := n2_; have BK482 := n3_; have GW482 := n4_; have GE482 := n5_; have NB455_482 := n6_; have NB482_455 := n7_; have NB468_482 := n8_; have NB482_468 := n9_; clear n0_ n1_ n2_ n3_ n4_ n5_ n6_ n7_ n8_ n9_; clear hb hbox hg; have hnb42 := NB482_455.out; have hnc42 := NB455_482.out; have hnb43 := NB482_468.out; have hnc43 := NB468_482.out; have hcz44_0 : w41.cell? ⟨gb482, 0, none⟩ = some (.string (⟨#[]⟩ : ByteArray)) := (blk_cell BK482.out 0).trans rfl; have hcz44_1 : w41.cell? ⟨gb482, 1, none⟩ = some (.string (⟨#[]⟩ : ByteArray)) := (blk_cell BK482.out 1).trans rfl; have hcz44_2 : w41.cell? ⟨gb482, 2, none⟩ = some (.string (⟨#[]⟩ : ByteArray)) := (blk_cell BK482.out 2).trans rfl; have hcz44_3 : w41.cell? ⟨gb482, 3, none⟩ = some (.string (⟨#[]⟩ : ByteArray)) := (blk_cell BK482.out 3).trans rfl; have hcz44_4 : w41.cell? ⟨gb482, 4, none⟩ = some (.int .i64 0) := (blk_cell BK482.out 4).trans rfl; have hcz44_5 : w41.cell? ⟨gb482, 5, none⟩ = some (.int .i64 0) := (blk_cell BK482.out 5).trans rfl; have hcz44_6 : w41.cell? ⟨gb482, 6, none⟩ = some (.int .i64 0) := (blk_cell BK482.out 6).trans rfl; have hcz44_7 : w41.cell? ⟨gb482, 7, none⟩ = some (.bool false) := (blk_cell BK482.out 7).trans rfl; have hcz44_8 : w41.cell? ⟨gb482, 8, none⟩ = some (.bool false) := (blk_cell BK482.out 8).trans rfl; have hcz44_9 : w41.cell? ⟨gb482, 9, none⟩ = some (.bool false) := (blk_cell BK482.out 9).trans rfl; have hcz44_10 : w41.cell? ⟨gb482, 10, none⟩ = some (.int .i64 0) := (blk_cell BK482.out 10).trans rfl; have hfz44_0 := blk_frozen BK482.out 0; have hfz44_1 := blk_frozen BK482.out 1; have hfz44_2 := blk_frozen BK482.out 2; have hfz44_3 := blk_frozen BK482.out 3; have hfz44_4 := blk_frozen BK482.out 4; have hfz44_5 := blk_frozen BK482.out 5; have hfz44_6 := blk_frozen BK482.out 6; have hfz44_7 := blk_frozen BK482.out 7; have hfz44_8 := blk_frozen BK482.out 8; have hfz44_9 := blk_frozen BK482.out 9; have hfz44_10 := blk_frozen BK482.out 10))
                  obtain ⟨w45, hw_⟩ : ∃ v_, (((((((((((w41.setCell ⟨gb482, 0, none⟩ (.string t470)).setCell ⟨gb482, 1, none⟩ (.string t471)).setCell ⟨gb482, 2, none⟩ (.string t472)).setCell ⟨gb482, 3, none⟩ (.string t473)).setCell ⟨gb482, 4, none⟩ (.int .i64 t474)).setCell ⟨gb482, 5, none⟩ (.int .i64 t475)).setCell ⟨gb482, 6, none⟩ (.int .i64 t476)).setCell ⟨gb482, 7, none⟩ (.bool t477)).setCell ⟨gb482, 8, none⟩ (.bool t478)).setCell ⟨gb482, 9, none⟩ (.bool t479)).setCell ⟨gb482, 10, none⟩ (.int .i64 t480)) = v_ := ⟨_, rfl⟩
                  have n0_ : Aside0 (w45.heap[gb455]? = some (.cells #[.string a2_0, .string a2_1, .string a2_2, .string a2_3, .int .i64 a2_4, .int .i64 a2_5, .int .i64 a2_6, .bool a2_7, .bool a2_8, .bool a2_9, .int .i64 a2_10] 27 (0, 0))) := by rw [← hw_]; exact ⟨xk⟩
                  have n1_ : Aside0 (w45.heap[gb468]? = some (.cells #[.string t456, .string t457, .string t458, .string t459, .int .i64 t460, .int .i64 t461, .int .i64 t462, .bool t463, .bool t464, .bool t465, .int .i64 t466] 27 (0, 0))) := by rw [← hw_]; exact ⟨xk⟩
                  have n2_ : Aside0 (w45.heap[gb482]? = some (.cells #[.string t470, .string t471, .string t472, .string t473, .int .i64 t474, .int .i64 t475, .int .i64 t476, .bool t477, .bool t478, .bool t479, .int .i64 t480] 27 (0, 0))) := by rw [← hw_]; exact ⟨xk⟩
                  have n3_ : Aside0 (Below w.heap.size w w45) := by rw [← hw_]; exact ⟨xb⟩
                  (try clear BK455)
                  (try clear BK468)
                  (try clear BK482)
                  (try clear HB)
                  (try rewrite [hw_])
                  clear hw_
                  have BK455 := n0_
                  have BK468 := n1_
                  have BK482 := n2_
                  have HB := n3_
                  clear n0_ n1_ n2_ n3_
                  have n0_ := Aside0.mk (blk_drew BK455.out)
                  have n1_ := Aside0.mk (blk_drew BK468.out)
                  have n2_ := Aside0.mk (blk_drew BK482.out)
                  have n3_ := Aside0.mk (below_drew1 HB.out)
                  clear BK455
                  clear BK468
                  clear BK482
                  clear HB
                  have BK455 := n0_
                  have BK468 := n1_
                  have BK482 := n2_
                  have HB := n3_
                  clear n0_ n1_ n2_ n3_
                  refine start_ (n := 26) (S := fun w' => w'.cell? ⟨gb482, 0, none⟩ = some (.string t470) ∧ w'.cell? ⟨gb482, 1, none⟩ = some (.string t471) ∧ w'.cell? ⟨gb482, 2, none⟩ = some (.string t472) ∧ w'.cell? ⟨gb482, 3, none⟩ = some (.string t473) ∧ w'.cell? ⟨gb482, 4, none⟩ = some (.int .i64 t474) ∧ w'.cell? ⟨gb482, 5, none⟩ = some (.int .i64 t475) ∧ w'.cell? ⟨gb482, 6, none⟩ = some (.int .i64 t476) ∧ w'.cell? ⟨gb482, 7, none⟩ = some (.bool t477) ∧ w'.cell? ⟨gb482, 8, none⟩ = some (.bool t478) ∧ w'.cell? ⟨gb482, 9, none⟩ = some (.bool t479) ∧ w'.cell? ⟨gb482, 10, none⟩ = some (.int .i64 t480) ∧ w'.cell? ⟨gb468, 0, none⟩ = some (.string t456) ∧ w'.cell? ⟨gb468, 1, none⟩ = some (.string t457) ∧ w'.cell? ⟨gb468, 2, none⟩ = some (.string t458) ∧ w'.cell? ⟨gb468, 3, none⟩ = some (.string t459) ∧ w'.cell? ⟨gb468, 4, none⟩ = some (.int .i64 t460) ∧ w'.cell? ⟨gb468, 5, none⟩ = some (.int .i64 t461) ∧ w'.cell? ⟨gb468, 6, none⟩ = some (.int .i64 t462) ∧ w'.cell? ⟨gb468, 7, none⟩ = some (.bool t463) ∧ w'.cell? ⟨gb468, 8, none⟩ = some (.bool t464) ∧ w'.cell? ⟨gb468, 9, none⟩ = some (.bool t465) ∧ w'.cell? ⟨gb468, 10, none⟩ = some (.int .i64 t466) ∧ w'.cell? ⟨gb455, 0, none⟩ = some (.string a2_0) ∧ w'.cell? ⟨gb455, 1, none⟩ = some (.string a2_1) ∧ w'.cell? ⟨gb455, 2, none⟩ = some (.string a2_2) ∧ w'.cell? ⟨gb455, 3, none⟩ = some (.string a2_3) ∧ w'.cell? ⟨gb455, 4, none⟩ = some (.int .i64 a2_4) ∧ w'.cell? ⟨gb455, 5, none⟩ = some (.int .i64 a2_5) ∧ w'.cell? ⟨gb455, 6, none⟩ = some (.int .i64 a2_6) ∧ w'.cell? ⟨gb455, 7, none⟩ = some (.bool a2_7) ∧ w'.cell? ⟨gb455, 8, none⟩ = some (.bool a2_8) ∧ w'.cell? ⟨gb455, 9, none⟩ = some (.bool a2_9) ∧ w'.cell? ⟨gb455, 10, none⟩ = some (.int .i64 a2_10)) (ds := []) #[false, false, false, false, false, false, false, false, false, false, false, false, false, false, false, false, false, false, false, false, false, false, false, false, false, false] (by kernel_rfl) rfl rfl ⟨(blk_cell BK482.out 0).trans rfl, (blk_cell BK482.out 1).trans rfl, (blk_cell BK482.out 2).trans rfl, (blk_cell BK482.out 3).trans rfl, (blk_cell BK482.out 4).trans rfl, (blk_cell BK482.out 5).trans rfl, (blk_cell BK482.out 6).trans rfl, (blk_cell BK482.out 7).trans rfl, (blk_cell BK482.out 8).trans rfl, (blk_cell BK482.out 9).trans rfl, (blk_cell BK482.out 10).trans rfl, (blk_cell BK468.out 0).trans rfl, (blk_cell BK468.out 1).trans rfl, (blk_cell BK468.out 2).trans rfl, (blk_cell BK468.out 3).trans rfl, (blk_cell BK468.out 4).trans rfl, (blk_cell BK468.out 5).trans rfl, (blk_cell BK468.out 6).trans rfl, (blk_cell BK468.out 7).trans rfl, (blk_cell BK468.out 8).trans rfl, (blk_cell BK468.out 9).trans rfl, (blk_cell BK468.out 10).trans rfl, (blk_cell BK455.out 0).trans rfl, (blk_cell BK455.out 1).trans rfl, (blk_cell BK455.out 2).trans rfl, (blk_cell BK455.out 3).trans rfl, (blk_cell BK455.out 4).trans rfl, (blk_cell BK455.out 5).trans rfl, (blk_cell BK455.out 6).trans rfl, (blk_cell BK455.out 7).trans rfl, (blk_cell BK455.out 8).trans rfl, (blk_cell BK455.out 9).trans rfl, (blk_cell BK455.out 10).trans rfl⟩ (fun hHeld => ?_); refine with_tabW cracknellaw18_ProjTwice.tab5 cracknellaw18_ProjTwice.bits5 (fun HT_ HW_ => ?_)
                  generalize w45.drew = w46 at BK455 BK468 BK482 HB hHeld ⊢
                  refine one_ (i := 0) (N := some 52) #[true, false, false, false, false, false, false, false, false, false, false, false, false, false, false, false, false, false, false, false, false, false, false, false, false, false] rfl rfl (one_of HT_.out (by kernel_rfl)) (by decide) (fun K hK => ?_)
                  refine goes_ Tryd.func10 (by kernel_rfl) rfl #[] (by rfl) rfl rfl xg ?_
                  with_reducible refine (cracknellaw18_alive.calls kj4  true _ (Aside0.mk (by first | exact hG.out | ((with_reducible repeat (first | apply LaidG.drewN | apply LaidG.drew | apply LaidG.alloc)); exact hG.out) | exact LaidG.below hG.out xb)) ⟨by first | rfl | assumption | exact hT_.out⟩ A28.out).mono ?_
                  rintro e w47 ⟨rfl, hb⟩
                  refine ⟨_, rfl, ?_⟩
                  have n0_ := blkB BK455 hb
                  have n1_ := blkB BK468 hb
                  have n2_ := blkB BK482 hb
                  have n3_ := Aside0.mk (below_step xb hb)
                  clear BK455
                  clear BK468
                  clear BK482
                  clear HB
                  have BK455 := n0_
                  have BK468 := n1_
                  have BK482 := n2_
                  have HB := n3_
                  clear n0_ n1_ n2_ n3_
                  (try clear hb)
                  (try clear hb2)
                  (try clear hk)
                  (try clear hi)
                  refine hK.out _ _ xc (fun hHeld => ?_)
                  clear hK K
                  refine norm_ (a' := ?_) ?_ ?_
                  rotate_left
                  · show Act.put _ (some 52) _ = _
                    simp only [Act.put, List.setIfInBounds_toArray, List.set_cons_zero, List.set_cons_succ, i64_w, i32_w]
                    rfl
                  refine pure_ (i := 1) (N := some 53) (v := ?_) (a' := ?_) #[true, true, false, false, false, false, false, false, false, false, false, false, false, false, false, false, false, false, false, false, false, false, false, false, false, false] rfl rfl (any_of HT_.out (by kernel_rfl)) (fun _ _ _ h => h) (Or.inl ⟨by rfl, ?_⟩) ?_ ?_
                  rotate_left
                  · intro w'
                    go_simp
                    with_reducible rfl
                  rotate_left
                  · simp only [Act.put, List.setIfInBounds_toArray, List.set_cons_zero, List.set_cons_succ, i64_w, i32_w]
                    rfl
                  refine pure_ (i := 2) (N := some 54) (v := ?_) (a' := ?_) #[true, true, true, false, false, false, false, false, false, false, false, false, false, false, false, false, false, false, false, false, false, false, false, false, false, false] rfl rfl (any_of HT_.out (by kernel_rfl)) (fun _ _ _ h => h) (Or.inl ⟨by rfl, ?_⟩) ?_ ?_
                  rotate_left
                  · intro w'
                    go_simp
                    with_reducible rfl
                  rotate_left
                  · simp only [Act.put, List.setIfInBounds_toArray, List.set_cons_zero, List.set_cons_succ, i64_w, i32_w]
                    rfl
                  refine pure_ (i := 3) (N := some 55) (v := ?_) (a' := ?_) #[true, true, true, true, false, false, false, false, false, false, false, false, false, false, false, false, false, false, false, false, false, false, false, false, false, false] rfl rfl (any_of HT_.out (by kernel_rfl)) (fun _ _ _ h => h) (Or.inl ⟨by rfl, ?_⟩) ?_ ?_
                  rotate_left
                  · intro w'
                    go_simp
                    with_reducible rfl
                  rotate_left
                  · simp only [Act.put, List.setIfInBounds_toArray, List.set_cons_zero, List.set_cons_succ, i64_w, i32_w]
                    rfl
                  refine pure_ (i := 4) (N := some 56) (v := ?_) (a' := ?_) #[true, true, true, true, true, false, false, false, false, false, false, false, false, false, false, false, false, false, false, false, false, false, false, false, false, false] rfl rfl (any_of HT_.out (by kernel_rfl)) (fun _ _ _ h => h) (Or.inl ⟨by rfl, ?_⟩) ?_ ?_
                  rotate_left
                  · intro w'
                    go_simp
                    with_reducible rfl
                  rotate_left
                  · simp only [Act.put, List.setIfInBounds_toArray, List.set_cons_zero, List.set_cons_succ, i64_w, i32_w]
                    rfl
                  refine take_ (i := 5) (N := some 57) (v := ?_) (a' := ?_) #[true, true, true, true, true, true, false, false, false, false, false, false, false, false, false, false, false, false, false, false, false, false, false, false, false, false] rfl rfl (take_ofW HT_.out HW_.out (by kernel_rfl)) (fun _ _ _ h => h) (Or.inl ⟨by rfl, ?_⟩) hHeld ?_ ?_
                  rotate_left
                  · rintro w' ⟨s0, s1, s2, s3, s4, s5, s6, s7, s8, s9, s10, s11, s12, s13, s14, s15, s16, s17, s18, s19, s20, s21, s22, s23, s24, s25, s26, s27, s28, s29, s30, s31, s32⟩
                    go_simp
                    with_reducible rfl
                  rotate_left
                  · simp only [Act.put, List.setIfInBounds_toArray, List.set_cons_zero, List.set_cons_succ, i64_w, i32_w]
                    rfl
                  refine take_ (i := 6) (N := some 58) (v := ?_) (a' := ?_) #[true, true, true, true, true, true, true, false, false, false, false, false, false, false, false, false, false, false, false, false, false, false, false, false, false, false] rfl rfl (take_ofW HT_.out HW_.out (by kernel_rfl)) (fun _ _ _ h => h) (Or.inl ⟨by rfl, ?_⟩) hHeld ?_ ?_
                  rotate_left
                  · rintro w' ⟨s0, s1, s2, s3, s4, s5, s6, s7, s8, s9, s10, s11, s12, s13, s14, s15, s16, s17, s18, s19, s20, s21, s22, s23, s24, s25, s26, s27, s28, s29, s30, s31, s32⟩
                    go_simp
                    with_reducible rfl
                  rotate_left
                  · simp only [Act.put, List.setIfInBounds_toArray, List.set_cons_zero, List.set_cons_succ, i64_w, i32_w]
                    rfl
                  refine pure_ (i := 7) (N := some 59) (v := ?_) (a' := ?_) #[true, true, true, true, true, true, true, true, false, false, false, false, false, false, false, false, false, false, false, false, false, false, false, false, false, false] rfl rfl (any_of HT_.out (by kernel_rfl)) (fun _ _ _ h => h) (Or.inl ⟨by rfl, ?_⟩) ?_ ?_
                  rotate_left
                  · intro w'
                    go_simp
                    with_reducible rfl
                  rotate_left
                  · simp only [Act.put, List.setIfInBounds_toArray, List.set_cons_zero, List.set_cons_succ, i64_w, i32_w]
                    rfl
                  refine pure_ (i := 8) (N := some 60) (v := ?_) (a' := ?_) #[true, true, true, true, true, true, true, true, true, false, false, false, false, false, false, false, false, false, false, false, false, false, false, false, false, false] rfl rfl (any_of HT_.out (by kernel_rfl)) (fun _ _ _ h => h) (Or.inl ⟨by rfl, ?_⟩) ?_ ?_
                  rotate_left
                  · intro w'
                    go_simp
                    with_reducible rfl
                  rotate_left
                  · simp only [Act.put, List.setIfInBounds_toArray, List.set_cons_zero, List.set_cons_succ, i64_w, i32_w]
                    rfl
                  refine pure_ (i := 9) (N := some 61) (v := ?_) (a' := ?_) #[true, true, true, true, true, true, true, true, true, true, false, false, false, false, false, false, false, false, false, false, false, false, false, false, false, false] rfl rfl (any_of HT_.out (by kernel_rfl)) (fun _ _ _ h => h) (Or.inl ⟨by rfl, ?_⟩) ?_ ?_
                  rotate_left
                  · intro w'
                    go_simp
                    with_reducible rfl
                  rotate_left
                  · simp only [Act.put, List.setIfInBounds_toArray, List.set_cons_zero, List.set_cons_succ, i64_w, i32_w]
                    rfl
                  refine take_ (i := 10) (N := some 62) (v := ?_) (a' := ?_) #[true, true, true, true, true, true, true, true, true, true, true, false, false, false, false, false, false, false, false, false, false, false, false, false, false, false] rfl rfl (take_ofW HT_.out HW_.out (by kernel_rfl)) (fun _ _ _ h => h) (Or.inl ⟨by rfl, ?_⟩) hHeld ?_ ?_
                  rotate_left
                  · rintro w' ⟨s0, s1, s2, s3, s4, s5, s6, s7, s8, s9, s10, s11, s12, s13, s14, s15, s16, s17, s18, s19, s20, s21, s22, s23, s24, s25, s26, s27, s28, s29, s30, s31, s32⟩
                    go_simp
                    with_reducible rfl
                  rotate_left
                  · simp only [Act.put, List.setIfInBounds_toArray, List.set_cons_zero, List.set_cons_succ, i64_w, i32_w]
                    rfl
                  refine take_ (i := 12) (N := some 64) (v := ?_) (a' := ?_) #[true, true, true, true, true, true, true, true, true, true, true, false, true, false, false, false, false, false, false, false, false, false, false, false, false, false] rfl rfl (take_ofW HT_.out HW_.out (by kernel_rfl)) (fun _ _ _ h => h) (Or.inl ⟨by rfl, ?_⟩) hHeld ?_ ?_
                  rotate_left
                  · rintro w' ⟨s0, s1, s2, s3, s4, s5, s6, s7, s8, s9, s10, s11, s12, s13, s14, s15, s16, s17, s18, s19, s20, s21, s22, s23, s24, s25, s26, s27, s28, s29, s30, s31, s32⟩
                    go_simp
                    with_reducible rfl
                  rotate_left
                  · simp only [Act.put, List.setIfInBounds_toArray, List.set_cons_zero, List.set_cons_succ, i64_w, i32_w]
                    rfl
                  refine one_ (i := 11) (N := some 63) #[true, true, true, true, true, true, true, true, true, true, true, true, true, false, false, false, false, false, false, false, false, false, false, false, false, false] rfl rfl (one_of HT_.out (by kernel_rfl)) (by decide) (fun K hK => ?_)
                  refine goes_ Tryd.func15 (by kernel_rfl) rfl #[.agg #[.string t456, .string t457, .string t458, .string t459, .int .i64 t460, .int .i64 t461, .int .i64 t462, .bool t463, .bool t464, .bool t465, .int .i64 t466]] (by rfl) rfl rfl xg ?_
                  with_reducible refine (PrintC.cookie_Of.calls t456 t457 t458 t459 t460 t461 t462 t463 t464 t465 t466 t484 t485 t486 _ A32.out).mono ?_
                  rintro e w48 ⟨rfl, hb⟩
                  refine ⟨_, rfl, ?_⟩
                  have n0_ := blkB BK455 hb
                  have n1_ := blkB BK468 hb
                  have n2_ := blkB BK482 hb
                  have n3_ := Aside0.mk (below_step xb hb)
                  clear BK455
                  clear BK468
                  clear BK482
                  clear HB
                  have BK455 := n0_
                  have BK468 := n1_
                  have BK482 := n2_
                  have HB := n3_
                  clear n0_ n1_ n2_ n3_
                  (try clear hb)
                  (try clear hb2)
                  (try clear hk)
                  (try clear hi)
                  refine hK.out _ _ xc (fun hHeld => ?_)
                  clear hK K
                  refine norm_ (a' := ?_) ?_ ?_
                  rotate_left
                  · show Act.put _ (some 63) _ = _
                    simp only [Act.put, List.setIfInBounds_toArray, List.set_cons_zero, List.set_cons_succ, i64_w, i32_w]
                    rfl
                  refine one_ (i := 13) (N := some 65) #[true, true, true, true, true, true, true, true, true, true, true, true, true, true, false, false, false, false, false, false, false, false, false, false, false, false] rfl rfl (one_of HT_.out (by kernel_rfl)) (by decide) (fun K hK => ?_)
                  refine goes_ Tryd.func15 (by kernel_rfl) rfl #[.agg #[.string a2_0, .string a2_1, .string a2_2, .string a2_3, .int .i64 a2_4, .int .i64 a2_5, .int .i64 a2_6, .bool a2_7, .bool a2_8, .bool a2_9, .int .i64 a2_10]] (by rfl) rfl rfl xg ?_
                  with_reducible refine (PrintC.cookie_Of.calls a2_0 a2_1 a2_2 a2_3 a2_4 a2_5 a2_6 a2_7 a2_8 a2_9 a2_10 t487 t488 t489 _ A33.out).mono ?_
                  rintro e w49 ⟨rfl, hb⟩
                  refine ⟨_, rfl, ?_⟩
                  have n0_ := blkB BK455 hb
                  have n1_ := blkB BK468 hb
                  have n2_ := blkB BK482 hb
                  have n3_ := Aside0.mk (below_step xb hb)
                  clear BK455
                  clear BK468
                  clear BK482
                  clear HB
                  have BK455 := n0_
                  have BK468 := n1_
                  have BK482 := n2_
                  have HB := n3_
                  clear n0_ n1_ n2_ n3_
                  (try clear hb)
                  (try clear hb2)
                  (try clear hk)
                  (try clear hi)
                  refine hK.out _ _ xc (fun hHeld => ?_)
                  clear hK K
                  refine norm_ (a' := ?_) ?_ ?_
                  rotate_left
                  · show Act.put _ (some 65) _ = _
                    simp only [Act.put, List.setIfInBounds_toArray, List.set_cons_zero, List.set_cons_succ, i64_w, i32_w]
                    rfl
                  refine pure_ (i := 14) (N := some 66) (v := ?_) (a' := ?_) #[true, true, true, true, true, true, true, true, true, true, true, true, true, true, true, false, false, false, false, false, false, false, false, false, false, false] rfl rfl (any_of HT_.out (by kernel_rfl)) (fun _ _ _ h => h) (Or.inl ⟨by rfl, ?_⟩) ?_ ?_
                  rotate_left
                  · intro w'
                    go_simp
                    with_reducible rfl
                  rotate_left
                  · simp only [Act.put, List.setIfInBounds_toArray, List.set_cons_zero, List.set_cons_succ, i64_w, i32_w]
                    rfl
                  refine pure_ (i := 15) (N := some 67) (v := ?_) (a' := ?_) #[true, true, true, true, true, true, true, true, true, true, true, true, true, true, true, true, false, false, false, false, false, false, false, false, false, false] rfl rfl (any_of HT_.out (by kernel_rfl)) (fun _ _ _ h => h) (Or.inl ⟨by rfl, ?_⟩) ?_ ?_
                  rotate_left
                  · intro w'
                    go_simp
                    with_reducible rfl
                  rotate_left
                  · simp only [Act.put, List.setIfInBounds_toArray, List.set_cons_zero, List.set_cons_succ, i64_w, i32_w]
                    rfl
                  refine pure_ (i := 16) (N := some 68) (v := ?_) (a' := ?_) #[true, true, true, true, true, true, true, true, true, true, true, true, true, true, true, true, true, false, false, false, false, false, false, false, false, false] rfl rfl (any_of HT_.out (by kernel_rfl)) (fun _ _ _ h => h) (Or.inl ⟨by rfl, ?_⟩) ?_ ?_
                  rotate_left
                  · intro w'
                    go_simp
                    with_reducible rfl
                  rotate_left
                  · simp only [Act.put, List.setIfInBounds_toArray, List.set_cons_zero, List.set_cons_succ, i64_w, i32_w]
                    rfl
                  refine take_ (i := 17) (N := some 69) (v := ?_) (a' := ?_) #[true, true, true, true, true, true, true, true, true, true, true, true, true, true, true, true, true, true, false, false, false, false, false, false, false, false] rfl rfl (take_ofW HT_.out HW_.out (by kernel_rfl)) (fun _ _ _ h => h) (Or.inl ⟨by rfl, ?_⟩) hHeld ?_ ?_
                  rotate_left
                  · rintro w' ⟨s0, s1, s2, s3, s4, s5, s6, s7, s8, s9, s10, s11, s12, s13, s14, s15, s16, s17, s18, s19, s20, s21, s22, s23, s24, s25, s26, s27, s28, s29, s30, s31, s32⟩
                    go_simp
                    with_reducible rfl
                  rotate_left
                  · simp only [Act.put, List.setIfInBounds_toArray, List.set_cons_zero, List.set_cons_succ, i64_w, i32_w]
                    rfl
                  refine one_ (i := 18) (N := some 70) #[true, true, true, true, true, true, true, true, true, true, true, true, true, true, true, true, true, true, true, false, false, false, false, false, false, false] rfl rfl (one_of HT_.out (by kernel_rfl)) (by decide) (fun K hK => ?_)
                  refine goes_ Tryd.func16 (by kernel_rfl) rfl #[.agg #[.string a2_0, .string a2_1, .string a2_2, .string a2_3, .int .i64 a2_4, .int .i64 a2_5, .int .i64 a2_6, .bool a2_7, .bool a2_8, .bool a2_9, .int .i64 a2_10]] (by rfl) rfl rfl xg ?_
                  with_reducible refine (cookie_Right.calls kj4 a2_0 a2_1 a2_2 a2_3 a2_4 a2_5 a2_6 a2_7 a2_8 a2_9 a2_10 true _ (Aside0.mk (by first | exact hG.out | ((with_reducible repeat (first | apply LaidG.drewN | apply LaidG.drew | apply LaidG.alloc)); exact hG.out) | exact LaidG.below hG.out xb)) A35.out).mono ?_
                  rintro e w50 ⟨rfl, hb⟩
                  refine ⟨_, rfl, ?_⟩
                  have n0_ := blkB BK455 hb
                  have n1_ := blkB BK468 hb
                  have n2_ := blkB BK482 hb
                  have n3_ := Aside0.mk (below_step xb hb)
                  clear BK455
                  clear BK468
                  clear BK482
                  clear HB
                  have BK455 := n0_
                  have BK468 := n1_
                  have BK482 := n2_
                  have HB := n3_
                  clear n0_ n1_ n2_ n3_
                  (try clear hb)
                  (try clear hb2)
                  (try clear hk)
                  (try clear hi)
                  refine hK.out _ _ xc (fun hHeld => ?_)
                  clear hK K
                  refine norm_ (a' := ?_) ?_ ?_
                  rotate_left
                  · show Act.put _ (some 70) _ = _
                    simp only [Act.put, List.setIfInBounds_toArray, List.set_cons_zero, List.set_cons_succ, i64_w, i32_w]
                    rfl
                  refine pure_ (i := 19) (N := some 71) (v := ?_) (a' := ?_) #[true, true, true, true, true, true, true, true, true, true, true, true, true, true, true, true, true, true, true, true, false, false, false, false, false, false] rfl rfl (any_of HT_.out (by kernel_rfl)) (fun _ _ _ h => h) (Or.inl ⟨by rfl, ?_⟩) ?_ ?_
                  rotate_left
                  · intro w'
                    go_simp
                    with_reducible rfl
                  rotate_left
                  · simp only [Act.put, List.setIfInBounds_toArray, List.set_cons_zero, List.set_cons_succ, i64_w, i32_w]
                    rfl
                  refine pure_ (i := 20) (N := some 72) (v := ?_) (a' := ?_) #[true, true, true, true, true, true, true, true, true, true, true, true, true, true, true, true, true, true, true, true, true, false, false, false, false, false] rfl rfl (any_of HT_.out (by kernel_rfl)) (fun _ _ _ h => h) (Or.inl ⟨by rfl, ?_⟩) ?_ ?_
                  rotate_left
                  · intro w'
                    go_simp
                    with_reducible rfl
                  rotate_left
                  · simp only [Act.put, List.setIfInBounds_toArray, List.set_cons_zero, List.set_cons_succ, i64_w, i32_w]
                    rfl
                  refine take_ (i := 21) (N := some 73) (v := ?_) (a' := ?_) #[true, true, true, true, true, true, true, true, true, true, true, true, true, true, true, true, true, true, true, true, true, true, false, false, false, false] rfl rfl (take_ofW HT_.out HW_.out (by kernel_rfl)) (fun _ _ _ h => h) (Or.inl ⟨by rfl, ?_⟩) hHeld ?_ ?_
                  rotate_left
                  · rintro w' ⟨s0, s1, s2, s3, s4, s5, s6, s7, s8, s9, s10, s11, s12, s13, s14, s15, s16, s17, s18, s19, s20, s21, s22, s23, s24, s25, s26, s27, s28, s29, s30, s31, s32⟩
                    go_simp
                    with_reducible rfl
                  rotate_left
                  · simp only [Act.put, List.setIfInBounds_toArray, List.set_cons_zero, List.set_cons_succ, i64_w, i32_w]
                    rfl
                  refine one_ (i := 22) (N := some 74) #[true, true, true, true, true, true, true, true, true, true, true, true, true, true, true, true, true, true, true, true, true, true, true, false, false, false] rfl rfl (one_of HT_.out (by kernel_rfl)) (by decide) (fun K hK => ?_)
                  refine goes_ Tryd.func16 (by kernel_rfl) rfl #[.agg #[.string t456, .string t457, .string t458, .string t459, .int .i64 t460, .int .i64 t461, .int .i64 t462, .bool t463, .bool t464, .bool t465, .int .i64 t466]] (by rfl) rfl rfl xg ?_
                  with_reducible refine (cookie_Right.calls kj4 t456 t457 t458 t459 t460 t461 t462 t463 t464 t465 t466 t491 _ (Aside0.mk (by first | exact hG.out | ((with_reducible repeat (first | apply LaidG.drewN | apply LaidG.drew | apply LaidG.alloc)); exact hG.out) | exact LaidG.below hG.out xb)) A37.out).mono ?_
                  rintro e w51 ⟨rfl, hb⟩
                  refine ⟨_, rfl, ?_⟩
                  have n0_ := blkB BK455 hb
                  have n1_ := blkB BK468 hb
                  have n2_ := blkB BK482 hb
                  have n3_ := Aside0.mk (below_step xb hb)
                  clear BK455
                  clear BK468
                  clear BK482
                  clear HB
                  have BK455 := n0_
                  have BK468 := n1_
                  have BK482 := n2_
                  have HB := n3_
                  clear n0_ n1_ n2_ n3_
                  (try clear hb)
                  (try clear hb2)
                  (try clear hk)
                  (try clear hi)
                  refine hK.out _ _ xc (fun hHeld => ?_)
                  clear hK K
                  refine norm_ (a' := ?_) ?_ ?_
                  rotate_left
                  · show Act.put _ (some 74) _ = _
                    simp only [Act.put, List.setIfInBounds_toArray, List.set_cons_zero, List.set_cons_succ, i64_w, i32_w]
                    rfl
                  refine pure_ (i := 23) (N := some 75) (v := ?_) (a' := ?_) #[true, true, true, true, true, true, true, true, true, true, true, true, true, true, true, true, true, true, true, true, true, true, true, true, false, false] rfl rfl (any_of HT_.out (by kernel_rfl)) (fun _ _ _ h => h) (Or.inl ⟨by rfl, ?_⟩) ?_ ?_
                  rotate_left
                  · intro w'
                    go_simp
                    with_reducible rfl
                  rotate_left
                  · simp only [Act.put, List.setIfInBounds_toArray, List.set_cons_zero, List.set_cons_succ, i64_w, i32_w]
                    rfl
                  refine pure_ (i := 24) (N := some 76) (v := ?_) (a' := ?_) #[true, true, true, true, true, true, true, true, true, true, true, true, true, true, true, true, true, true, true, true, true, true, true, true, true, false] rfl rfl (any_of HT_.out (by kernel_rfl)) (fun _ _ _ h => h) (Or.inl ⟨by rfl, ?_⟩) ?_ ?_
                  rotate_left
                  · intro w'
                    go_simp
                    with_reducible rfl
                  rotate_left
                  · simp only [Act.put, List.setIfInBounds_toArray, List.set_cons_zero, List.set_cons_succ, i64_w, i32_w]
                    rfl
                  refine pure_ (i := 25) (N := some 6) (v := ?_) (a' := ?_) #[true, true, true, true, true, true, true, true, true, true, true, true, true, true, true, true, true, true, true, true, true, true, true, true, true, true] rfl rfl (any_of HT_.out (by kernel_rfl)) (fun _ _ _ h => h) (Or.inl ⟨by rfl, ?_⟩) ?_ ?_
                  rotate_left
                  · intro w'
                    go_simp
                    with_reducible rfl
                  rotate_left
                  · simp only [Act.put, List.setIfInBounds_toArray, List.set_cons_zero, List.set_cons_succ, i64_w, i32_w]
                    rfl
                  refine done_ (done_of HT_.out (by kernel_rfl)) ?_
                  try go_wp2
                  go_ret
                  exact ⟨by first | rfl | (simp [errW_none, errW_some] <;> rfl) | (simp [*, errW_none, errW_some] <;> rfl), by repeat (first | (with_reducible first | exact HB.out | apply below_alloc | apply pw_below_drewN | apply below_drew1 | refine below_set ?_ GE455.out | refine below_set ?_ GE468.out | refine below_set ?_ GE482.out) | exact HB.out)⟩
                · replace c36 := Bool.eq_false_iff.mpr c36
                  subst c36
                  have H1 : (some true) = some r := by rw [if_neg (show ¬ (false = true) by decide)] at H; exact H
                  clear H
                  have H := H1
                  clear H1
                  obtain rfl := Option.some.inj H
                  have hnb52 := NB468_455.out
                  have hnc52 := NB455_468.out
                  have hcz53_0 : wc.cell? ⟨gb468, 0, none⟩ = some (.string t456) := (blk_cell BK468.out 0).trans rfl
                  have hcz53_1 : wc.cell? ⟨gb468, 1, none⟩ = some (.string t457) := (blk_cell BK468.out 1).trans rfl
                  have hcz53_2 : wc.cell? ⟨gb468, 2, none⟩ = some (.string t458) := (blk_cell BK468.out 2).trans rfl
                  have hcz53_3 : wc.cell? ⟨gb468, 3, none⟩ = some (.string t459) := (blk_cell BK468.out 3).trans rfl
                  have hcz53_4 : wc.cell? ⟨gb468, 4, none⟩ = some (.int .i64 t460) := (blk_cell BK468.out 4).trans rfl
                  have hcz53_5 : wc.cell? ⟨gb468, 5, none⟩ = some (.int .i64 t461) := (blk_cell BK468.out 5).trans rfl
                  have hcz53_6 : wc.cell? ⟨gb468, 6, none⟩ = some (.int .i64 t462) := (blk_cell BK468.out 6).trans rfl
                  have hcz53_7 : wc.cell? ⟨gb468, 7, none⟩ = some (.bool t463) := (blk_cell BK468.out 7).trans rfl
                  have hcz53_8 : wc.cell? ⟨gb468, 8, none⟩ = some (.bool t464) := (blk_cell BK468.out 8).trans rfl
                  have hcz53_9 : wc.cell? ⟨gb468, 9, none⟩ = some (.bool t465) := (blk_cell BK468.out 9).trans rfl
                  have hcz53_10 : wc.cell? ⟨gb468, 10, none⟩ = some (.int .i64 t466) := (blk_cell BK468.out 10).trans rfl
                  have hfz53_0 := blk_frozen BK468.out 0
                  have hfz53_1 := blk_frozen BK468.out 1
                  have hfz53_2 := blk_frozen BK468.out 2
                  have hfz53_3 := blk_frozen BK468.out 3
                  have hfz53_4 := blk_frozen BK468.out 4
                  have hfz53_5 := blk_frozen BK468.out 5
                  have hfz53_6 := blk_frozen BK468.out 6
                  have hfz53_7 := blk_frozen BK468.out 7
                  have hfz53_8 := blk_frozen BK468.out 8
                  have hfz53_9 := blk_frozen BK468.out 9
                  have hfz53_10 := blk_frozen BK468.out 10
                  try go_wp2_with (first | ((with_reducible refine gate_callee (f := 13) rfl ?_); refine goesL_ (some 49) rfl rfl Tryd.func13 (by kernel_rfl) rfl #[.int .i64 a0, .int .i64 a1, .agg #[.string t456, .string t457, .string t458, .string t459, .int .i64 t460, .int .i64 t461, .int .i64 t462, .bool t463, .bool t464, .bool t465, .int .i64 t466]] rfl xg ?_; (with_reducible refine (proj_Cookie.calls kj4 a0 a1 t456 t457 t458 t459 t460 t461 t462 t463 t464 t465 t466 t470 t471 t472 t473 t474 t475 t476 t477 t478 t479 t480 true _ A27.out).mono ?_); rintro e w54 ⟨rfl, hb⟩; refine ⟨_, rfl, ?_⟩; have n0_ := blkB BK455 hb; have n1_ := blkB BK468 hb; have n2_ := Aside0.mk (below_step xb hb); clear BK455; clear BK468; clear HB; have BK455 := n0_; have BK468 := n1_; have HB := n2_; clear n0_ n1_ n2_; (try clear hb); (try clear hb2); (try clear hk); (try clear hi)) | ((with_reducible refine gate_dst (N := 9) rfl ?_); refine box_event ?hg (N := 9) ?hd (cs := #[.string (⟨#[]⟩ : ByteArray), .string (⟨#[]⟩ : ByteArray), .string (⟨#[]⟩ : ByteArray), .string (⟨#[]⟩ : ByteArray), .int .i64 0, .int .i64 0, .int .i64 0, .bool false, .bool false, .bool false, .int .i64 0]) (t := 27) ?hr ?_; (case hd => rfl); (case hg => rfl); (case hr => first | (go_simp; done) | (go_simp; rfl)); intro gb482 hg w55 hbox hb; have n0_ := blkB BK455 hb; have n1_ := blkB BK468 hb; have n2_ := Aside0.mk (below_step xb hb); have n3_ := Aside0.mk (hbox); have n4_ := Aside0.mk ((by rw [hg]; exact (below_size xb) : w.heap.size ≤ gb482)); have n5_ := Aside0.mk ((by rw [hg]; exact (below_size xb) : w.heap.size ≤ gb482)); have n6_ := Aside0.mk ((by rw [hg]; exact Nat.ne_of_lt (blkL BK455) : gb455 ≠ gb482)); have n7_ := Aside0.mk ((by rw [hg]; exact Nat.ne_of_gt (blkL BK455) : gb482 ≠ gb455)); have n8_ := Aside0.mk ((by rw [hg]; exact Nat.ne_of_lt (blkL BK468) : gb468 ≠ gb482)); have n9_ := Aside0.mk ((by rw [hg]; exact Nat.ne_of_gt (blkL BK468) : gb482 ≠ gb468)); clear BK455; clear BK468; clear HB; have BK455 := n0_; have BK468 := n1_; have HB := n2_; have BK482 := n3_; have GW482 := n4_; have GE482 := n5_; have NB455_482 := n6_; have NB482_455 := n7_; have NB468_482 := n8_; have NB482_468 := n9_; clear n0_ n1_ n2_ n3_ n4_ n5_ n6_ n7_ n8_ n9_; clear hb hbox hg; have hnb56 := NB482_455.out; have hnc56 := NB455_482.out; have hnb57 := NB482_468.out; have hnc57 := NB468_482.out; have hcz58_0 : w55.cell? ⟨gb482, 0, none⟩ = some (.string (⟨#[]⟩ : ByteArray)) := (blk_cell BK482.out 0).trans rfl; have hcz58_1 : w55.cell? ⟨gb482, 1, none⟩ = some (.string (⟨#[]⟩ : ByteArray)) := (blk_cell BK482.out 1).trans rfl; have hcz58_2 : w55.cell? ⟨gb482, 2, none⟩ = some (.string (⟨#[]⟩ : ByteArray)) := (blk_cell BK482.out 2).trans rfl; have hcz58_3 : w55.cell? ⟨gb482, 3, none⟩ = some (.string (⟨#[]⟩ : ByteArray)) := (blk_cell BK482.out 3).trans rfl; have hcz58_4 : w55.cell? ⟨gb482, 4, none⟩ = some (.int .i64 0) := (blk_cell BK482.out 4).trans rfl; have hcz58_5 : w55.cell? ⟨gb482, 5, none⟩ = some (.int .i64 0) := (blk_cell BK482.out 5).trans rfl; have hcz58_6 : w55.cell? ⟨gb482, 6, none⟩ = some (.int .i64 0) := (blk_cell BK482.out 6).trans rfl; have hcz58_7 : w55.cell? ⟨gb482, 7, none⟩ = some (.bool false) := (blk_cell BK482.out 7).trans rfl; have hcz58_8 : w55.cell? ⟨gb482, 8, none⟩ = some (.bool false) := (blk_cell BK482.out 8).trans rfl; have hcz58_9 : w55.cell? ⟨gb482, 9, none⟩ = some (.bool false) := (blk_cell BK482.out 9).trans rfl; have hcz58_10 : w55.cell? ⟨gb482, 10, none⟩ = some (.int .i64 0) := (blk_cell BK482.out 10).trans rfl; have hfz58_0 := blk_frozen BK482.out 0; have hfz58_1 := blk_frozen BK482.out 1; have hfz58_2 := blk_frozen BK482.out 2; have hfz58_3 := blk_frozen BK482.out 3; have hfz58_4 := blk_frozen BK482.out 4; have hfz58_5 := blk_frozen BK482.out 5; have hfz58_6 := blk_frozen BK482.out 6; have hfz58_7 := blk_frozen BK482.out 7; have hfz58_8 := blk_frozen BK482.out 8; have hfz58_9 := blk_frozen BK482.out 9; have hfz58_10 := blk_frozen BK482.out 10))
                  obtain ⟨w59, hw_⟩ : ∃ v_, (((((((((((w55.setCell ⟨gb482, 0, none⟩ (.string t470)).setCell ⟨gb482, 1, none⟩ (.string t471)).setCell ⟨gb482, 2, none⟩ (.string t472)).setCell ⟨gb482, 3, none⟩ (.string t473)).setCell ⟨gb482, 4, none⟩ (.int .i64 t474)).setCell ⟨gb482, 5, none⟩ (.int .i64 t475)).setCell ⟨gb482, 6, none⟩ (.int .i64 t476)).setCell ⟨gb482, 7, none⟩ (.bool t477)).setCell ⟨gb482, 8, none⟩ (.bool t478)).setCell ⟨gb482, 9, none⟩ (.bool t479)).setCell ⟨gb482, 10, none⟩ (.int .i64 t480)) = v_ := ⟨_, rfl⟩
                  have n0_ : Aside0 (w59.heap[gb455]? = some (.cells #[.string a2_0, .string a2_1, .string a2_2, .string a2_3, .int .i64 a2_4, .int .i64 a2_5, .int .i64 a2_6, .bool a2_7, .bool a2_8, .bool a2_9, .int .i64 a2_10] 27 (0, 0))) := by rw [← hw_]; exact ⟨xk⟩
                  have n1_ : Aside0 (w59.heap[gb468]? = some (.cells #[.string t456, .string t457, .string t458, .string t459, .int .i64 t460, .int .i64 t461, .int .i64 t462, .bool t463, .bool t464, .bool t465, .int .i64 t466] 27 (0, 0))) := by rw [← hw_]; exact ⟨xk⟩
                  have n2_ : Aside0 (w59.heap[gb482]? = some (.cells #[.string t470, .string t471, .string t472, .string t473, .int .i64 t474, .int .i64 t475, .int .i64 t476, .bool t477, .bool t478, .bool t479, .int .i64 t480] 27 (0, 0))) := by rw [← hw_]; exact ⟨xk⟩
                  have n3_ : Aside0 (Below w.heap.size w w59) := by rw [← hw_]; exact ⟨xb⟩
                  (try clear BK455)
                  (try clear BK468)
                  (try clear BK482)
                  (try clear HB)
                  (try rewrite [hw_])
                  clear hw_
                  have BK455 := n0_
                  have BK468 := n1_
                  have BK482 := n2_
                  have HB := n3_
                  clear n0_ n1_ n2_ n3_
                  have n0_ := Aside0.mk (blk_drew BK455.out)
                  have n1_ := Aside0.mk (blk_drew BK468.out)
                  have n2_ := Aside0.mk (blk_drew BK482.out)
                  have n3_ := Aside0.mk (below_drew1 HB.out)
                  clear BK455
                  clear BK468
                  clear BK482
                  clear HB
                  have BK455 := n0_
                  have BK468 := n1_
                  have BK482 := n2_
                  have HB := n3_
                  clear n0_ n1_ n2_ n3_
                  refine start_ (n := 26) (S := fun w' => w'.cell? ⟨gb482, 0, none⟩ = some (.string t470) ∧ w'.cell? ⟨gb482, 1, none⟩ = some (.string t471) ∧ w'.cell? ⟨gb482, 2, none⟩ = some (.string t472) ∧ w'.cell? ⟨gb482, 3, none⟩ = some (.string t473) ∧ w'.cell? ⟨gb482, 4, none⟩ = some (.int .i64 t474) ∧ w'.cell? ⟨gb482, 5, none⟩ = some (.int .i64 t475) ∧ w'.cell? ⟨gb482, 6, none⟩ = some (.int .i64 t476) ∧ w'.cell? ⟨gb482, 7, none⟩ = some (.bool t477) ∧ w'.cell? ⟨gb482, 8, none⟩ = some (.bool t478) ∧ w'.cell? ⟨gb482, 9, none⟩ = some (.bool t479) ∧ w'.cell? ⟨gb482, 10, none⟩ = some (.int .i64 t480) ∧ w'.cell? ⟨gb468, 0, none⟩ = some (.string t456) ∧ w'.cell? ⟨gb468, 1, none⟩ = some (.string t457) ∧ w'.cell? ⟨gb468, 2, none⟩ = some (.string t458) ∧ w'.cell? ⟨gb468, 3, none⟩ = some (.string t459) ∧ w'.cell? ⟨gb468, 4, none⟩ = some (.int .i64 t460) ∧ w'.cell? ⟨gb468, 5, none⟩ = some (.int .i64 t461) ∧ w'.cell? ⟨gb468, 6, none⟩ = some (.int .i64 t462) ∧ w'.cell? ⟨gb468, 7, none⟩ = some (.bool t463) ∧ w'.cell? ⟨gb468, 8, none⟩ = some (.bool t464) ∧ w'.cell? ⟨gb468, 9, none⟩ = some (.bool t465) ∧ w'.cell? ⟨gb468, 10, none⟩ = some (.int .i64 t466) ∧ w'.cell? ⟨gb455, 0, none⟩ = some (.string a2_0) ∧ w'.cell? ⟨gb455, 1, none⟩ = some (.string a2_1) ∧ w'.cell? ⟨gb455, 2, none⟩ = some (.string a2_2) ∧ w'.cell? ⟨gb455, 3, none⟩ = some (.string a2_3) ∧ w'.cell? ⟨gb455, 4, none⟩ = some (.int .i64 a2_4) ∧ w'.cell? ⟨gb455, 5, none⟩ = some (.int .i64 a2_5) ∧ w'.cell? ⟨gb455, 6, none⟩ = some (.int .i64 a2_6) ∧ w'.cell? ⟨gb455, 7, none⟩ = some (.bool a2_7) ∧ w'.cell? ⟨gb455, 8, none⟩ = some (.bool a2_8) ∧ w'.cell? ⟨gb455, 9, none⟩ = some (.bool a2_9) ∧ w'.cell? ⟨gb455, 10, none⟩ = some (.int .i64 a2_10)) (ds := []) #[false, false, false, false, false, false, false, false, false, false, false, false, false, false, false, false, false, false, false, false, false, false, false, false, false, false] (by kernel_rfl) rfl rfl ⟨(blk_cell BK482.out 0).trans rfl, (blk_cell BK482.out 1).trans rfl, (blk_cell BK482.out 2).trans rfl, (blk_cell BK482.out 3).trans rfl, (blk_cell BK482.out 4).trans rfl, (blk_cell BK482.out 5).trans rfl, (blk_cell BK482.out 6).trans rfl, (blk_cell BK482.out 7).trans rfl, (blk_cell BK482.out 8).trans rfl, (blk_cell BK482.out 9).trans rfl, (blk_cell BK482.out 10).trans rfl, (blk_cell BK468.out 0).trans rfl, (blk_cell BK468.out 1).trans rfl, (blk_cell BK468.out 2).trans rfl, (blk_cell BK468.out 3).trans rfl, (blk_cell BK468.out 4).trans rfl, (blk_cell BK468.out 5).trans rfl, (blk_cell BK468.out 6).trans rfl, (blk_cell BK468.out 7).trans rfl, (blk_cell BK468.out 8).trans rfl, (blk_cell BK468.out 9).trans rfl, (blk_cell BK468.out 10).trans rfl, (blk_cell BK455.out 0).trans rfl, (blk_cell BK455.out 1).trans rfl, (blk_cell BK455.out 2).trans rfl, (blk_cell BK455.out 3).trans rfl, (blk_cell BK455.out 4).trans rfl, (blk_cell BK455.out 5).trans rfl, (blk_cell BK455.out 6).trans rfl, (blk_cell BK455.out 7).trans rfl, (blk_cell BK455.out 8).trans rfl, (blk_cell BK455.out 9).trans rfl, (blk_cell BK455.out 10).trans rfl⟩ (fun hHeld => ?_); refine with_tabW cracknellaw18_ProjTwice.tab5 cracknellaw18_ProjTwice.bits5 (fun HT_ HW_ => ?_)
                  generalize w59.drew = w60 at BK455 BK468 BK482 HB hHeld ⊢
                  refine one_ (i := 0) (N := some 52) #[true, false, false, false, false, false, false, false, false, false, false, false, false, false, false, false, false, false, false, false, false, false, false, false, false, false] rfl rfl (one_of HT_.out (by kernel_rfl)) (by decide) (fun K hK => ?_)
                  refine goes_ Tryd.func10 (by kernel_rfl) rfl #[] (by rfl) rfl rfl xg ?_
                  with_reducible refine (cracknellaw18_alive.calls kj4  true _ (Aside0.mk (by first | exact hG.out | ((with_reducible repeat (first | apply LaidG.drewN | apply LaidG.drew | apply LaidG.alloc)); exact hG.out) | exact LaidG.below hG.out xb)) ⟨by first | rfl | assumption | exact hT_.out⟩ A28.out).mono ?_
                  rintro e w61 ⟨rfl, hb⟩
                  refine ⟨_, rfl, ?_⟩
                  have n0_ := blkB BK455 hb
                  have n1_ := blkB BK468 hb
                  have n2_ := blkB BK482 hb
                  have n3_ := Aside0.mk (below_step xb hb)
                  clear BK455
                  clear BK468
                  clear BK482
                  clear HB
                  have BK455 := n0_
                  have BK468 := n1_
                  have BK482 := n2_
                  have HB := n3_
                  clear n0_ n1_ n2_ n3_
                  (try clear hb)
                  (try clear hb2)
                  (try clear hk)
                  (try clear hi)
                  refine hK.out _ _ xc (fun hHeld => ?_)
                  clear hK K
                  refine norm_ (a' := ?_) ?_ ?_
                  rotate_left
                  · show Act.put _ (some 52) _ = _
                    simp only [Act.put, List.setIfInBounds_toArray, List.set_cons_zero, List.set_cons_succ, i64_w, i32_w]
                    rfl
                  refine pure_ (i := 1) (N := some 53) (v := ?_) (a' := ?_) #[true, true, false, false, false, false, false, false, false, false, false, false, false, false, false, false, false, false, false, false, false, false, false, false, false, false] rfl rfl (any_of HT_.out (by kernel_rfl)) (fun _ _ _ h => h) (Or.inl ⟨by rfl, ?_⟩) ?_ ?_
                  rotate_left
                  · intro w'
                    go_simp
                    with_reducible rfl
                  rotate_left
                  · simp only [Act.put, List.setIfInBounds_toArray, List.set_cons_zero, List.set_cons_succ, i64_w, i32_w]
                    rfl
                  refine pure_ (i := 2) (N := some 54) (v := ?_) (a' := ?_) #[true, true, true, false, false, false, false, false, false, false, false, false, false, false, false, false, false, false, false, false, false, false, false, false, false, false] rfl rfl (any_of HT_.out (by kernel_rfl)) (fun _ _ _ h => h) (Or.inl ⟨by rfl, ?_⟩) ?_ ?_
                  rotate_left
                  · intro w'
                    go_simp
                    with_reducible rfl
                  rotate_left
                  · simp only [Act.put, List.setIfInBounds_toArray, List.set_cons_zero, List.set_cons_succ, i64_w, i32_w]
                    rfl
                  refine pure_ (i := 3) (N := some 55) (v := ?_) (a' := ?_) #[true, true, true, true, false, false, false, false, false, false, false, false, false, false, false, false, false, false, false, false, false, false, false, false, false, false] rfl rfl (any_of HT_.out (by kernel_rfl)) (fun _ _ _ h => h) (Or.inl ⟨by rfl, ?_⟩) ?_ ?_
                  rotate_left
                  · intro w'
                    go_simp
                    with_reducible rfl
                  rotate_left
                  · simp only [Act.put, List.setIfInBounds_toArray, List.set_cons_zero, List.set_cons_succ, i64_w, i32_w]
                    rfl
                  refine pure_ (i := 4) (N := some 56) (v := ?_) (a' := ?_) #[true, true, true, true, true, false, false, false, false, false, false, false, false, false, false, false, false, false, false, false, false, false, false, false, false, false] rfl rfl (any_of HT_.out (by kernel_rfl)) (fun _ _ _ h => h) (Or.inl ⟨by rfl, ?_⟩) ?_ ?_
                  rotate_left
                  · intro w'
                    go_simp
                    with_reducible rfl
                  rotate_left
                  · simp only [Act.put, List.setIfInBounds_toArray, List.set_cons_zero, List.set_cons_succ, i64_w, i32_w]
                    rfl
                  refine take_ (i := 5) (N := some 57) (v := ?_) (a' := ?_) #[true, true, true, true, true, true, false, false, false, false, false, false, false, false, false, false, false, false, false, false, false, false, false, false, false, false] rfl rfl (take_ofW HT_.out HW_.out (by kernel_rfl)) (fun _ _ _ h => h) (Or.inl ⟨by rfl, ?_⟩) hHeld ?_ ?_
                  rotate_left
                  · rintro w' ⟨s0, s1, s2, s3, s4, s5, s6, s7, s8, s9, s10, s11, s12, s13, s14, s15, s16, s17, s18, s19, s20, s21, s22, s23, s24, s25, s26, s27, s28, s29, s30, s31, s32⟩
                    go_simp
                    with_reducible rfl
                  rotate_left
                  · simp only [Act.put, List.setIfInBounds_toArray, List.set_cons_zero, List.set_cons_succ, i64_w, i32_w]
                    rfl
                  refine take_ (i := 6) (N := some 58) (v := ?_) (a' := ?_) #[true, true, true, true, true, true, true, false, false, false, false, false, false, false, false, false, false, false, false, false, false, false, false, false, false, false] rfl rfl (take_ofW HT_.out HW_.out (by kernel_rfl)) (fun _ _ _ h => h) (Or.inl ⟨by rfl, ?_⟩) hHeld ?_ ?_
                  rotate_left
                  · rintro w' ⟨s0, s1, s2, s3, s4, s5, s6, s7, s8, s9, s10, s11, s12, s13, s14, s15, s16, s17, s18, s19, s20, s21, s22, s23, s24, s25, s26, s27, s28, s29, s30, s31, s32⟩
                    go_simp
                    with_reducible rfl
                  rotate_left
                  · simp only [Act.put, List.setIfInBounds_toArray, List.set_cons_zero, List.set_cons_succ, i64_w, i32_w]
                    rfl
                  refine pure_ (i := 7) (N := some 59) (v := ?_) (a' := ?_) #[true, true, true, true, true, true, true, true, false, false, false, false, false, false, false, false, false, false, false, false, false, false, false, false, false, false] rfl rfl (any_of HT_.out (by kernel_rfl)) (fun _ _ _ h => h) (Or.inl ⟨by rfl, ?_⟩) ?_ ?_
                  rotate_left
                  · intro w'
                    go_simp
                    with_reducible rfl
                  rotate_left
                  · simp only [Act.put, List.setIfInBounds_toArray, List.set_cons_zero, List.set_cons_succ, i64_w, i32_w]
                    rfl
                  refine pure_ (i := 8) (N := some 60) (v := ?_) (a' := ?_) #[true, true, true, true, true, true, true, true, true, false, false, false, false, false, false, false, false, false, false, false, false, false, false, false, false, false] rfl rfl (any_of HT_.out (by kernel_rfl)) (fun _ _ _ h => h) (Or.inl ⟨by rfl, ?_⟩) ?_ ?_
                  rotate_left
                  · intro w'
                    go_simp
                    with_reducible rfl
                  rotate_left
                  · simp only [Act.put, List.setIfInBounds_toArray, List.set_cons_zero, List.set_cons_succ, i64_w, i32_w]
                    rfl
                  refine pure_ (i := 9) (N := some 61) (v := ?_) (a' := ?_) #[true, true, true, true, true, true, true, true, true, true, false, false, false, false, false, false, false, false, false, false, false, false, false, false, false, false] rfl rfl (any_of HT_.out (by kernel_rfl)) (fun _ _ _ h => h) (Or.inl ⟨by rfl, ?_⟩) ?_ ?_
                  rotate_left
                  · intro w'
                    go_simp
                    with_reducible rfl
                  rotate_left
                  · simp only [Act.put, List.setIfInBounds_toArray, List.set_cons_zero, List.set_cons_succ, i64_w, i32_w]
                    rfl
                  refine take_ (i := 10) (N := some 62) (v := ?_) (a' := ?_) #[true, true, true, true, true, true, true, true, true, true, true, false, false, false, false, false, false, false, false, false, false, false, false, false, false, false] rfl rfl (take_ofW HT_.out HW_.out (by kernel_rfl)) (fun _ _ _ h => h) (Or.inl ⟨by rfl, ?_⟩) hHeld ?_ ?_
                  rotate_left
                  · rintro w' ⟨s0, s1, s2, s3, s4, s5, s6, s7, s8, s9, s10, s11, s12, s13, s14, s15, s16, s17, s18, s19, s20, s21, s22, s23, s24, s25, s26, s27, s28, s29, s30, s31, s32⟩
                    go_simp
                    with_reducible rfl
                  rotate_left
                  · simp only [Act.put, List.setIfInBounds_toArray, List.set_cons_zero, List.set_cons_succ, i64_w, i32_w]
                    rfl
                  refine take_ (i := 12) (N := some 64) (v := ?_) (a' := ?_) #[true, true, true, true, true, true, true, true, true, true, true, false, true, false, false, false, false, false, false, false, false, false, false, false, false, false] rfl rfl (take_ofW HT_.out HW_.out (by kernel_rfl)) (fun _ _ _ h => h) (Or.inl ⟨by rfl, ?_⟩) hHeld ?_ ?_
                  rotate_left
                  · rintro w' ⟨s0, s1, s2, s3, s4, s5, s6, s7, s8, s9, s10, s11, s12, s13, s14, s15, s16, s17, s18, s19, s20, s21, s22, s23, s24, s25, s26, s27, s28, s29, s30, s31, s32⟩
                    go_simp
                    with_reducible rfl
                  rotate_left
                  · simp only [Act.put, List.setIfInBounds_toArray, List.set_cons_zero, List.set_cons_succ, i64_w, i32_w]
                    rfl
                  refine one_ (i := 11) (N := some 63) #[true, true, true, true, true, true, true, true, true, true, true, true, true, false, false, false, false, false, false, false, false, false, false, false, false, false] rfl rfl (one_of HT_.out (by kernel_rfl)) (by decide) (fun K hK => ?_)
                  refine goes_ Tryd.func15 (by kernel_rfl) rfl #[.agg #[.string t456, .string t457, .string t458, .string t459, .int .i64 t460, .int .i64 t461, .int .i64 t462, .bool t463, .bool t464, .bool t465, .int .i64 t466]] (by rfl) rfl rfl xg ?_
                  with_reducible refine (PrintC.cookie_Of.calls t456 t457 t458 t459 t460 t461 t462 t463 t464 t465 t466 t484 t485 t486 _ A32.out).mono ?_
                  rintro e w62 ⟨rfl, hb⟩
                  refine ⟨_, rfl, ?_⟩
                  have n0_ := blkB BK455 hb
                  have n1_ := blkB BK468 hb
                  have n2_ := blkB BK482 hb
                  have n3_ := Aside0.mk (below_step xb hb)
                  clear BK455
                  clear BK468
                  clear BK482
                  clear HB
                  have BK455 := n0_
                  have BK468 := n1_
                  have BK482 := n2_
                  have HB := n3_
                  clear n0_ n1_ n2_ n3_
                  (try clear hb)
                  (try clear hb2)
                  (try clear hk)
                  (try clear hi)
                  refine hK.out _ _ xc (fun hHeld => ?_)
                  clear hK K
                  refine norm_ (a' := ?_) ?_ ?_
                  rotate_left
                  · show Act.put _ (some 63) _ = _
                    simp only [Act.put, List.setIfInBounds_toArray, List.set_cons_zero, List.set_cons_succ, i64_w, i32_w]
                    rfl
                  refine one_ (i := 13) (N := some 65) #[true, true, true, true, true, true, true, true, true, true, true, true, true, true, false, false, false, false, false, false, false, false, false, false, false, false] rfl rfl (one_of HT_.out (by kernel_rfl)) (by decide) (fun K hK => ?_)
                  refine goes_ Tryd.func15 (by kernel_rfl) rfl #[.agg #[.string a2_0, .string a2_1, .string a2_2, .string a2_3, .int .i64 a2_4, .int .i64 a2_5, .int .i64 a2_6, .bool a2_7, .bool a2_8, .bool a2_9, .int .i64 a2_10]] (by rfl) rfl rfl xg ?_
                  with_reducible refine (PrintC.cookie_Of.calls a2_0 a2_1 a2_2 a2_3 a2_4 a2_5 a2_6 a2_7 a2_8 a2_9 a2_10 t487 t488 t489 _ A33.out).mono ?_
                  rintro e w63 ⟨rfl, hb⟩
                  refine ⟨_, rfl, ?_⟩
                  have n0_ := blkB BK455 hb
                  have n1_ := blkB BK468 hb
                  have n2_ := blkB BK482 hb
                  have n3_ := Aside0.mk (below_step xb hb)
                  clear BK455
                  clear BK468
                  clear BK482
                  clear HB
                  have BK455 := n0_
                  have BK468 := n1_
                  have BK482 := n2_
                  have HB := n3_
                  clear n0_ n1_ n2_ n3_
                  (try clear hb)
                  (try clear hb2)
                  (try clear hk)
                  (try clear hi)
                  refine hK.out _ _ xc (fun hHeld => ?_)
                  clear hK K
                  refine norm_ (a' := ?_) ?_ ?_
                  rotate_left
                  · show Act.put _ (some 65) _ = _
                    simp only [Act.put, List.setIfInBounds_toArray, List.set_cons_zero, List.set_cons_succ, i64_w, i32_w]
                    rfl
                  refine pure_ (i := 14) (N := some 66) (v := ?_) (a' := ?_) #[true, true, true, true, true, true, true, true, true, true, true, true, true, true, true, false, false, false, false, false, false, false, false, false, false, false] rfl rfl (any_of HT_.out (by kernel_rfl)) (fun _ _ _ h => h) (Or.inl ⟨by rfl, ?_⟩) ?_ ?_
                  rotate_left
                  · intro w'
                    go_simp
                    with_reducible rfl
                  rotate_left
                  · simp only [Act.put, List.setIfInBounds_toArray, List.set_cons_zero, List.set_cons_succ, i64_w, i32_w]
                    rfl
                  refine pure_ (i := 15) (N := some 67) (v := ?_) (a' := ?_) #[true, true, true, true, true, true, true, true, true, true, true, true, true, true, true, true, false, false, false, false, false, false, false, false, false, false] rfl rfl (any_of HT_.out (by kernel_rfl)) (fun _ _ _ h => h) (Or.inl ⟨by rfl, ?_⟩) ?_ ?_
                  rotate_left
                  · intro w'
                    go_simp
                    with_reducible rfl
                  rotate_left
                  · simp only [Act.put, List.setIfInBounds_toArray, List.set_cons_zero, List.set_cons_succ, i64_w, i32_w]
                    rfl
                  refine pure_ (i := 16) (N := some 68) (v := ?_) (a' := ?_) #[true, true, true, true, true, true, true, true, true, true, true, true, true, true, true, true, true, false, false, false, false, false, false, false, false, false] rfl rfl (any_of HT_.out (by kernel_rfl)) (fun _ _ _ h => h) (Or.inl ⟨by rfl, ?_⟩) ?_ ?_
                  rotate_left
                  · intro w'
                    go_simp
                    with_reducible rfl
                  rotate_left
                  · simp only [Act.put, List.setIfInBounds_toArray, List.set_cons_zero, List.set_cons_succ, i64_w, i32_w]
                    rfl
                  refine take_ (i := 17) (N := some 69) (v := ?_) (a' := ?_) #[true, true, true, true, true, true, true, true, true, true, true, true, true, true, true, true, true, true, false, false, false, false, false, false, false, false] rfl rfl (take_ofW HT_.out HW_.out (by kernel_rfl)) (fun _ _ _ h => h) (Or.inl ⟨by rfl, ?_⟩) hHeld ?_ ?_
                  rotate_left
                  · rintro w' ⟨s0, s1, s2, s3, s4, s5, s6, s7, s8, s9, s10, s11, s12, s13, s14, s15, s16, s17, s18, s19, s20, s21, s22, s23, s24, s25, s26, s27, s28, s29, s30, s31, s32⟩
                    go_simp
                    with_reducible rfl
                  rotate_left
                  · simp only [Act.put, List.setIfInBounds_toArray, List.set_cons_zero, List.set_cons_succ, i64_w, i32_w]
                    rfl
                  refine one_ (i := 18) (N := some 70) #[true, true, true, true, true, true, true, true, true, true, true, true, true, true, true, true, true, true, true, false, false, false, false, false, false, false] rfl rfl (one_of HT_.out (by kernel_rfl)) (by decide) (fun K hK => ?_)
                  refine goes_ Tryd.func16 (by kernel_rfl) rfl #[.agg #[.string a2_0, .string a2_1, .string a2_2, .string a2_3, .int .i64 a2_4, .int .i64 a2_5, .int .i64 a2_6, .bool a2_7, .bool a2_8, .bool a2_9, .int .i64 a2_10]] (by rfl) rfl rfl xg ?_
                  with_reducible refine (cookie_Right.calls kj4 a2_0 a2_1 a2_2 a2_3 a2_4 a2_5 a2_6 a2_7 a2_8 a2_9 a2_10 false _ (Aside0.mk (by first | exact hG.out | ((with_reducible repeat (first | apply LaidG.drewN | apply LaidG.drew | apply LaidG.alloc)); exact hG.out) | exact LaidG.below hG.out xb)) A35.out).mono ?_
                  rintro e w64 ⟨rfl, hb⟩
                  refine ⟨_, rfl, ?_⟩
                  have n0_ := blkB BK455 hb
                  have n1_ := blkB BK468 hb
                  have n2_ := blkB BK482 hb
                  have n3_ := Aside0.mk (below_step xb hb)
                  clear BK455
                  clear BK468
                  clear BK482
                  clear HB
                  have BK455 := n0_
                  have BK468 := n1_
                  have BK482 := n2_
                  have HB := n3_
                  clear n0_ n1_ n2_ n3_
                  (try clear hb)
                  (try clear hb2)
                  (try clear hk)
                  (try clear hi)
                  refine hK.out _ _ xc (fun hHeld => ?_)
                  clear hK K
                  refine norm_ (a' := ?_) ?_ ?_
                  rotate_left
                  · show Act.put _ (some 70) _ = _
                    simp only [Act.put, List.setIfInBounds_toArray, List.set_cons_zero, List.set_cons_succ, i64_w, i32_w]
                    rfl
                  refine pure_ (i := 19) (N := some 71) (v := ?_) (a' := ?_) #[true, true, true, true, true, true, true, true, true, true, true, true, true, true, true, true, true, true, true, true, false, false, false, false, false, false] rfl rfl (any_of HT_.out (by kernel_rfl)) (fun _ _ _ h => h) (Or.inl ⟨by rfl, ?_⟩) ?_ ?_
                  rotate_left
                  · intro w'
                    go_simp
                    with_reducible rfl
                  rotate_left
                  · simp only [Act.put, List.setIfInBounds_toArray, List.set_cons_zero, List.set_cons_succ, i64_w, i32_w]
                    rfl
                  refine pure_ (i := 20) (N := some 72) (v := ?_) (a' := ?_) #[true, true, true, true, true, true, true, true, true, true, true, true, true, true, true, true, true, true, true, true, true, false, false, false, false, false] rfl rfl (any_of HT_.out (by kernel_rfl)) (fun _ _ _ h => h) (Or.inl ⟨by rfl, ?_⟩) ?_ ?_
                  rotate_left
                  · intro w'
                    go_simp
                    with_reducible rfl
                  rotate_left
                  · simp only [Act.put, List.setIfInBounds_toArray, List.set_cons_zero, List.set_cons_succ, i64_w, i32_w]
                    rfl
                  refine pure_ (i := 21) (N := some 73) (v := undef) (a' := ?_) #[true, true, true, true, true, true, true, true, true, true, true, true, true, true, true, true, true, true, true, true, true, true, false, false, false, false] rfl rfl (any_of HT_.out (by kernel_rfl)) (fun _ _ _ h => h) (Or.inr ⟨by rfl, rfl⟩) ?_ ?_
                  rotate_left
                  · simp only [Act.put, List.setIfInBounds_toArray, List.set_cons_zero, List.set_cons_succ, i64_w, i32_w]
                    rfl
                  refine pure_ (i := 22) (N := some 74) (v := undef) (a' := ?_) #[true, true, true, true, true, true, true, true, true, true, true, true, true, true, true, true, true, true, true, true, true, true, true, false, false, false] rfl rfl (any_of HT_.out (by kernel_rfl)) (fun _ _ _ h => h) (Or.inr ⟨by rfl, rfl⟩) ?_ ?_
                  rotate_left
                  · simp only [Act.put, List.setIfInBounds_toArray, List.set_cons_zero, List.set_cons_succ, i64_w, i32_w]
                    rfl
                  refine pure_ (i := 23) (N := some 75) (v := ?_) (a' := ?_) #[true, true, true, true, true, true, true, true, true, true, true, true, true, true, true, true, true, true, true, true, true, true, true, true, false, false] rfl rfl (any_of HT_.out (by kernel_rfl)) (fun _ _ _ h => h) (Or.inl ⟨by rfl, ?_⟩) ?_ ?_
                  rotate_left
                  · intro w'
                    go_simp
                    with_reducible rfl
                  rotate_left
                  · simp only [Act.put, List.setIfInBounds_toArray, List.set_cons_zero, List.set_cons_succ, i64_w, i32_w]
                    rfl
                  refine pure_ (i := 24) (N := some 76) (v := ?_) (a' := ?_) #[true, true, true, true, true, true, true, true, true, true, true, true, true, true, true, true, true, true, true, true, true, true, true, true, true, false] rfl rfl (any_of HT_.out (by kernel_rfl)) (fun _ _ _ h => h) (Or.inl ⟨by rfl, ?_⟩) ?_ ?_
                  rotate_left
                  · intro w'
                    go_simp
                    with_reducible rfl
                  rotate_left
                  · simp only [Act.put, List.setIfInBounds_toArray, List.set_cons_zero, List.set_cons_succ, i64_w, i32_w]
                    rfl
                  refine pure_ (i := 25) (N := some 6) (v := ?_) (a' := ?_) #[true, true, true, true, true, true, true, true, true, true, true, true, true, true, true, true, true, true, true, true, true, true, true, true, true, true] rfl rfl (any_of HT_.out (by kernel_rfl)) (fun _ _ _ h => h) (Or.inl ⟨by rfl, ?_⟩) ?_ ?_
                  rotate_left
                  · intro w'
                    go_simp
                    with_reducible rfl
                  rotate_left
                  · simp only [Act.put, List.setIfInBounds_toArray, List.set_cons_zero, List.set_cons_succ, i64_w, i32_w]
                    rfl
                  refine done_ (done_of HT_.out (by kernel_rfl)) ?_
                  try go_wp2
                  go_ret
                  exact ⟨by first | rfl | (simp [errW_none, errW_some] <;> rfl) | (simp [*, errW_none, errW_some] <;> rfl), by repeat (first | (with_reducible first | exact HB.out | apply below_alloc | apply pw_below_drewN | apply below_drew1 | refine below_set ?_ GE455.out | refine below_set ?_ GE468.out | refine below_set ?_ GE482.out) | exact HB.out)⟩
              · rw [if_neg c34] at H
                have c34b0 : (t484.toList == t487.toList && (t485.toList == t488.toList && (t486.toList == t489.toList))) = false := by simpa using c34
                (try (have c34b1 : decide (t484.toList = t487.toList && (t485.toList == t488.toList && (t486.toList == t489.toList))) = false := by simpa using c34))
                (try (have c34b2 : (t484.toList == t487.toList && (t485.toList == t488.toList && (t486.toList == t489.toList))) = false := by simpa using c34))
                (try (have c34b3 : ¬ (t484.toList = t487.toList && (t485.toList == t488.toList && (t486.toList == t489.toList))) := by simpa using c34))
                clear c34
                obtain rfl := Option.some.inj H
                exact absurd hT_.out (by decide)
            · rw [if_neg c31] at H
              have c31b0 : (t470.toList == t456.toList && (t471.toList == t457.toList && (t472.toList == t458.toList && (t473.toList == t459.toList && (t474 == t460 && (t475 == t461 && (t476 == t462 && (t477 == t463 && (t478 == t464 && (t479 == t465 && (t480 == t466))))))))))) = false := by simpa using c31
              (try (have c31b1 : decide (t470.toList = t456.toList && (t471.toList == t457.toList && (t472.toList == t458.toList && (t473.toList == t459.toList && (t474 == t460 && (t475 == t461 && (t476 == t462 && (t477 == t463 && (t478 == t464 && (t479 == t465 && (t480 == t466))))))))))) = false := by simpa using c31))
              (try (have c31b2 : (t470.toList == t456.toList && (t471.toList == t457.toList && (t472.toList == t458.toList && (t473.toList == t459.toList && (t474 == t460 && (t475 == t461 && (t476 == t462 && (t477 == t463 && (t478 == t464 && (t479 == t465 && (t480 == t466))))))))))) = false := by simpa using c31))
              (try (have c31b3 : ¬ (t470.toList = t456.toList && (t471.toList == t457.toList && (t472.toList == t458.toList && (t473.toList == t459.toList && (t474 == t460 && (t475 == t461 && (t476 == t462 && (t477 == t463 && (t478 == t464 && (t479 == t465 && (t480 == t466))))))))))) := by simpa using c31))
              clear c31
              obtain rfl := Option.some.inj H
              exact absurd hT_.out (by decide)
          · replace c30 := Bool.eq_false_iff.mpr c30
            subst c30
            have H1 : (some false) = some r := by rw [if_neg (show ¬ (false = true) by decide)] at H; exact H
            clear H
            have H := H1
            clear H1
            obtain rfl := Option.some.inj H
            exact absurd hT_.out (by decide)
        · replace c29 := Bool.eq_false_iff.mpr c29
          subst c29
          have H1 : (some false) = some r := by rw [if_neg (show ¬ (false = true) by decide)] at H; exact H
          clear H
          have H := H1
          clear H1
          obtain rfl := Option.some.inj H
          exact absurd hT_.out (by decide)

/-- THE ONE PURE STATEMENT of cracknellaw18_ProjTwice: yours. -/
def cracknellaw18_ProjTwice.Pure : Prop := ∀ (a0 : Int) (a1 : Int) (a2_0 : ByteArray) (a2_1 : ByteArray) (a2_2 : ByteArray) (a2_3 : ByteArray) (a2_4 : Int) (a2_5 : Int) (a2_6 : Int) (a2_7 : Bool) (a2_8 : Bool) (a2_9 : Bool) (a2_10 : Int), (Lit.int .i64 a0).wf = true → (Lit.int .i64 a1).wf = true → a2_0.size ≤ 9223372036854775807 → a2_1.size ≤ 9223372036854775807 → a2_2.size ≤ 9223372036854775807 → a2_3.size ≤ 9223372036854775807 → (Lit.int .i64 a2_4).wf = true → (Lit.int .i64 a2_5).wf = true → (Lit.int .i64 a2_6).wf = true → (Lit.int .i64 a2_10).wf = true → ∃ k, cracknellaw18_ProjTwice.f k a0 a1 a2_0 a2_1 a2_2 a2_3 a2_4 a2_5 a2_6 a2_7 a2_8 a2_9 a2_10 = some true
theorem cracknellaw18_ProjTwice.walk (P : cracknellaw18_ProjTwice.Pure) (a0 : Int) (a1 : Int) (a2_0 : ByteArray) (a2_1 : ByteArray) (a2_2 : ByteArray) (a2_3 : ByteArray) (a2_4 : Int) (a2_5 : Int) (a2_6 : Int) (a2_7 : Bool) (a2_8 : Bool) (a2_9 : Bool) (a2_10 : Int) (w : World) (w0 : (Lit.int .i64 a0).wf = true) (w1 : (Lit.int .i64 a1).wf = true) (w2_0 : a2_0.size ≤ 9223372036854775807) (w2_1 : a2_1.size ≤ 9223372036854775807) (w2_2 : a2_2.size ≤ 9223372036854775807) (w2_3 : a2_3.size ≤ 9223372036854775807) (w2_4 : (Lit.int .i64 a2_4).wf = true) (w2_5 : (Lit.int .i64 a2_5).wf = true) (w2_6 : (Lit.int .i64 a2_6).wf = true) (w2_10 : (Lit.int .i64 a2_10).wf = true) (hG : Aside0 (LaidG w)) :
    Calls Tryd.prog 5 #[.int .i64 a0, .int .i64 a1, .agg #[.string a2_0, .string a2_1, .string a2_2, .string a2_3, .int .i64 a2_4, .int .i64 a2_5, .int .i64 a2_6, .bool a2_7, .bool a2_8, .bool a2_9, .int .i64 a2_10]] w fun e w' => e = .returned (.bool true) ∧ Below w.heap.size w w' := by
  obtain ⟨k, h⟩ := P a0 a1 a2_0 a2_1 a2_2 a2_3 a2_4 a2_5 a2_6 a2_7 a2_8 a2_9 a2_10 w0 w1 w2_0 w2_1 w2_2 w2_3 w2_4 w2_5 w2_6 w2_10
  refine (cracknellaw18_ProjTwice.calls k a0 a1 a2_0 a2_1 a2_2 a2_3 a2_4 a2_5 a2_6 a2_7 a2_8 a2_9 a2_10 true w hG ⟨rfl⟩ h).mono ?_
  rintro e w' ⟨rfl, hd⟩
  exact ⟨rfl, hd⟩

end Go.Proofs.YtccmackhhppbdaaDoor.Print
