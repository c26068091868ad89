/- Printed by a program of this claim's session (xprint.py): the machine's side: each Go function as a Lean function, and that a call of it comes to what that tells; the row of a statement. No condition. -/
import Derived.Test.YtpcakfldmcfhlaaDoorPrint0
namespace Go.Proofs.YtpcakfldmcfhlaaDoor.Print
open Go.RowKit Go.Proofs.YtpcakfldmcfhlaaDoorW.PrintWords Go.Proofs.YtpcakfldmcfhlaaDoorW.PrintLast Go.Proofs.YtpcakfldmcfhlaaDoorW.PrintMore
attribute [local go_sem] max2_int min2_int max_two min_two max_three min_three max_four min_four   -- for this text's walks alone
set_option linter.unusedVariables false
set_option linter.unusedSimpArgs false

/-! ### cracknelref13_Live: function 19 -/
def cracknelref13_Live.f (a0_0 : ByteArray) (a0_1 : ByteArray) (a0_2 : ByteArray) (a0_3 : ByteArray) (a0_4 : Int) (a0_5 : Int) (a0_6 : Int) (a0_7 : Bool) (a0_8 : Bool) (a0_9 : Bool) (a0_10 : Int) (a1 : Int) : Option (Bool) := if a0_6 = 0 then (some true) else (some (decide (a0_6 > a1)))
set_option maxHeartbeats 8000000 in
set_option maxRecDepth 100000 in
theorem cracknelref13_Live.calls (a0_0 : ByteArray) (a0_1 : ByteArray) (a0_2 : ByteArray) (a0_3 : ByteArray) (a0_4 : Int) (a0_5 : Int) (a0_6 : Int) (a0_7 : Bool) (a0_8 : Bool) (a0_9 : Bool) (a0_10 : Int) (a1 : Int) (r : Bool) (w : World) (h : cracknelref13_Live.f a0_0 a0_1 a0_2 a0_3 a0_4 a0_5 a0_6 a0_7 a0_8 a0_9 a0_10 a1 = some r) :
    Calls Tryd.prog 19 #[.agg #[.string a0_0, .string a0_1, .string a0_2, .string a0_3, .int .i64 a0_4, .int .i64 a0_5, .int .i64 a0_6, .bool a0_7, .bool a0_8, .bool a0_9, .int .i64 a0_10], .int .i64 a1] w fun e w' => e = .returned (.bool r) ∧ Below w.heap.size w w' := by
  have hu23 := Tryd.underlying23
  have HB := Aside0.mk (Below.refl w.heap.size w)
  have H : (if a0_6 = 0 then (some true) else (some (decide (a0_6 > a1)))) = some r := h
  clear h
  by_cases c3 : a0_6 = 0
  · rw [if_pos c3] at H
    have c3b0 : (a0_6 == 0) = true := beq_iff_eq.mpr c3
    have c3b1 : (a0_6 != 0) = false := bne_eq_false_iff_eq.mpr c3
    clear c3
    obtain rfl := Option.some.inj H
    go_enter Tryd.func19, Tryd.ntmps19
    go_wp2_with (first | ((with_reducible refine gate_dst (N := 2) rfl ?_); refine box_event ?hg (N := 2) ?hd (cs := #[.string a0_0, .string a0_1, .string a0_2, .string a0_3, .int .i64 a0_4, .int .i64 a0_5, .int .i64 a0_6, .bool a0_7, .bool a0_8, .bool a0_9, .int .i64 a0_10]) (t := 23) ?hr ?_; (case hd => rfl); (case hg => rfl); (case hr => first | (go_simp; done) | (go_simp; rfl)); intro gb385 hg w4 hbox hb; have n0_ := Aside0.mk (below_step xb hb); have n1_ := Aside0.mk (hbox); have n2_ := Aside0.mk ((by rw [hg]; exact (below_size xb) : w.heap.size ≤ gb385)); have n3_ := Aside0.mk ((by rw [hg]; exact (below_size xb) : w.heap.size ≤ gb385)); clear HB; have HB := n0_; have BK385 := n1_; have GW385 := n2_; have GE385 := n3_; clear n0_ n1_ n2_ n3_; clear hb hbox hg; have hcz5_0 : w4.cell? ⟨gb385, 0, none⟩ = some (.string a0_0) := (blk_cell BK385.out 0).trans rfl; have hcz5_1 : w4.cell? ⟨gb385, 1, none⟩ = some (.string a0_1) := (blk_cell BK385.out 1).trans rfl; have hcz5_2 : w4.cell? ⟨gb385, 2, none⟩ = some (.string a0_2) := (blk_cell BK385.out 2).trans rfl; have hcz5_3 : w4.cell? ⟨gb385, 3, none⟩ = some (.string a0_3) := (blk_cell BK385.out 3).trans rfl; have hcz5_4 : w4.cell? ⟨gb385, 4, none⟩ = some (.int .i64 a0_4) := (blk_cell BK385.out 4).trans rfl; have hcz5_5 : w4.cell? ⟨gb385, 5, none⟩ = some (.int .i64 a0_5) := (blk_cell BK385.out 5).trans rfl; have hcz5_6 : w4.cell? ⟨gb385, 6, none⟩ = some (.int .i64 a0_6) := (blk_cell BK385.out 6).trans rfl; have hcz5_7 : w4.cell? ⟨gb385, 7, none⟩ = some (.bool a0_7) := (blk_cell BK385.out 7).trans rfl; have hcz5_8 : w4.cell? ⟨gb385, 8, none⟩ = some (.bool a0_8) := (blk_cell BK385.out 8).trans rfl; have hcz5_9 : w4.cell? ⟨gb385, 9, none⟩ = some (.bool a0_9) := (blk_cell BK385.out 9).trans rfl; have hcz5_10 : w4.cell? ⟨gb385, 10, none⟩ = some (.int .i64 a0_10) := (blk_cell BK385.out 10).trans rfl; have hfz5_0 := blk_frozen BK385.out 0; have hfz5_1 := blk_frozen BK385.out 1; have hfz5_2 := blk_frozen BK385.out 2; have hfz5_3 := blk_frozen BK385.out 3; have hfz5_4 := blk_frozen BK385.out 4; have hfz5_5 := blk_frozen BK385.out 5; have hfz5_6 := blk_frozen BK385.out 6; have hfz5_7 := blk_frozen BK385.out 7; have hfz5_8 := blk_frozen BK385.out 8; have hfz5_9 := blk_frozen BK385.out 9; have hfz5_10 := blk_frozen BK385.out 10))
    go_ret
    exact ⟨by first | rfl | (simp [errW_none, errW_some] <;> rfl) | (simp [*, errW_none, errW_some] <;> rfl), by repeat (first | (with_reducible first | exact HB.out | apply below_alloc | apply pw_below_drewN | apply below_drew1 | refine below_set ?_ GE385.out) | exact HB.out)⟩
  · rw [if_neg c3] at H
    have c3b0 : (a0_6 == 0) = false := beq_eq_false_iff_ne.mpr c3
    have c3b1 : (a0_6 != 0) = true := bne_iff_ne.mpr c3
    obtain rfl := Option.some.inj H
    go_enter Tryd.func19, Tryd.ntmps19
    go_wp2_with (first | ((with_reducible refine gate_dst (N := 2) rfl ?_); refine box_event ?hg (N := 2) ?hd (cs := #[.string a0_0, .string a0_1, .string a0_2, .string a0_3, .int .i64 a0_4, .int .i64 a0_5, .int .i64 a0_6, .bool a0_7, .bool a0_8, .bool a0_9, .int .i64 a0_10]) (t := 23) ?hr ?_; (case hd => rfl); (case hg => rfl); (case hr => first | (go_simp; done) | (go_simp; rfl)); intro gb385 hg w6 hbox hb; have n0_ := Aside0.mk (below_step xb hb); have n1_ := Aside0.mk (hbox); have n2_ := Aside0.mk ((by rw [hg]; exact (below_size xb) : w.heap.size ≤ gb385)); have n3_ := Aside0.mk ((by rw [hg]; exact (below_size xb) : w.heap.size ≤ gb385)); clear HB; have HB := n0_; have BK385 := n1_; have GW385 := n2_; have GE385 := n3_; clear n0_ n1_ n2_ n3_; clear hb hbox hg; have hcz7_0 : w6.cell? ⟨gb385, 0, none⟩ = some (.string a0_0) := (blk_cell BK385.out 0).trans rfl; have hcz7_1 : w6.cell? ⟨gb385, 1, none⟩ = some (.string a0_1) := (blk_cell BK385.out 1).trans rfl; have hcz7_2 : w6.cell? ⟨gb385, 2, none⟩ = some (.string a0_2) := (blk_cell BK385.out 2).trans rfl; have hcz7_3 : w6.cell? ⟨gb385, 3, none⟩ = some (.string a0_3) := (blk_cell BK385.out 3).trans rfl; have hcz7_4 : w6.cell? ⟨gb385, 4, none⟩ = some (.int .i64 a0_4) := (blk_cell BK385.out 4).trans rfl; have hcz7_5 : w6.cell? ⟨gb385, 5, none⟩ = some (.int .i64 a0_5) := (blk_cell BK385.out 5).trans rfl; have hcz7_6 : w6.cell? ⟨gb385, 6, none⟩ = some (.int .i64 a0_6) := (blk_cell BK385.out 6).trans rfl; have hcz7_7 : w6.cell? ⟨gb385, 7, none⟩ = some (.bool a0_7) := (blk_cell BK385.out 7).trans rfl; have hcz7_8 : w6.cell? ⟨gb385, 8, none⟩ = some (.bool a0_8) := (blk_cell BK385.out 8).trans rfl; have hcz7_9 : w6.cell? ⟨gb385, 9, none⟩ = some (.bool a0_9) := (blk_cell BK385.out 9).trans rfl; have hcz7_10 : w6.cell? ⟨gb385, 10, none⟩ = some (.int .i64 a0_10) := (blk_cell BK385.out 10).trans rfl; have hfz7_0 := blk_frozen BK385.out 0; have hfz7_1 := blk_frozen BK385.out 1; have hfz7_2 := blk_frozen BK385.out 2; have hfz7_3 := blk_frozen BK385.out 3; have hfz7_4 := blk_frozen BK385.out 4; have hfz7_5 := blk_frozen BK385.out 5; have hfz7_6 := blk_frozen BK385.out 6; have hfz7_7 := blk_frozen BK385.out 7; have hfz7_8 := blk_frozen BK385.out 8; have hfz7_9 := blk_frozen BK385.out 9; have hfz7_10 := blk_frozen BK385.out 10))
    go_ret
    exact ⟨by first | rfl | (simp [errW_none, errW_some] <;> rfl) | (simp [*, errW_none, errW_some] <;> rfl), by repeat (first | (with_reducible first | exact HB.out | apply below_alloc | apply pw_below_drewN | apply below_drew1 | refine below_set ?_ GE385.out) | exact HB.out)⟩

end Go.Proofs.YtpcakfldmcfhlaaDoor.Print
