/- Printed by a program of this claim's session (xprint.py): the machine's side: each Go function as a Lean function, and that a call of it comes to what that tells; the row of a statement. No condition. -/
import Derived.Test.YtccmackhhppbdaaDoorPrint0
import Derived.Test.YtccmackhhppbdaaDoorGmanyC
import Derived.Test.YtccmackhhppbdaaDoorPrint8
import Derived.Test.YtccmackhhppbdaaDoorPrint10
namespace Go.Proofs.YtccmackhhppbdaaDoor.Print
open Go.RowKit Go.Proofs.YtccmackhhppbdaaDoorW.PrintWords Go.Proofs.YtccmackhhppbdaaDoorW.PrintLast Go.Proofs.YtccmackhhppbdaaDoorW.PrintMore
attribute [local go_sem] max2_int min2_int max_two min_two max_three min_three max_four min_four   -- for this text's walks alone
set_option linter.unusedVariables false
set_option linter.unusedSimpArgs false

/-! ### api_Cookie_Len: function 31 -/
def api_Cookie_Len.f (l0_0 : List (S76)) : Option (Int) := some (l0_0.length : Int)
set_option maxHeartbeats 8000000 in
set_option maxRecDepth 100000 in
theorem api_Cookie_Len.calls (A0_0 : Option Addr) (c0_0 : Nat) (l0_0 : List (S76)) (r : Int) (w : World) (hr0_0 : Kd.C k76 w A0_0 l0_0.length l0_0) (hc0_0 : l0_0.length ≤ c0_0) (h : api_Cookie_Len.f l0_0 = some r) :
    Calls Tryd.prog 31 #[.agg #[.slice A0_0 l0_0.length c0_0]] w fun e w' => e = .returned (.int .i64 r) ∧ Below w.heap.size w w' := by
  have hu44 := Tryd.underlying44
  have HR0_0 := Aside0.mk hr0_0
  have HC0_0 := Aside0.mk hc0_0
  clear hr0_0 hc0_0
  have HB := Aside0.mk (Below.refl w.heap.size w)
  have H : (some (l0_0.length : Int)) = some r := h
  clear h
  obtain rfl := Option.some.inj H
  go_enter Tryd.func31, Tryd.ntmps31
  go_wp2_with (first | ((with_reducible refine gate_dst (N := 1) rfl ?_); refine box_event ?hg (N := 1) ?hd (cs := #[.slice A0_0 l0_0.length c0_0]) (t := 44) ?hr ?_; (case hd => rfl); (case hg => rfl); (case hr => first | (go_simp; done) | (go_simp; rfl)); intro gb191 hg w2 hbox hb; have n0_ := Aside0.mk (below_step xb hb); have n1_ := Aside0.mk (hbox); have n2_ := Aside0.mk ((by rw [hg]; exact (below_size xb) : w.heap.size ≤ gb191)); have n3_ := Aside0.mk ((by rw [hg]; exact (below_size xb) : w.heap.size ≤ gb191)); clear HB; have HB := n0_; have BK191 := n1_; have GW191 := n2_; have GE191 := n3_; clear n0_ n1_ n2_ n3_; clear hb hbox hg; have hcz3_0 : w2.cell? ⟨gb191, 0, none⟩ = some (.slice A0_0 l0_0.length c0_0) := (blk_cell BK191.out 0).trans rfl; have hfz3_0 := blk_frozen BK191.out 0))
  go_ret
  exact ⟨by first | rfl | (simp [errW_none, errW_some] <;> rfl) | (simp [*, errW_none, errW_some] <;> rfl), by repeat (first | (with_reducible first | exact HB.out | apply below_alloc | apply pw_below_drewN | apply below_drew1 | refine below_set ?_ GE191.out) | exact HB.out)⟩

/-! ### jar_Of: function 19 -/
def jar_Of.l0 : Nat → List (S27) → List (S27) → Int → Int → List (S76) → Option ((List (S76)) × Int)
  | 0, _, _, _, _, _ => none
  | k + 1, x0, x8, x9, x10, x194000 => if x10 < x9 then (if 0 ≤ x10 then (if x10 < (x8.length : Int) then ((cookie_Right.f k ((rd_T27 x8 x10).f0) ((rd_T27 x8 x10).f1) ((rd_T27 x8 x10).f2) ((rd_T27 x8 x10).f3) ((rd_T27 x8 x10).f4) ((rd_T27 x8 x10).f5) ((rd_T27 x8 x10).f6) ((rd_T27 x8 x10).f7) ((rd_T27 x8 x10).f8) ((rd_T27 x8 x10).f9) ((rd_T27 x8 x10).f10)).bind fun t196 => (if t196 = true then ((PrintC.cookie_Of.f ((rd_T27 x8 x10).f0) ((rd_T27 x8 x10).f1) ((rd_T27 x8 x10).f2) ((rd_T27 x8 x10).f3) ((rd_T27 x8 x10).f4) ((rd_T27 x8 x10).f5) ((rd_T27 x8 x10).f6) ((rd_T27 x8 x10).f7) ((rd_T27 x8 x10).f8) ((rd_T27 x8 x10).f9) ((rd_T27 x8 x10).f10)).bind fun bt197 => ((api_Cookie_Put.f k x194000 bt197.1 bt197.2.1 bt197.2.2 ((rd_T27 x8 x10).f0) ((rd_T27 x8 x10).f1) ((rd_T27 x8 x10).f2) ((rd_T27 x8 x10).f3) ((rd_T27 x8 x10).f4) ((rd_T27 x8 x10).f5) ((rd_T27 x8 x10).f6) ((rd_T27 x8 x10).f7) ((rd_T27 x8 x10).f8) ((rd_T27 x8 x10).f9) ((rd_T27 x8 x10).f10)).bind fun t200 => (jar_Of.l0 k x0 x8 x9 (wrap64 (x10 + 1)) t200))) else (some (([] : List (S76)), 150)))) else (none)) else (none)) else ((api_Cookie_Len.f x194000).bind fun t204 => (if t204 < (x0.length : Int) then (some (([] : List (S76)), 151)) else ((jar_many.f x194000).bind fun t205 => (if t205 = true then (some (([] : List (S76)), 152)) else (some (x194000, 0))))))
def jar_Of.f (k : Nat) (l0 : List (S27)) : Option ((List (S76)) × Int) := jar_Of.l0 k l0 l0 (l0.length : Int) 0 ([] : List (S76))
theorem jar_Of.mono_l : ∀ k, (∀ y0 y1 y2 y3 y4, LeO (jar_Of.l0 k y0 y1 y2 y3 y4) (jar_Of.l0 (k + 1) y0 y1 y2 y3 y4))
  | 0 => fun _ _ _ _ _ r h => by simp [jar_Of.l0] at h
  | k + 1 => by
    have ih0 := jar_Of.mono_l k
    · intro y0 y1 y2 y3 y4
      unfold jar_Of.l0
      repeat' first
      | (with_reducible exact ih0 _ _ _ _ _)
      | (with_reducible exact api_Cookie_Put.mono _ _ _ _ _ _ _ _ _ _ _ _ _ _ _ _)
      | (with_reducible exact cookie_Right.mono _ _ _ _ _ _ _ _ _ _ _ _)
      | (with_reducible exact LeO.refl _)
      | (with_reducible exact LeO.none _)
      | (with_reducible refine LeO.ite ?_ ?_)
      | (with_reducible refine LeO.bind ?_ (fun _ => ?_))
      | exact ih0 _ _ _ _ _
      | exact api_Cookie_Put.mono _ _ _ _ _ _ _ _ _ _ _ _ _ _ _ _
      | exact cookie_Right.mono _ _ _ _ _ _ _ _ _ _ _ _
      | exact LeO.none _
      | refine LeO.ite ?_ ?_
      | refine LeO.bind ?_ (fun _ => ?_)
theorem jar_Of.mono : ∀ a0 k, LeO (jar_Of.f k a0) (jar_Of.f (k + 1) a0) := by
  intro a0 k
  have ih0 := jar_Of.mono_l k
  unfold jar_Of.f
  repeat' first
      | (with_reducible exact ih0 _ _ _ _ _)
      | (with_reducible exact api_Cookie_Put.mono _ _ _ _ _ _ _ _ _ _ _ _ _ _ _ _)
      | (with_reducible exact cookie_Right.mono _ _ _ _ _ _ _ _ _ _ _ _)
      | (with_reducible exact LeO.refl _)
      | (with_reducible exact LeO.none _)
      | (with_reducible refine LeO.ite ?_ ?_)
      | (with_reducible refine LeO.bind ?_ (fun _ => ?_))
      | exact ih0 _ _ _ _ _
      | exact api_Cookie_Put.mono _ _ _ _ _ _ _ _ _ _ _ _ _ _ _ _
      | exact cookie_Right.mono _ _ _ _ _ _ _ _ _ _ _ _
      | exact LeO.none _
      | refine LeO.ite ?_ ?_
      | refine LeO.bind ?_ (fun _ => ?_)
set_option maxHeartbeats 8000000 in
set_option maxRecDepth 100000 in
theorem jar_Of.calls (k : Nat) (A0 : Option Addr) (c0 : Nat) (l0 : List (S27)) (r1 : List (S76)) (r2 : Int) (w : World) (hr0 : Kd.C k27 w A0 l0.length l0) (hc0 : l0.length ≤ c0) (hG : Aside0 (LaidG w)) (h : jar_Of.f k l0 = some (r1, r2)) :
    Calls Tryd.prog 19 #[.slice A0 l0.length c0] w fun e w' => ∃ v0_ : Value, e = .returned (.tuple #[.agg #[v0_], .int .i64 r2]) ∧ Kd.R k76 76 w' w.heap.size (fun _ => True) v0_ r1 ∧ Below w.heap.size w w' := by
  have hu48 := Tryd.underlying48
  have hu44 := Tryd.underlying44
  have hu27 := Tryd.underlying27
  have hu46 := Tryd.underlying46
  have HR0 := Aside0.mk hr0
  have HC0 := Aside0.mk hc0
  clear hr0 hc0
  have HB := Aside0.mk (Below.refl w.heap.size w)
  have H : (jar_Of.l0 k l0 l0 (l0.length : Int) 0 ([] : List (S76))) = some (r1, r2) := h
  clear h
  have H' := Aside0.mk H
  clear H
  go_enter Tryd.func19, Tryd.ntmps19
  go_wp2_with (first | ((with_reducible refine gate_dst (N := 2) rfl ?_); refine box_event ?hg (N := 2) ?hd (cs := #[.slice none 0 0]) (t := 48) ?hr ?_; (case hd => rfl); (case hg => rfl); (case hr => first | (go_simp; done) | (go_simp; rfl)); intro gb192 hg w2 hbox hb; have n0_ := Aside0.mk (below_step xb hb); have n1_ := Aside0.mk (hbox); have n2_ := Aside0.mk ((by rw [hg]; exact (below_size xb) : w.heap.size ≤ gb192)); have n3_ := Aside0.mk ((by rw [hg]; exact (below_size xb) : w.heap.size ≤ gb192)); clear HB; have HB := n0_; have BK192 := n1_; have GW192 := n2_; have GE192 := n3_; clear n0_ n1_ n2_ n3_; clear hb hbox hg) | ((with_reducible refine gate_dst (N := 4) rfl ?_); refine box_event ?hg (N := 4) ?hd (cs := #[.slice none 0 0]) (t := 44) ?hr ?_; (case hd => rfl); (case hg => rfl); (case hr => first | (go_simp; done) | (go_simp; rfl)); intro gb193 hg w3 hbox hb; have n0_ := blkB BK192 hb; have n1_ := Aside0.mk (below_step xb hb); have n2_ := Aside0.mk (hbox); have n3_ := Aside0.mk ((by rw [hg]; exact (below_size xb) : w.heap.size ≤ gb193)); have n4_ := Aside0.mk ((by rw [hg]; exact (below_size xb) : w.heap.size ≤ gb193)); have n5_ := Aside0.mk ((by rw [hg]; exact Nat.ne_of_lt (blkL BK192) : gb192 ≠ gb193)); have n6_ := Aside0.mk ((by rw [hg]; exact Nat.ne_of_gt (blkL BK192) : gb193 ≠ gb192)); clear BK192; clear HB; have BK192 := n0_; have HB := n1_; have BK193 := n2_; have GW193 := n3_; have GE193 := n4_; have NB192_193 := n5_; have NB193_192 := n6_; clear n0_ n1_ n2_ n3_ n4_ n5_ n6_; clear hb hbox hg))
  go_loopg [10] k (fun kq v10 w' => ∃ (x10_1 : Int) (x194000_1 : List (S76)) (u194000 : Value), v10 = .int .i64 x10_1 ∧ Aside0 (jar_Of.l0 kq l0 l0 (l0.length : Int) x10_1 x194000_1 = some (r1, r2)) ∧ Aside0 (kq ≤ k) ∧ Aside0 (Kd.R k76 76 w' w.heap.size (fun _ => True) u194000 x194000_1) ∧ Aside0 (w'.heap[gb192]? = some (.cells #[(.slice none 0 0)] 48 (0, 0))) ∧ Aside0 (w'.heap[gb193]? = some (.cells #[u194000] 44 (0, 0))) ∧ Aside0 (Below w.heap.size w w'))
  case atStart => exact ⟨(0), (([] : List (S76))), (.slice none 0 0), (by first | rfl | (simp; done) | (simp [*]; done)), H', ⟨Nat.le_refl _⟩, ⟨by first | exact Kd.R_nil _ _ _ _ _ | exact Kd.N_nil _ _ _ _ _ | exact Kd.V_nil _ _ _ _ _ | exact Kd.Q_nil _ _ _ _ _ | exact Kd.S_nil _ _ _ _ _⟩, ⟨xk⟩, ⟨xk⟩, ⟨xb⟩⟩
  case round =>
    clear H'
    try clear c1
    try clear p2
    obtain ⟨x10_1, x194000_1, u194000, rfl, HA, HK1, HO_194000, BK192, BK193, HB⟩ := hrel
    cases gk with
    | zero => exact absurd HA.out (by simp [jar_Of.l0])
    | succ k1 =>
      have H := HA.out
      clear HA
      simp only [jar_Of.l0] at H
      by_cases c4 : x10_1 < (l0.length : Int)
      · rw [if_pos c4] at H
        have c4b0 : decide (x10_1 < (l0.length : Int)) = true := decide_eq_true c4
        clear c4
        by_cases c5 : 0 ≤ x10_1
        · rw [if_pos c5] at H
          have c5b0 : decide (0 ≤ x10_1) = true := decide_eq_true c5
          clear c5
          by_cases c6 : x10_1 < (l0.length : Int)
          · rw [if_pos c6] at H
            have c6b0 : decide (x10_1 < (l0.length : Int)) = true := decide_eq_true c6
            clear c6
            replace H := Option.bind_eq_some_iff.mp H
            obtain ⟨t196, A70, H⟩ := H
            replace H : (if t196 = true then ((PrintC.cookie_Of.f ((rd_T27 l0 x10_1).f0) ((rd_T27 l0 x10_1).f1) ((rd_T27 l0 x10_1).f2) ((rd_T27 l0 x10_1).f3) ((rd_T27 l0 x10_1).f4) ((rd_T27 l0 x10_1).f5) ((rd_T27 l0 x10_1).f6) ((rd_T27 l0 x10_1).f7) ((rd_T27 l0 x10_1).f8) ((rd_T27 l0 x10_1).f9) ((rd_T27 l0 x10_1).f10)).bind fun bt197 => ((api_Cookie_Put.f k1 x194000_1 bt197.1 bt197.2.1 bt197.2.2 ((rd_T27 l0 x10_1).f0) ((rd_T27 l0 x10_1).f1) ((rd_T27 l0 x10_1).f2) ((rd_T27 l0 x10_1).f3) ((rd_T27 l0 x10_1).f4) ((rd_T27 l0 x10_1).f5) ((rd_T27 l0 x10_1).f6) ((rd_T27 l0 x10_1).f7) ((rd_T27 l0 x10_1).f8) ((rd_T27 l0 x10_1).f9) ((rd_T27 l0 x10_1).f10)).bind fun t200 => (jar_Of.l0 k1 l0 l0 (l0.length : Int) (wrap64 (x10_1 + 1)) t200))) else (some (([] : List (S76)), 150))) = some (r1, r2) := H
            have A7 := Aside0.mk A70
            clear A70
            by_cases c8 : t196 = true
            · subst c8
              have H1 : ((PrintC.cookie_Of.f ((rd_T27 l0 x10_1).f0) ((rd_T27 l0 x10_1).f1) ((rd_T27 l0 x10_1).f2) ((rd_T27 l0 x10_1).f3) ((rd_T27 l0 x10_1).f4) ((rd_T27 l0 x10_1).f5) ((rd_T27 l0 x10_1).f6) ((rd_T27 l0 x10_1).f7) ((rd_T27 l0 x10_1).f8) ((rd_T27 l0 x10_1).f9) ((rd_T27 l0 x10_1).f10)).bind fun bt197 => ((api_Cookie_Put.f k1 x194000_1 bt197.1 bt197.2.1 bt197.2.2 ((rd_T27 l0 x10_1).f0) ((rd_T27 l0 x10_1).f1) ((rd_T27 l0 x10_1).f2) ((rd_T27 l0 x10_1).f3) ((rd_T27 l0 x10_1).f4) ((rd_T27 l0 x10_1).f5) ((rd_T27 l0 x10_1).f6) ((rd_T27 l0 x10_1).f7) ((rd_T27 l0 x10_1).f8) ((rd_T27 l0 x10_1).f9) ((rd_T27 l0 x10_1).f10)).bind fun t200 => (jar_Of.l0 k1 l0 l0 (l0.length : Int) (wrap64 (x10_1 + 1)) t200))) = some (r1, r2) := by rw [if_pos rfl] at H; exact H
              clear H
              have H := H1
              clear H1
              replace H := Option.bind_eq_some_iff.mp H
              obtain ⟨⟨t197, t198, t199⟩, A90, H⟩ := H
              replace H : ((api_Cookie_Put.f k1 x194000_1 t197 t198 t199 ((rd_T27 l0 x10_1).f0) ((rd_T27 l0 x10_1).f1) ((rd_T27 l0 x10_1).f2) ((rd_T27 l0 x10_1).f3) ((rd_T27 l0 x10_1).f4) ((rd_T27 l0 x10_1).f5) ((rd_T27 l0 x10_1).f6) ((rd_T27 l0 x10_1).f7) ((rd_T27 l0 x10_1).f8) ((rd_T27 l0 x10_1).f9) ((rd_T27 l0 x10_1).f10)).bind fun t200 => (jar_Of.l0 k1 l0 l0 (l0.length : Int) (wrap64 (x10_1 + 1)) t200)) = some (r1, r2) := H
              have A9 := Aside0.mk A90
              clear A90
              replace H := Option.bind_eq_some_iff.mp H
              obtain ⟨t200, A100, H⟩ := H
              replace H : (jar_Of.l0 k1 l0 l0 (l0.length : Int) (wrap64 (x10_1 + 1)) t200) = some (r1, r2) := H
              have A10 := Aside0.mk A100
              clear A100
              have H' := Aside0.mk H
              clear H
              have p194 : 0 ≤ (x10_1 : Int) := of_decide_eq_true (by first | (with_reducible assumption) | assumption)
              have q194 : x10_1 < (l0.length : Int) := of_decide_eq_true (by first | (with_reducible assumption) | assumption)
              obtain ⟨ad194, e194, hx194_0, hx194_1, hx194_2, hx194_3, hx194_4, hx194_5, hx194_6, hx194_7, hx194_8, hx194_9, hx194_10⟩ := at_T27 HR0.out x10_1 p194 q194
              cases e194
              replace hx194_0 := (HB.out.cell (World.block_lt_of_cell? w _ hx194_0)).trans hx194_0
              replace hx194_1 := (HB.out.cell (World.block_lt_of_cell? w _ hx194_1)).trans hx194_1
              replace hx194_2 := (HB.out.cell (World.block_lt_of_cell? w _ hx194_2)).trans hx194_2
              replace hx194_3 := (HB.out.cell (World.block_lt_of_cell? w _ hx194_3)).trans hx194_3
              replace hx194_4 := (HB.out.cell (World.block_lt_of_cell? w _ hx194_4)).trans hx194_4
              replace hx194_5 := (HB.out.cell (World.block_lt_of_cell? w _ hx194_5)).trans hx194_5
              replace hx194_6 := (HB.out.cell (World.block_lt_of_cell? w _ hx194_6)).trans hx194_6
              replace hx194_7 := (HB.out.cell (World.block_lt_of_cell? w _ hx194_7)).trans hx194_7
              replace hx194_8 := (HB.out.cell (World.block_lt_of_cell? w _ hx194_8)).trans hx194_8
              replace hx194_9 := (HB.out.cell (World.block_lt_of_cell? w _ hx194_9)).trans hx194_9
              replace hx194_10 := (HB.out.cell (World.block_lt_of_cell? w _ hx194_10)).trans hx194_10
              replace p194 := eq_true p194
              replace q194 := eq_true q194
              try go_wp2_with (first | ((with_reducible refine gate_dst (N := 6) rfl ?_); refine box_event ?hg (N := 6) ?hd (cs := #[.string (⟨#[]⟩ : ByteArray), .string (⟨#[]⟩ : ByteArray), .string (⟨#[]⟩ : ByteArray), .string (⟨#[]⟩ : ByteArray), .int .i64 0, .int .i64 0, .int .i64 0, .bool false, .bool false, .bool false, .int .i64 0]) (t := 27) ?hr ?_; (case hd => rfl); (case hg => rfl); (case hr => first | (go_simp; done) | (go_simp; rfl)); intro gb195 hg w11 hbox hb; have n0_ := Aside0.mk (Kd.R_below (by (with_reducible repeat (first | apply Kd.R_alloc | apply Kd.R_drewN | apply Kd.R_drew)); exact HO_194000.out) hb); have n1_ := blkB BK192 hb; have n2_ := blkB BK193 hb; have n3_ := Aside0.mk (below_step xb hb); have n4_ := Aside0.mk (hbox); have n5_ := Aside0.mk ((by rw [hg]; exact (below_size xb) : w.heap.size ≤ gb195)); have n6_ := Aside0.mk ((by rw [hg]; exact (below_size xb) : w.heap.size ≤ gb195)); have n7_ := Aside0.mk ((by rw [hg]; exact Nat.ne_of_lt (blkL BK192) : gb192 ≠ gb195)); have n8_ := Aside0.mk ((by rw [hg]; exact Nat.ne_of_gt (blkL BK192) : gb195 ≠ gb192)); have n9_ := Aside0.mk ((by rw [hg]; exact Nat.ne_of_lt (blkL BK193) : gb193 ≠ gb195)); have n10_ := Aside0.mk ((by rw [hg]; exact Nat.ne_of_gt (blkL BK193) : gb195 ≠ gb193)); clear HO_194000; clear BK192; clear BK193; clear HB; have HO_194000 := n0_; have BK192 := n1_; have BK193 := n2_; have HB := n3_; have BK195 := n4_; have GW195 := n5_; have GE195 := n6_; have NB192_195 := n7_; have NB195_192 := n8_; have NB193_195 := n9_; have NB195_193 := n10_; clear n0_ n1_ n2_ n3_ n4_ n5_ n6_ n7_ n8_ n9_ n10_; clear hb hbox hg; have hnb12 := NB195_192.out; have hnc12 := NB192_195.out; have hnb13 := NB195_193.out; have hnc13 := NB193_195.out; have hcz14_0 : w11.cell? ⟨gb195, 0, none⟩ = some (.string (⟨#[]⟩ : ByteArray)) := (blk_cell BK195.out 0).trans rfl; have hcz14_1 : w11.cell? ⟨gb195, 1, none⟩ = some (.string (⟨#[]⟩ : ByteArray)) := (blk_cell BK195.out 1).trans rfl; have hcz14_2 : w11.cell? ⟨gb195, 2, none⟩ = some (.string (⟨#[]⟩ : ByteArray)) := (blk_cell BK195.out 2).trans rfl; have hcz14_3 : w11.cell? ⟨gb195, 3, none⟩ = some (.string (⟨#[]⟩ : ByteArray)) := (blk_cell BK195.out 3).trans rfl; have hcz14_4 : w11.cell? ⟨gb195, 4, none⟩ = some (.int .i64 0) := (blk_cell BK195.out 4).trans rfl; have hcz14_5 : w11.cell? ⟨gb195, 5, none⟩ = some (.int .i64 0) := (blk_cell BK195.out 5).trans rfl; have hcz14_6 : w11.cell? ⟨gb195, 6, none⟩ = some (.int .i64 0) := (blk_cell BK195.out 6).trans rfl; have hcz14_7 : w11.cell? ⟨gb195, 7, none⟩ = some (.bool false) := (blk_cell BK195.out 7).trans rfl; have hcz14_8 : w11.cell? ⟨gb195, 8, none⟩ = some (.bool false) := (blk_cell BK195.out 8).trans rfl; have hcz14_9 : w11.cell? ⟨gb195, 9, none⟩ = some (.bool false) := (blk_cell BK195.out 9).trans rfl; have hcz14_10 : w11.cell? ⟨gb195, 10, none⟩ = some (.int .i64 0) := (blk_cell BK195.out 10).trans rfl; have hfz14_0 := blk_frozen BK195.out 0; have hfz14_1 := blk_frozen BK195.out 1; have hfz14_2 := blk_frozen BK195.out 2; have hfz14_3 := blk_frozen BK195.out 3; have hfz14_4 := blk_frozen BK195.out 4; have hfz14_5 := blk_frozen BK195.out 5; have hfz14_6 := blk_frozen BK195.out 6; have hfz14_7 := blk_frozen BK195.out 7; have hfz14_8 := blk_frozen BK195.out 8; have hfz14_9 := blk_frozen BK195.out 9; have hfz14_10 := blk_frozen BK195.out 10) | ((with_reducible refine gate_callee (f := 16) rfl ?_); refine goesL_ (some 15) rfl rfl Tryd.func16 (by kernel_rfl) rfl #[.agg #[.string ((rd_T27 l0 x10_1).f0), .string ((rd_T27 l0 x10_1).f1), .string ((rd_T27 l0 x10_1).f2), .string ((rd_T27 l0 x10_1).f3), .int .i64 ((rd_T27 l0 x10_1).f4), .int .i64 ((rd_T27 l0 x10_1).f5), .int .i64 ((rd_T27 l0 x10_1).f6), .bool ((rd_T27 l0 x10_1).f7), .bool ((rd_T27 l0 x10_1).f8), .bool ((rd_T27 l0 x10_1).f9), .int .i64 ((rd_T27 l0 x10_1).f10)]] rfl xg ?_; (with_reducible refine (cookie_Right.calls k1 ((rd_T27 l0 x10_1).f0) ((rd_T27 l0 x10_1).f1) ((rd_T27 l0 x10_1).f2) ((rd_T27 l0 x10_1).f3) ((rd_T27 l0 x10_1).f4) ((rd_T27 l0 x10_1).f5) ((rd_T27 l0 x10_1).f6) ((rd_T27 l0 x10_1).f7) ((rd_T27 l0 x10_1).f8) ((rd_T27 l0 x10_1).f9) ((rd_T27 l0 x10_1).f10) true _ (Aside0.mk (by first | exact hG.out | ((with_reducible repeat (first | apply LaidG.drewN | apply LaidG.drew | apply LaidG.alloc)); exact hG.out) | exact LaidG.below hG.out xb)) A7.out).mono ?_); rintro e w15 ⟨rfl, hb⟩; refine ⟨_, rfl, ?_⟩; have n0_ := Aside0.mk (Kd.R_below (by (with_reducible repeat (first | apply Kd.R_alloc | apply Kd.R_drewN | apply Kd.R_drew)); exact (Kd.R_mono (Kd.R_far (p := ⟨gb195, 10, none⟩) (Kd.R_far (p := ⟨gb195, 9, none⟩) (Kd.R_far (p := ⟨gb195, 8, none⟩) (Kd.R_far (p := ⟨gb195, 7, none⟩) (Kd.R_far (p := ⟨gb195, 6, none⟩) (Kd.R_far (p := ⟨gb195, 5, none⟩) (Kd.R_far (p := ⟨gb195, 4, none⟩) (Kd.R_far (p := ⟨gb195, 3, none⟩) (Kd.R_far (p := ⟨gb195, 2, none⟩) (Kd.R_far (p := ⟨gb195, 1, none⟩) (Kd.R_far (p := ⟨gb195, 0, none⟩) (Kd.R_types HO_194000.out BK195.out (by decide)) (fun _ hk => hk.2) (.string ((rd_T27 l0 x10_1).f0))) (fun _ hk => hk.2) (.string ((rd_T27 l0 x10_1).f1))) (fun _ hk => hk.2) (.string ((rd_T27 l0 x10_1).f2))) (fun _ hk => hk.2) (.string ((rd_T27 l0 x10_1).f3))) (fun _ hk => hk.2) (.int .i64 ((rd_T27 l0 x10_1).f4))) (fun _ hk => hk.2) (.int .i64 ((rd_T27 l0 x10_1).f5))) (fun _ hk => hk.2) (.int .i64 ((rd_T27 l0 x10_1).f6))) (fun _ hk => hk.2) (.bool ((rd_T27 l0 x10_1).f7))) (fun _ hk => hk.2) (.bool ((rd_T27 l0 x10_1).f8))) (fun _ hk => hk.2) (.bool ((rd_T27 l0 x10_1).f9))) (fun _ hk => hk.2) (.int .i64 ((rd_T27 l0 x10_1).f10))) (fun _ h_ => h_.1))) hb); have n1_ := blkB BK192 hb; have n2_ := blkB BK193 hb; have n3_ := Aside0.mk (blk_below (g := gb195) (o := .cells #[.string ((rd_T27 l0 x10_1).f0), .string ((rd_T27 l0 x10_1).f1), .string ((rd_T27 l0 x10_1).f2), .string ((rd_T27 l0 x10_1).f3), .int .i64 ((rd_T27 l0 x10_1).f4), .int .i64 ((rd_T27 l0 x10_1).f5), .int .i64 ((rd_T27 l0 x10_1).f6), .bool ((rd_T27 l0 x10_1).f7), .bool ((rd_T27 l0 x10_1).f8), .bool ((rd_T27 l0 x10_1).f9), .int .i64 ((rd_T27 l0 x10_1).f10)] 27 (0, 0)) xk hb); have n4_ := Aside0.mk (below_step xb hb); clear HO_194000; clear BK192; clear BK193; clear BK195; clear HB; have HO_194000 := n0_; have BK192 := n1_; have BK193 := n2_; have BK195 := n3_; have HB := n4_; clear n0_ n1_ n2_ n3_ n4_; (try clear hb); (try clear hb2); (try clear hk); (try clear hi)))
              have n0_ := Aside0.mk (Kd.R_drew HO_194000.out)
              have n1_ := Aside0.mk (blk_drew BK192.out)
              have n2_ := Aside0.mk (blk_drew BK193.out)
              have n3_ := Aside0.mk (blk_drew BK195.out)
              have n4_ := Aside0.mk (below_drew1 HB.out)
              clear HO_194000
              clear BK192
              clear BK193
              clear BK195
              clear HB
              have HO_194000 := n0_
              have BK192 := n1_
              have BK193 := n2_
              have BK195 := n3_
              have HB := n4_
              clear n0_ n1_ n2_ n3_ n4_
              refine start_ (n := 6) (S := fun w' => w'.cell? ⟨gb193, 0, none⟩ = some (u194000) ∧ w'.cell? ⟨gb195, 0, none⟩ = some (.string ((rd_T27 l0 x10_1).f0)) ∧ w'.cell? ⟨gb195, 1, none⟩ = some (.string ((rd_T27 l0 x10_1).f1)) ∧ w'.cell? ⟨gb195, 2, none⟩ = some (.string ((rd_T27 l0 x10_1).f2)) ∧ w'.cell? ⟨gb195, 3, none⟩ = some (.string ((rd_T27 l0 x10_1).f3)) ∧ w'.cell? ⟨gb195, 4, none⟩ = some (.int .i64 ((rd_T27 l0 x10_1).f4)) ∧ w'.cell? ⟨gb195, 5, none⟩ = some (.int .i64 ((rd_T27 l0 x10_1).f5)) ∧ w'.cell? ⟨gb195, 6, none⟩ = some (.int .i64 ((rd_T27 l0 x10_1).f6)) ∧ w'.cell? ⟨gb195, 7, none⟩ = some (.bool ((rd_T27 l0 x10_1).f7)) ∧ w'.cell? ⟨gb195, 8, none⟩ = some (.bool ((rd_T27 l0 x10_1).f8)) ∧ w'.cell? ⟨gb195, 9, none⟩ = some (.bool ((rd_T27 l0 x10_1).f9)) ∧ w'.cell? ⟨gb195, 10, none⟩ = some (.int .i64 ((rd_T27 l0 x10_1).f10))) (ds := [5]) #[false, false, false, false, false, false] (by kernel_rfl) rfl rfl ⟨(blk_cell BK193.out 0).trans rfl, (blk_cell BK195.out 0).trans rfl, (blk_cell BK195.out 1).trans rfl, (blk_cell BK195.out 2).trans rfl, (blk_cell BK195.out 3).trans rfl, (blk_cell BK195.out 4).trans rfl, (blk_cell BK195.out 5).trans rfl, (blk_cell BK195.out 6).trans rfl, (blk_cell BK195.out 7).trans rfl, (blk_cell BK195.out 8).trans rfl, (blk_cell BK195.out 9).trans rfl, (blk_cell BK195.out 10).trans rfl⟩ (fun hHeld => ?_)
              generalize w15.drew = w16 at HO_194000 BK192 BK193 BK195 HB hHeld ⊢
              refine take_ (i := 0) (N := some 18) (v := ?_) (a' := ?_) #[true, false, false, false, false, false] rfl rfl (by kernel_rfl) (fun _ _ _ h => h) (Or.inl ⟨by rfl, ?_⟩) hHeld ?_ ?_
              rotate_left
              · rintro w' ⟨s0, s1, s2, s3, s4, s5, s6, s7, s8, s9, s10, s11⟩
                go_simp
                with_reducible rfl
              rotate_left
              · simp only [Act.put, List.setIfInBounds_toArray, List.set_cons_zero, List.set_cons_succ, i64_w, i32_w]
                rfl
              refine take_ (i := 1) (N := some 19) (v := ?_) (a' := ?_) #[true, true, false, false, false, false] rfl rfl (by kernel_rfl) (fun _ _ _ h => h) (Or.inl ⟨by rfl, ?_⟩) hHeld ?_ ?_
              rotate_left
              · rintro w' ⟨s0, s1, s2, s3, s4, s5, s6, s7, s8, s9, s10, s11⟩
                go_simp
                with_reducible rfl
              rotate_left
              · simp only [Act.put, List.setIfInBounds_toArray, List.set_cons_zero, List.set_cons_succ, i64_w, i32_w]
                rfl
              refine take_ (i := 3) (N := some 21) (v := ?_) (a' := ?_) #[true, true, false, true, false, false] rfl rfl (by kernel_rfl) (fun _ _ _ h => h) (Or.inl ⟨by rfl, ?_⟩) hHeld ?_ ?_
              rotate_left
              · rintro w' ⟨s0, s1, s2, s3, s4, s5, s6, s7, s8, s9, s10, s11⟩
                go_simp
                with_reducible rfl
              rotate_left
              · simp only [Act.put, List.setIfInBounds_toArray, List.set_cons_zero, List.set_cons_succ, i64_w, i32_w]
                rfl
              refine one_ (i := 2) (N := some 20) #[true, true, true, true, false, false] rfl rfl (by kernel_rfl) (by decide) (fun K hK => ?_)
              refine goes_ Tryd.func15 (by kernel_rfl) rfl #[.agg #[.string ((rd_T27 l0 x10_1).f0), .string ((rd_T27 l0 x10_1).f1), .string ((rd_T27 l0 x10_1).f2), .string ((rd_T27 l0 x10_1).f3), .int .i64 ((rd_T27 l0 x10_1).f4), .int .i64 ((rd_T27 l0 x10_1).f5), .int .i64 ((rd_T27 l0 x10_1).f6), .bool ((rd_T27 l0 x10_1).f7), .bool ((rd_T27 l0 x10_1).f8), .bool ((rd_T27 l0 x10_1).f9), .int .i64 ((rd_T27 l0 x10_1).f10)]] (by rfl) rfl rfl xg ?_
              with_reducible refine (PrintC.cookie_Of.calls ((rd_T27 l0 x10_1).f0) ((rd_T27 l0 x10_1).f1) ((rd_T27 l0 x10_1).f2) ((rd_T27 l0 x10_1).f3) ((rd_T27 l0 x10_1).f4) ((rd_T27 l0 x10_1).f5) ((rd_T27 l0 x10_1).f6) ((rd_T27 l0 x10_1).f7) ((rd_T27 l0 x10_1).f8) ((rd_T27 l0 x10_1).f9) ((rd_T27 l0 x10_1).f10) t197 t198 t199 _ A9.out).mono ?_
              rintro e w17 ⟨rfl, hb⟩
              refine ⟨_, rfl, ?_⟩
              have n0_ := Aside0.mk (Kd.R_below (by (with_reducible repeat (first | apply Kd.R_alloc | apply Kd.R_drewN | apply Kd.R_drew)); exact HO_194000.out) hb)
              have n1_ := blkB BK192 hb
              have n2_ := blkB BK193 hb
              have n3_ := blkB BK195 hb
              have n4_ := Aside0.mk (below_step xb hb)
              clear HO_194000
              clear BK192
              clear BK193
              clear BK195
              clear HB
              have HO_194000 := n0_
              have BK192 := n1_
              have BK193 := n2_
              have BK195 := n3_
              have HB := n4_
              clear n0_ n1_ n2_ n3_ n4_
              (try clear hb)
              (try clear hb2)
              (try clear hk)
              (try clear hi)
              obtain ⟨Ao18, co18, eo18⟩ := Kd.R_slice HO_194000.out
              (first | subst eo18 | (injection eo18 with f1_ f2_ f3_; have f4_ := f1_.symm; have f5_ := f3_.symm; clear f1_ f2_ f3_; subst f4_; subst f5_))
              refine hK.out _ _ xc (fun hHeld => ?_)
              clear hK K
              refine norm_ (a' := ?_) ?_ ?_
              rotate_left
              · show Act.put _ (some 20) _ = _
                simp only [Act.put, List.setIfInBounds_toArray, List.set_cons_zero, List.set_cons_succ, i64_w, i32_w]
                rfl
              refine one_ (i := 4) (N := some 22) #[true, true, true, true, true, false] rfl rfl (by kernel_rfl) (by decide) (fun K hK => ?_)
              refine goes_ Tryd.func30 (by kernel_rfl) rfl #[.agg #[.slice Ao18 x194000_1.length co18], .agg #[.string t197, .string t198, .string t199], .agg #[.string ((rd_T27 l0 x10_1).f0), .string ((rd_T27 l0 x10_1).f1), .string ((rd_T27 l0 x10_1).f2), .string ((rd_T27 l0 x10_1).f3), .int .i64 ((rd_T27 l0 x10_1).f4), .int .i64 ((rd_T27 l0 x10_1).f5), .int .i64 ((rd_T27 l0 x10_1).f6), .bool ((rd_T27 l0 x10_1).f7), .bool ((rd_T27 l0 x10_1).f8), .bool ((rd_T27 l0 x10_1).f9), .int .i64 ((rd_T27 l0 x10_1).f10)]] (by rfl) rfl rfl xg ?_
              with_reducible refine (api_Cookie_Put.calls k1 (fun k_ => some k_ = (.slice Ao18 x194000_1.length co18 : Value).ownBlock) _ _ x194000_1 t197 t198 t199 ((rd_T27 l0 x10_1).f0) ((rd_T27 l0 x10_1).f1) ((rd_T27 l0 x10_1).f2) ((rd_T27 l0 x10_1).f3) ((rd_T27 l0 x10_1).f4) ((rd_T27 l0 x10_1).f5) ((rd_T27 l0 x10_1).f6) ((rd_T27 l0 x10_1).f7) ((rd_T27 l0 x10_1).f8) ((rd_T27 l0 x10_1).f9) ((rd_T27 l0 x10_1).f10) t200 _ ?side1 A10.out).mono ?_
              (case side1 => exact Kd.R_V (Kd.R_tight rfl (Kd.R_types (Kd.R_types (Kd.R_types (HO_194000.out) BK192.out (by decide)) BK193.out (by decide)) BK195.out (by decide))))
              rintro e w19 ⟨v201, rfl, ho0, hb⟩
              refine ⟨_, rfl, ?_⟩
              have n0_ := Aside0.mk (Kd.R_elder' (by (with_reducible repeat (first | apply Kd.R_alloc | apply Kd.R_drewN | apply Kd.R_drew)); exact HO_194000.out) (Kd.R_base ho0) hb)
              have n1_ := Aside0.mk (Kd.R_lower (Kd.R_new' (Kd.R_mono (ok' := fun k_ => True) ho0 (fun _ hk_ => trivial)) (Kd.R_lt (by (with_reducible repeat (first | apply Kd.R_alloc | apply Kd.R_drewN | apply Kd.R_drew)); exact HO_194000.out))) (below_size xb))
              have n2_ := blkB BK192 hb
              have n3_ := blkB BK193 hb
              have n4_ := blkB BK195 hb
              have n5_ := Aside0.mk (below_step xb hb)
              clear HO_194000
              clear BK192
              clear BK193
              clear BK195
              clear HB
              have HO_194000 := n0_
              have HO202 := n1_
              have BK192 := n2_
              have BK193 := n3_
              have BK195 := n4_
              have HB := n5_
              clear n0_ n1_ n2_ n3_ n4_ n5_
              (try clear hb)
              (try clear hb2)
              (try clear hk)
              (try clear hi)
              (try clear ho0)
              obtain ⟨Ao20, co20, eo20⟩ := Kd.R_slice HO202.out
              (first | subst eo20 | (injection eo20 with f1_ f2_ f3_; have f4_ := f1_.symm; have f5_ := f3_.symm; clear f1_ f2_ f3_; subst f4_; subst f5_))
              refine hK.out _ _ xc (fun hHeld => ?_)
              clear hK K
              refine norm_ (a' := ?_) ?_ ?_
              rotate_left
              · show Act.put _ (some 22) _ = _
                simp only [Act.put, List.setIfInBounds_toArray, List.set_cons_zero, List.set_cons_succ, i64_w, i32_w]
                rfl
              refine last_ (i := 5) (N := none) #[true, true, true, true, true, true] rfl rfl (by kernel_rfl) (by decide) (fun K hK => ?_)
              have hs21 : w19.cell? ⟨gb193, 0, none⟩ = some (.slice Ao18 x194000_1.length co18) := (blk_cell BK193.out 0).trans rfl
              have hfs21 := blk_frozen BK193.out 0
              have hns21_0 := NB192_193.out
              have hns21_2 := NB195_193.out
              have hms21_0 := NB193_192.out
              have hms21_2 := NB193_195.out
              refine skip_ (w1 := ?_) (by rfl) rfl ?_ ?_
              rotate_left
              · go_simp
                rfl
              refine hK.out _ _ ?_
              clear hK K
              refine done_ (by kernel_rfl) ?_
              try go_wp2
              go_roundg k1
              case measure => have := HK1.out; omega
              case rel => exact ⟨(wrap64 (x10_1 + 1)), (t200), (.slice Ao20 t200.length co20), (by first | rfl | (simp; done) | (simp [*]; done)), H', ⟨by have := HK1.out; omega⟩, ⟨by (with_reducible repeat (first | apply Kd.R_alloc | apply Kd.R_drewN | apply Kd.R_drew)); exact Kd.R_mono (Kd.R_far (p := ⟨gb193, 0, none⟩) (Kd.R_types HO202.out BK193.out (by decide)) (fun _ hk => hk.2) (.slice Ao20 t200.length co20)) (fun _ hk => trivial)⟩, ⟨xk⟩, ⟨xk⟩, ⟨xb⟩⟩
            · replace c8 := Bool.eq_false_iff.mpr c8
              subst c8
              have H1 : (some (([] : List (S76)), 150)) = some (r1, r2) := by rw [if_neg (show ¬ (false = true) by decide)] at H; exact H
              clear H
              have H := H1
              clear H1
              simp only [Option.some.injEq, Prod.mk.injEq] at H
              obtain ⟨rfl, rfl⟩ := H
              have p194 : 0 ≤ (x10_1 : Int) := of_decide_eq_true (by first | (with_reducible assumption) | assumption)
              have q194 : x10_1 < (l0.length : Int) := of_decide_eq_true (by first | (with_reducible assumption) | assumption)
              obtain ⟨ad194, e194, hx194_0, hx194_1, hx194_2, hx194_3, hx194_4, hx194_5, hx194_6, hx194_7, hx194_8, hx194_9, hx194_10⟩ := at_T27 HR0.out x10_1 p194 q194
              cases e194
              replace hx194_0 := (HB.out.cell (World.block_lt_of_cell? w _ hx194_0)).trans hx194_0
              replace hx194_1 := (HB.out.cell (World.block_lt_of_cell? w _ hx194_1)).trans hx194_1
              replace hx194_2 := (HB.out.cell (World.block_lt_of_cell? w _ hx194_2)).trans hx194_2
              replace hx194_3 := (HB.out.cell (World.block_lt_of_cell? w _ hx194_3)).trans hx194_3
              replace hx194_4 := (HB.out.cell (World.block_lt_of_cell? w _ hx194_4)).trans hx194_4
              replace hx194_5 := (HB.out.cell (World.block_lt_of_cell? w _ hx194_5)).trans hx194_5
              replace hx194_6 := (HB.out.cell (World.block_lt_of_cell? w _ hx194_6)).trans hx194_6
              replace hx194_7 := (HB.out.cell (World.block_lt_of_cell? w _ hx194_7)).trans hx194_7
              replace hx194_8 := (HB.out.cell (World.block_lt_of_cell? w _ hx194_8)).trans hx194_8
              replace hx194_9 := (HB.out.cell (World.block_lt_of_cell? w _ hx194_9)).trans hx194_9
              replace hx194_10 := (HB.out.cell (World.block_lt_of_cell? w _ hx194_10)).trans hx194_10
              replace p194 := eq_true p194
              replace q194 := eq_true q194
              go_wp2_with (first | ((with_reducible refine gate_dst (N := 6) rfl ?_); refine box_event ?hg (N := 6) ?hd (cs := #[.string (⟨#[]⟩ : ByteArray), .string (⟨#[]⟩ : ByteArray), .string (⟨#[]⟩ : ByteArray), .string (⟨#[]⟩ : ByteArray), .int .i64 0, .int .i64 0, .int .i64 0, .bool false, .bool false, .bool false, .int .i64 0]) (t := 27) ?hr ?_; (case hd => rfl); (case hg => rfl); (case hr => first | (go_simp; done) | (go_simp; rfl)); intro gb195 hg w22 hbox hb; have n0_ := Aside0.mk (Kd.R_below (by (with_reducible repeat (first | apply Kd.R_alloc | apply Kd.R_drewN | apply Kd.R_drew)); exact HO_194000.out) hb); have n1_ := blkB BK192 hb; have n2_ := blkB BK193 hb; have n3_ := Aside0.mk (below_step xb hb); have n4_ := Aside0.mk (hbox); have n5_ := Aside0.mk ((by rw [hg]; exact (below_size xb) : w.heap.size ≤ gb195)); have n6_ := Aside0.mk ((by rw [hg]; exact (below_size xb) : w.heap.size ≤ gb195)); have n7_ := Aside0.mk ((by rw [hg]; exact Nat.ne_of_lt (blkL BK192) : gb192 ≠ gb195)); have n8_ := Aside0.mk ((by rw [hg]; exact Nat.ne_of_gt (blkL BK192) : gb195 ≠ gb192)); have n9_ := Aside0.mk ((by rw [hg]; exact Nat.ne_of_lt (blkL BK193) : gb193 ≠ gb195)); have n10_ := Aside0.mk ((by rw [hg]; exact Nat.ne_of_gt (blkL BK193) : gb195 ≠ gb193)); clear HO_194000; clear BK192; clear BK193; clear HB; have HO_194000 := n0_; have BK192 := n1_; have BK193 := n2_; have HB := n3_; have BK195 := n4_; have GW195 := n5_; have GE195 := n6_; have NB192_195 := n7_; have NB195_192 := n8_; have NB193_195 := n9_; have NB195_193 := n10_; clear n0_ n1_ n2_ n3_ n4_ n5_ n6_ n7_ n8_ n9_ n10_; clear hb hbox hg; have hnb23 := NB195_192.out; have hnc23 := NB192_195.out; have hnb24 := NB195_193.out; have hnc24 := NB193_195.out; have hcz25_0 : w22.cell? ⟨gb195, 0, none⟩ = some (.string (⟨#[]⟩ : ByteArray)) := (blk_cell BK195.out 0).trans rfl; have hcz25_1 : w22.cell? ⟨gb195, 1, none⟩ = some (.string (⟨#[]⟩ : ByteArray)) := (blk_cell BK195.out 1).trans rfl; have hcz25_2 : w22.cell? ⟨gb195, 2, none⟩ = some (.string (⟨#[]⟩ : ByteArray)) := (blk_cell BK195.out 2).trans rfl; have hcz25_3 : w22.cell? ⟨gb195, 3, none⟩ = some (.string (⟨#[]⟩ : ByteArray)) := (blk_cell BK195.out 3).trans rfl; have hcz25_4 : w22.cell? ⟨gb195, 4, none⟩ = some (.int .i64 0) := (blk_cell BK195.out 4).trans rfl; have hcz25_5 : w22.cell? ⟨gb195, 5, none⟩ = some (.int .i64 0) := (blk_cell BK195.out 5).trans rfl; have hcz25_6 : w22.cell? ⟨gb195, 6, none⟩ = some (.int .i64 0) := (blk_cell BK195.out 6).trans rfl; have hcz25_7 : w22.cell? ⟨gb195, 7, none⟩ = some (.bool false) := (blk_cell BK195.out 7).trans rfl; have hcz25_8 : w22.cell? ⟨gb195, 8, none⟩ = some (.bool false) := (blk_cell BK195.out 8).trans rfl; have hcz25_9 : w22.cell? ⟨gb195, 9, none⟩ = some (.bool false) := (blk_cell BK195.out 9).trans rfl; have hcz25_10 : w22.cell? ⟨gb195, 10, none⟩ = some (.int .i64 0) := (blk_cell BK195.out 10).trans rfl; have hfz25_0 := blk_frozen BK195.out 0; have hfz25_1 := blk_frozen BK195.out 1; have hfz25_2 := blk_frozen BK195.out 2; have hfz25_3 := blk_frozen BK195.out 3; have hfz25_4 := blk_frozen BK195.out 4; have hfz25_5 := blk_frozen BK195.out 5; have hfz25_6 := blk_frozen BK195.out 6; have hfz25_7 := blk_frozen BK195.out 7; have hfz25_8 := blk_frozen BK195.out 8; have hfz25_9 := blk_frozen BK195.out 9; have hfz25_10 := blk_frozen BK195.out 10) | ((with_reducible refine gate_callee (f := 16) rfl ?_); refine goesL_ (some 15) rfl rfl Tryd.func16 (by kernel_rfl) rfl #[.agg #[.string ((rd_T27 l0 x10_1).f0), .string ((rd_T27 l0 x10_1).f1), .string ((rd_T27 l0 x10_1).f2), .string ((rd_T27 l0 x10_1).f3), .int .i64 ((rd_T27 l0 x10_1).f4), .int .i64 ((rd_T27 l0 x10_1).f5), .int .i64 ((rd_T27 l0 x10_1).f6), .bool ((rd_T27 l0 x10_1).f7), .bool ((rd_T27 l0 x10_1).f8), .bool ((rd_T27 l0 x10_1).f9), .int .i64 ((rd_T27 l0 x10_1).f10)]] rfl xg ?_; (with_reducible refine (cookie_Right.calls k1 ((rd_T27 l0 x10_1).f0) ((rd_T27 l0 x10_1).f1) ((rd_T27 l0 x10_1).f2) ((rd_T27 l0 x10_1).f3) ((rd_T27 l0 x10_1).f4) ((rd_T27 l0 x10_1).f5) ((rd_T27 l0 x10_1).f6) ((rd_T27 l0 x10_1).f7) ((rd_T27 l0 x10_1).f8) ((rd_T27 l0 x10_1).f9) ((rd_T27 l0 x10_1).f10) false _ (Aside0.mk (by first | exact hG.out | ((with_reducible repeat (first | apply LaidG.drewN | apply LaidG.drew | apply LaidG.alloc)); exact hG.out) | exact LaidG.below hG.out xb)) A7.out).mono ?_); rintro e w26 ⟨rfl, hb⟩; refine ⟨_, rfl, ?_⟩; have n0_ := Aside0.mk (Kd.R_below (by (with_reducible repeat (first | apply Kd.R_alloc | apply Kd.R_drewN | apply Kd.R_drew)); exact (Kd.R_mono (Kd.R_far (p := ⟨gb195, 10, none⟩) (Kd.R_far (p := ⟨gb195, 9, none⟩) (Kd.R_far (p := ⟨gb195, 8, none⟩) (Kd.R_far (p := ⟨gb195, 7, none⟩) (Kd.R_far (p := ⟨gb195, 6, none⟩) (Kd.R_far (p := ⟨gb195, 5, none⟩) (Kd.R_far (p := ⟨gb195, 4, none⟩) (Kd.R_far (p := ⟨gb195, 3, none⟩) (Kd.R_far (p := ⟨gb195, 2, none⟩) (Kd.R_far (p := ⟨gb195, 1, none⟩) (Kd.R_far (p := ⟨gb195, 0, none⟩) (Kd.R_types HO_194000.out BK195.out (by decide)) (fun _ hk => hk.2) (.string ((rd_T27 l0 x10_1).f0))) (fun _ hk => hk.2) (.string ((rd_T27 l0 x10_1).f1))) (fun _ hk => hk.2) (.string ((rd_T27 l0 x10_1).f2))) (fun _ hk => hk.2) (.string ((rd_T27 l0 x10_1).f3))) (fun _ hk => hk.2) (.int .i64 ((rd_T27 l0 x10_1).f4))) (fun _ hk => hk.2) (.int .i64 ((rd_T27 l0 x10_1).f5))) (fun _ hk => hk.2) (.int .i64 ((rd_T27 l0 x10_1).f6))) (fun _ hk => hk.2) (.bool ((rd_T27 l0 x10_1).f7))) (fun _ hk => hk.2) (.bool ((rd_T27 l0 x10_1).f8))) (fun _ hk => hk.2) (.bool ((rd_T27 l0 x10_1).f9))) (fun _ hk => hk.2) (.int .i64 ((rd_T27 l0 x10_1).f10))) (fun _ h_ => h_.1))) hb); have n1_ := blkB BK192 hb; have n2_ := blkB BK193 hb; have n3_ := Aside0.mk (blk_below (g := gb195) (o := .cells #[.string ((rd_T27 l0 x10_1).f0), .string ((rd_T27 l0 x10_1).f1), .string ((rd_T27 l0 x10_1).f2), .string ((rd_T27 l0 x10_1).f3), .int .i64 ((rd_T27 l0 x10_1).f4), .int .i64 ((rd_T27 l0 x10_1).f5), .int .i64 ((rd_T27 l0 x10_1).f6), .bool ((rd_T27 l0 x10_1).f7), .bool ((rd_T27 l0 x10_1).f8), .bool ((rd_T27 l0 x10_1).f9), .int .i64 ((rd_T27 l0 x10_1).f10)] 27 (0, 0)) xk hb); have n4_ := Aside0.mk (below_step xb hb); clear HO_194000; clear BK192; clear BK193; clear BK195; clear HB; have HO_194000 := n0_; have BK192 := n1_; have BK193 := n2_; have BK195 := n3_; have HB := n4_; clear n0_ n1_ n2_ n3_ n4_; (try clear hb); (try clear hb2); (try clear hk); (try clear hi); have hnb27 := NB192_193.out; have hnc27 := NB193_192.out; have hcz28_0 : w26.cell? ⟨gb192, 0, none⟩ = some (.slice none 0 0) := (blk_cell BK192.out 0).trans rfl; have hfz28_0 := blk_frozen BK192.out 0))
              refine bodyPost_ret (results_ct rfl _ _ gb192 48 #[.slice none 0 0] (0, 0) _ rfl xk Tryd.underlying48 rfl (by kernel_rfl)) rfl ?_
              exact ⟨_, by first | rfl | (simp [errW_none, errW_some] <;> rfl) | (simp [*, errW_none, errW_some] <;> rfl), by first | exact Kd.R_nil _ _ _ _ _ | exact Kd.N_nil _ _ _ _ _ | exact Kd.V_nil _ _ _ _ _ | exact Kd.Q_nil _ _ _ _ _ | exact Kd.S_nil _ _ _ _ _, by repeat (first | (with_reducible first | exact HB.out | apply below_alloc | apply pw_below_drewN | apply below_drew1 | refine below_set ?_ GE192.out | refine below_set ?_ GE193.out | refine below_set ?_ GE195.out) | exact HB.out)⟩
          · rw [if_neg c6] at H
            exact absurd H (by simp)
        · rw [if_neg c5] at H
          exact absurd H (by simp)
      · rw [if_neg c4] at H
        have c4b0 : decide (x10_1 < (l0.length : Int)) = false := decide_eq_false c4
        clear c4
        replace H := Option.bind_eq_some_iff.mp H
        obtain ⟨t204, A290, H⟩ := H
        replace H : (if t204 < (l0.length : Int) then (some (([] : List (S76)), 151)) else ((jar_many.f x194000_1).bind fun t205 => (if t205 = true then (some (([] : List (S76)), 152)) else (some (x194000_1, 0))))) = some (r1, r2) := H
        have A29 := Aside0.mk A290
        clear A290
        by_cases c30 : t204 < (l0.length : Int)
        · rw [if_pos c30] at H
          have c30b0 : decide (t204 < (l0.length : Int)) = true := decide_eq_true c30
          clear c30
          simp only [Option.some.injEq, Prod.mk.injEq] at H
          obtain ⟨rfl, rfl⟩ := H
          have hnb31 := NB193_192.out
          have hnc31 := NB192_193.out
          have hcz32_0 : wr.cell? ⟨gb193, 0, none⟩ = some (u194000) := (blk_cell BK193.out 0).trans rfl
          have hfz32_0 := blk_frozen BK193.out 0
          obtain ⟨Ao33, co33, eo33⟩ := Kd.R_slice HO_194000.out
          subst eo33
          go_wp2_with (first | ((with_reducible refine gate_dst (N := 7) rfl ?_); refine box_event ?hg (N := 7) ?hd (cs := #[.slice none 0 0]) (t := 46) ?hr ?_; (case hd => rfl); (case hg => rfl); (case hr => first | (go_simp; done) | (go_simp; rfl)); intro gb203 hg w34 hbox hb; have n0_ := Aside0.mk (Kd.R_below (by (with_reducible repeat (first | apply Kd.R_alloc | apply Kd.R_drewN | apply Kd.R_drew)); exact HO_194000.out) hb); have n1_ := blkB BK192 hb; have n2_ := blkB BK193 hb; have n3_ := Aside0.mk (below_step xb hb); have n4_ := Aside0.mk (hbox); have n5_ := Aside0.mk ((by rw [hg]; exact (below_size xb) : w.heap.size ≤ gb203)); have n6_ := Aside0.mk ((by rw [hg]; exact (below_size xb) : w.heap.size ≤ gb203)); have n7_ := Aside0.mk ((by rw [hg]; exact Nat.ne_of_lt (blkL BK192) : gb192 ≠ gb203)); have n8_ := Aside0.mk ((by rw [hg]; exact Nat.ne_of_gt (blkL BK192) : gb203 ≠ gb192)); have n9_ := Aside0.mk ((by rw [hg]; exact Nat.ne_of_lt (blkL BK193) : gb193 ≠ gb203)); have n10_ := Aside0.mk ((by rw [hg]; exact Nat.ne_of_gt (blkL BK193) : gb203 ≠ gb193)); clear HO_194000; clear BK192; clear BK193; clear HB; have HO_194000 := n0_; have BK192 := n1_; have BK193 := n2_; have HB := n3_; have BK203 := n4_; have GW203 := n5_; have GE203 := n6_; have NB192_203 := n7_; have NB203_192 := n8_; have NB193_203 := n9_; have NB203_193 := n10_; clear n0_ n1_ n2_ n3_ n4_ n5_ n6_ n7_ n8_ n9_ n10_; clear hb hbox hg; have hnb35 := NB203_192.out; have hnc35 := NB192_203.out; have hnb36 := NB203_193.out; have hnc36 := NB193_203.out; have hcz37_0 : w34.cell? ⟨gb203, 0, none⟩ = some (.slice none 0 0) := (blk_cell BK203.out 0).trans rfl; have hfz37_0 := blk_frozen BK203.out 0; have hcz38_0 : w34.cell? ⟨gb193, 0, none⟩ = some (.slice Ao33 x194000_1.length co33) := (blk_cell BK193.out 0).trans rfl; have hfz38_0 := blk_frozen BK193.out 0) | ((with_reducible refine gate_callee (f := 31) rfl ?_); refine goesL_ (some 28) rfl rfl Tryd.func31 (by kernel_rfl) rfl #[.agg #[.slice Ao33 x194000_1.length co33]] rfl xg ?_; (with_reducible refine (api_Cookie_Len.calls _ _ x194000_1 t204 _ ?side1 ?side2 A29.out).mono ?_); (case side1 => refine (Kd.R_reads' (e := 76) (base := w.heap.size) (ok := fun k_ => True) (n := x194000_1.length) (c := co33) ?_).2.2; exact (by (with_reducible repeat (first | apply Kd.R_alloc | apply Kd.R_drewN | apply Kd.R_drew)); exact (Kd.R_mono (Kd.R_far (p := ⟨gb203, 0, none⟩) (Kd.R_types HO_194000.out BK203.out (by decide)) (fun _ hk => hk.2) (.slice Ao33 x194000_1.length co33)) (fun _ h_ => h_.1)))); (case side2 => exact (Kd.R_reads' HO_194000.out).2.1); rintro e w39 ⟨rfl, hb⟩; refine ⟨_, rfl, ?_⟩; have n0_ := Aside0.mk (Kd.R_below (by (with_reducible repeat (first | apply Kd.R_alloc | apply Kd.R_drewN | apply Kd.R_drew)); exact (Kd.R_mono (Kd.R_far (p := ⟨gb203, 0, none⟩) (Kd.R_types HO_194000.out BK203.out (by decide)) (fun _ hk => hk.2) (.slice Ao33 x194000_1.length co33)) (fun _ h_ => h_.1))) hb); have n1_ := blkB BK192 hb; have n2_ := blkB BK193 hb; have n3_ := Aside0.mk (blk_below (g := gb203) (o := .cells #[.slice Ao33 x194000_1.length co33] 46 (0, 0)) xk hb); have n4_ := Aside0.mk (below_step xb hb); clear HO_194000; clear BK192; clear BK193; clear BK203; clear HB; have HO_194000 := n0_; have BK192 := n1_; have BK193 := n2_; have BK203 := n3_; have HB := n4_; clear n0_ n1_ n2_ n3_ n4_; (try clear hb); (try clear hb2); (try clear hk); (try clear hi); have hcz40_0 : w39.cell? ⟨gb192, 0, none⟩ = some (.slice none 0 0) := (blk_cell BK192.out 0).trans rfl; have hfz40_0 := blk_frozen BK192.out 0))
          refine bodyPost_ret (results_ct rfl _ _ gb192 48 #[.slice none 0 0] (0, 0) _ rfl xk Tryd.underlying48 rfl (by kernel_rfl)) rfl ?_
          exact ⟨_, by first | rfl | (simp [errW_none, errW_some] <;> rfl) | (simp [*, errW_none, errW_some] <;> rfl), by first | exact Kd.R_nil _ _ _ _ _ | exact Kd.N_nil _ _ _ _ _ | exact Kd.V_nil _ _ _ _ _ | exact Kd.Q_nil _ _ _ _ _ | exact Kd.S_nil _ _ _ _ _, by repeat (first | (with_reducible first | exact HB.out | apply below_alloc | apply pw_below_drewN | apply below_drew1 | refine below_set ?_ GE192.out | refine below_set ?_ GE193.out | refine below_set ?_ GE203.out) | exact HB.out)⟩
        · rw [if_neg c30] at H
          have c30b0 : decide (t204 < (l0.length : Int)) = false := decide_eq_false c30
          clear c30
          replace H := Option.bind_eq_some_iff.mp H
          obtain ⟨t205, A410, H⟩ := H
          replace H : (if t205 = true then (some (([] : List (S76)), 152)) else (some (x194000_1, 0))) = some (r1, r2) := H
          have A41 := Aside0.mk A410
          clear A410
          by_cases c42 : t205 = true
          · subst c42
            have H1 : (some (([] : List (S76)), 152)) = some (r1, r2) := by rw [if_pos rfl] at H; exact H
            clear H
            have H := H1
            clear H1
            simp only [Option.some.injEq, Prod.mk.injEq] at H
            obtain ⟨rfl, rfl⟩ := H
            have hnb43 := NB193_192.out
            have hnc43 := NB192_193.out
            have hcz44_0 : wr.cell? ⟨gb193, 0, none⟩ = some (u194000) := (blk_cell BK193.out 0).trans rfl
            have hfz44_0 := blk_frozen BK193.out 0
            obtain ⟨Ao45, co45, eo45⟩ := Kd.R_slice HO_194000.out
            subst eo45
            go_wp2_with (first | ((with_reducible refine gate_dst (N := 7) rfl ?_); refine box_event ?hg (N := 7) ?hd (cs := #[.slice none 0 0]) (t := 46) ?hr ?_; (case hd => rfl); (case hg => rfl); (case hr => first | (go_simp; done) | (go_simp; rfl)); intro gb203 hg w46 hbox hb; have n0_ := Aside0.mk (Kd.R_below (by (with_reducible repeat (first | apply Kd.R_alloc | apply Kd.R_drewN | apply Kd.R_drew)); exact HO_194000.out) hb); have n1_ := blkB BK192 hb; have n2_ := blkB BK193 hb; have n3_ := Aside0.mk (below_step xb hb); have n4_ := Aside0.mk (hbox); have n5_ := Aside0.mk ((by rw [hg]; exact (below_size xb) : w.heap.size ≤ gb203)); have n6_ := Aside0.mk ((by rw [hg]; exact (below_size xb) : w.heap.size ≤ gb203)); have n7_ := Aside0.mk ((by rw [hg]; exact Nat.ne_of_lt (blkL BK192) : gb192 ≠ gb203)); have n8_ := Aside0.mk ((by rw [hg]; exact Nat.ne_of_gt (blkL BK192) : gb203 ≠ gb192)); have n9_ := Aside0.mk ((by rw [hg]; exact Nat.ne_of_lt (blkL BK193) : gb193 ≠ gb203)); have n10_ := Aside0.mk ((by rw [hg]; exact Nat.ne_of_gt (blkL BK193) : gb203 ≠ gb193)); clear HO_194000; clear BK192; clear BK193; clear HB; have HO_194000 := n0_; have BK192 := n1_; have BK193 := n2_; have HB := n3_; have BK203 := n4_; have GW203 := n5_; have GE203 := n6_; have NB192_203 := n7_; have NB203_192 := n8_; have NB193_203 := n9_; have NB203_193 := n10_; clear n0_ n1_ n2_ n3_ n4_ n5_ n6_ n7_ n8_ n9_ n10_; clear hb hbox hg; have hnb47 := NB203_192.out; have hnc47 := NB192_203.out; have hnb48 := NB203_193.out; have hnc48 := NB193_203.out; have hcz49_0 : w46.cell? ⟨gb203, 0, none⟩ = some (.slice none 0 0) := (blk_cell BK203.out 0).trans rfl; have hfz49_0 := blk_frozen BK203.out 0; have hcz50_0 : w46.cell? ⟨gb193, 0, none⟩ = some (.slice Ao45 x194000_1.length co45) := (blk_cell BK193.out 0).trans rfl; have hfz50_0 := blk_frozen BK193.out 0) | ((with_reducible refine gate_callee (f := 31) rfl ?_); refine goesL_ (some 28) rfl rfl Tryd.func31 (by kernel_rfl) rfl #[.agg #[.slice Ao45 x194000_1.length co45]] rfl xg ?_; (with_reducible refine (api_Cookie_Len.calls _ _ x194000_1 t204 _ ?side1 ?side2 A29.out).mono ?_); (case side1 => refine (Kd.R_reads' (e := 76) (base := w.heap.size) (ok := fun k_ => True) (n := x194000_1.length) (c := co45) ?_).2.2; exact (by (with_reducible repeat (first | apply Kd.R_alloc | apply Kd.R_drewN | apply Kd.R_drew)); exact (Kd.R_mono (Kd.R_far (p := ⟨gb203, 0, none⟩) (Kd.R_types HO_194000.out BK203.out (by decide)) (fun _ hk => hk.2) (.slice Ao45 x194000_1.length co45)) (fun _ h_ => h_.1)))); (case side2 => exact (Kd.R_reads' HO_194000.out).2.1); rintro e w51 ⟨rfl, hb⟩; refine ⟨_, rfl, ?_⟩; have n0_ := Aside0.mk (Kd.R_below (by (with_reducible repeat (first | apply Kd.R_alloc | apply Kd.R_drewN | apply Kd.R_drew)); exact (Kd.R_mono (Kd.R_far (p := ⟨gb203, 0, none⟩) (Kd.R_types HO_194000.out BK203.out (by decide)) (fun _ hk => hk.2) (.slice Ao45 x194000_1.length co45)) (fun _ h_ => h_.1))) hb); have n1_ := blkB BK192 hb; have n2_ := blkB BK193 hb; have n3_ := Aside0.mk (blk_below (g := gb203) (o := .cells #[.slice Ao45 x194000_1.length co45] 46 (0, 0)) xk hb); have n4_ := Aside0.mk (below_step xb hb); clear HO_194000; clear BK192; clear BK193; clear BK203; clear HB; have HO_194000 := n0_; have BK192 := n1_; have BK193 := n2_; have BK203 := n3_; have HB := n4_; clear n0_ n1_ n2_ n3_ n4_; (try clear hb); (try clear hb2); (try clear hk); (try clear hi); have hcz52_0 : w51.cell? ⟨gb203, 0, none⟩ = some (.slice Ao45 x194000_1.length co45) := (blk_cell BK203.out 0).trans rfl; have hfz52_0 := blk_frozen BK203.out 0) | ((with_reducible refine gate_callee (f := 32) rfl ?_); refine goesL_ (some 35) rfl rfl Tryd.func32 (by kernel_rfl) rfl #[.agg #[.slice Ao45 x194000_1.length co45]] rfl xg ?_; (with_reducible refine (jar_many.calls _ _ x194000_1 true _ ?side1 ?side2 A41.out).mono ?_); (case side1 => repeat (first | exact (Kd.R_reads' HO_194000.out).2.2 | (with_reducible refine Kd.C_alloc ?_ _) | (with_reducible refine Kd.C_drewN ?_ _) | (with_reducible refine Kd.C_drew ?_))); (case side2 => exact (Kd.R_reads' HO_194000.out).2.1); rintro e w53 ⟨rfl, hb⟩; refine ⟨_, rfl, ?_⟩; have n0_ := Aside0.mk (Kd.R_below (by (with_reducible repeat (first | apply Kd.R_alloc | apply Kd.R_drewN | apply Kd.R_drew)); exact HO_194000.out) hb); have n1_ := blkB BK192 hb; have n2_ := blkB BK193 hb; have n3_ := blkB BK203 hb; have n4_ := Aside0.mk (below_step xb hb); clear HO_194000; clear BK192; clear BK193; clear BK203; clear HB; have HO_194000 := n0_; have BK192 := n1_; have BK193 := n2_; have BK203 := n3_; have HB := n4_; clear n0_ n1_ n2_ n3_ n4_; (try clear hb); (try clear hb2); (try clear hk); (try clear hi); have hcz54_0 : w53.cell? ⟨gb192, 0, none⟩ = some (.slice none 0 0) := (blk_cell BK192.out 0).trans rfl; have hfz54_0 := blk_frozen BK192.out 0))
            refine bodyPost_ret (results_ct rfl _ _ gb192 48 #[.slice none 0 0] (0, 0) _ rfl xk Tryd.underlying48 rfl (by kernel_rfl)) rfl ?_
            exact ⟨_, by first | rfl | (simp [errW_none, errW_some] <;> rfl) | (simp [*, errW_none, errW_some] <;> rfl), by first | exact Kd.R_nil _ _ _ _ _ | exact Kd.N_nil _ _ _ _ _ | exact Kd.V_nil _ _ _ _ _ | exact Kd.Q_nil _ _ _ _ _ | exact Kd.S_nil _ _ _ _ _, by repeat (first | (with_reducible first | exact HB.out | apply below_alloc | apply pw_below_drewN | apply below_drew1 | refine below_set ?_ GE192.out | refine below_set ?_ GE193.out | refine below_set ?_ GE203.out) | exact HB.out)⟩
          · replace c42 := Bool.eq_false_iff.mpr c42
            subst c42
            have H1 : (some (x194000_1, 0)) = some (r1, r2) := by rw [if_neg (show ¬ (false = true) by decide)] at H; exact H
            clear H
            have H := H1
            clear H1
            simp only [Option.some.injEq, Prod.mk.injEq] at H
            obtain ⟨rfl, rfl⟩ := H
            have hnb55 := NB193_192.out
            have hnc55 := NB192_193.out
            have hcz56_0 : wr.cell? ⟨gb193, 0, none⟩ = some (u194000) := (blk_cell BK193.out 0).trans rfl
            have hfz56_0 := blk_frozen BK193.out 0
            obtain ⟨Ao57, co57, eo57⟩ := Kd.R_slice HO_194000.out
            subst eo57
            go_wp2_with (first | ((with_reducible refine gate_dst (N := 7) rfl ?_); refine box_event ?hg (N := 7) ?hd (cs := #[.slice none 0 0]) (t := 46) ?hr ?_; (case hd => rfl); (case hg => rfl); (case hr => first | (go_simp; done) | (go_simp; rfl)); intro gb203 hg w58 hbox hb; have n0_ := Aside0.mk (Kd.R_below (by (with_reducible repeat (first | apply Kd.R_alloc | apply Kd.R_drewN | apply Kd.R_drew)); exact HO_194000.out) hb); have n1_ := blkB BK192 hb; have n2_ := blkB BK193 hb; have n3_ := Aside0.mk (below_step xb hb); have n4_ := Aside0.mk (hbox); have n5_ := Aside0.mk ((by rw [hg]; exact (below_size xb) : w.heap.size ≤ gb203)); have n6_ := Aside0.mk ((by rw [hg]; exact (below_size xb) : w.heap.size ≤ gb203)); have n7_ := Aside0.mk ((by rw [hg]; exact Nat.ne_of_lt (blkL BK192) : gb192 ≠ gb203)); have n8_ := Aside0.mk ((by rw [hg]; exact Nat.ne_of_gt (blkL BK192) : gb203 ≠ gb192)); have n9_ := Aside0.mk ((by rw [hg]; exact Nat.ne_of_lt (blkL BK193) : gb193 ≠ gb203)); have n10_ := Aside0.mk ((by rw [hg]; exact Nat.ne_of_gt (blkL BK193) : gb203 ≠ gb193)); clear HO_194000; clear BK192; clear BK193; clear HB; have HO_194000 := n0_; have BK192 := n1_; have BK193 := n2_; have HB := n3_; have BK203 := n4_; have GW203 := n5_; have GE203 := n6_; have NB192_203 := n7_; have NB203_192 := n8_; have NB193_203 := n9_; have NB203_193 := n10_; clear n0_ n1_ n2_ n3_ n4_ n5_ n6_ n7_ n8_ n9_ n10_; clear hb hbox hg; have hnb59 := NB203_192.out; have hnc59 := NB192_203.out; have hnb60 := NB203_193.out; have hnc60 := NB193_203.out; have hcz61_0 : w58.cell? ⟨gb203, 0, none⟩ = some (.slice none 0 0) := (blk_cell BK203.out 0).trans rfl; have hfz61_0 := blk_frozen BK203.out 0; have hcz62_0 : w58.cell? ⟨gb193, 0, none⟩ = some (.slice Ao57 x194000_1.length co57) := (blk_cell BK193.out 0).trans rfl; have hfz62_0 := blk_frozen BK193.out 0) | ((with_reducible refine gate_callee (f := 31) rfl ?_); refine goesL_ (some 28) rfl rfl Tryd.func31 (by kernel_rfl) rfl #[.agg #[.slice Ao57 x194000_1.length co57]] rfl xg ?_; (with_reducible refine (api_Cookie_Len.calls _ _ x194000_1 t204 _ ?side1 ?side2 A29.out).mono ?_); (case side1 => refine (Kd.R_reads' (e := 76) (base := w.heap.size) (ok := fun k_ => True) (n := x194000_1.length) (c := co57) ?_).2.2; exact (by (with_reducible repeat (first | apply Kd.R_alloc | apply Kd.R_drewN | apply Kd.R_drew)); exact (Kd.R_mono (Kd.R_far (p := ⟨gb203, 0, none⟩) (Kd.R_types HO_194000.out BK203.out (by decide)) (fun _ hk => hk.2) (.slice Ao57 x194000_1.length co57)) (fun _ h_ => h_.1)))); (case side2 => exact (Kd.R_reads' HO_194000.out).2.1); rintro e w63 ⟨rfl, hb⟩; refine ⟨_, rfl, ?_⟩; have n0_ := Aside0.mk (Kd.R_below (by (with_reducible repeat (first | apply Kd.R_alloc | apply Kd.R_drewN | apply Kd.R_drew)); exact (Kd.R_mono (Kd.R_far (p := ⟨gb203, 0, none⟩) (Kd.R_types HO_194000.out BK203.out (by decide)) (fun _ hk => hk.2) (.slice Ao57 x194000_1.length co57)) (fun _ h_ => h_.1))) hb); have n1_ := blkB BK192 hb; have n2_ := blkB BK193 hb; have n3_ := Aside0.mk (blk_below (g := gb203) (o := .cells #[.slice Ao57 x194000_1.length co57] 46 (0, 0)) xk hb); have n4_ := Aside0.mk (below_step xb hb); clear HO_194000; clear BK192; clear BK193; clear BK203; clear HB; have HO_194000 := n0_; have BK192 := n1_; have BK193 := n2_; have BK203 := n3_; have HB := n4_; clear n0_ n1_ n2_ n3_ n4_; (try clear hb); (try clear hb2); (try clear hk); (try clear hi); have hcz64_0 : w63.cell? ⟨gb203, 0, none⟩ = some (.slice Ao57 x194000_1.length co57) := (blk_cell BK203.out 0).trans rfl; have hfz64_0 := blk_frozen BK203.out 0) | ((with_reducible refine gate_callee (f := 32) rfl ?_); refine goesL_ (some 35) rfl rfl Tryd.func32 (by kernel_rfl) rfl #[.agg #[.slice Ao57 x194000_1.length co57]] rfl xg ?_; (with_reducible refine (jar_many.calls _ _ x194000_1 false _ ?side1 ?side2 A41.out).mono ?_); (case side1 => repeat (first | exact (Kd.R_reads' HO_194000.out).2.2 | (with_reducible refine Kd.C_alloc ?_ _) | (with_reducible refine Kd.C_drewN ?_ _) | (with_reducible refine Kd.C_drew ?_))); (case side2 => exact (Kd.R_reads' HO_194000.out).2.1); rintro e w65 ⟨rfl, hb⟩; refine ⟨_, rfl, ?_⟩; have n0_ := Aside0.mk (Kd.R_below (by (with_reducible repeat (first | apply Kd.R_alloc | apply Kd.R_drewN | apply Kd.R_drew)); exact HO_194000.out) hb); have n1_ := blkB BK192 hb; have n2_ := blkB BK193 hb; have n3_ := blkB BK203 hb; have n4_ := Aside0.mk (below_step xb hb); clear HO_194000; clear BK192; clear BK193; clear BK203; clear HB; have HO_194000 := n0_; have BK192 := n1_; have BK193 := n2_; have BK203 := n3_; have HB := n4_; clear n0_ n1_ n2_ n3_ n4_; (try clear hb); (try clear hb2); (try clear hk); (try clear hi); have hcz66_0 : w65.cell? ⟨gb203, 0, none⟩ = some (.slice Ao57 x194000_1.length co57) := (blk_cell BK203.out 0).trans rfl; have hfz66_0 := blk_frozen BK203.out 0; have hcz67_0 : w65.cell? ⟨gb192, 0, none⟩ = some (.slice none 0 0) := (blk_cell BK192.out 0).trans rfl; have hfz67_0 := blk_frozen BK192.out 0))
            refine bodyPost_ret (results_ct rfl _ _ gb192 48 #[.slice Ao57 x194000_1.length co57] (0, 0) _ rfl xk Tryd.underlying48 rfl (by kernel_rfl)) rfl ?_
            exact ⟨_, by first | rfl | (simp [errW_none, errW_some] <;> rfl) | (simp [*, errW_none, errW_some] <;> rfl), by (with_reducible repeat (first | apply Kd.R_alloc | apply Kd.R_drewN | apply Kd.R_drew)); exact Kd.R_mono (Kd.R_far (p := ⟨gb192, 0, none⟩) (Kd.R_types HO_194000.out BK192.out (by decide)) (fun _ hk => hk.2) (.slice Ao57 x194000_1.length co57)) (fun _ hk => trivial), by repeat (first | (with_reducible first | exact HB.out | apply below_alloc | apply pw_below_drewN | apply below_drew1 | refine below_set ?_ GE192.out | refine below_set ?_ GE193.out | refine below_set ?_ GE203.out) | exact HB.out)⟩

end Go.Proofs.YtccmackhhppbdaaDoor.Print
