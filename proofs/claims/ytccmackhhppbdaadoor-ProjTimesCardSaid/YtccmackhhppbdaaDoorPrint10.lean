/- Printed by a program of this claim's session (xprint.py): the machine's side: each Go function as a Lean function, and that a call of it comes to what that tells; the row of a statement. No condition. -/
import Derived.Test.YtccmackhhppbdaaDoorPrint0
import Derived.Test.YtccmackhhppbdaaDoorGtableC
import Derived.Test.YtccmackhhppbdaaDoorPrint9
namespace Go.Proofs.YtccmackhhppbdaaDoor.Print
open Go.RowKit Go.Proofs.YtccmackhhppbdaaDoorW.PrintWords Go.Proofs.YtccmackhhppbdaaDoorW.PrintLast Go.Proofs.YtccmackhhppbdaaDoorW.PrintMore
attribute [local go_sem] max2_int min2_int max_two min_two max_three min_three max_four min_four   -- for this text's walks alone
set_option linter.unusedVariables false
set_option linter.unusedSimpArgs false

/-! ### api_Cookie_Put: function 30 -/
def api_Cookie_Put.f (k : Nat) (l0_0 : List (S76)) (a1_0 : ByteArray) (a1_1 : ByteArray) (a1_2 : ByteArray) (a2_0 : ByteArray) (a2_1 : ByteArray) (a2_2 : ByteArray) (a2_3 : ByteArray) (a2_4 : Int) (a2_5 : Int) (a2_6 : Int) (a2_7 : Bool) (a2_8 : Bool) (a2_9 : Bool) (a2_10 : Int) : Option ((List (S76))) := (table_place_Key.f l0_0 a1_0 a1_1 a1_2).bind fun bt151 => (if 0 ≤ bt151.1 then (if bt151.1 ≤ (l0_0.length : Int) then ((some (l0_0.drop (bt151.1 : Int).toNat : List (S76))).bind fun y153 => (if bt151.2 = true then (if 1 ≤ (y153.length : Int) then ((api_Cookie_44.f k (([(l0_0.take (bt151.1 : Int).toNat), (([(⟨(⟨a1_0, a1_1, a1_2⟩ : S32), (⟨a2_0, a2_1, a2_2, a2_3, a2_4, a2_5, a2_6, a2_7, a2_8, a2_9, a2_10⟩ : S27)⟩ : S76)] : List (S76))), (y153.drop 1)] : List (List (S76))))).bind fun t174 => (some t174)) else (none)) else ((api_Cookie_44.f k (([(l0_0.take (bt151.1 : Int).toNat), (([(⟨(⟨a1_0, a1_1, a1_2⟩ : S32), (⟨a2_0, a2_1, a2_2, a2_3, a2_4, a2_5, a2_6, a2_7, a2_8, a2_9, a2_10⟩ : S27)⟩ : S76)] : List (S76))), y153] : List (List (S76))))).bind fun t188 => (some t188)))) else (none)) else (none))
theorem api_Cookie_Put.mono : ∀ a0 a1 a2 a3 a4 a5 a6 a7 a8 a9 a10 a11 a12 a13 a14 k, LeO (api_Cookie_Put.f k a0 a1 a2 a3 a4 a5 a6 a7 a8 a9 a10 a11 a12 a13 a14) (api_Cookie_Put.f (k + 1) a0 a1 a2 a3 a4 a5 a6 a7 a8 a9 a10 a11 a12 a13 a14) := by
  intro a0 a1 a2 a3 a4 a5 a6 a7 a8 a9 a10 a11 a12 a13 a14 k
  unfold api_Cookie_Put.f
  repeat' first
      | (with_reducible exact api_Cookie_44.mono _ _)
      | (with_reducible exact LeO.refl _)
      | (with_reducible exact LeO.none _)
      | (with_reducible refine LeO.ite ?_ ?_)
      | (with_reducible refine LeO.bind ?_ (fun _ => ?_))
      | exact api_Cookie_44.mono _ _
      | exact LeO.none _
      | refine LeO.ite ?_ ?_
      | refine LeO.bind ?_ (fun _ => ?_)
def api_Cookie_Put.T5 : Bool × List (List Nat × List Nat) := (true, [([], []), ([0], [0]), ([], []), ([1, 2], [1, 2]), ([], []), ([], []), ([4, 5], [4, 5]), ([6], [6]), ([], []), ([3, 7, 8], [3, 7, 8]), ([9], [9]), ([10], [10]), ([11, 10, 0, 1, 2, 3, 4, 5, 6, 7, 8, 9, 10, 11], [11])])
def api_Cookie_Put.B5 : List Nat := [0, 1, 0, 7, 0, 0, 48, 112, 0, 511, 1023, 2047, 4095]
theorem api_Cookie_Put.tab5 : rtab .any (opsOf Tryd.f30 5) = api_Cookie_Put.T5 := by kernel_rfl
theorem api_Cookie_Put.bits5 : waitsOk api_Cookie_Put.T5.2 api_Cookie_Put.B5 = true := by kernel_rfl
set_option maxHeartbeats 8000000 in
set_option maxRecDepth 100000 in
theorem api_Cookie_Put.calls (k : Nat) (P0_0_ : Nat → Prop) (A0_0 : Option Addr) (c0_0 : Nat) (l0_0 : List (S76)) (a1_0 : ByteArray) (a1_1 : ByteArray) (a1_2 : ByteArray) (a2_0 : ByteArray) (a2_1 : ByteArray) (a2_2 : ByteArray) (a2_3 : ByteArray) (a2_4 : Int) (a2_5 : Int) (a2_6 : Int) (a2_7 : Bool) (a2_8 : Bool) (a2_9 : Bool) (a2_10 : Int) (r : List (S76)) (w : World) (hs0_0 : Kd.V k76 76 w w.heap.size (fun k_ => P0_0_ k_) (.slice A0_0 l0_0.length c0_0) l0_0) (h : api_Cookie_Put.f k l0_0 a1_0 a1_1 a1_2 a2_0 a2_1 a2_2 a2_3 a2_4 a2_5 a2_6 a2_7 a2_8 a2_9 a2_10 = some r) :
    Calls Tryd.prog 30 #[.agg #[.slice A0_0 l0_0.length c0_0], .agg #[.string a1_0, .string a1_1, .string a1_2], .agg #[.string a2_0, .string a2_1, .string a2_2, .string a2_3, .int .i64 a2_4, .int .i64 a2_5, .int .i64 a2_6, .bool a2_7, .bool a2_8, .bool a2_9, .int .i64 a2_10]] w fun e w' => ∃ v0_ : Value, e = .returned (.agg #[v0_]) ∧ Kd.R k76 76 w' w.heap.size (fun k_ => (w.heap.size ≤ k_)) v0_ r ∧ Below w.heap.size w w' := by
  have hu44 := Tryd.underlying44
  have hu32 := Tryd.underlying32
  have hu27 := Tryd.underlying27
  have hu76 := Tryd.underlying76
  have HO0_0 := Aside0.mk (show Kd.V k76 76 w w.heap.size (fun k_ => (P0_0_ k_ ∨ w.heap.size ≤ k_)) (.slice A0_0 l0_0.length c0_0) l0_0 from Kd.V_mono hs0_0 (fun k_ hk => .inl hk))
  have HB := Aside0.mk (Below.refl w.heap.size w)
  have H : ((table_place_Key.f l0_0 a1_0 a1_1 a1_2).bind fun bt151 => (if 0 ≤ bt151.1 then (if bt151.1 ≤ (l0_0.length : Int) then ((some (l0_0.drop (bt151.1 : Int).toNat : List (S76))).bind fun y153 => (if bt151.2 = true then (if 1 ≤ (y153.length : Int) then ((api_Cookie_44.f k (([(l0_0.take (bt151.1 : Int).toNat), (([(⟨(⟨a1_0, a1_1, a1_2⟩ : S32), (⟨a2_0, a2_1, a2_2, a2_3, a2_4, a2_5, a2_6, a2_7, a2_8, a2_9, a2_10⟩ : S27)⟩ : S76)] : List (S76))), (y153.drop 1)] : List (List (S76))))).bind fun t174 => (some t174)) else (none)) else ((api_Cookie_44.f k (([(l0_0.take (bt151.1 : Int).toNat), (([(⟨(⟨a1_0, a1_1, a1_2⟩ : S32), (⟨a2_0, a2_1, a2_2, a2_3, a2_4, a2_5, a2_6, a2_7, a2_8, a2_9, a2_10⟩ : S27)⟩ : S76)] : List (S76))), y153] : List (List (S76))))).bind fun t188 => (some t188)))) else (none)) else (none))) = some r := h
  clear h
  replace H := Option.bind_eq_some_iff.mp H
  obtain ⟨⟨t151, t152⟩, A40, H⟩ := H
  replace H : (if 0 ≤ t151 then (if t151 ≤ (l0_0.length : Int) then ((some (l0_0.drop (t151 : Int).toNat : List (S76))).bind fun y153 => (if t152 = true then (if 1 ≤ (y153.length : Int) then ((api_Cookie_44.f k (([(l0_0.take (t151 : Int).toNat), (([(⟨(⟨a1_0, a1_1, a1_2⟩ : S32), (⟨a2_0, a2_1, a2_2, a2_3, a2_4, a2_5, a2_6, a2_7, a2_8, a2_9, a2_10⟩ : S27)⟩ : S76)] : List (S76))), (y153.drop 1)] : List (List (S76))))).bind fun t174 => (some t174)) else (none)) else ((api_Cookie_44.f k (([(l0_0.take (t151 : Int).toNat), (([(⟨(⟨a1_0, a1_1, a1_2⟩ : S32), (⟨a2_0, a2_1, a2_2, a2_3, a2_4, a2_5, a2_6, a2_7, a2_8, a2_9, a2_10⟩ : S27)⟩ : S76)] : List (S76))), y153] : List (List (S76))))).bind fun t188 => (some t188)))) else (none)) else (none)) = some r := H
  have A4 := Aside0.mk A40
  clear A40
  by_cases c5 : 0 ≤ t151
  · rw [if_pos c5] at H
    have c5b0 := eq_true c5
    have c5b1 : decide (0 ≤ t151) = true := decide_eq_true c5
    clear c5
    by_cases c6 : t151 ≤ (l0_0.length : Int)
    · rw [if_pos c6] at H
      have c6b0 := eq_true c6
      have c6b1 : decide (t151 ≤ (l0_0.length : Int)) = true := decide_eq_true c6
      clear c6
      obtain ⟨y153, hy153⟩ : ∃ y_ : List (S76), y_ = (l0_0.drop (t151 : Int).toNat) := ⟨_, rfl⟩
      replace H : (if t152 = true then (if 1 ≤ (y153.length : Int) then ((api_Cookie_44.f k (([(l0_0.take (t151 : Int).toNat), (([(⟨(⟨a1_0, a1_1, a1_2⟩ : S32), (⟨a2_0, a2_1, a2_2, a2_3, a2_4, a2_5, a2_6, a2_7, a2_8, a2_9, a2_10⟩ : S27)⟩ : S76)] : List (S76))), (y153.drop 1)] : List (List (S76))))).bind fun t174 => (some t174)) else (none)) else ((api_Cookie_44.f k (([(l0_0.take (t151 : Int).toNat), (([(⟨(⟨a1_0, a1_1, a1_2⟩ : S32), (⟨a2_0, a2_1, a2_2, a2_3, a2_4, a2_5, a2_6, a2_7, a2_8, a2_9, a2_10⟩ : S27)⟩ : S76)] : List (S76))), y153] : List (List (S76))))).bind fun t188 => (some t188))) = some r := by first | (rw [hy153]; with_reducible exact H) | (have H2_ := (Option.bind_some _ _).symm.trans H; rw [hy153]; with_reducible exact H2_) | (have H2_ := (Option.bind_some _ _).symm.trans H; with_reducible exact H2_) | with_reducible exact H | (rw [hy153]; exact H) | exact H
      have Ny153 := Aside0.mk hy153
      clear hy153
      by_cases c7 : t152 = true
      · subst c7
        have H1 : (if 1 ≤ (y153.length : Int) then ((api_Cookie_44.f k (([(l0_0.take (t151 : Int).toNat), (([(⟨(⟨a1_0, a1_1, a1_2⟩ : S32), (⟨a2_0, a2_1, a2_2, a2_3, a2_4, a2_5, a2_6, a2_7, a2_8, a2_9, a2_10⟩ : S27)⟩ : S76)] : List (S76))), (y153.drop 1)] : List (List (S76))))).bind fun t174 => (some t174)) else (none)) = some r := by rw [if_pos rfl] at H; exact H
        clear H
        have H := H1
        clear H1
        by_cases c8 : 1 ≤ (y153.length : Int)
        · rw [if_pos c8] at H
          have c8b0 := eq_true c8
          have c8b1 : decide (1 ≤ (y153.length : Int)) = true := decide_eq_true c8
          clear c8
          obtain ⟨y158, hy158⟩ : ∃ y_ : List (S76), y_ = (y153.drop 1) := ⟨_, rfl⟩
          replace H : ((api_Cookie_44.f k (([(l0_0.take (t151 : Int).toNat), (([(⟨(⟨a1_0, a1_1, a1_2⟩ : S32), (⟨a2_0, a2_1, a2_2, a2_3, a2_4, a2_5, a2_6, a2_7, a2_8, a2_9, a2_10⟩ : S27)⟩ : S76)] : List (S76))), y158] : List (List (S76))))).bind fun t174 => (some t174)) = some r := by first | (rw [hy158]; with_reducible exact H) | (have H2_ := (Option.bind_some _ _).symm.trans H; rw [hy158]; with_reducible exact H2_) | (have H2_ := (Option.bind_some _ _).symm.trans H; with_reducible exact H2_) | with_reducible exact H | (rw [hy158]; exact H) | exact H
          have Ny158 := Aside0.mk hy158
          clear hy158
          have c9b0 := eq_true (of_decide_eq_true (by first | (with_reducible assumption) | assumption) : 0 ≤ t151)
          have c10b0 := eq_true (of_decide_eq_true (by first | (with_reducible assumption) | assumption) : t151 ≤ (l0_0.length : Int))
          obtain ⟨y163, hy163⟩ : ∃ y_ : List (S76), y_ = (l0_0.take (t151 : Int).toNat) := ⟨_, rfl⟩
          replace H : ((api_Cookie_44.f k (([y163, (([(⟨(⟨a1_0, a1_1, a1_2⟩ : S32), (⟨a2_0, a2_1, a2_2, a2_3, a2_4, a2_5, a2_6, a2_7, a2_8, a2_9, a2_10⟩ : S27)⟩ : S76)] : List (S76))), y158] : List (List (S76))))).bind fun t174 => (some t174)) = some r := by first | (rw [hy163]; with_reducible exact H) | (have H2_ := (Option.bind_some _ _).symm.trans H; rw [hy163]; with_reducible exact H2_) | (have H2_ := (Option.bind_some _ _).symm.trans H; with_reducible exact H2_) | with_reducible exact H | (rw [hy163]; exact H) | exact H
          have Ny163 := Aside0.mk hy163
          clear hy163
          obtain ⟨y168, hy168⟩ : ∃ y_ : List (S76), y_ = (([(⟨(⟨a1_0, a1_1, a1_2⟩ : S32), (⟨a2_0, a2_1, a2_2, a2_3, a2_4, a2_5, a2_6, a2_7, a2_8, a2_9, a2_10⟩ : S27)⟩ : S76)] : List (S76))) := ⟨_, rfl⟩
          replace H : ((api_Cookie_44.f k (([y163, y168, y158] : List (List (S76))))).bind fun t174 => (some t174)) = some r := by first | (rw [hy168]; with_reducible exact H) | (have H2_ := (Option.bind_some _ _).symm.trans H; rw [hy168]; with_reducible exact H2_) | (have H2_ := (Option.bind_some _ _).symm.trans H; with_reducible exact H2_) | with_reducible exact H | (rw [hy168]; exact H) | exact H
          have Ny168 := Aside0.mk hy168
          clear hy168
          obtain ⟨y171, hy171⟩ : ∃ y_ : List (List (S76)), y_ = (([y163, y168, y158] : List (List (S76)))) := ⟨_, rfl⟩
          replace H : ((api_Cookie_44.f k y171).bind fun t174 => (some t174)) = some r := by first | (rw [hy171]; with_reducible exact H) | (have H2_ := (Option.bind_some _ _).symm.trans H; rw [hy171]; with_reducible exact H2_) | (have H2_ := (Option.bind_some _ _).symm.trans H; with_reducible exact H2_) | with_reducible exact H | (rw [hy171]; exact H) | exact H
          have Ny171 := Aside0.mk hy171
          clear hy171
          replace H := Option.bind_eq_some_iff.mp H
          obtain ⟨t174, A110, H⟩ := H
          replace H : (some t174) = some r := H
          have A11 := Aside0.mk A110
          clear A110
          obtain rfl := Option.some.inj H
          go_enter Tryd.func30, Tryd.ntmps30
          try go_wp2_with (first | ((with_reducible refine gate_dst (N := 3) rfl ?_); refine box_event ?hg (N := 3) ?hd (cs := #[.slice A0_0 l0_0.length c0_0]) (t := 44) ?hr ?_; (case hd => rfl); (case hg => rfl); (case hr => first | (go_simp; done) | (go_simp; rfl)); intro gb147 hg w12 hbox hb; have n0_ := Aside0.mk (Kd.V_below (Kd.V_elderB (by (with_reducible repeat (first | apply Kd.V_alloc | apply Kd.V_drewN | apply Kd.V_drew)); exact HO0_0.out) gb147 (Nat.le_of_eq hg.symm)) hb); have n1_ := Aside0.mk (below_step xb hb); have n2_ := Aside0.mk (hbox); have n3_ := Aside0.mk ((by rw [hg]; exact (below_size xb) : w.heap.size ≤ gb147)); have n4_ := Aside0.mk ((by rw [hg]; exact (below_size xb) : w.heap.size ≤ gb147)); clear HO0_0; clear HB; have HO0_0 := n0_; have HB := n1_; have BK147 := n2_; have GW147 := n3_; have GE147 := n4_; clear n0_ n1_ n2_ n3_ n4_; clear hb hbox hg) | ((with_reducible refine gate_dst (N := 4) rfl ?_); refine box_event ?hg (N := 4) ?hd (cs := #[.string a1_0, .string a1_1, .string a1_2]) (t := 32) ?hr ?_; (case hd => rfl); (case hg => rfl); (case hr => first | (go_simp; done) | (go_simp; rfl)); intro gb148 hg w13 hbox hb; have n0_ := Aside0.mk (Kd.V_below (Kd.V_elderB (by (with_reducible repeat (first | apply Kd.V_alloc | apply Kd.V_drewN | apply Kd.V_drew)); exact HO0_0.out) gb148 (Nat.le_of_eq hg.symm)) hb); have n1_ := blkB BK147 hb; have n2_ := Aside0.mk (below_step xb hb); have n3_ := Aside0.mk (hbox); have n4_ := Aside0.mk ((by rw [hg]; exact (below_size xb) : w.heap.size ≤ gb148)); have n5_ := Aside0.mk ((by rw [hg]; exact (below_size xb) : w.heap.size ≤ gb148)); have n6_ := Aside0.mk ((by rw [hg]; exact Nat.ne_of_lt (blkL BK147) : gb147 ≠ gb148)); have n7_ := Aside0.mk ((by rw [hg]; exact Nat.ne_of_gt (blkL BK147) : gb148 ≠ gb147)); clear HO0_0; clear BK147; clear HB; have HO0_0 := n0_; have BK147 := n1_; have HB := n2_; have BK148 := n3_; have GW148 := n4_; have GE148 := n5_; have NB147_148 := n6_; have NB148_147 := n7_; clear n0_ n1_ n2_ n3_ n4_ n5_ n6_ n7_; clear hb hbox hg) | ((with_reducible refine gate_dst (N := 5) rfl ?_); refine box_event ?hg (N := 5) ?hd (cs := #[.string a2_0, .string a2_1, .string a2_2, .string a2_3, .int .i64 a2_4, .int .i64 a2_5, .int .i64 a2_6, .bool a2_7, .bool a2_8, .bool a2_9, .int .i64 a2_10]) (t := 27) ?hr ?_; (case hd => rfl); (case hg => rfl); (case hr => first | (go_simp; done) | (go_simp; rfl)); intro gb149 hg w14 hbox hb; have n0_ := Aside0.mk (Kd.V_below (Kd.V_elderB (by (with_reducible repeat (first | apply Kd.V_alloc | apply Kd.V_drewN | apply Kd.V_drew)); exact HO0_0.out) gb149 (Nat.le_of_eq hg.symm)) hb); have n1_ := blkB BK147 hb; have n2_ := blkB BK148 hb; have n3_ := Aside0.mk (below_step xb hb); have n4_ := Aside0.mk (hbox); have n5_ := Aside0.mk ((by rw [hg]; exact (below_size xb) : w.heap.size ≤ gb149)); have n6_ := Aside0.mk ((by rw [hg]; exact (below_size xb) : w.heap.size ≤ gb149)); have n7_ := Aside0.mk ((by rw [hg]; exact Nat.ne_of_lt (blkL BK147) : gb147 ≠ gb149)); have n8_ := Aside0.mk ((by rw [hg]; exact Nat.ne_of_gt (blkL BK147) : gb149 ≠ gb147)); have n9_ := Aside0.mk ((by rw [hg]; exact Nat.ne_of_lt (blkL BK148) : gb148 ≠ gb149)); have n10_ := Aside0.mk ((by rw [hg]; exact Nat.ne_of_gt (blkL BK148) : gb149 ≠ gb148)); clear HO0_0; clear BK147; clear BK148; clear HB; have HO0_0 := n0_; have BK147 := n1_; have BK148 := n2_; have HB := n3_; have BK149 := n4_; have GW149 := n5_; have GE149 := n6_; have NB147_149 := n7_; have NB149_147 := n8_; have NB148_149 := n9_; have NB149_148 := n10_; clear n0_ n1_ n2_ n3_ n4_ n5_ n6_ n7_ n8_ n9_ n10_; clear hb hbox hg) | ((with_reducible refine gate_dst (N := 6) rfl ?_); refine box_event ?hg (N := 6) ?hd (cs := #[.slice none 0 0]) (t := 44) ?hr ?_; (case hd => rfl); (case hg => rfl); (case hr => first | (go_simp; done) | (go_simp; rfl)); intro gb150 hg w15 hbox hb; have n0_ := Aside0.mk (Kd.V_below (Kd.V_elderB (by (with_reducible repeat (first | apply Kd.V_alloc | apply Kd.V_drewN | apply Kd.V_drew)); exact HO0_0.out) gb150 (Nat.le_of_eq hg.symm)) hb); have n1_ := blkB BK147 hb; have n2_ := blkB BK148 hb; have n3_ := blkB BK149 hb; have n4_ := Aside0.mk (below_step xb hb); have n5_ := Aside0.mk (hbox); have n6_ := Aside0.mk ((by rw [hg]; exact (below_size xb) : w.heap.size ≤ gb150)); have n7_ := Aside0.mk ((by rw [hg]; exact (below_size xb) : w.heap.size ≤ gb150)); have n8_ := Aside0.mk ((by rw [hg]; exact Nat.ne_of_lt (blkL BK147) : gb147 ≠ gb150)); have n9_ := Aside0.mk ((by rw [hg]; exact Nat.ne_of_gt (blkL BK147) : gb150 ≠ gb147)); have n10_ := Aside0.mk ((by rw [hg]; exact Nat.ne_of_lt (blkL BK148) : gb148 ≠ gb150)); have n11_ := Aside0.mk ((by rw [hg]; exact Nat.ne_of_gt (blkL BK148) : gb150 ≠ gb148)); have n12_ := Aside0.mk ((by rw [hg]; exact Nat.ne_of_lt (blkL BK149) : gb149 ≠ gb150)); have n13_ := Aside0.mk ((by rw [hg]; exact Nat.ne_of_gt (blkL BK149) : gb150 ≠ gb149)); clear HO0_0; clear BK147; clear BK148; clear BK149; clear HB; have HO0_0 := n0_; have BK147 := n1_; have BK148 := n2_; have BK149 := n3_; have HB := n4_; have BK150 := n5_; have GW150 := n6_; have GE150 := n7_; have NB147_150 := n8_; have NB150_147 := n9_; have NB148_150 := n10_; have NB150_148 := n11_; have NB149_150 := n12_; have NB150_149 := n13_; clear n0_ n1_ n2_ n3_ n4_ n5_ n6_ n7_ n8_ n9_ n10_ n11_ n12_ n13_; clear hb hbox hg; have hnb16 := NB147_148.out; have hnc16 := NB148_147.out; have hnb17 := NB147_149.out; have hnc17 := NB149_147.out; have hnb18 := NB147_150.out; have hnc18 := NB150_147.out; have hcz19_0 : w15.cell? ⟨gb147, 0, none⟩ = some (.slice A0_0 l0_0.length c0_0) := (blk_cell BK147.out 0).trans rfl; have hfz19_0 := blk_frozen BK147.out 0; have hnb20 := NB148_149.out; have hnc20 := NB149_148.out; have hnb21 := NB148_150.out; have hnc21 := NB150_148.out; have hcz22_0 : w15.cell? ⟨gb148, 0, none⟩ = some (.string a1_0) := (blk_cell BK148.out 0).trans rfl; have hcz22_1 : w15.cell? ⟨gb148, 1, none⟩ = some (.string a1_1) := (blk_cell BK148.out 1).trans rfl; have hcz22_2 : w15.cell? ⟨gb148, 2, none⟩ = some (.string a1_2) := (blk_cell BK148.out 2).trans rfl; have hfz22_0 := blk_frozen BK148.out 0; have hfz22_1 := blk_frozen BK148.out 1; have hfz22_2 := blk_frozen BK148.out 2) | ((with_reducible refine gate_callee (f := 43) rfl ?_); refine goesL_ (some 13) rfl rfl Tryd.func43 (by kernel_rfl) rfl #[.agg #[.slice A0_0 l0_0.length c0_0], .agg #[.string a1_0, .string a1_1, .string a1_2]] rfl xg ?_; (with_reducible refine (table_place_Key.calls _ _ l0_0 a1_0 a1_1 a1_2 t151 true _ ?side1 ?side2 A4.out).mono ?_); (case side1 => repeat (first | exact (Kd.V_reads' HO0_0.out).2.2 | (with_reducible refine Kd.C_alloc ?_ _) | (with_reducible refine Kd.C_drewN ?_ _) | (with_reducible refine Kd.C_drew ?_))); (case side2 => exact (Kd.V_reads' HO0_0.out).2.1); rintro e w23 ⟨rfl, hb⟩; refine ⟨_, rfl, ?_⟩; have n0_ := Aside0.mk (Kd.V_below (by (with_reducible repeat (first | apply Kd.V_alloc | apply Kd.V_drewN | apply Kd.V_drew)); exact HO0_0.out) hb); have n1_ := blkB BK147 hb; have n2_ := blkB BK148 hb; have n3_ := blkB BK149 hb; have n4_ := blkB BK150 hb; have n5_ := Aside0.mk (below_step xb hb); clear HO0_0; clear BK147; clear BK148; clear BK149; clear BK150; clear HB; have HO0_0 := n0_; have BK147 := n1_; have BK148 := n2_; have BK149 := n3_; have BK150 := n4_; have HB := n5_; clear n0_ n1_ n2_ n3_ n4_ n5_; (try clear hb); (try clear hb2); (try clear hk); (try clear hi); have hcz24_0 : w23.cell? ⟨gb147, 0, none⟩ = some (.slice A0_0 l0_0.length c0_0) := (blk_cell BK147.out 0).trans rfl; have hfz24_0 := blk_frozen BK147.out 0; have q25 : (t151 : Int) ≤ ((l0_0.length : Int) : Int) := of_decide_eq_true (by first | (with_reducible assumption) | assumption); obtain ⟨i025, hi025, _, hsz25, _⟩ := info_parts info76; have hroom25 : l0_0.length ≤ c0_0 := (Kd.V_reads' HO0_0.out).2.1; have hC25 : Kd.F k76 _ _ A0_0 l0_0.length l0_0 := (Kd.V_at (base := w.heap.size) HO0_0.out).2.2; have q025 : (0 : Int) ≤ (t151 : Int) := of_decide_eq_true (by first | (with_reducible assumption) | assumption); have hcut25 := cut_from (P := Tryd.prog) 42 76 .i64 Tryd.underlying42 hi025 14 hsz25 A0_0 l0_0.length c0_0 t151 q025 q25; have hr25 := Kd.F_cut (m := (t151 : Int).toNat) (c := c0_0) hC25 (by omega) hroom25; obtain ⟨A25, hA25⟩ : ∃ A1, A1 = (if c0_0 = (t151 : Int).toNat then A0_0 else (A0_0 : Option Addr).map (·.add ((t151 : Int).toNat * 14))) := ⟨_, rfl⟩; obtain ⟨c25, hc25⟩ : ∃ c1, c1 = c0_0 - (t151 : Int).toNat := ⟨_, rfl⟩; have hy25 : y153.length = l0_0.length - (t151 : Int).toNat := (by rw [Ny153.out, List.length_drop] <;> omega); rw [show (l0_0).drop (t151 : Int).toNat = y153 from Ny153.out.symm] at hr25; replace hr25 : Kd.F k76 _ _ A25 y153.length y153 := (by rw [hA25]; exact hr25); rw [← hy25, ← hA25, ← hc25] at hcut25; have HO157 := Aside0.mk (show Kd.V k76 76 _ w.heap.size _ (.slice A25 y153.length c25) y153 from Kd.V_mk (by rw [hy25, hc25]; exact Nat.sub_le_sub_right hroom25 _) hr25); have HC157 := Aside0.mk (show y153.length ≤ c25 from by rw [hy25, hc25]; exact Nat.sub_le_sub_right hroom25 _); clear hr25 hC25 hroom25 hi025 hsz25 hc25; have KY25 := Aside0.mk hy25; have KA25 := Aside0.mk hA25; clear hy25 hA25; replace q25 := eq_true q25; have q26 : (1 : Int) ≤ ((y153.length : Int) : Int) := of_decide_eq_true (by first | (with_reducible assumption) | assumption); obtain ⟨i026, hi026, _, hsz26, _⟩ := info_parts info76; have hroom26 : y153.length ≤ c25 := (Kd.V_reads' HO157.out).2.1; have hC26 : Kd.F k76 _ _ A25 y153.length y153 := (Kd.V_at (base := w.heap.size) HO157.out).2.2; have hcut26 := cut_from (P := Tryd.prog) 42 76 .i64 Tryd.underlying42 hi026 14 hsz26 A25 y153.length c25 1 (by omega) q26; have hr26 := Kd.F_cut (m := (1 : Int).toNat) (c := c25) hC26 (by omega) hroom26; obtain ⟨A26, hA26⟩ : ∃ A1, A1 = (if c25 = (1 : Int).toNat then A25 else (A25 : Option Addr).map (·.add ((1 : Int).toNat * 14))) := ⟨_, rfl⟩; obtain ⟨c26, hc26⟩ : ∃ c1, c1 = c25 - (1 : Int).toNat := ⟨_, rfl⟩; have hy26 : y158.length = y153.length - (1 : Int).toNat := (by rw [Ny158.out, List.length_drop] <;> omega); rw [show (y153).drop (1 : Int).toNat = y158 from Ny158.out.symm] at hr26; replace hr26 : Kd.F k76 _ _ A26 y158.length y158 := (by rw [hA26]; exact hr26); rw [← hy26, ← hA26, ← hc26] at hcut26; have HO162 := Aside0.mk (show Kd.V k76 76 _ w.heap.size _ (.slice A26 y158.length c26) y158 from Kd.V_mk (by rw [hy26, hc26]; exact Nat.sub_le_sub_right hroom26 _) hr26); have HC162 := Aside0.mk (show y158.length ≤ c26 from by rw [hy26, hc26]; exact Nat.sub_le_sub_right hroom26 _); clear hr26 hC26 hroom26 hi026 hsz26 hc26; have KY26 := Aside0.mk hy26; have KA26 := Aside0.mk hA26; clear hy26 hA26; replace q26 := eq_true q26))
          have n0_ := Aside0.mk (Kd.V_drew HO0_0.out)
          have n1_ := Aside0.mk (Kd.V_drew HO157.out)
          have n2_ := Aside0.mk (Kd.V_drew HO162.out)
          have n3_ := Aside0.mk (blk_drew BK147.out)
          have n4_ := Aside0.mk (blk_drew BK148.out)
          have n5_ := Aside0.mk (blk_drew BK149.out)
          have n6_ := Aside0.mk (blk_drew BK150.out)
          have n7_ := Aside0.mk (below_drew1 HB.out)
          clear HO0_0
          clear HO157
          clear HO162
          clear BK147
          clear BK148
          clear BK149
          clear BK150
          clear HB
          have HO0_0 := n0_
          have HO157 := n1_
          have HO162 := n2_
          have BK147 := n3_
          have BK148 := n4_
          have BK149 := n5_
          have BK150 := n6_
          have HB := n7_
          clear n0_ n1_ n2_ n3_ n4_ n5_ n6_ n7_
          have q28 : (t151 : Int) ≤ ((l0_0.length : Int) : Int) := of_decide_eq_true (by first | (with_reducible assumption) | assumption)
          obtain ⟨i028, hi028, _, hsz28, _⟩ := info_parts info76
          have hroom28 : l0_0.length ≤ c0_0 := (Kd.V_reads' HO0_0.out).2.1
          have hC28 : Kd.F k76 _ _ A0_0 l0_0.length l0_0 := (Kd.V_at (base := w.heap.size) HO0_0.out).2.2
          have hcut28 := cut_to (P := Tryd.prog) 42 76 .i64 Tryd.underlying42 hi028 A0_0 l0_0.length c0_0 t151 (of_decide_eq_true (by first | (with_reducible assumption) | assumption)) q28 hroom28
          have hr28 := Kd.F_take (m := (t151 : Int).toNat) hC28 (by omega)
          have hy28 : y163.length = (t151 : Int).toNat := (by rw [Ny163.out, List.length_take]; omega)
          rw [← Ny163.out] at hr28
          rw [← hy28] at hcut28
          have HO167 := Aside0.mk (show Kd.V k76 76 _ w.heap.size _ (.slice A0_0 y163.length c0_0) y163 from Kd.V_mk (by omega) hr28)
          have HC167 := Aside0.mk (show y163.length ≤ c0_0 from by omega)
          clear hr28 hC28 hroom28 hi028 hsz28
          have KY28 := Aside0.mk hy28
          clear hy28
          replace q28 := eq_true q28
          refine start_ (n := 13) (S := fun w' => w'.cell? ⟨gb147, 0, none⟩ = some (.slice A0_0 l0_0.length c0_0) ∧ w'.cell? ⟨gb148, 0, none⟩ = some (.string a1_0) ∧ w'.cell? ⟨gb148, 1, none⟩ = some (.string a1_1) ∧ w'.cell? ⟨gb148, 2, none⟩ = some (.string a1_2) ∧ w'.cell? ⟨gb149, 0, none⟩ = some (.string a2_0) ∧ w'.cell? ⟨gb149, 1, none⟩ = some (.string a2_1) ∧ w'.cell? ⟨gb149, 2, none⟩ = some (.string a2_2) ∧ w'.cell? ⟨gb149, 3, none⟩ = some (.string a2_3) ∧ w'.cell? ⟨gb149, 4, none⟩ = some (.int .i64 a2_4) ∧ w'.cell? ⟨gb149, 5, none⟩ = some (.int .i64 a2_5) ∧ w'.cell? ⟨gb149, 6, none⟩ = some (.int .i64 a2_6) ∧ w'.cell? ⟨gb149, 7, none⟩ = some (.bool a2_7) ∧ w'.cell? ⟨gb149, 8, none⟩ = some (.bool a2_8) ∧ w'.cell? ⟨gb149, 9, none⟩ = some (.bool a2_9) ∧ w'.cell? ⟨gb149, 10, none⟩ = some (.int .i64 a2_10)) (ds := []) #[false, false, false, false, false, false, false, false, false, false, false, false, false] (by kernel_rfl) rfl rfl ⟨(blk_cell BK147.out 0).trans rfl, (blk_cell BK148.out 0).trans rfl, (blk_cell BK148.out 1).trans rfl, (blk_cell BK148.out 2).trans rfl, (blk_cell BK149.out 0).trans rfl, (blk_cell BK149.out 1).trans rfl, (blk_cell BK149.out 2).trans rfl, (blk_cell BK149.out 3).trans rfl, (blk_cell BK149.out 4).trans rfl, (blk_cell BK149.out 5).trans rfl, (blk_cell BK149.out 6).trans rfl, (blk_cell BK149.out 7).trans rfl, (blk_cell BK149.out 8).trans rfl, (blk_cell BK149.out 9).trans rfl, (blk_cell BK149.out 10).trans rfl⟩ (fun hHeld => ?_); refine with_tabW api_Cookie_Put.tab5 api_Cookie_Put.bits5 (fun HT_ HW_ => ?_)
          generalize w23.drew = w27 at HO0_0 HO157 HO162 BK147 BK148 BK149 BK150 HB HO167 hHeld ⊢
          refine pure_ (i := 0) (N := some 23) (v := ?_) (a' := ?_) #[true, false, false, false, false, false, false, false, false, false, false, false, false] rfl rfl (any_of HT_.out (by kernel_rfl)) (fun _ _ _ h => h) (Or.inl ⟨by rfl, ?_⟩) ?_ ?_
          rotate_left
          · intro w'
            go_simp
            with_reducible rfl
          rotate_left
          · simp only [Act.put, List.setIfInBounds_toArray, List.set_cons_zero, List.set_cons_succ, i64_w, i32_w]
            rfl
          refine pure_ (i := 2) (N := some 25) (v := ?_) (a' := ?_) #[true, false, true, false, false, false, false, false, false, false, false, false, false] rfl rfl (any_of HT_.out (by kernel_rfl)) (fun _ _ _ h => h) (Or.inl ⟨by rfl, ?_⟩) ?_ ?_
          rotate_left
          · intro w'
            go_simp
            with_reducible rfl
          rotate_left
          · simp only [Act.put, List.setIfInBounds_toArray, List.set_cons_zero, List.set_cons_succ, i64_w, i32_w]
            rfl
          refine pure_ (i := 8) (N := some 31) (v := ?_) (a' := ?_) #[true, false, true, false, false, false, false, false, true, false, false, false, false] rfl rfl (any_of HT_.out (by kernel_rfl)) (fun _ _ _ h => h) (Or.inl ⟨by rfl, ?_⟩) ?_ ?_
          rotate_left
          · intro w'
            go_simp
            with_reducible rfl
          rotate_left
          · simp only [Act.put, List.setIfInBounds_toArray, List.set_cons_zero, List.set_cons_succ, i64_w, i32_w]
            rfl
          refine take_ (i := 1) (N := some 24) (v := ?_) (a' := ?_) #[true, true, true, false, false, false, false, false, true, false, false, false, false] rfl rfl (take_ofW HT_.out HW_.out (by kernel_rfl)) (fun _ _ _ h => h) (Or.inl ⟨by rfl, ?_⟩) hHeld ?_ ?_
          rotate_left
          · rintro w' ⟨s0, s1, s2, s3, s4, s5, s6, s7, s8, s9, s10, s11, s12, s13, s14⟩
            go_simp
            with_reducible rfl
          rotate_left
          · simp only [Act.put, List.setIfInBounds_toArray, List.set_cons_zero, List.set_cons_succ, i64_w, i32_w]
            rfl
          refine pure_ (i := 3) (N := some 26) (v := ?_) (a' := ?_) #[true, true, true, true, false, false, false, false, true, false, false, false, false] rfl rfl (any_of HT_.out (by kernel_rfl)) (fun _ _ _ h => h) (Or.inl ⟨by rfl, ?_⟩) ?_ ?_
          rotate_left
          · intro w'
            go_simp
            with_reducible rfl
          rotate_left
          · simp only [Act.put, List.setIfInBounds_toArray, List.set_cons_zero, List.set_cons_succ, i64_w, i32_w]
            rfl
          refine take_ (i := 4) (N := some 27) (v := ?_) (a' := ?_) #[true, true, true, true, true, false, false, false, true, false, false, false, false] rfl rfl (take_ofW HT_.out HW_.out (by kernel_rfl)) (fun _ _ _ h => h) (Or.inl ⟨by rfl, ?_⟩) hHeld ?_ ?_
          rotate_left
          · rintro w' ⟨s0, s1, s2, s3, s4, s5, s6, s7, s8, s9, s10, s11, s12, s13, s14⟩
            go_simp
            with_reducible rfl
          rotate_left
          · simp only [Act.put, List.setIfInBounds_toArray, List.set_cons_zero, List.set_cons_succ, i64_w, i32_w]
            rfl
          refine take_ (i := 5) (N := some 28) (v := ?_) (a' := ?_) #[true, true, true, true, true, true, false, false, true, false, false, false, false] rfl rfl (take_ofW HT_.out HW_.out (by kernel_rfl)) (fun _ _ _ h => h) (Or.inl ⟨by rfl, ?_⟩) hHeld ?_ ?_
          rotate_left
          · rintro w' ⟨s0, s1, s2, s3, s4, s5, s6, s7, s8, s9, s10, s11, s12, s13, s14⟩
            go_simp
            with_reducible rfl
          rotate_left
          · simp only [Act.put, List.setIfInBounds_toArray, List.set_cons_zero, List.set_cons_succ, i64_w, i32_w]
            rfl
          refine pure_ (i := 6) (N := some 29) (v := ?_) (a' := ?_) #[true, true, true, true, true, true, true, false, true, false, false, false, false] rfl rfl (any_of HT_.out (by kernel_rfl)) (fun _ _ _ h => h) (Or.inl ⟨by rfl, ?_⟩) ?_ ?_
          rotate_left
          · intro w'
            go_simp
            with_reducible rfl
          rotate_left
          · simp only [Act.put, List.setIfInBounds_toArray, List.set_cons_zero, List.set_cons_succ, i64_w, i32_w]
            rfl
          refine one_ (i := 7) (N := some 30) #[true, true, true, true, true, true, true, true, true, false, false, false, false] rfl rfl (one_of HT_.out (by kernel_rfl)) (by decide) (fun K hK => ?_)
          refine Kd.R_lit_step k76 _ 76 ?hg (N := 30) ?hd (xs := ([(⟨(⟨a1_0, a1_1, a1_2⟩ : S32), (⟨a2_0, a2_1, a2_2, a2_3, a2_4, a2_5, a2_6, a2_7, a2_8, a2_9, a2_10⟩ : S27)⟩ : S76)] : List (S76))) (inner := [.string a1_0, .string a1_1, .string a1_2, .string a2_0, .string a2_1, .string a2_2, .string a2_3, .int .i64 a2_4, .int .i64 a2_5, .int .i64 a2_6, .bool a2_7, .bool a2_8, .bool a2_9, .int .i64 a2_10]) (ok := fun _ => True) (okp := fun _ => True) ?hr ?hp (fun _ hk => hk) trivial (Below.refl _ _) (Nat.le_refl _) (by simp) ?_; (case hd => rfl); (case hg => rfl); (case hr => first | (go_simp; done) | (go_simp; rfl)); (case hp => exact (Reps.front (show Kd.M k76 _ _ _ (⟨(⟨a1_0, a1_1, a1_2⟩ : S32), (⟨a2_0, a2_1, a2_2, a2_3, a2_4, a2_5, a2_6, a2_7, a2_8, a2_9, a2_10⟩ : S27)⟩ : S76) [.string a1_0, .string a1_1, .string a1_2, .string a2_0, .string a2_1, .string a2_2, .string a2_3, .int .i64 a2_4, .int .i64 a2_5, .int .i64 a2_6, .bool a2_7, .bool a2_8, .bool a2_9, .int .i64 a2_10] from (k76_mkM _ _ _ (⟨(⟨a1_0, a1_1, a1_2⟩ : S32), (⟨a2_0, a2_1, a2_2, a2_3, a2_4, a2_5, a2_6, a2_7, a2_8, a2_9, a2_10⟩ : S27)⟩ : S76) )) rfl (Reps.none _ _) rfl))
          intro v169 w29 ho30 hb hg_ hnew_
          clear hg_ hnew_
          (first | rw [← Ny168.out] at ho30 | (simp only [Int.reduceToNat] at ho30; rw [← Ny168.out] at ho30))
          have n0_ := Aside0.mk (Kd.V_elder' (by (with_reducible repeat (first | apply Kd.V_alloc | apply Kd.V_drewN | apply Kd.V_drew)); exact HO0_0.out) (Kd.R_base ho30) hb)
          have n1_ := Aside0.mk (Kd.V_elder' (by (with_reducible repeat (first | apply Kd.V_alloc | apply Kd.V_drewN | apply Kd.V_drew)); exact HO157.out) (Kd.R_base ho30) hb)
          have n2_ := Aside0.mk (Kd.V_elder' (by (with_reducible repeat (first | apply Kd.V_alloc | apply Kd.V_drewN | apply Kd.V_drew)); exact HO162.out) (Kd.R_base ho30) hb)
          have n3_ := Aside0.mk (Kd.V_elder' (by (with_reducible repeat (first | apply Kd.V_alloc | apply Kd.V_drewN | apply Kd.V_drew)); exact HO167.out) (Kd.R_base ho30) hb)
          have n4_ := Aside0.mk (Kd.R_lower (Kd.R_newM (M := fun k_ => (w.heap.size ≤ k_)) ho30 (below_size xb) (fun k_ h_ => h_)) (below_size xb))
          have n5_ := blkB BK147 hb
          have n6_ := blkB BK148 hb
          have n7_ := blkB BK149 hb
          have n8_ := blkB BK150 hb
          have n9_ := Aside0.mk (below_step xb hb)
          clear HO0_0
          clear HO157
          clear HO162
          clear HO167
          clear BK147
          clear BK148
          clear BK149
          clear BK150
          clear HB
          have HO0_0 := n0_
          have HO157 := n1_
          have HO162 := n2_
          have HO167 := n3_
          have HO170 := n4_
          have BK147 := n5_
          have BK148 := n6_
          have BK149 := n7_
          have BK150 := n8_
          have HB := n9_
          clear n0_ n1_ n2_ n3_ n4_ n5_ n6_ n7_ n8_ n9_
          clear hb ho30
          obtain ⟨Ao31, co31, eo31⟩ := Kd.R_slice HO170.out
          (first | subst eo31 | (injection eo31 with f1_ f2_ f3_; have f4_ := f1_.symm; have f5_ := f3_.symm; clear f1_ f2_ f3_; subst f4_; subst f5_))
          refine hK.out _ _ xc (fun hHeld => ?_)
          clear hK K
          refine norm_ (a' := ?_) ?_ ?_
          rotate_left
          · show Act.put _ (some 30) _ = _
            simp only [Act.put, List.setIfInBounds_toArray, List.set_cons_zero, List.set_cons_succ, i64_w, i32_w]
            rfl
          refine one_ (i := 9) (N := some 32) #[true, true, true, true, true, true, true, true, true, true, false, false, false] rfl rfl (one_of HT_.out (by kernel_rfl)) (by decide) (fun K hK => ?_)
          refine Kd.N_lit_step (Kd.slice 76 k76) _ 42 ?hg (N' := 32) ?hd (xs := ([y163, y168, y158] : List (List (S76)))) (inner := [.slice A0_0 y163.length c0_0, .slice Ao31 y168.length co31, .slice A26 y158.length c26]) (ok := (fun k_ => (P0_0_ k_ ∨ w.heap.size ≤ k_) ∧ k_ ≠ gb147 ∧ k_ ≠ gb148 ∧ k_ ≠ gb149 ∧ k_ ≠ gb150)) (okp := (fun k_ => (P0_0_ k_ ∨ w.heap.size ≤ k_) ∧ k_ ≠ gb147 ∧ k_ ≠ gb148 ∧ k_ ≠ gb149 ∧ k_ ≠ gb150)) ?hr ?hp (fun _ hk => hk) ((show ∀ k_, w29.heap.size ≤ k_ → (fun k_ => (P0_0_ k_ ∨ w.heap.size ≤ k_) ∧ k_ ≠ gb147 ∧ k_ ≠ gb148 ∧ k_ ≠ gb149 ∧ k_ ≠ gb150) k_ from fun k_ hk => ⟨(.inr (Nat.le_trans (below_size xb) hk)), Kd.freshB (g := gb147) (o := .cells #[.slice A0_0 l0_0.length c0_0] 44 (0, 0)) xk k_ hk, Kd.freshB (g := gb148) (o := .cells #[.string a1_0, .string a1_1, .string a1_2] 32 (0, 0)) xk k_ hk, Kd.freshB (g := gb149) (o := .cells #[.string a2_0, .string a2_1, .string a2_2, .string a2_3, .int .i64 a2_4, .int .i64 a2_5, .int .i64 a2_6, .bool a2_7, .bool a2_8, .bool a2_9, .int .i64 a2_10] 27 (0, 0)) xk k_ hk, Kd.freshB (g := gb150) (o := .cells #[.slice none 0 0] 44 (0, 0)) xk k_ hk⟩) _ (Nat.le_refl _)) (Below.refl _ _) (Nat.le_refl _) (by simp) ?_; (case hd => rfl); (case hg => rfl); (case hr => first | (go_simp; done) | (go_simp; rfl)); (case hp => exact (Reps.one (show Kd.FK (Kd.slice 76 k76) _ _ y163 [.slice A0_0 y163.length c0_0] from (Kd.FK_slice_mk (Kd.V_reads' (Kd.V_mono (ok' := (fun k_ => (P0_0_ k_ ∨ w.heap.size ≤ k_) ∧ k_ ≠ gb147 ∧ k_ ≠ gb148 ∧ k_ ≠ gb149 ∧ k_ ≠ gb150)) (HO167.out) (fun k_ hk => ⟨hk.1.1.1.1.1, ⟨hk.1.1.1.1.2, ⟨hk.1.1.1.2, ⟨hk.1.1.2, hk.1.2⟩⟩⟩⟩))).2.1 (Kd.V_F (Kd.V_mono (ok' := (fun k_ => (P0_0_ k_ ∨ w.heap.size ≤ k_) ∧ k_ ≠ gb147 ∧ k_ ≠ gb148 ∧ k_ ≠ gb149 ∧ k_ ≠ gb150)) (HO167.out) (fun k_ hk => ⟨hk.1.1.1.1.1, ⟨hk.1.1.1.1.2, ⟨hk.1.1.1.2, ⟨hk.1.1.2, hk.1.2⟩⟩⟩⟩))))) (Reps.one (show Kd.FK (Kd.slice 76 k76) _ _ y168 [.slice Ao31 y168.length co31] from (Kd.FK_slice_mk (Kd.R_reads' (Kd.R_mono (ok' := (fun k_ => (P0_0_ k_ ∨ w.heap.size ≤ k_) ∧ k_ ≠ gb147 ∧ k_ ≠ gb148 ∧ k_ ≠ gb149 ∧ k_ ≠ gb150)) (Kd.R_types (Kd.R_types (Kd.R_types (Kd.R_types (HO170.out) BK147.out (by decide)) BK148.out (by decide)) BK149.out (by decide)) BK150.out (by decide)) (fun k_ hk => ⟨(.inr (hk.1.1.1.1.1)), ⟨hk.1.1.1.2, ⟨hk.1.1.2, ⟨hk.1.2, hk.2⟩⟩⟩⟩))).2.1 (Kd.R_F (Kd.R_mono (ok' := (fun k_ => (P0_0_ k_ ∨ w.heap.size ≤ k_) ∧ k_ ≠ gb147 ∧ k_ ≠ gb148 ∧ k_ ≠ gb149 ∧ k_ ≠ gb150)) (Kd.R_types (Kd.R_types (Kd.R_types (Kd.R_types (HO170.out) BK147.out (by decide)) BK148.out (by decide)) BK149.out (by decide)) BK150.out (by decide)) (fun k_ hk => ⟨(.inr (hk.1.1.1.1.1)), ⟨hk.1.1.1.2, ⟨hk.1.1.2, ⟨hk.1.2, hk.2⟩⟩⟩⟩))))) (Reps.one (show Kd.FK (Kd.slice 76 k76) _ _ y158 [.slice A26 y158.length c26] from (Kd.FK_slice_mk (Kd.V_reads' (Kd.V_mono (ok' := (fun k_ => (P0_0_ k_ ∨ w.heap.size ≤ k_) ∧ k_ ≠ gb147 ∧ k_ ≠ gb148 ∧ k_ ≠ gb149 ∧ k_ ≠ gb150)) (HO162.out) (fun k_ hk => ⟨hk.1.1.1.1.1, ⟨hk.1.1.1.1.2, ⟨hk.1.1.1.2, ⟨hk.1.1.2, hk.1.2⟩⟩⟩⟩))).2.1 (Kd.V_F (Kd.V_mono (ok' := (fun k_ => (P0_0_ k_ ∨ w.heap.size ≤ k_) ∧ k_ ≠ gb147 ∧ k_ ≠ gb148 ∧ k_ ≠ gb149 ∧ k_ ≠ gb150)) (HO162.out) (fun k_ hk => ⟨hk.1.1.1.1.1, ⟨hk.1.1.1.1.2, ⟨hk.1.1.1.2, ⟨hk.1.1.2, hk.1.2⟩⟩⟩⟩))))) (Reps.none _ _)))))
          intro v172 w32 ho33 hb hg_ hnew_
          clear hg_ hnew_
          (first | rw [← Ny171.out] at ho33 | (simp only [Int.reduceToNat] at ho33; rw [← Ny171.out] at ho33))
          have n0_ := Aside0.mk (Kd.V_elder' (by (with_reducible repeat (first | apply Kd.V_alloc | apply Kd.V_drewN | apply Kd.V_drew)); exact HO0_0.out) (Kd.N_base ho33) hb)
          have n1_ := Aside0.mk (Kd.V_elder' (by (with_reducible repeat (first | apply Kd.V_alloc | apply Kd.V_drewN | apply Kd.V_drew)); exact HO157.out) (Kd.N_base ho33) hb)
          have n2_ := Aside0.mk (Kd.V_elder' (by (with_reducible repeat (first | apply Kd.V_alloc | apply Kd.V_drewN | apply Kd.V_drew)); exact HO162.out) (Kd.N_base ho33) hb)
          have n3_ := Aside0.mk (Kd.V_elder' (by (with_reducible repeat (first | apply Kd.V_alloc | apply Kd.V_drewN | apply Kd.V_drew)); exact HO167.out) (Kd.N_base ho33) hb)
          have n4_ := Aside0.mk (Kd.N_lower ho33 (below_size xb))
          have n5_ := blkB BK147 hb
          have n6_ := blkB BK148 hb
          have n7_ := blkB BK149 hb
          have n8_ := blkB BK150 hb
          have n9_ := Aside0.mk (below_step xb hb)
          clear HO0_0
          clear HO157
          clear HO162
          clear HO167
          clear BK147
          clear BK148
          clear BK149
          clear BK150
          clear HB
          clear HO170
          have HO0_0 := n0_
          have HO157 := n1_
          have HO162 := n2_
          have HO167 := n3_
          have HO173 := n4_
          have BK147 := n5_
          have BK148 := n6_
          have BK149 := n7_
          have BK150 := n8_
          have HB := n9_
          clear n0_ n1_ n2_ n3_ n4_ n5_ n6_ n7_ n8_ n9_
          clear hb ho33
          obtain ⟨Ao34, co34, eo34⟩ := Kd.N_slice HO173.out
          (first | subst eo34 | (injection eo34 with f1_ f2_ f3_; have f4_ := f1_.symm; have f5_ := f3_.symm; clear f1_ f2_ f3_; subst f4_; subst f5_))
          refine hK.out _ _ xc (fun hHeld => ?_)
          clear hK K
          refine norm_ (a' := ?_) ?_ ?_
          rotate_left
          · show Act.put _ (some 32) _ = _
            simp only [Act.put, List.setIfInBounds_toArray, List.set_cons_zero, List.set_cons_succ, i64_w, i32_w]
            rfl
          refine one_ (i := 10) (N := some 33) #[true, true, true, true, true, true, true, true, true, true, true, false, false] rfl rfl (one_of HT_.out (by kernel_rfl)) (by decide) (fun K hK => ?_)
          refine goes_ Tryd.func44 (by kernel_rfl) rfl #[.slice Ao34 y171.length co34] (by rfl) rfl rfl xg ?_
          with_reducible refine (api_Cookie_44.calls k _ _ y171 t174 _ ?side1 ?side2 A11.out).mono ?_
          (case side1 => repeat (first | exact (Kd.N_reads' HO173.out).2.2 | (with_reducible refine Kd.C_alloc ?_ _) | (with_reducible refine Kd.C_drewN ?_ _) | (with_reducible refine Kd.C_drew ?_)))
          (case side2 => exact (Kd.N_reads' HO173.out).2.1)
          rintro e w35 ⟨v175, rfl, ho0, hb⟩
          refine ⟨_, rfl, ?_⟩
          have n0_ := Aside0.mk (Kd.V_elder' (by (with_reducible repeat (first | apply Kd.V_alloc | apply Kd.V_drewN | apply Kd.V_drew)); exact HO0_0.out) (Kd.R_base ho0) hb)
          have n1_ := Aside0.mk (Kd.V_elder' (by (with_reducible repeat (first | apply Kd.V_alloc | apply Kd.V_drewN | apply Kd.V_drew)); exact HO157.out) (Kd.R_base ho0) hb)
          have n2_ := Aside0.mk (Kd.V_elder' (by (with_reducible repeat (first | apply Kd.V_alloc | apply Kd.V_drewN | apply Kd.V_drew)); exact HO162.out) (Kd.R_base ho0) hb)
          have n3_ := Aside0.mk (Kd.V_elder' (by (with_reducible repeat (first | apply Kd.V_alloc | apply Kd.V_drewN | apply Kd.V_drew)); exact HO167.out) (Kd.R_base ho0) hb)
          have n4_ := Aside0.mk (Kd.N_elder' (by (with_reducible repeat (first | apply Kd.N_alloc | apply Kd.N_drewN | apply Kd.N_drew)); exact HO173.out) (Kd.R_base ho0) hb)
          have n5_ := Aside0.mk (Kd.R_lower (Kd.R_newM (M := fun k_ => (w.heap.size ≤ k_)) ho0 (below_size xb) (fun k_ h_ => h_)) (below_size xb))
          have n6_ := blkB BK147 hb
          have n7_ := blkB BK148 hb
          have n8_ := blkB BK149 hb
          have n9_ := blkB BK150 hb
          have n10_ := Aside0.mk (below_step xb hb)
          clear HO0_0
          clear HO157
          clear HO162
          clear HO167
          clear HO173
          clear BK147
          clear BK148
          clear BK149
          clear BK150
          clear HB
          have HO0_0 := n0_
          have HO157 := n1_
          have HO162 := n2_
          have HO167 := n3_
          have HO173 := n4_
          have HO176 := n5_
          have BK147 := n6_
          have BK148 := n7_
          have BK149 := n8_
          have BK150 := n9_
          have HB := n10_
          clear n0_ n1_ n2_ n3_ n4_ n5_ n6_ n7_ n8_ n9_ n10_
          (try clear hb)
          (try clear hb2)
          (try clear hk)
          (try clear hi)
          (try clear ho0)
          obtain ⟨Ao36, co36, eo36⟩ := Kd.R_slice HO176.out
          (first | subst eo36 | (injection eo36 with f1_ f2_ f3_; have f4_ := f1_.symm; have f5_ := f3_.symm; clear f1_ f2_ f3_; subst f4_; subst f5_))
          refine hK.out _ _ xc (fun hHeld => ?_)
          clear hK K
          refine norm_ (a' := ?_) ?_ ?_
          rotate_left
          · show Act.put _ (some 33) _ = _
            simp only [Act.put, List.setIfInBounds_toArray, List.set_cons_zero, List.set_cons_succ, i64_w, i32_w]
            rfl
          refine pure_ (i := 11) (N := some 34) (v := ?_) (a' := ?_) #[true, true, true, true, true, true, true, true, true, true, true, true, false] rfl rfl (any_of HT_.out (by kernel_rfl)) (fun _ _ _ h => h) (Or.inl ⟨by rfl, ?_⟩) ?_ ?_
          rotate_left
          · intro w'
            go_simp
            with_reducible rfl
          rotate_left
          · simp only [Act.put, List.setIfInBounds_toArray, List.set_cons_zero, List.set_cons_succ, i64_w, i32_w]
            rfl
          refine one_ (i := 12) (N := none) #[true, true, true, true, true, true, true, true, true, true, true, true, true] rfl rfl (one_of HT_.out (by kernel_rfl)) (by decide) (fun K hK => ?_)
          have hs37 : w35.cell? ⟨gb150, 0, none⟩ = some (.slice none 0 0) := (blk_cell BK150.out 0).trans rfl
          have hfs37 := blk_frozen BK150.out 0
          have hns37_0 := NB147_150.out
          have hns37_1 := NB148_150.out
          have hns37_2 := NB149_150.out
          have hms37_0 := NB150_147.out
          have hms37_1 := NB150_148.out
          have hms37_2 := NB150_149.out
          refine skip_ (w1 := ?_) (by rfl) rfl ?_ ?_
          rotate_left
          · go_simp
            rfl
          refine hK.out _ _ ⟨((cell_far (p := ⟨gb150, _, none⟩) NB147_150.out _).trans (hHeld.1)), ((cell_far (p := ⟨gb150, _, none⟩) NB148_150.out _).trans (hHeld.2.1)), ((cell_far (p := ⟨gb150, _, none⟩) NB148_150.out _).trans (hHeld.2.2.1)), ((cell_far (p := ⟨gb150, _, none⟩) NB148_150.out _).trans (hHeld.2.2.2.1)), ((cell_far (p := ⟨gb150, _, none⟩) NB149_150.out _).trans (hHeld.2.2.2.2.1)), ((cell_far (p := ⟨gb150, _, none⟩) NB149_150.out _).trans (hHeld.2.2.2.2.2.1)), ((cell_far (p := ⟨gb150, _, none⟩) NB149_150.out _).trans (hHeld.2.2.2.2.2.2.1)), ((cell_far (p := ⟨gb150, _, none⟩) NB149_150.out _).trans (hHeld.2.2.2.2.2.2.2.1)), ((cell_far (p := ⟨gb150, _, none⟩) NB149_150.out _).trans (hHeld.2.2.2.2.2.2.2.2.1)), ((cell_far (p := ⟨gb150, _, none⟩) NB149_150.out _).trans (hHeld.2.2.2.2.2.2.2.2.2.1)), ((cell_far (p := ⟨gb150, _, none⟩) NB149_150.out _).trans (hHeld.2.2.2.2.2.2.2.2.2.2.1)), ((cell_far (p := ⟨gb150, _, none⟩) NB149_150.out _).trans (hHeld.2.2.2.2.2.2.2.2.2.2.2.1)), ((cell_far (p := ⟨gb150, _, none⟩) NB149_150.out _).trans (hHeld.2.2.2.2.2.2.2.2.2.2.2.2.1)), ((cell_far (p := ⟨gb150, _, none⟩) NB149_150.out _).trans (hHeld.2.2.2.2.2.2.2.2.2.2.2.2.2.1)), ((cell_far (p := ⟨gb150, _, none⟩) NB149_150.out _).trans (hHeld.2.2.2.2.2.2.2.2.2.2.2.2.2.2))⟩ (fun hHeld => ?_)
          clear hK K
          refine done_ (done_of HT_.out (by kernel_rfl)) ?_
          try go_wp2
          refine bodyPost_ret (results_cell_row rfl _ _ gb150 44 #[.slice Ao36 t174.length co36] (0, 0) _ rfl xk Tryd.underlying44 rfl (by kernel_rfl)) rfl ?_
          exact ⟨_, by first | rfl | (simp [errW_none, errW_some] <;> rfl) | (simp [*, errW_none, errW_some] <;> rfl), by (with_reducible repeat (first | apply Kd.R_alloc | apply Kd.R_drewN | apply Kd.R_drew)); exact Kd.R_mono (Kd.R_far (p := ⟨gb150, 0, none⟩) (Kd.R_types HO176.out BK150.out (by decide)) (fun _ hk => hk.2) (.slice Ao36 t174.length co36)) (fun _ hk => hk.1.1), by repeat (first | (with_reducible first | exact HB.out | apply below_alloc | apply pw_below_drewN | apply below_drew1 | refine below_set ?_ GE147.out | refine below_set ?_ GE148.out | refine below_set ?_ GE149.out | refine below_set ?_ GE150.out) | exact HB.out)⟩
        · rw [if_neg c8] at H
          exact absurd H (by simp)
      · replace c7 := Bool.eq_false_iff.mpr c7
        subst c7
        have H1 : ((api_Cookie_44.f k (([(l0_0.take (t151 : Int).toNat), (([(⟨(⟨a1_0, a1_1, a1_2⟩ : S32), (⟨a2_0, a2_1, a2_2, a2_3, a2_4, a2_5, a2_6, a2_7, a2_8, a2_9, a2_10⟩ : S27)⟩ : S76)] : List (S76))), y153] : List (List (S76))))).bind fun t188 => (some t188)) = some r := by rw [if_neg (show ¬ (false = true) by decide)] at H; exact H
        clear H
        have H := H1
        clear H1
        have c38b0 := eq_true (of_decide_eq_true (by first | (with_reducible assumption) | assumption) : 0 ≤ t151)
        have c39b0 := eq_true (of_decide_eq_true (by first | (with_reducible assumption) | assumption) : t151 ≤ (l0_0.length : Int))
        obtain ⟨y177, hy177⟩ : ∃ y_ : List (S76), y_ = (l0_0.take (t151 : Int).toNat) := ⟨_, rfl⟩
        replace H : ((api_Cookie_44.f k (([y177, (([(⟨(⟨a1_0, a1_1, a1_2⟩ : S32), (⟨a2_0, a2_1, a2_2, a2_3, a2_4, a2_5, a2_6, a2_7, a2_8, a2_9, a2_10⟩ : S27)⟩ : S76)] : List (S76))), y153] : List (List (S76))))).bind fun t188 => (some t188)) = some r := by first | (rw [hy177]; with_reducible exact H) | (have H2_ := (Option.bind_some _ _).symm.trans H; rw [hy177]; with_reducible exact H2_) | (have H2_ := (Option.bind_some _ _).symm.trans H; with_reducible exact H2_) | with_reducible exact H | (rw [hy177]; exact H) | exact H
        have Ny177 := Aside0.mk hy177
        clear hy177
        obtain ⟨y182, hy182⟩ : ∃ y_ : List (S76), y_ = (([(⟨(⟨a1_0, a1_1, a1_2⟩ : S32), (⟨a2_0, a2_1, a2_2, a2_3, a2_4, a2_5, a2_6, a2_7, a2_8, a2_9, a2_10⟩ : S27)⟩ : S76)] : List (S76))) := ⟨_, rfl⟩
        replace H : ((api_Cookie_44.f k (([y177, y182, y153] : List (List (S76))))).bind fun t188 => (some t188)) = some r := by first | (rw [hy182]; with_reducible exact H) | (have H2_ := (Option.bind_some _ _).symm.trans H; rw [hy182]; with_reducible exact H2_) | (have H2_ := (Option.bind_some _ _).symm.trans H; with_reducible exact H2_) | with_reducible exact H | (rw [hy182]; exact H) | exact H
        have Ny182 := Aside0.mk hy182
        clear hy182
        obtain ⟨y185, hy185⟩ : ∃ y_ : List (List (S76)), y_ = (([y177, y182, y153] : List (List (S76)))) := ⟨_, rfl⟩
        replace H : ((api_Cookie_44.f k y185).bind fun t188 => (some t188)) = some r := by first | (rw [hy185]; with_reducible exact H) | (have H2_ := (Option.bind_some _ _).symm.trans H; rw [hy185]; with_reducible exact H2_) | (have H2_ := (Option.bind_some _ _).symm.trans H; with_reducible exact H2_) | with_reducible exact H | (rw [hy185]; exact H) | exact H
        have Ny185 := Aside0.mk hy185
        clear hy185
        replace H := Option.bind_eq_some_iff.mp H
        obtain ⟨t188, A400, H⟩ := H
        replace H : (some t188) = some r := H
        have A40 := Aside0.mk A400
        clear A400
        obtain rfl := Option.some.inj H
        go_enter Tryd.func30, Tryd.ntmps30
        try go_wp2_with (first | ((with_reducible refine gate_dst (N := 3) rfl ?_); refine box_event ?hg (N := 3) ?hd (cs := #[.slice A0_0 l0_0.length c0_0]) (t := 44) ?hr ?_; (case hd => rfl); (case hg => rfl); (case hr => first | (go_simp; done) | (go_simp; rfl)); intro gb147 hg w41 hbox hb; have n0_ := Aside0.mk (Kd.V_below (Kd.V_elderB (by (with_reducible repeat (first | apply Kd.V_alloc | apply Kd.V_drewN | apply Kd.V_drew)); exact HO0_0.out) gb147 (Nat.le_of_eq hg.symm)) hb); have n1_ := Aside0.mk (below_step xb hb); have n2_ := Aside0.mk (hbox); have n3_ := Aside0.mk ((by rw [hg]; exact (below_size xb) : w.heap.size ≤ gb147)); have n4_ := Aside0.mk ((by rw [hg]; exact (below_size xb) : w.heap.size ≤ gb147)); clear HO0_0; clear HB; have HO0_0 := n0_; have HB := n1_; have BK147 := n2_; have GW147 := n3_; have GE147 := n4_; clear n0_ n1_ n2_ n3_ n4_; clear hb hbox hg) | ((with_reducible refine gate_dst (N := 4) rfl ?_); refine box_event ?hg (N := 4) ?hd (cs := #[.string a1_0, .string a1_1, .string a1_2]) (t := 32) ?hr ?_; (case hd => rfl); (case hg => rfl); (case hr => first | (go_simp; done) | (go_simp; rfl)); intro gb148 hg w42 hbox hb; have n0_ := Aside0.mk (Kd.V_below (Kd.V_elderB (by (with_reducible repeat (first | apply Kd.V_alloc | apply Kd.V_drewN | apply Kd.V_drew)); exact HO0_0.out) gb148 (Nat.le_of_eq hg.symm)) hb); have n1_ := blkB BK147 hb; have n2_ := Aside0.mk (below_step xb hb); have n3_ := Aside0.mk (hbox); have n4_ := Aside0.mk ((by rw [hg]; exact (below_size xb) : w.heap.size ≤ gb148)); have n5_ := Aside0.mk ((by rw [hg]; exact (below_size xb) : w.heap.size ≤ gb148)); have n6_ := Aside0.mk ((by rw [hg]; exact Nat.ne_of_lt (blkL BK147) : gb147 ≠ gb148)); have n7_ := Aside0.mk ((by rw [hg]; exact Nat.ne_of_gt (blkL BK147) : gb148 ≠ gb147)); clear HO0_0; clear BK147; clear HB; have HO0_0 := n0_; have BK147 := n1_; have HB := n2_; have BK148 := n3_; have GW148 := n4_; have GE148 := n5_; have NB147_148 := n6_; have NB148_147 := n7_; clear n0_ n1_ n2_ n3_ n4_ n5_ n6_ n7_; clear hb hbox hg) | ((with_reducible refine gate_dst (N := 5) rfl ?_); refine box_event ?hg (N := 5) ?hd (cs := #[.string a2_0, .string a2_1, .string a2_2, .string a2_3, .int .i64 a2_4, .int .i64 a2_5, .int .i64 a2_6, .bool a2_7, .bool a2_8, .bool a2_9, .int .i64 a2_10]) (t := 27) ?hr ?_; (case hd => rfl); (case hg => rfl); (case hr => first | (go_simp; done) | (go_simp; rfl)); intro gb149 hg w43 hbox hb; have n0_ := Aside0.mk (Kd.V_below (Kd.V_elderB (by (with_reducible repeat (first | apply Kd.V_alloc | apply Kd.V_drewN | apply Kd.V_drew)); exact HO0_0.out) gb149 (Nat.le_of_eq hg.symm)) hb); have n1_ := blkB BK147 hb; have n2_ := blkB BK148 hb; have n3_ := Aside0.mk (below_step xb hb); have n4_ := Aside0.mk (hbox); have n5_ := Aside0.mk ((by rw [hg]; exact (below_size xb) : w.heap.size ≤ gb149)); have n6_ := Aside0.mk ((by rw [hg]; exact (below_size xb) : w.heap.size ≤ gb149)); have n7_ := Aside0.mk ((by rw [hg]; exact Nat.ne_of_lt (blkL BK147) : gb147 ≠ gb149)); have n8_ := Aside0.mk ((by rw [hg]; exact Nat.ne_of_gt (blkL BK147) : gb149 ≠ gb147)); have n9_ := Aside0.mk ((by rw [hg]; exact Nat.ne_of_lt (blkL BK148) : gb148 ≠ gb149)); have n10_ := Aside0.mk ((by rw [hg]; exact Nat.ne_of_gt (blkL BK148) : gb149 ≠ gb148)); clear HO0_0; clear BK147; clear BK148; clear HB; have HO0_0 := n0_; have BK147 := n1_; have BK148 := n2_; have HB := n3_; have BK149 := n4_; have GW149 := n5_; have GE149 := n6_; have NB147_149 := n7_; have NB149_147 := n8_; have NB148_149 := n9_; have NB149_148 := n10_; clear n0_ n1_ n2_ n3_ n4_ n5_ n6_ n7_ n8_ n9_ n10_; clear hb hbox hg) | ((with_reducible refine gate_dst (N := 6) rfl ?_); refine box_event ?hg (N := 6) ?hd (cs := #[.slice none 0 0]) (t := 44) ?hr ?_; (case hd => rfl); (case hg => rfl); (case hr => first | (go_simp; done) | (go_simp; rfl)); intro gb150 hg w44 hbox hb; have n0_ := Aside0.mk (Kd.V_below (Kd.V_elderB (by (with_reducible repeat (first | apply Kd.V_alloc | apply Kd.V_drewN | apply Kd.V_drew)); exact HO0_0.out) gb150 (Nat.le_of_eq hg.symm)) hb); have n1_ := blkB BK147 hb; have n2_ := blkB BK148 hb; have n3_ := blkB BK149 hb; have n4_ := Aside0.mk (below_step xb hb); have n5_ := Aside0.mk (hbox); have n6_ := Aside0.mk ((by rw [hg]; exact (below_size xb) : w.heap.size ≤ gb150)); have n7_ := Aside0.mk ((by rw [hg]; exact (below_size xb) : w.heap.size ≤ gb150)); have n8_ := Aside0.mk ((by rw [hg]; exact Nat.ne_of_lt (blkL BK147) : gb147 ≠ gb150)); have n9_ := Aside0.mk ((by rw [hg]; exact Nat.ne_of_gt (blkL BK147) : gb150 ≠ gb147)); have n10_ := Aside0.mk ((by rw [hg]; exact Nat.ne_of_lt (blkL BK148) : gb148 ≠ gb150)); have n11_ := Aside0.mk ((by rw [hg]; exact Nat.ne_of_gt (blkL BK148) : gb150 ≠ gb148)); have n12_ := Aside0.mk ((by rw [hg]; exact Nat.ne_of_lt (blkL BK149) : gb149 ≠ gb150)); have n13_ := Aside0.mk ((by rw [hg]; exact Nat.ne_of_gt (blkL BK149) : gb150 ≠ gb149)); clear HO0_0; clear BK147; clear BK148; clear BK149; clear HB; have HO0_0 := n0_; have BK147 := n1_; have BK148 := n2_; have BK149 := n3_; have HB := n4_; have BK150 := n5_; have GW150 := n6_; have GE150 := n7_; have NB147_150 := n8_; have NB150_147 := n9_; have NB148_150 := n10_; have NB150_148 := n11_; have NB149_150 := n12_; have NB150_149 := n13_; clear n0_ n1_ n2_ n3_ n4_ n5_ n6_ n7_ n8_ n9_ n10_ n11_ n12_ n13_; clear hb hbox hg; have hnb45 := NB147_148.out; have hnc45 := NB148_147.out; have hnb46 := NB147_149.out; have hnc46 := NB149_147.out; have hnb47 := NB147_150.out; have hnc47 := NB150_147.out; have hcz48_0 : w44.cell? ⟨gb147, 0, none⟩ = some (.slice A0_0 l0_0.length c0_0) := (blk_cell BK147.out 0).trans rfl; have hfz48_0 := blk_frozen BK147.out 0; have hnb49 := NB148_149.out; have hnc49 := NB149_148.out; have hnb50 := NB148_150.out; have hnc50 := NB150_148.out; have hcz51_0 : w44.cell? ⟨gb148, 0, none⟩ = some (.string a1_0) := (blk_cell BK148.out 0).trans rfl; have hcz51_1 : w44.cell? ⟨gb148, 1, none⟩ = some (.string a1_1) := (blk_cell BK148.out 1).trans rfl; have hcz51_2 : w44.cell? ⟨gb148, 2, none⟩ = some (.string a1_2) := (blk_cell BK148.out 2).trans rfl; have hfz51_0 := blk_frozen BK148.out 0; have hfz51_1 := blk_frozen BK148.out 1; have hfz51_2 := blk_frozen BK148.out 2) | ((with_reducible refine gate_callee (f := 43) rfl ?_); refine goesL_ (some 13) rfl rfl Tryd.func43 (by kernel_rfl) rfl #[.agg #[.slice A0_0 l0_0.length c0_0], .agg #[.string a1_0, .string a1_1, .string a1_2]] rfl xg ?_; (with_reducible refine (table_place_Key.calls _ _ l0_0 a1_0 a1_1 a1_2 t151 false _ ?side1 ?side2 A4.out).mono ?_); (case side1 => repeat (first | exact (Kd.V_reads' HO0_0.out).2.2 | (with_reducible refine Kd.C_alloc ?_ _) | (with_reducible refine Kd.C_drewN ?_ _) | (with_reducible refine Kd.C_drew ?_))); (case side2 => exact (Kd.V_reads' HO0_0.out).2.1); rintro e w52 ⟨rfl, hb⟩; refine ⟨_, rfl, ?_⟩; have n0_ := Aside0.mk (Kd.V_below (by (with_reducible repeat (first | apply Kd.V_alloc | apply Kd.V_drewN | apply Kd.V_drew)); exact HO0_0.out) hb); have n1_ := blkB BK147 hb; have n2_ := blkB BK148 hb; have n3_ := blkB BK149 hb; have n4_ := blkB BK150 hb; have n5_ := Aside0.mk (below_step xb hb); clear HO0_0; clear BK147; clear BK148; clear BK149; clear BK150; clear HB; have HO0_0 := n0_; have BK147 := n1_; have BK148 := n2_; have BK149 := n3_; have BK150 := n4_; have HB := n5_; clear n0_ n1_ n2_ n3_ n4_ n5_; (try clear hb); (try clear hb2); (try clear hk); (try clear hi); have hcz53_0 : w52.cell? ⟨gb147, 0, none⟩ = some (.slice A0_0 l0_0.length c0_0) := (blk_cell BK147.out 0).trans rfl; have hfz53_0 := blk_frozen BK147.out 0; have q54 : (t151 : Int) ≤ ((l0_0.length : Int) : Int) := of_decide_eq_true (by first | (with_reducible assumption) | assumption); obtain ⟨i054, hi054, _, hsz54, _⟩ := info_parts info76; have hroom54 : l0_0.length ≤ c0_0 := (Kd.V_reads' HO0_0.out).2.1; have hC54 : Kd.F k76 _ _ A0_0 l0_0.length l0_0 := (Kd.V_at (base := w.heap.size) HO0_0.out).2.2; have q054 : (0 : Int) ≤ (t151 : Int) := of_decide_eq_true (by first | (with_reducible assumption) | assumption); have hcut54 := cut_from (P := Tryd.prog) 42 76 .i64 Tryd.underlying42 hi054 14 hsz54 A0_0 l0_0.length c0_0 t151 q054 q54; have hr54 := Kd.F_cut (m := (t151 : Int).toNat) (c := c0_0) hC54 (by omega) hroom54; obtain ⟨A54, hA54⟩ : ∃ A1, A1 = (if c0_0 = (t151 : Int).toNat then A0_0 else (A0_0 : Option Addr).map (·.add ((t151 : Int).toNat * 14))) := ⟨_, rfl⟩; obtain ⟨c54, hc54⟩ : ∃ c1, c1 = c0_0 - (t151 : Int).toNat := ⟨_, rfl⟩; have hy54 : y153.length = l0_0.length - (t151 : Int).toNat := (by rw [Ny153.out, List.length_drop] <;> omega); rw [show (l0_0).drop (t151 : Int).toNat = y153 from Ny153.out.symm] at hr54; replace hr54 : Kd.F k76 _ _ A54 y153.length y153 := (by rw [hA54]; exact hr54); rw [← hy54, ← hA54, ← hc54] at hcut54; have HO157 := Aside0.mk (show Kd.V k76 76 _ w.heap.size _ (.slice A54 y153.length c54) y153 from Kd.V_mk (by rw [hy54, hc54]; exact Nat.sub_le_sub_right hroom54 _) hr54); have HC157 := Aside0.mk (show y153.length ≤ c54 from by rw [hy54, hc54]; exact Nat.sub_le_sub_right hroom54 _); clear hr54 hC54 hroom54 hi054 hsz54 hc54; have KY54 := Aside0.mk hy54; have KA54 := Aside0.mk hA54; clear hy54 hA54; replace q54 := eq_true q54))
        have n0_ := Aside0.mk (Kd.V_drew HO0_0.out)
        have n1_ := Aside0.mk (Kd.V_drew HO157.out)
        have n2_ := Aside0.mk (blk_drew BK147.out)
        have n3_ := Aside0.mk (blk_drew BK148.out)
        have n4_ := Aside0.mk (blk_drew BK149.out)
        have n5_ := Aside0.mk (blk_drew BK150.out)
        have n6_ := Aside0.mk (below_drew1 HB.out)
        clear HO0_0
        clear HO157
        clear BK147
        clear BK148
        clear BK149
        clear BK150
        clear HB
        have HO0_0 := n0_
        have HO157 := n1_
        have BK147 := n2_
        have BK148 := n3_
        have BK149 := n4_
        have BK150 := n5_
        have HB := n6_
        clear n0_ n1_ n2_ n3_ n4_ n5_ n6_
        have q56 : (t151 : Int) ≤ ((l0_0.length : Int) : Int) := of_decide_eq_true (by first | (with_reducible assumption) | assumption)
        obtain ⟨i056, hi056, _, hsz56, _⟩ := info_parts info76
        have hroom56 : l0_0.length ≤ c0_0 := (Kd.V_reads' HO0_0.out).2.1
        have hC56 : Kd.F k76 _ _ A0_0 l0_0.length l0_0 := (Kd.V_at (base := w.heap.size) HO0_0.out).2.2
        have hcut56 := cut_to (P := Tryd.prog) 42 76 .i64 Tryd.underlying42 hi056 A0_0 l0_0.length c0_0 t151 (of_decide_eq_true (by first | (with_reducible assumption) | assumption)) q56 hroom56
        have hr56 := Kd.F_take (m := (t151 : Int).toNat) hC56 (by omega)
        have hy56 : y177.length = (t151 : Int).toNat := (by rw [Ny177.out, List.length_take]; omega)
        rw [← Ny177.out] at hr56
        rw [← hy56] at hcut56
        have HO181 := Aside0.mk (show Kd.V k76 76 _ w.heap.size _ (.slice A0_0 y177.length c0_0) y177 from Kd.V_mk (by omega) hr56)
        have HC181 := Aside0.mk (show y177.length ≤ c0_0 from by omega)
        clear hr56 hC56 hroom56 hi056 hsz56
        have KY56 := Aside0.mk hy56
        clear hy56
        replace q56 := eq_true q56
        refine start_ (n := 13) (S := fun w' => w'.cell? ⟨gb147, 0, none⟩ = some (.slice A0_0 l0_0.length c0_0) ∧ w'.cell? ⟨gb148, 0, none⟩ = some (.string a1_0) ∧ w'.cell? ⟨gb148, 1, none⟩ = some (.string a1_1) ∧ w'.cell? ⟨gb148, 2, none⟩ = some (.string a1_2) ∧ w'.cell? ⟨gb149, 0, none⟩ = some (.string a2_0) ∧ w'.cell? ⟨gb149, 1, none⟩ = some (.string a2_1) ∧ w'.cell? ⟨gb149, 2, none⟩ = some (.string a2_2) ∧ w'.cell? ⟨gb149, 3, none⟩ = some (.string a2_3) ∧ w'.cell? ⟨gb149, 4, none⟩ = some (.int .i64 a2_4) ∧ w'.cell? ⟨gb149, 5, none⟩ = some (.int .i64 a2_5) ∧ w'.cell? ⟨gb149, 6, none⟩ = some (.int .i64 a2_6) ∧ w'.cell? ⟨gb149, 7, none⟩ = some (.bool a2_7) ∧ w'.cell? ⟨gb149, 8, none⟩ = some (.bool a2_8) ∧ w'.cell? ⟨gb149, 9, none⟩ = some (.bool a2_9) ∧ w'.cell? ⟨gb149, 10, none⟩ = some (.int .i64 a2_10)) (ds := []) #[false, false, false, false, false, false, false, false, false, false, false, false, false] (by kernel_rfl) rfl rfl ⟨(blk_cell BK147.out 0).trans rfl, (blk_cell BK148.out 0).trans rfl, (blk_cell BK148.out 1).trans rfl, (blk_cell BK148.out 2).trans rfl, (blk_cell BK149.out 0).trans rfl, (blk_cell BK149.out 1).trans rfl, (blk_cell BK149.out 2).trans rfl, (blk_cell BK149.out 3).trans rfl, (blk_cell BK149.out 4).trans rfl, (blk_cell BK149.out 5).trans rfl, (blk_cell BK149.out 6).trans rfl, (blk_cell BK149.out 7).trans rfl, (blk_cell BK149.out 8).trans rfl, (blk_cell BK149.out 9).trans rfl, (blk_cell BK149.out 10).trans rfl⟩ (fun hHeld => ?_); refine with_tabW api_Cookie_Put.tab5 api_Cookie_Put.bits5 (fun HT_ HW_ => ?_)
        generalize w52.drew = w55 at HO0_0 HO157 BK147 BK148 BK149 BK150 HB HO181 hHeld ⊢
        refine pure_ (i := 0) (N := some 23) (v := ?_) (a' := ?_) #[true, false, false, false, false, false, false, false, false, false, false, false, false] rfl rfl (any_of HT_.out (by kernel_rfl)) (fun _ _ _ h => h) (Or.inl ⟨by rfl, ?_⟩) ?_ ?_
        rotate_left
        · intro w'
          go_simp
          with_reducible rfl
        rotate_left
        · simp only [Act.put, List.setIfInBounds_toArray, List.set_cons_zero, List.set_cons_succ, i64_w, i32_w]
          rfl
        refine pure_ (i := 2) (N := some 25) (v := ?_) (a' := ?_) #[true, false, true, false, false, false, false, false, false, false, false, false, false] rfl rfl (any_of HT_.out (by kernel_rfl)) (fun _ _ _ h => h) (Or.inl ⟨by rfl, ?_⟩) ?_ ?_
        rotate_left
        · intro w'
          go_simp
          with_reducible rfl
        rotate_left
        · simp only [Act.put, List.setIfInBounds_toArray, List.set_cons_zero, List.set_cons_succ, i64_w, i32_w]
          rfl
        refine pure_ (i := 8) (N := some 31) (v := ?_) (a' := ?_) #[true, false, true, false, false, false, false, false, true, false, false, false, false] rfl rfl (any_of HT_.out (by kernel_rfl)) (fun _ _ _ h => h) (Or.inl ⟨by rfl, ?_⟩) ?_ ?_
        rotate_left
        · intro w'
          go_simp
          with_reducible rfl
        rotate_left
        · simp only [Act.put, List.setIfInBounds_toArray, List.set_cons_zero, List.set_cons_succ, i64_w, i32_w]
          rfl
        refine take_ (i := 1) (N := some 24) (v := ?_) (a' := ?_) #[true, true, true, false, false, false, false, false, true, false, false, false, false] rfl rfl (take_ofW HT_.out HW_.out (by kernel_rfl)) (fun _ _ _ h => h) (Or.inl ⟨by rfl, ?_⟩) hHeld ?_ ?_
        rotate_left
        · rintro w' ⟨s0, s1, s2, s3, s4, s5, s6, s7, s8, s9, s10, s11, s12, s13, s14⟩
          go_simp
          with_reducible rfl
        rotate_left
        · simp only [Act.put, List.setIfInBounds_toArray, List.set_cons_zero, List.set_cons_succ, i64_w, i32_w]
          rfl
        refine pure_ (i := 3) (N := some 26) (v := ?_) (a' := ?_) #[true, true, true, true, false, false, false, false, true, false, false, false, false] rfl rfl (any_of HT_.out (by kernel_rfl)) (fun _ _ _ h => h) (Or.inl ⟨by rfl, ?_⟩) ?_ ?_
        rotate_left
        · intro w'
          go_simp
          with_reducible rfl
        rotate_left
        · simp only [Act.put, List.setIfInBounds_toArray, List.set_cons_zero, List.set_cons_succ, i64_w, i32_w]
          rfl
        refine take_ (i := 4) (N := some 27) (v := ?_) (a' := ?_) #[true, true, true, true, true, false, false, false, true, false, false, false, false] rfl rfl (take_ofW HT_.out HW_.out (by kernel_rfl)) (fun _ _ _ h => h) (Or.inl ⟨by rfl, ?_⟩) hHeld ?_ ?_
        rotate_left
        · rintro w' ⟨s0, s1, s2, s3, s4, s5, s6, s7, s8, s9, s10, s11, s12, s13, s14⟩
          go_simp
          with_reducible rfl
        rotate_left
        · simp only [Act.put, List.setIfInBounds_toArray, List.set_cons_zero, List.set_cons_succ, i64_w, i32_w]
          rfl
        refine take_ (i := 5) (N := some 28) (v := ?_) (a' := ?_) #[true, true, true, true, true, true, false, false, true, false, false, false, false] rfl rfl (take_ofW HT_.out HW_.out (by kernel_rfl)) (fun _ _ _ h => h) (Or.inl ⟨by rfl, ?_⟩) hHeld ?_ ?_
        rotate_left
        · rintro w' ⟨s0, s1, s2, s3, s4, s5, s6, s7, s8, s9, s10, s11, s12, s13, s14⟩
          go_simp
          with_reducible rfl
        rotate_left
        · simp only [Act.put, List.setIfInBounds_toArray, List.set_cons_zero, List.set_cons_succ, i64_w, i32_w]
          rfl
        refine pure_ (i := 6) (N := some 29) (v := ?_) (a' := ?_) #[true, true, true, true, true, true, true, false, true, false, false, false, false] rfl rfl (any_of HT_.out (by kernel_rfl)) (fun _ _ _ h => h) (Or.inl ⟨by rfl, ?_⟩) ?_ ?_
        rotate_left
        · intro w'
          go_simp
          with_reducible rfl
        rotate_left
        · simp only [Act.put, List.setIfInBounds_toArray, List.set_cons_zero, List.set_cons_succ, i64_w, i32_w]
          rfl
        refine one_ (i := 7) (N := some 30) #[true, true, true, true, true, true, true, true, true, false, false, false, false] rfl rfl (one_of HT_.out (by kernel_rfl)) (by decide) (fun K hK => ?_)
        refine Kd.R_lit_step k76 _ 76 ?hg (N := 30) ?hd (xs := ([(⟨(⟨a1_0, a1_1, a1_2⟩ : S32), (⟨a2_0, a2_1, a2_2, a2_3, a2_4, a2_5, a2_6, a2_7, a2_8, a2_9, a2_10⟩ : S27)⟩ : S76)] : List (S76))) (inner := [.string a1_0, .string a1_1, .string a1_2, .string a2_0, .string a2_1, .string a2_2, .string a2_3, .int .i64 a2_4, .int .i64 a2_5, .int .i64 a2_6, .bool a2_7, .bool a2_8, .bool a2_9, .int .i64 a2_10]) (ok := fun _ => True) (okp := fun _ => True) ?hr ?hp (fun _ hk => hk) trivial (Below.refl _ _) (Nat.le_refl _) (by simp) ?_; (case hd => rfl); (case hg => rfl); (case hr => first | (go_simp; done) | (go_simp; rfl)); (case hp => exact (Reps.front (show Kd.M k76 _ _ _ (⟨(⟨a1_0, a1_1, a1_2⟩ : S32), (⟨a2_0, a2_1, a2_2, a2_3, a2_4, a2_5, a2_6, a2_7, a2_8, a2_9, a2_10⟩ : S27)⟩ : S76) [.string a1_0, .string a1_1, .string a1_2, .string a2_0, .string a2_1, .string a2_2, .string a2_3, .int .i64 a2_4, .int .i64 a2_5, .int .i64 a2_6, .bool a2_7, .bool a2_8, .bool a2_9, .int .i64 a2_10] from (k76_mkM _ _ _ (⟨(⟨a1_0, a1_1, a1_2⟩ : S32), (⟨a2_0, a2_1, a2_2, a2_3, a2_4, a2_5, a2_6, a2_7, a2_8, a2_9, a2_10⟩ : S27)⟩ : S76) )) rfl (Reps.none _ _) rfl))
        intro v183 w57 ho58 hb hg_ hnew_
        clear hg_ hnew_
        (first | rw [← Ny182.out] at ho58 | (simp only [Int.reduceToNat] at ho58; rw [← Ny182.out] at ho58))
        have n0_ := Aside0.mk (Kd.V_elder' (by (with_reducible repeat (first | apply Kd.V_alloc | apply Kd.V_drewN | apply Kd.V_drew)); exact HO0_0.out) (Kd.R_base ho58) hb)
        have n1_ := Aside0.mk (Kd.V_elder' (by (with_reducible repeat (first | apply Kd.V_alloc | apply Kd.V_drewN | apply Kd.V_drew)); exact HO157.out) (Kd.R_base ho58) hb)
        have n2_ := Aside0.mk (Kd.V_elder' (by (with_reducible repeat (first | apply Kd.V_alloc | apply Kd.V_drewN | apply Kd.V_drew)); exact HO181.out) (Kd.R_base ho58) hb)
        have n3_ := Aside0.mk (Kd.R_lower (Kd.R_newM (M := fun k_ => (w.heap.size ≤ k_)) ho58 (below_size xb) (fun k_ h_ => h_)) (below_size xb))
        have n4_ := blkB BK147 hb
        have n5_ := blkB BK148 hb
        have n6_ := blkB BK149 hb
        have n7_ := blkB BK150 hb
        have n8_ := Aside0.mk (below_step xb hb)
        clear HO0_0
        clear HO157
        clear HO181
        clear BK147
        clear BK148
        clear BK149
        clear BK150
        clear HB
        have HO0_0 := n0_
        have HO157 := n1_
        have HO181 := n2_
        have HO184 := n3_
        have BK147 := n4_
        have BK148 := n5_
        have BK149 := n6_
        have BK150 := n7_
        have HB := n8_
        clear n0_ n1_ n2_ n3_ n4_ n5_ n6_ n7_ n8_
        clear hb ho58
        obtain ⟨Ao59, co59, eo59⟩ := Kd.R_slice HO184.out
        (first | subst eo59 | (injection eo59 with f1_ f2_ f3_; have f4_ := f1_.symm; have f5_ := f3_.symm; clear f1_ f2_ f3_; subst f4_; subst f5_))
        refine hK.out _ _ xc (fun hHeld => ?_)
        clear hK K
        refine norm_ (a' := ?_) ?_ ?_
        rotate_left
        · show Act.put _ (some 30) _ = _
          simp only [Act.put, List.setIfInBounds_toArray, List.set_cons_zero, List.set_cons_succ, i64_w, i32_w]
          rfl
        refine one_ (i := 9) (N := some 32) #[true, true, true, true, true, true, true, true, true, true, false, false, false] rfl rfl (one_of HT_.out (by kernel_rfl)) (by decide) (fun K hK => ?_)
        refine Kd.N_lit_step (Kd.slice 76 k76) _ 42 ?hg (N' := 32) ?hd (xs := ([y177, y182, y153] : List (List (S76)))) (inner := [.slice A0_0 y177.length c0_0, .slice Ao59 y182.length co59, .slice A54 y153.length c54]) (ok := (fun k_ => (P0_0_ k_ ∨ w.heap.size ≤ k_) ∧ k_ ≠ gb147 ∧ k_ ≠ gb148 ∧ k_ ≠ gb149 ∧ k_ ≠ gb150)) (okp := (fun k_ => (P0_0_ k_ ∨ w.heap.size ≤ k_) ∧ k_ ≠ gb147 ∧ k_ ≠ gb148 ∧ k_ ≠ gb149 ∧ k_ ≠ gb150)) ?hr ?hp (fun _ hk => hk) ((show ∀ k_, w57.heap.size ≤ k_ → (fun k_ => (P0_0_ k_ ∨ w.heap.size ≤ k_) ∧ k_ ≠ gb147 ∧ k_ ≠ gb148 ∧ k_ ≠ gb149 ∧ k_ ≠ gb150) k_ from fun k_ hk => ⟨(.inr (Nat.le_trans (below_size xb) hk)), Kd.freshB (g := gb147) (o := .cells #[.slice A0_0 l0_0.length c0_0] 44 (0, 0)) xk k_ hk, Kd.freshB (g := gb148) (o := .cells #[.string a1_0, .string a1_1, .string a1_2] 32 (0, 0)) xk k_ hk, Kd.freshB (g := gb149) (o := .cells #[.string a2_0, .string a2_1, .string a2_2, .string a2_3, .int .i64 a2_4, .int .i64 a2_5, .int .i64 a2_6, .bool a2_7, .bool a2_8, .bool a2_9, .int .i64 a2_10] 27 (0, 0)) xk k_ hk, Kd.freshB (g := gb150) (o := .cells #[.slice none 0 0] 44 (0, 0)) xk k_ hk⟩) _ (Nat.le_refl _)) (Below.refl _ _) (Nat.le_refl _) (by simp) ?_; (case hd => rfl); (case hg => rfl); (case hr => first | (go_simp; done) | (go_simp; rfl)); (case hp => exact (Reps.one (show Kd.FK (Kd.slice 76 k76) _ _ y177 [.slice A0_0 y177.length c0_0] from (Kd.FK_slice_mk (Kd.V_reads' (Kd.V_mono (ok' := (fun k_ => (P0_0_ k_ ∨ w.heap.size ≤ k_) ∧ k_ ≠ gb147 ∧ k_ ≠ gb148 ∧ k_ ≠ gb149 ∧ k_ ≠ gb150)) (HO181.out) (fun k_ hk => ⟨hk.1.1.1.1.1, ⟨hk.1.1.1.1.2, ⟨hk.1.1.1.2, ⟨hk.1.1.2, hk.1.2⟩⟩⟩⟩))).2.1 (Kd.V_F (Kd.V_mono (ok' := (fun k_ => (P0_0_ k_ ∨ w.heap.size ≤ k_) ∧ k_ ≠ gb147 ∧ k_ ≠ gb148 ∧ k_ ≠ gb149 ∧ k_ ≠ gb150)) (HO181.out) (fun k_ hk => ⟨hk.1.1.1.1.1, ⟨hk.1.1.1.1.2, ⟨hk.1.1.1.2, ⟨hk.1.1.2, hk.1.2⟩⟩⟩⟩))))) (Reps.one (show Kd.FK (Kd.slice 76 k76) _ _ y182 [.slice Ao59 y182.length co59] from (Kd.FK_slice_mk (Kd.R_reads' (Kd.R_mono (ok' := (fun k_ => (P0_0_ k_ ∨ w.heap.size ≤ k_) ∧ k_ ≠ gb147 ∧ k_ ≠ gb148 ∧ k_ ≠ gb149 ∧ k_ ≠ gb150)) (Kd.R_types (Kd.R_types (Kd.R_types (Kd.R_types (HO184.out) BK147.out (by decide)) BK148.out (by decide)) BK149.out (by decide)) BK150.out (by decide)) (fun k_ hk => ⟨(.inr (hk.1.1.1.1.1)), ⟨hk.1.1.1.2, ⟨hk.1.1.2, ⟨hk.1.2, hk.2⟩⟩⟩⟩))).2.1 (Kd.R_F (Kd.R_mono (ok' := (fun k_ => (P0_0_ k_ ∨ w.heap.size ≤ k_) ∧ k_ ≠ gb147 ∧ k_ ≠ gb148 ∧ k_ ≠ gb149 ∧ k_ ≠ gb150)) (Kd.R_types (Kd.R_types (Kd.R_types (Kd.R_types (HO184.out) BK147.out (by decide)) BK148.out (by decide)) BK149.out (by decide)) BK150.out (by decide)) (fun k_ hk => ⟨(.inr (hk.1.1.1.1.1)), ⟨hk.1.1.1.2, ⟨hk.1.1.2, ⟨hk.1.2, hk.2⟩⟩⟩⟩))))) (Reps.one (show Kd.FK (Kd.slice 76 k76) _ _ y153 [.slice A54 y153.length c54] from (Kd.FK_slice_mk (Kd.V_reads' (Kd.V_mono (ok' := (fun k_ => (P0_0_ k_ ∨ w.heap.size ≤ k_) ∧ k_ ≠ gb147 ∧ k_ ≠ gb148 ∧ k_ ≠ gb149 ∧ k_ ≠ gb150)) (HO157.out) (fun k_ hk => ⟨hk.1.1.1.1.1, ⟨hk.1.1.1.1.2, ⟨hk.1.1.1.2, ⟨hk.1.1.2, hk.1.2⟩⟩⟩⟩))).2.1 (Kd.V_F (Kd.V_mono (ok' := (fun k_ => (P0_0_ k_ ∨ w.heap.size ≤ k_) ∧ k_ ≠ gb147 ∧ k_ ≠ gb148 ∧ k_ ≠ gb149 ∧ k_ ≠ gb150)) (HO157.out) (fun k_ hk => ⟨hk.1.1.1.1.1, ⟨hk.1.1.1.1.2, ⟨hk.1.1.1.2, ⟨hk.1.1.2, hk.1.2⟩⟩⟩⟩))))) (Reps.none _ _)))))
        intro v186 w60 ho61 hb hg_ hnew_
        clear hg_ hnew_
        (first | rw [← Ny185.out] at ho61 | (simp only [Int.reduceToNat] at ho61; rw [← Ny185.out] at ho61))
        have n0_ := Aside0.mk (Kd.V_elder' (by (with_reducible repeat (first | apply Kd.V_alloc | apply Kd.V_drewN | apply Kd.V_drew)); exact HO0_0.out) (Kd.N_base ho61) hb)
        have n1_ := Aside0.mk (Kd.V_elder' (by (with_reducible repeat (first | apply Kd.V_alloc | apply Kd.V_drewN | apply Kd.V_drew)); exact HO157.out) (Kd.N_base ho61) hb)
        have n2_ := Aside0.mk (Kd.V_elder' (by (with_reducible repeat (first | apply Kd.V_alloc | apply Kd.V_drewN | apply Kd.V_drew)); exact HO181.out) (Kd.N_base ho61) hb)
        have n3_ := Aside0.mk (Kd.N_lower ho61 (below_size xb))
        have n4_ := blkB BK147 hb
        have n5_ := blkB BK148 hb
        have n6_ := blkB BK149 hb
        have n7_ := blkB BK150 hb
        have n8_ := Aside0.mk (below_step xb hb)
        clear HO0_0
        clear HO157
        clear HO181
        clear BK147
        clear BK148
        clear BK149
        clear BK150
        clear HB
        clear HO184
        have HO0_0 := n0_
        have HO157 := n1_
        have HO181 := n2_
        have HO187 := n3_
        have BK147 := n4_
        have BK148 := n5_
        have BK149 := n6_
        have BK150 := n7_
        have HB := n8_
        clear n0_ n1_ n2_ n3_ n4_ n5_ n6_ n7_ n8_
        clear hb ho61
        obtain ⟨Ao62, co62, eo62⟩ := Kd.N_slice HO187.out
        (first | subst eo62 | (injection eo62 with f1_ f2_ f3_; have f4_ := f1_.symm; have f5_ := f3_.symm; clear f1_ f2_ f3_; subst f4_; subst f5_))
        refine hK.out _ _ xc (fun hHeld => ?_)
        clear hK K
        refine norm_ (a' := ?_) ?_ ?_
        rotate_left
        · show Act.put _ (some 32) _ = _
          simp only [Act.put, List.setIfInBounds_toArray, List.set_cons_zero, List.set_cons_succ, i64_w, i32_w]
          rfl
        refine one_ (i := 10) (N := some 33) #[true, true, true, true, true, true, true, true, true, true, true, false, false] rfl rfl (one_of HT_.out (by kernel_rfl)) (by decide) (fun K hK => ?_)
        refine goes_ Tryd.func44 (by kernel_rfl) rfl #[.slice Ao62 y185.length co62] (by rfl) rfl rfl xg ?_
        with_reducible refine (api_Cookie_44.calls k _ _ y185 t188 _ ?side1 ?side2 A40.out).mono ?_
        (case side1 => repeat (first | exact (Kd.N_reads' HO187.out).2.2 | (with_reducible refine Kd.C_alloc ?_ _) | (with_reducible refine Kd.C_drewN ?_ _) | (with_reducible refine Kd.C_drew ?_)))
        (case side2 => exact (Kd.N_reads' HO187.out).2.1)
        rintro e w63 ⟨v189, rfl, ho0, hb⟩
        refine ⟨_, rfl, ?_⟩
        have n0_ := Aside0.mk (Kd.V_elder' (by (with_reducible repeat (first | apply Kd.V_alloc | apply Kd.V_drewN | apply Kd.V_drew)); exact HO0_0.out) (Kd.R_base ho0) hb)
        have n1_ := Aside0.mk (Kd.V_elder' (by (with_reducible repeat (first | apply Kd.V_alloc | apply Kd.V_drewN | apply Kd.V_drew)); exact HO157.out) (Kd.R_base ho0) hb)
        have n2_ := Aside0.mk (Kd.V_elder' (by (with_reducible repeat (first | apply Kd.V_alloc | apply Kd.V_drewN | apply Kd.V_drew)); exact HO181.out) (Kd.R_base ho0) hb)
        have n3_ := Aside0.mk (Kd.N_elder' (by (with_reducible repeat (first | apply Kd.N_alloc | apply Kd.N_drewN | apply Kd.N_drew)); exact HO187.out) (Kd.R_base ho0) hb)
        have n4_ := Aside0.mk (Kd.R_lower (Kd.R_newM (M := fun k_ => (w.heap.size ≤ k_)) ho0 (below_size xb) (fun k_ h_ => h_)) (below_size xb))
        have n5_ := blkB BK147 hb
        have n6_ := blkB BK148 hb
        have n7_ := blkB BK149 hb
        have n8_ := blkB BK150 hb
        have n9_ := Aside0.mk (below_step xb hb)
        clear HO0_0
        clear HO157
        clear HO181
        clear HO187
        clear BK147
        clear BK148
        clear BK149
        clear BK150
        clear HB
        have HO0_0 := n0_
        have HO157 := n1_
        have HO181 := n2_
        have HO187 := n3_
        have HO190 := n4_
        have BK147 := n5_
        have BK148 := n6_
        have BK149 := n7_
        have BK150 := n8_
        have HB := n9_
        clear n0_ n1_ n2_ n3_ n4_ n5_ n6_ n7_ n8_ n9_
        (try clear hb)
        (try clear hb2)
        (try clear hk)
        (try clear hi)
        (try clear ho0)
        obtain ⟨Ao64, co64, eo64⟩ := Kd.R_slice HO190.out
        (first | subst eo64 | (injection eo64 with f1_ f2_ f3_; have f4_ := f1_.symm; have f5_ := f3_.symm; clear f1_ f2_ f3_; subst f4_; subst f5_))
        refine hK.out _ _ xc (fun hHeld => ?_)
        clear hK K
        refine norm_ (a' := ?_) ?_ ?_
        rotate_left
        · show Act.put _ (some 33) _ = _
          simp only [Act.put, List.setIfInBounds_toArray, List.set_cons_zero, List.set_cons_succ, i64_w, i32_w]
          rfl
        refine pure_ (i := 11) (N := some 34) (v := ?_) (a' := ?_) #[true, true, true, true, true, true, true, true, true, true, true, true, false] rfl rfl (any_of HT_.out (by kernel_rfl)) (fun _ _ _ h => h) (Or.inl ⟨by rfl, ?_⟩) ?_ ?_
        rotate_left
        · intro w'
          go_simp
          with_reducible rfl
        rotate_left
        · simp only [Act.put, List.setIfInBounds_toArray, List.set_cons_zero, List.set_cons_succ, i64_w, i32_w]
          rfl
        refine one_ (i := 12) (N := none) #[true, true, true, true, true, true, true, true, true, true, true, true, true] rfl rfl (one_of HT_.out (by kernel_rfl)) (by decide) (fun K hK => ?_)
        have hs65 : w63.cell? ⟨gb150, 0, none⟩ = some (.slice none 0 0) := (blk_cell BK150.out 0).trans rfl
        have hfs65 := blk_frozen BK150.out 0
        have hns65_0 := NB147_150.out
        have hns65_1 := NB148_150.out
        have hns65_2 := NB149_150.out
        have hms65_0 := NB150_147.out
        have hms65_1 := NB150_148.out
        have hms65_2 := NB150_149.out
        refine skip_ (w1 := ?_) (by rfl) rfl ?_ ?_
        rotate_left
        · go_simp
          rfl
        refine hK.out _ _ ⟨((cell_far (p := ⟨gb150, _, none⟩) NB147_150.out _).trans (hHeld.1)), ((cell_far (p := ⟨gb150, _, none⟩) NB148_150.out _).trans (hHeld.2.1)), ((cell_far (p := ⟨gb150, _, none⟩) NB148_150.out _).trans (hHeld.2.2.1)), ((cell_far (p := ⟨gb150, _, none⟩) NB148_150.out _).trans (hHeld.2.2.2.1)), ((cell_far (p := ⟨gb150, _, none⟩) NB149_150.out _).trans (hHeld.2.2.2.2.1)), ((cell_far (p := ⟨gb150, _, none⟩) NB149_150.out _).trans (hHeld.2.2.2.2.2.1)), ((cell_far (p := ⟨gb150, _, none⟩) NB149_150.out _).trans (hHeld.2.2.2.2.2.2.1)), ((cell_far (p := ⟨gb150, _, none⟩) NB149_150.out _).trans (hHeld.2.2.2.2.2.2.2.1)), ((cell_far (p := ⟨gb150, _, none⟩) NB149_150.out _).trans (hHeld.2.2.2.2.2.2.2.2.1)), ((cell_far (p := ⟨gb150, _, none⟩) NB149_150.out _).trans (hHeld.2.2.2.2.2.2.2.2.2.1)), ((cell_far (p := ⟨gb150, _, none⟩) NB149_150.out _).trans (hHeld.2.2.2.2.2.2.2.2.2.2.1)), ((cell_far (p := ⟨gb150, _, none⟩) NB149_150.out _).trans (hHeld.2.2.2.2.2.2.2.2.2.2.2.1)), ((cell_far (p := ⟨gb150, _, none⟩) NB149_150.out _).trans (hHeld.2.2.2.2.2.2.2.2.2.2.2.2.1)), ((cell_far (p := ⟨gb150, _, none⟩) NB149_150.out _).trans (hHeld.2.2.2.2.2.2.2.2.2.2.2.2.2.1)), ((cell_far (p := ⟨gb150, _, none⟩) NB149_150.out _).trans (hHeld.2.2.2.2.2.2.2.2.2.2.2.2.2.2))⟩ (fun hHeld => ?_)
        clear hK K
        refine done_ (done_of HT_.out (by kernel_rfl)) ?_
        try go_wp2
        refine bodyPost_ret (results_cell_row rfl _ _ gb150 44 #[.slice Ao64 t188.length co64] (0, 0) _ rfl xk Tryd.underlying44 rfl (by kernel_rfl)) rfl ?_
        exact ⟨_, by first | rfl | (simp [errW_none, errW_some] <;> rfl) | (simp [*, errW_none, errW_some] <;> rfl), by (with_reducible repeat (first | apply Kd.R_alloc | apply Kd.R_drewN | apply Kd.R_drew)); exact Kd.R_mono (Kd.R_far (p := ⟨gb150, 0, none⟩) (Kd.R_types HO190.out BK150.out (by decide)) (fun _ hk => hk.2) (.slice Ao64 t188.length co64)) (fun _ hk => hk.1.1), by repeat (first | (with_reducible first | exact HB.out | apply below_alloc | apply pw_below_drewN | apply below_drew1 | refine below_set ?_ GE147.out | refine below_set ?_ GE148.out | refine below_set ?_ GE149.out | refine below_set ?_ GE150.out) | exact HB.out)⟩
    · rw [if_neg c6] at H
      exact absurd H (by simp)
  · rw [if_neg c5] at H
    exact absurd H (by simp)

end Go.Proofs.YtccmackhhppbdaaDoor.Print
