/- Printed by a program of this claim's session (xprint.py): the machine's side: each Go function as a Lean function, and that a call of it comes to what that tells; the row of a statement. No condition. -/
import Derived.Test.YtmpccjkdfdgedaaPrint0
import Derived.Test.YtmpccjkdfdgedaaGtable
import Derived.Test.YtmpccjkdfdgedaaGgrow
namespace Go.Proofs.Ytmpccjkdfdgedaa.Print
open Go.RowKit Go.Proofs.YtmpccjkdfdgedaaW.PrintWords Go.Proofs.YtmpccjkdfdgedaaW.PrintLast Go.Proofs.YtmpccjkdfdgedaaW.PrintMore
attribute [local go_sem] max2_int min2_int max_two min_two max_three min_three max_four min_four   -- for this text's walks alone
set_option linter.unusedVariables false
set_option linter.unusedSimpArgs false

/-! ### cracknellaw14_Int_int_30: function 30 -/
mutual
def cracknellaw14_Int_int_30.l0 : Nat → List (List (S65)) → Int → List (List (S65)) → Int → Int → Option ((List (S65)))
  | 0, _, _, _, _, _ => none
  | k + 1, x0, x3, x9, x10, x11 => if x11 < x10 then (if 0 ≤ x11 then (if x11 < (x9.length : Int) then (if (wrap64 (x3 + ((rd_L3 x9 x11).length : Int))) < 0 then (none) else (cracknellaw14_Int_int_30.l0 k x0 (wrap64 (x3 + ((rd_L3 x9 x11).length : Int))) x9 x10 (wrap64 (x11 + 1)))) else (none)) else (none)) else ((slices_Grow_Int.f ([] : List (S65)) x3).bind fun t102 => (cracknellaw14_Int_int_30.l1 k t102 x0 (x0.length : Int) 0))
def cracknellaw14_Int_int_30.l1 : Nat → List (S65) → List (List (S65)) → Int → Int → Option ((List (S65)))
  | 0, _, _, _, _ => none
  | k + 1, x6, x25, x26, x27 => if x27 < x26 then (if 0 ≤ x27 then (if x27 < (x25.length : Int) then (if x6.length + (rd_L3 x25 x27).length < 8796093022208 then (cracknellaw14_Int_int_30.l1 k (x6 ++ (rd_L3 x25 x27)) x25 x26 (wrap64 (x27 + 1))) else (none)) else (none)) else (none)) else (some x6)
end
def cracknellaw14_Int_int_30.f (k : Nat) (l0 : List (List (S65))) : Option ((List (S65))) := cracknellaw14_Int_int_30.l0 k l0 0 l0 (l0.length : Int) 0
theorem cracknellaw14_Int_int_30.mono_l : ∀ k, (∀ y0 y1 y2 y3 y4, LeO (cracknellaw14_Int_int_30.l0 k y0 y1 y2 y3 y4) (cracknellaw14_Int_int_30.l0 (k + 1) y0 y1 y2 y3 y4)) ∧ (∀ y0 y1 y2 y3, LeO (cracknellaw14_Int_int_30.l1 k y0 y1 y2 y3) (cracknellaw14_Int_int_30.l1 (k + 1) y0 y1 y2 y3))
  | 0 => ⟨fun _ _ _ _ _ r h => by simp [cracknellaw14_Int_int_30.l0] at h, fun _ _ _ _ r h => by simp [cracknellaw14_Int_int_30.l1] at h⟩
  | k + 1 => by
    obtain ⟨ih0, ih1⟩ := cracknellaw14_Int_int_30.mono_l k
    refine ⟨?_, ?_⟩
    · intro y0 y1 y2 y3 y4
      unfold cracknellaw14_Int_int_30.l0
      repeat' first
      | (with_reducible exact ih0 _ _ _ _ _)
      | (with_reducible exact ih1 _ _ _ _)
      | (with_reducible exact LeO.refl _)
      | (with_reducible exact LeO.none _)
      | (with_reducible refine LeO.ite ?_ ?_)
      | (with_reducible refine LeO.bind ?_ (fun _ => ?_))
      | exact ih0 _ _ _ _ _
      | exact ih1 _ _ _ _
      | exact LeO.none _
      | refine LeO.ite ?_ ?_
      | refine LeO.bind ?_ (fun _ => ?_)
    · intro y0 y1 y2 y3
      unfold cracknellaw14_Int_int_30.l1
      repeat' first
      | (with_reducible exact ih0 _ _ _ _ _)
      | (with_reducible exact ih1 _ _ _ _)
      | (with_reducible exact LeO.refl _)
      | (with_reducible exact LeO.none _)
      | (with_reducible refine LeO.ite ?_ ?_)
      | (with_reducible refine LeO.bind ?_ (fun _ => ?_))
      | exact ih0 _ _ _ _ _
      | exact ih1 _ _ _ _
      | exact LeO.none _
      | refine LeO.ite ?_ ?_
      | refine LeO.bind ?_ (fun _ => ?_)
theorem cracknellaw14_Int_int_30.mono : ∀ a0 k, LeO (cracknellaw14_Int_int_30.f k a0) (cracknellaw14_Int_int_30.f (k + 1) a0) := by
  intro a0 k
  obtain ⟨ih0, ih1⟩ := cracknellaw14_Int_int_30.mono_l k
  unfold cracknellaw14_Int_int_30.f
  repeat' first
      | (with_reducible exact ih0 _ _ _ _ _)
      | (with_reducible exact ih1 _ _ _ _)
      | (with_reducible exact LeO.refl _)
      | (with_reducible exact LeO.none _)
      | (with_reducible refine LeO.ite ?_ ?_)
      | (with_reducible refine LeO.bind ?_ (fun _ => ?_))
      | exact ih0 _ _ _ _ _
      | exact ih1 _ _ _ _
      | exact LeO.none _
      | refine LeO.ite ?_ ?_
      | refine LeO.bind ?_ (fun _ => ?_)
set_option maxHeartbeats 8000000 in
set_option maxRecDepth 100000 in
theorem cracknellaw14_Int_int_30.calls (k : Nat) (A0 : Option Addr) (c0 : Nat) (l0 : List (List (S65))) (r : List (S65)) (w : World) (hr0 : Kd.C (Kd.slice 65 k65) w A0 l0.length l0) (hc0 : l0.length ≤ c0) (h : cracknellaw14_Int_int_30.f k l0 = some r) :
    Calls Try.prog 30 #[.slice A0 l0.length c0] w fun e w' => ∃ v0_ : Value, e = .returned (v0_) ∧ Kd.R k65 65 w' w.heap.size (fun _ => True) v0_ r ∧ Below w.heap.size w w' := by
  have HR0 := Aside0.mk hr0
  have HC0 := Aside0.mk hc0
  clear hr0 hc0
  have HB := Aside0.mk (Below.refl w.heap.size w)
  have H : (cracknellaw14_Int_int_30.l0 k l0 0 l0 (l0.length : Int) 0) = some r := h
  clear h
  have H' := Aside0.mk H
  clear H
  go_enter Try.func30, Try.ntmps30
  go_wp2
  go_loopg [3, 11] k (fun kq v3 v11 w' => ∃ (x3_1 : Int) (x11_1 : Int), v3 = .int .i64 x3_1 ∧ v11 = .int .i64 x11_1 ∧ Aside0 (cracknellaw14_Int_int_30.l0 kq l0 x3_1 l0 (l0.length : Int) x11_1 = some r) ∧ Aside0 (kq ≤ k) ∧ Aside0 (Below w.heap.size w w'))
  case atStart => exact ⟨(0), (0), (by first | rfl | (simp; done) | (simp [*]; done)), (by first | rfl | (simp; done) | (simp [*]; done)), H', ⟨Nat.le_refl _⟩, ⟨xb⟩⟩
  case round =>
    clear H'
    obtain ⟨x3_1, x11_1, rfl, rfl, HA, HK1, HB⟩ := hrel
    cases gk with
    | zero => exact absurd HA.out (by simp [cracknellaw14_Int_int_30.l0])
    | succ k1 =>
      have H := HA.out
      clear HA
      simp only [cracknellaw14_Int_int_30.l0] at H
      by_cases c2 : x11_1 < (l0.length : Int)
      · rw [if_pos c2] at H
        have c2b0 : decide (x11_1 < (l0.length : Int)) = true := decide_eq_true c2
        clear c2
        by_cases c3 : 0 ≤ x11_1
        · rw [if_pos c3] at H
          have c3b0 : decide (0 ≤ x11_1) = true := decide_eq_true c3
          clear c3
          by_cases c4 : x11_1 < (l0.length : Int)
          · rw [if_pos c4] at H
            have c4b0 : decide (x11_1 < (l0.length : Int)) = true := decide_eq_true c4
            clear c4
            by_cases c5 : (wrap64 (x3_1 + ((rd_L3 l0 x11_1).length : Int))) < 0
            · rw [if_pos c5] at H
              exact absurd H (by simp)
            · rw [if_neg c5] at H
              have c5b0 : decide ((wrap64 (x3_1 + ((rd_L3 l0 x11_1).length : Int))) < 0) = false := decide_eq_false c5
              clear c5
              have H' := Aside0.mk H
              clear H
              have p101 : 0 ≤ (x11_1 : Int) := of_decide_eq_true (by first | (with_reducible assumption) | assumption)
              have q101 : x11_1 < (l0.length : Int) := of_decide_eq_true (by first | (with_reducible assumption) | assumption)
              obtain ⟨ad101, A101_0, c101_0, e101, hx101_0, hl101_0, hi101_0⟩ := at_L3 HR0.out x11_1 p101 q101
              cases e101
              replace hx101_0 := (HB.out.cell (World.block_lt_of_cell? w _ hx101_0)).trans hx101_0
              have HR101_0 := Aside0.mk hi101_0
              have HC101_0 := Aside0.mk hl101_0
              clear hi101_0 hl101_0
              replace p101 := eq_true p101
              replace q101 := eq_true q101
              go_wp2
              go_roundg k1
              case measure => have := HK1.out; omega
              case rel => exact ⟨(wrap64 (x3_1 + ((rd_L3 l0 x11_1).length : Int))), (wrap64 (x11_1 + 1)), (by first | rfl | (simp; done) | (simp [*]; done)), (by first | rfl | (simp; done) | (simp [*]; done)), H', ⟨by have := HK1.out; omega⟩, ⟨xb⟩⟩
          · rw [if_neg c4] at H
            exact absurd H (by simp)
        · rw [if_neg c3] at H
          exact absurd H (by simp)
      · rw [if_neg c2] at H
        have c2b0 : decide (x11_1 < (l0.length : Int)) = false := decide_eq_false c2
        clear c2
        replace H := Option.bind_eq_some_iff.mp H
        obtain ⟨t102, A60, H⟩ := H
        replace H : (cracknellaw14_Int_int_30.l1 k1 t102 l0 (l0.length : Int) 0) = some r := H
        have A6 := Aside0.mk A60
        clear A60
        have H' := Aside0.mk H
        clear H
        go_wp2_with (first | ((with_reducible refine gate_callee (f := 36) rfl ?_); refine goesL_ (some 24) rfl rfl Try.func36 (by kernel_rfl) rfl #[.slice none 0 0, .int .i64 x3_1] rfl xg ?_; (refine (slices_Grow_Int.calls _ _ ([] : List (S65)) x3_1 t102 _ ?side1 ?side2 A6.out).mono ?_); (case side1 => exact Kd.C_nil _ _); (case side2 => exact Nat.le_refl _); rintro e w7 ⟨v103, rfl, ho0, hb⟩; refine ⟨_, rfl, ?_⟩; have n0_ := Aside0.mk (Kd.R_lower ho0 (below_size xb)); have n1_ := Aside0.mk (below_step xb hb); clear HB; have HO104 := n0_; have HB := n1_; clear n0_ n1_; (try clear hb); (try clear hb2); (try clear hk); (try clear hi); (try clear ho0)))
        go_loopg [6, 27] k1 (fun kq v6 v27 w' => ∃ (x6_2 : List (S65)) (x27_2 : Int), v27 = .int .i64 x27_2 ∧ Aside0 (cracknellaw14_Int_int_30.l1 kq x6_2 l0 (l0.length : Int) x27_2 = some r) ∧ Aside0 (kq ≤ k1) ∧ Aside0 (Kd.R k65 65 w' w.heap.size (fun _ => True) v6 x6_2) ∧ Aside0 (Below w.heap.size w w'))
        case atStart => exact ⟨(t102), (0), (by first | rfl | (simp; done) | (simp [*]; done)), H', ⟨Nat.le_refl _⟩, ⟨by (with_reducible repeat (first | apply Kd.R_alloc | apply Kd.R_drewN | apply Kd.R_drew)); exact HO104.out⟩, ⟨xb⟩⟩
        case round =>
          clear H'
          try clear c1
          try clear p1
          try clear q1
          try clear hx1
          try clear c2
          try clear c2b0
          try clear p2
          try clear c3
          try clear c3b0
          try clear p3
          try clear c4
          try clear c4b0
          try clear c5
          try clear c5b0
          try clear p6
          try clear hx101_0
          try clear p101
          try clear q101
          obtain ⟨x6_2, x27_2, rfl, HA, HK2, HO_6, HB⟩ := hrel
          cases gk with
          | zero => exact absurd HA.out (by simp [cracknellaw14_Int_int_30.l1])
          | succ k2 =>
            have H := HA.out
            clear HA
            simp only [cracknellaw14_Int_int_30.l1] at H
            by_cases c8 : x27_2 < (l0.length : Int)
            · rw [if_pos c8] at H
              have c8b0 : decide (x27_2 < (l0.length : Int)) = true := decide_eq_true c8
              clear c8
              by_cases c9 : 0 ≤ x27_2
              · rw [if_pos c9] at H
                have c9b0 : decide (0 ≤ x27_2) = true := decide_eq_true c9
                clear c9
                by_cases c10 : x27_2 < (l0.length : Int)
                · rw [if_pos c10] at H
                  have c10b0 : decide (x27_2 < (l0.length : Int)) = true := decide_eq_true c10
                  clear c10
                  by_cases c11 : x6_2.length + (rd_L3 l0 x27_2).length < 8796093022208
                  · rw [if_pos c11] at H
                    have LMc11 := Aside0.mk c11
                    clear c11
                    obtain ⟨y106, hy106⟩ : ∃ y_ : List (S65), y_ = (x6_2 ++ (rd_L3 l0 x27_2)) := ⟨_, rfl⟩
                    replace H : (cracknellaw14_Int_int_30.l1 k2 y106 l0 (l0.length : Int) (wrap64 (x27_2 + 1))) = some r := by first | (rw [hy106]; with_reducible exact H) | (have H2_ := (Option.bind_some _ _).symm.trans H; rw [hy106]; with_reducible exact H2_) | (have H2_ := (Option.bind_some _ _).symm.trans H; with_reducible exact H2_) | with_reducible exact H | (rw [hy106]; exact H) | exact H
                    have Ny106 := Aside0.mk hy106
                    clear hy106
                    have H' := Aside0.mk H
                    clear H
                    have p105 : 0 ≤ (x27_2 : Int) := of_decide_eq_true (by first | (with_reducible assumption) | assumption)
                    have q105 : x27_2 < (l0.length : Int) := of_decide_eq_true (by first | (with_reducible assumption) | assumption)
                    obtain ⟨ad105, A105_0, c105_0, e105, hx105_0, hl105_0, hi105_0⟩ := at_L3 HR0.out x27_2 p105 q105
                    cases e105
                    replace hx105_0 := (HB.out.cell (World.block_lt_of_cell? w _ hx105_0)).trans hx105_0
                    have HR105_0 := Aside0.mk hi105_0
                    have HC105_0 := Aside0.mk hl105_0
                    clear hi105_0 hl105_0
                    replace p105 := eq_true p105
                    replace q105 := eq_true q105
                    go_wp2_with (first | ((with_reducible refine gate_builtin (b := .append) (xs := #[.tmp 31, .tmp 32]) rfl ?_); at_builtin; refine Kd.R_append_rows k65 (w0 := w) w.heap.size rfl (.tmp 31) (.tmp 32) 25 65 (.agg #[(.int .i64 0), (.int .i64 0)]) 16 rfl Try.underlying25 info65 rfl (by decide) (by omega) u6 x6_2 (rd_L3 l0 x27_2) _ _ _ (fun _ => True) (fun _ => False) rfl rfl ?aO ?aR (fun _ _ h => h) (fun _ h => h.elim) ?aF ?aB ?aS ?aL ?_; (case aR => repeat (first | exact (Kd.C_below HR105_0.out HB.out) | (with_reducible refine Kd.C_alloc ?_ _) | (with_reducible refine Kd.C_drewN ?_ _) | (with_reducible refine Kd.C_drew ?_))); (case aB => exact xb); (case aF => exact (fun _ _ => trivial)); (case aO => exact (by (with_reducible repeat (first | apply Kd.R_alloc | apply Kd.R_drewN | apply Kd.R_drew)); exact HO_6.out)); (case aS => exact (below_size xb)); (case aL => have := LMc11.out; omega); intro v107 w12 ho hb hg hat; rw [← Ny106.out] at ho; have n0_ := Aside0.mk (hb); have n1_ := Aside0.mk (ho); clear HB; clear HO_6; have HB := n0_; have HO108 := n1_; clear n0_ n1_; clear ho hb hg hat))
                    go_roundg k2
                    case measure => have := HK1.out; have := HK2.out; omega
                    case rel => exact ⟨(y106), (wrap64 (x27_2 + 1)), (by first | rfl | (simp; done) | (simp [*]; done)), H', ⟨by have := HK1.out; have := HK2.out; omega⟩, ⟨by (with_reducible repeat (first | apply Kd.R_alloc | apply Kd.R_drewN | apply Kd.R_drew)); exact HO108.out⟩, ⟨xb⟩⟩
                  · rw [if_neg c11] at H
                    exact absurd H (by simp)
                · rw [if_neg c10] at H
                  exact absurd H (by simp)
              · rw [if_neg c9] at H
                exact absurd H (by simp)
            · rw [if_neg c8] at H
              have c8b0 : decide (x27_2 < (l0.length : Int)) = false := decide_eq_false c8
              clear c8
              obtain rfl := Option.some.inj H
              go_wp2
              go_ret
              exact ⟨_, by first | rfl | (simp [errW_none, errW_some] <;> rfl) | (simp [*, errW_none, errW_some] <;> rfl), by (with_reducible repeat (first | apply Kd.R_alloc | apply Kd.R_drewN | apply Kd.R_drew)); exact HO_6.out, by repeat (first | (with_reducible first | exact HB.out | apply below_alloc | apply pw_below_drewN | apply below_drew1) | exact HB.out)⟩

/-! ### cracknellaw14_Int_int_Drop: function 15 -/
def cracknellaw14_Int_int_Drop.f (k : Nat) (l0_0 : List (S65)) (a1 : Int) : Option ((List (S65)) × Bool) := (table_place_Int.f l0_0 a1).bind fun bt111 => (if bt111.2 = true then (if 0 ≤ bt111.1 then (if bt111.1 ≤ (l0_0.length : Int) then (if 0 ≤ (wrap64 (bt111.1 + 1)) then (if (wrap64 (bt111.1 + 1)) ≤ (l0_0.length : Int) then ((cracknellaw14_Int_int_30.f k (([(l0_0.take (bt111.1 : Int).toNat), (l0_0.drop ((wrap64 (bt111.1 + 1)) : Int).toNat)] : List (List (S65))))).bind fun t126 => (some (t126, true))) else (none)) else (none)) else (none)) else (none)) else (some (l0_0, false)))
theorem cracknellaw14_Int_int_Drop.mono : ∀ a0 a1 k, LeO (cracknellaw14_Int_int_Drop.f k a0 a1) (cracknellaw14_Int_int_Drop.f (k + 1) a0 a1) := by
  intro a0 a1 k
  unfold cracknellaw14_Int_int_Drop.f
  repeat' first
      | (with_reducible exact cracknellaw14_Int_int_30.mono _ _)
      | (with_reducible exact LeO.refl _)
      | (with_reducible exact LeO.none _)
      | (with_reducible refine LeO.ite ?_ ?_)
      | (with_reducible refine LeO.bind ?_ (fun _ => ?_))
      | exact cracknellaw14_Int_int_30.mono _ _
      | exact LeO.none _
      | refine LeO.ite ?_ ?_
      | refine LeO.bind ?_ (fun _ => ?_)
def cracknellaw14_Int_int_Drop.T4 : Bool × List (List Nat × List Nat) := (true, [([], []), ([0], [0]), ([], []), ([1, 2], [1, 2]), ([], []), ([4], [4]), ([], []), ([6], [6]), ([5, 7], [5, 7]), ([3, 8], [3, 8]), ([9], [9]), ([10], [10]), ([11, 10, 0, 1, 2, 3, 4, 5, 6, 7, 8, 9, 10, 11], [11]), ([12, 0, 1, 2, 3, 4, 5, 6, 7, 8, 9, 10, 11, 12], [])])
def cracknellaw14_Int_int_Drop.B4 : List Nat := [0, 1, 0, 7, 0, 16, 0, 64, 240, 511, 1023, 2047, 4095, 8191]
theorem cracknellaw14_Int_int_Drop.tab4 : rtab .any (opsOf Try.f15 4) = cracknellaw14_Int_int_Drop.T4 := by kernel_rfl
theorem cracknellaw14_Int_int_Drop.bits4 : waitsOk cracknellaw14_Int_int_Drop.T4.2 cracknellaw14_Int_int_Drop.B4 = true := by kernel_rfl
set_option maxHeartbeats 8000000 in
set_option maxRecDepth 100000 in
theorem cracknellaw14_Int_int_Drop.calls (k : Nat) (P0_0_ : Nat → Prop) (A0_0 : Option Addr) (c0_0 : Nat) (l0_0 : List (S65)) (a1 : Int) (r1 : List (S65)) (r2 : Bool) (w : World) (hs0_0 : Kd.V k65 65 w w.heap.size (fun k_ => P0_0_ k_) (.slice A0_0 l0_0.length c0_0) l0_0) (h : cracknellaw14_Int_int_Drop.f k l0_0 a1 = some (r1, r2)) :
    Calls Try.prog 15 #[.agg #[.slice A0_0 l0_0.length c0_0], .int .i64 a1] w fun e w' => ∃ v0_ : Value, e = .returned (.tuple #[.agg #[v0_], .bool r2]) ∧ Kd.V k65 65 w' w.heap.size (fun k_ => (P0_0_ k_ ∨ w.heap.size ≤ k_)) v0_ r1 ∧ Below w.heap.size w w' := by
  have hu27 := Try.underlying27
  have HO0_0 := Aside0.mk (show Kd.V k65 65 w w.heap.size (fun k_ => (P0_0_ k_ ∨ w.heap.size ≤ k_)) (.slice A0_0 l0_0.length c0_0) l0_0 from Kd.V_mono hs0_0 (fun k_ hk => .inl hk))
  have HB := Aside0.mk (Below.refl w.heap.size w)
  have H : ((table_place_Int.f l0_0 a1).bind fun bt111 => (if bt111.2 = true then (if 0 ≤ bt111.1 then (if bt111.1 ≤ (l0_0.length : Int) then (if 0 ≤ (wrap64 (bt111.1 + 1)) then (if (wrap64 (bt111.1 + 1)) ≤ (l0_0.length : Int) then ((cracknellaw14_Int_int_30.f k (([(l0_0.take (bt111.1 : Int).toNat), (l0_0.drop ((wrap64 (bt111.1 + 1)) : Int).toNat)] : List (List (S65))))).bind fun t126 => (some (t126, true))) else (none)) else (none)) else (none)) else (none)) else (some (l0_0, false)))) = some (r1, r2) := h
  clear h
  replace H := Option.bind_eq_some_iff.mp H
  obtain ⟨⟨t111, t112⟩, A30, H⟩ := H
  replace H : (if t112 = true then (if 0 ≤ t111 then (if t111 ≤ (l0_0.length : Int) then (if 0 ≤ (wrap64 (t111 + 1)) then (if (wrap64 (t111 + 1)) ≤ (l0_0.length : Int) then ((cracknellaw14_Int_int_30.f k (([(l0_0.take (t111 : Int).toNat), (l0_0.drop ((wrap64 (t111 + 1)) : Int).toNat)] : List (List (S65))))).bind fun t126 => (some (t126, true))) else (none)) else (none)) else (none)) else (none)) else (some (l0_0, false))) = some (r1, r2) := H
  have A3 := Aside0.mk A30
  clear A30
  by_cases c4 : t112 = true
  · subst c4
    have H1 : (if 0 ≤ t111 then (if t111 ≤ (l0_0.length : Int) then (if 0 ≤ (wrap64 (t111 + 1)) then (if (wrap64 (t111 + 1)) ≤ (l0_0.length : Int) then ((cracknellaw14_Int_int_30.f k (([(l0_0.take (t111 : Int).toNat), (l0_0.drop ((wrap64 (t111 + 1)) : Int).toNat)] : List (List (S65))))).bind fun t126 => (some (t126, true))) else (none)) else (none)) else (none)) else (none)) = some (r1, r2) := by rw [if_pos rfl] at H; exact H
    clear H
    have H := H1
    clear H1
    by_cases c5 : 0 ≤ t111
    · rw [if_pos c5] at H
      have c5b0 := eq_true c5
      have c5b1 : decide (0 ≤ t111) = true := decide_eq_true c5
      clear c5
      by_cases c6 : t111 ≤ (l0_0.length : Int)
      · rw [if_pos c6] at H
        have c6b0 := eq_true c6
        have c6b1 : decide (t111 ≤ (l0_0.length : Int)) = true := decide_eq_true c6
        clear c6
        obtain ⟨y113, hy113⟩ : ∃ y_ : List (S65), y_ = (l0_0.take (t111 : Int).toNat) := ⟨_, rfl⟩
        replace H : (if 0 ≤ (wrap64 (t111 + 1)) then (if (wrap64 (t111 + 1)) ≤ (l0_0.length : Int) then ((cracknellaw14_Int_int_30.f k (([y113, (l0_0.drop ((wrap64 (t111 + 1)) : Int).toNat)] : List (List (S65))))).bind fun t126 => (some (t126, true))) else (none)) else (none)) = some (r1, r2) := by first | (rw [hy113]; with_reducible exact H) | (have H2_ := (Option.bind_some _ _).symm.trans H; rw [hy113]; with_reducible exact H2_) | (have H2_ := (Option.bind_some _ _).symm.trans H; with_reducible exact H2_) | with_reducible exact H | (rw [hy113]; exact H) | exact H
        have Ny113 := Aside0.mk hy113
        clear hy113
        obtain ⟨ji7, hji7⟩ : ∃ j_ : Int, (wrap64 (t111 + 1)) = j_ := ⟨_, rfl⟩
        replace H : (if 0 ≤ (ji7) then (if (ji7) ≤ (l0_0.length : Int) then ((cracknellaw14_Int_int_30.f k (([y113, (l0_0.drop ((ji7) : Int).toNat)] : List (List (S65))))).bind fun t126 => (some (t126, true))) else (none)) else (none)) = some (r1, r2) := by first | (rw [hji7] at H; exact H) | (simp only [hji7] at H ⊢; exact H)
        (try rw [hji7] at A3)
        have hji7w : (IntKind.i64.wrap (t111 + 1)) = ji7 := (i64_w _).trans hji7
        by_cases c8 : 0 ≤ (ji7)
        · rw [if_pos c8] at H
          have c8b0 := eq_true c8
          have c8b1 : decide (0 ≤ (ji7)) = true := decide_eq_true c8
          clear c8
          by_cases c9 : (ji7) ≤ (l0_0.length : Int)
          · rw [if_pos c9] at H
            have c9b0 := eq_true c9
            have c9b1 : decide ((ji7) ≤ (l0_0.length : Int)) = true := decide_eq_true c9
            clear c9
            obtain ⟨y118, hy118⟩ : ∃ y_ : List (S65), y_ = (l0_0.drop ((ji7) : Int).toNat) := ⟨_, rfl⟩
            replace H : ((cracknellaw14_Int_int_30.f k (([y113, y118] : List (List (S65))))).bind fun t126 => (some (t126, true))) = some (r1, r2) := by first | (rw [hy118]; with_reducible exact H) | (have H2_ := (Option.bind_some _ _).symm.trans H; rw [hy118]; with_reducible exact H2_) | (have H2_ := (Option.bind_some _ _).symm.trans H; with_reducible exact H2_) | with_reducible exact H | (rw [hy118]; exact H) | exact H
            have Ny118 := Aside0.mk hy118
            clear hy118
            obtain ⟨y123, hy123⟩ : ∃ y_ : List (List (S65)), y_ = (([y113, y118] : List (List (S65)))) := ⟨_, rfl⟩
            replace H : ((cracknellaw14_Int_int_30.f k y123).bind fun t126 => (some (t126, true))) = some (r1, r2) := by first | (rw [hy123]; with_reducible exact H) | (have H2_ := (Option.bind_some _ _).symm.trans H; rw [hy123]; with_reducible exact H2_) | (have H2_ := (Option.bind_some _ _).symm.trans H; with_reducible exact H2_) | with_reducible exact H | (rw [hy123]; exact H) | exact H
            have Ny123 := Aside0.mk hy123
            clear hy123
            replace H := Option.bind_eq_some_iff.mp H
            obtain ⟨t126, A100, H⟩ := H
            replace H : (some (t126, true)) = some (r1, r2) := H
            have A10 := Aside0.mk A100
            clear A100
            simp only [Option.some.injEq, Prod.mk.injEq] at H
            obtain ⟨rfl, rfl⟩ := H
            go_enter Try.func15, Try.ntmps15
            try go_wp2_with (first | ((with_reducible refine gate_dst (N := 2) rfl ?_); refine box_event ?hg (N := 2) ?hd (cs := #[.slice A0_0 l0_0.length c0_0]) (t := 27) ?hr ?_; (case hd => rfl); (case hg => rfl); (case hr => first | (go_simp; done) | (go_simp; rfl)); intro gb109 hg w11 hbox hb; have n0_ := Aside0.mk (Kd.V_below (Kd.V_elderB (by (with_reducible repeat (first | apply Kd.V_alloc | apply Kd.V_drewN | apply Kd.V_drew)); exact HO0_0.out) gb109 (Nat.le_of_eq hg.symm)) hb); have n1_ := Aside0.mk (below_step xb hb); have n2_ := Aside0.mk (hbox); have n3_ := Aside0.mk ((by rw [hg]; exact (below_size xb) : w.heap.size ≤ gb109)); have n4_ := Aside0.mk ((by rw [hg]; exact (below_size xb) : w.heap.size ≤ gb109)); clear HO0_0; clear HB; have HO0_0 := n0_; have HB := n1_; have BK109 := n2_; have GW109 := n3_; have GE109 := n4_; clear n0_ n1_ n2_ n3_ n4_; clear hb hbox hg) | ((with_reducible refine gate_dst (N := 4) rfl ?_); refine box_event ?hg (N := 4) ?hd (cs := #[.slice none 0 0]) (t := 27) ?hr ?_; (case hd => rfl); (case hg => rfl); (case hr => first | (go_simp; done) | (go_simp; rfl)); intro gb110 hg w12 hbox hb; have n0_ := Aside0.mk (Kd.V_below (Kd.V_elderB (by (with_reducible repeat (first | apply Kd.V_alloc | apply Kd.V_drewN | apply Kd.V_drew)); exact HO0_0.out) gb110 (Nat.le_of_eq hg.symm)) hb); have n1_ := blkB BK109 hb; have n2_ := Aside0.mk (below_step xb hb); have n3_ := Aside0.mk (hbox); have n4_ := Aside0.mk ((by rw [hg]; exact (below_size xb) : w.heap.size ≤ gb110)); have n5_ := Aside0.mk ((by rw [hg]; exact (below_size xb) : w.heap.size ≤ gb110)); have n6_ := Aside0.mk ((by rw [hg]; exact Nat.ne_of_lt (blkL BK109) : gb109 ≠ gb110)); have n7_ := Aside0.mk ((by rw [hg]; exact Nat.ne_of_gt (blkL BK109) : gb110 ≠ gb109)); clear HO0_0; clear BK109; clear HB; have HO0_0 := n0_; have BK109 := n1_; have HB := n2_; have BK110 := n3_; have GW110 := n4_; have GE110 := n5_; have NB109_110 := n6_; have NB110_109 := n7_; clear n0_ n1_ n2_ n3_ n4_ n5_ n6_ n7_; clear hb hbox hg; have hnb13 := NB109_110.out; have hnc13 := NB110_109.out; have hcz14_0 : w12.cell? ⟨gb109, 0, none⟩ = some (.slice A0_0 l0_0.length c0_0) := (blk_cell BK109.out 0).trans rfl; have hfz14_0 := blk_frozen BK109.out 0) | ((with_reducible refine gate_callee (f := 29) rfl ?_); refine goesL_ (some 11) rfl rfl Try.func29 (by kernel_rfl) rfl #[.agg #[.slice A0_0 l0_0.length c0_0], .int .i64 a1] rfl xg ?_; (with_reducible refine (table_place_Int.calls _ _ l0_0 a1 t111 true _ ?side1 ?side2 A3.out).mono ?_); (case side1 => repeat (first | exact (Kd.V_reads' HO0_0.out).2.2 | (with_reducible refine Kd.C_alloc ?_ _) | (with_reducible refine Kd.C_drewN ?_ _) | (with_reducible refine Kd.C_drew ?_))); (case side2 => exact (Kd.V_reads' HO0_0.out).2.1); rintro e w15 ⟨rfl, hb⟩; refine ⟨_, rfl, ?_⟩; have n0_ := Aside0.mk (Kd.V_below (by (with_reducible repeat (first | apply Kd.V_alloc | apply Kd.V_drewN | apply Kd.V_drew)); exact HO0_0.out) hb); have n1_ := blkB BK109 hb; have n2_ := blkB BK110 hb; have n3_ := Aside0.mk (below_step xb hb); clear HO0_0; clear BK109; clear BK110; clear HB; have HO0_0 := n0_; have BK109 := n1_; have BK110 := n2_; have HB := n3_; clear n0_ n1_ n2_ n3_; (try clear hb); (try clear hb2); (try clear hk); (try clear hi)))
            have n0_ := Aside0.mk (Kd.V_drew HO0_0.out)
            have n1_ := Aside0.mk (blk_drew BK109.out)
            have n2_ := Aside0.mk (blk_drew BK110.out)
            have n3_ := Aside0.mk (below_drew1 HB.out)
            clear HO0_0
            clear BK109
            clear BK110
            clear HB
            have HO0_0 := n0_
            have BK109 := n1_
            have BK110 := n2_
            have HB := n3_
            clear n0_ n1_ n2_ n3_
            have q17 : (t111 : Int) ≤ ((l0_0.length : Int) : Int) := of_decide_eq_true (by first | (with_reducible assumption) | assumption)
            obtain ⟨i017, hi017, _, hsz17, _⟩ := info_parts info65
            have hroom17 : l0_0.length ≤ c0_0 := (Kd.V_reads' HO0_0.out).2.1
            have hC17 : Kd.F k65 _ _ A0_0 l0_0.length l0_0 := (Kd.V_at (base := w.heap.size) HO0_0.out).2.2
            have hcut17 := cut_to (P := Try.prog) 25 65 .i64 Try.underlying25 hi017 A0_0 l0_0.length c0_0 t111 (of_decide_eq_true (by first | (with_reducible assumption) | assumption)) q17 hroom17
            have hr17 := Kd.F_take (m := (t111 : Int).toNat) hC17 (by omega)
            have hy17 : y113.length = (t111 : Int).toNat := (by rw [Ny113.out, List.length_take]; omega)
            rw [← Ny113.out] at hr17
            rw [← hy17] at hcut17
            have HO117 := Aside0.mk (show Kd.V k65 65 _ w.heap.size _ (.slice A0_0 y113.length c0_0) y113 from Kd.V_mk (by omega) hr17)
            have HC117 := Aside0.mk (show y113.length ≤ c0_0 from by omega)
            clear hr17 hC17 hroom17 hi017 hsz17
            have KY17 := Aside0.mk hy17
            clear hy17
            replace q17 := eq_true q17
            have q18 : ((ji7) : Int) ≤ ((l0_0.length : Int) : Int) := of_decide_eq_true (by first | (with_reducible assumption) | assumption)
            obtain ⟨i018, hi018, _, hsz18, _⟩ := info_parts info65
            have hroom18 : l0_0.length ≤ c0_0 := (Kd.V_reads' HO0_0.out).2.1
            have hC18 : Kd.F k65 _ _ A0_0 l0_0.length l0_0 := (Kd.V_at (base := w.heap.size) HO0_0.out).2.2
            have q018 : (0 : Int) ≤ ((ji7) : Int) := of_decide_eq_true (by first | (with_reducible assumption) | assumption)
            have hcut18 := cut_from (P := Try.prog) 25 65 .i64 Try.underlying25 hi018 2 hsz18 A0_0 l0_0.length c0_0 (ji7) q018 q18
            have hr18 := Kd.F_cut (m := ((ji7) : Int).toNat) (c := c0_0) hC18 (by omega) hroom18
            obtain ⟨A18, hA18⟩ : ∃ A1, A1 = (if c0_0 = ((ji7) : Int).toNat then A0_0 else (A0_0 : Option Addr).map (·.add (((ji7) : Int).toNat * 2))) := ⟨_, rfl⟩
            obtain ⟨c18, hc18⟩ : ∃ c1, c1 = c0_0 - ((ji7) : Int).toNat := ⟨_, rfl⟩
            have hy18 : y118.length = l0_0.length - ((ji7) : Int).toNat := (by rw [Ny118.out, List.length_drop] <;> omega)
            rw [show (l0_0).drop ((ji7) : Int).toNat = y118 from Ny118.out.symm] at hr18
            replace hr18 : Kd.F k65 _ _ A18 y118.length y118 := (by rw [hA18]; exact hr18)
            rw [← hy18, ← hA18, ← hc18] at hcut18
            have HO122 := Aside0.mk (show Kd.V k65 65 _ w.heap.size _ (.slice A18 y118.length c18) y118 from Kd.V_mk (by rw [hy18, hc18]; exact Nat.sub_le_sub_right hroom18 _) hr18)
            have HC122 := Aside0.mk (show y118.length ≤ c18 from by rw [hy18, hc18]; exact Nat.sub_le_sub_right hroom18 _)
            clear hr18 hC18 hroom18 hi018 hsz18 hc18
            have KY18 := Aside0.mk hy18
            have KA18 := Aside0.mk hA18
            clear hy18 hA18
            replace q18 := eq_true q18
            refine start_ (n := 14) (S := fun w' => w'.cell? ⟨gb109, 0, none⟩ = some (.slice A0_0 l0_0.length c0_0)) (ds := []) #[false, false, false, false, false, false, false, false, false, false, false, false, false, false] (by kernel_rfl) rfl rfl ((blk_cell BK109.out 0).trans rfl) (fun hHeld => ?_); refine with_tabW cracknellaw14_Int_int_Drop.tab4 cracknellaw14_Int_int_Drop.bits4 (fun HT_ HW_ => ?_)
            generalize w15.drew = w16 at HO0_0 BK109 BK110 HB HO117 HO122 hHeld ⊢
            refine pure_ (i := 0) (N := some 17) (v := ?_) (a' := ?_) #[true, false, false, false, false, false, false, false, false, false, false, false, false, false] rfl rfl (any_of HT_.out (by kernel_rfl)) (fun _ _ _ h => h) (Or.inl ⟨by rfl, ?_⟩) ?_ ?_
            rotate_left
            · intro w'
              go_simp
              with_reducible rfl
            rotate_left
            · simp only [Act.put, List.setIfInBounds_toArray, List.set_cons_zero, List.set_cons_succ, i64_w, i32_w]
              rfl
            refine pure_ (i := 2) (N := some 19) (v := ?_) (a' := ?_) #[true, false, true, false, false, false, false, false, false, false, false, false, false, false] rfl rfl (any_of HT_.out (by kernel_rfl)) (fun _ _ _ h => h) (Or.inl ⟨by rfl, ?_⟩) ?_ ?_
            rotate_left
            · intro w'
              go_simp
              with_reducible rfl
            rotate_left
            · simp only [Act.put, List.setIfInBounds_toArray, List.set_cons_zero, List.set_cons_succ, i64_w, i32_w]
              rfl
            refine pure_ (i := 4) (N := some 21) (v := ?_) (a' := ?_) #[true, false, true, false, true, false, false, false, false, false, false, false, false, false] rfl rfl (any_of HT_.out (by kernel_rfl)) (fun _ _ _ h => h) (Or.inl ⟨by rfl, ?_⟩) ?_ ?_
            rotate_left
            · intro w'
              go_simp
              with_reducible rfl
            rotate_left
            · simp only [Act.put, List.setIfInBounds_toArray, List.set_cons_zero, List.set_cons_succ, i64_w, i32_w]
              rfl
            refine pure_ (i := 6) (N := some 23) (v := ?_) (a' := ?_) #[true, false, true, false, true, false, true, false, false, false, false, false, false, false] rfl rfl (any_of HT_.out (by kernel_rfl)) (fun _ _ _ h => h) (Or.inl ⟨by rfl, ?_⟩) ?_ ?_
            rotate_left
            · intro w'
              go_simp
              with_reducible rfl
            rotate_left
            · simp only [Act.put, List.setIfInBounds_toArray, List.set_cons_zero, List.set_cons_succ, i64_w, i32_w]
              rfl
            refine pure_ (i := 7) (N := some 24) (v := ?_) (a' := ?_) #[true, false, true, false, true, false, true, true, false, false, false, false, false, false] rfl rfl (any_of HT_.out (by kernel_rfl)) (fun _ _ _ h => h) (Or.inl ⟨by rfl, ?_⟩) ?_ ?_
            rotate_left
            · intro w'
              go_simp
              with_reducible rfl
            rotate_left
            · simp only [Act.put, List.setIfInBounds_toArray, List.set_cons_zero, List.set_cons_succ, i64_w, i32_w]
              rfl
            refine take_ (i := 1) (N := some 18) (v := ?_) (a' := ?_) #[true, true, true, false, true, false, true, true, false, false, false, false, false, false] rfl rfl (take_ofW HT_.out HW_.out (by kernel_rfl)) (fun _ _ _ h => h) (Or.inl ⟨by rfl, ?_⟩) hHeld ?_ ?_
            rotate_left
            · intro w' s0
              go_simp
              with_reducible rfl
            rotate_left
            · simp only [Act.put, List.setIfInBounds_toArray, List.set_cons_zero, List.set_cons_succ, i64_w, i32_w]
              rfl
            refine pure_ (i := 3) (N := some 20) (v := ?_) (a' := ?_) #[true, true, true, true, true, false, true, true, false, false, false, false, false, false] rfl rfl (any_of HT_.out (by kernel_rfl)) (fun _ _ _ h => h) (Or.inl ⟨by rfl, ?_⟩) ?_ ?_
            rotate_left
            · intro w'
              go_simp
              with_reducible rfl
            rotate_left
            · simp only [Act.put, List.setIfInBounds_toArray, List.set_cons_zero, List.set_cons_succ, i64_w, i32_w]
              rfl
            refine take_ (i := 5) (N := some 22) (v := ?_) (a' := ?_) #[true, true, true, true, true, true, true, true, false, false, false, false, false, false] rfl rfl (take_ofW HT_.out HW_.out (by kernel_rfl)) (fun _ _ _ h => h) (Or.inl ⟨by rfl, ?_⟩) hHeld ?_ ?_
            rotate_left
            · intro w' s0
              go_simp
              with_reducible rfl
            rotate_left
            · simp only [Act.put, List.setIfInBounds_toArray, List.set_cons_zero, List.set_cons_succ, i64_w, i32_w]
              rfl
            refine pure_ (i := 8) (N := some 25) (v := ?_) (a' := ?_) #[true, true, true, true, true, true, true, true, true, false, false, false, false, false] rfl rfl (any_of HT_.out (by kernel_rfl)) (fun _ _ _ h => h) (Or.inl ⟨by rfl, ?_⟩) ?_ ?_
            rotate_left
            · intro w'
              go_simp
              with_reducible rfl
            rotate_left
            · simp only [Act.put, List.setIfInBounds_toArray, List.set_cons_zero, List.set_cons_succ, i64_w, i32_w]
              rfl
            refine one_ (i := 9) (N := some 26) #[true, true, true, true, true, true, true, true, true, true, false, false, false, false] rfl rfl (one_of HT_.out (by kernel_rfl)) (by decide) (fun K hK => ?_)
            refine Kd.N_lit_step (Kd.slice 65 k65) _ 25 ?hg (N' := 26) ?hd (xs := ([y113, y118] : List (List (S65)))) (inner := [.slice A0_0 y113.length c0_0, .slice A18 y118.length c18]) (ok := (fun k_ => (P0_0_ k_ ∨ w.heap.size ≤ k_) ∧ k_ ≠ gb109 ∧ k_ ≠ gb110)) (okp := (fun k_ => (P0_0_ k_ ∨ w.heap.size ≤ k_) ∧ k_ ≠ gb109 ∧ k_ ≠ gb110)) ?hr ?hp (fun _ hk => hk) ((show ∀ k_, w16.heap.size ≤ k_ → (fun k_ => (P0_0_ k_ ∨ w.heap.size ≤ k_) ∧ k_ ≠ gb109 ∧ k_ ≠ gb110) k_ from fun k_ hk => ⟨(.inr (Nat.le_trans (below_size xb) hk)), Kd.freshB (g := gb109) (o := .cells #[.slice A0_0 l0_0.length c0_0] 27 (0, 0)) xk k_ hk, Kd.freshB (g := gb110) (o := .cells #[.slice none 0 0] 27 (0, 0)) xk k_ hk⟩) _ (Nat.le_refl _)) (Below.refl _ _) (Nat.le_refl _) (by simp) ?_; (case hd => rfl); (case hg => rfl); (case hr => first | (go_simp; done) | (go_simp; rfl)); (case hp => exact (Reps.one (show Kd.FK (Kd.slice 65 k65) _ _ y113 [.slice A0_0 y113.length c0_0] from (Kd.FK_slice_mk (Kd.V_reads' (Kd.V_mono (ok' := (fun k_ => (P0_0_ k_ ∨ w.heap.size ≤ k_) ∧ k_ ≠ gb109 ∧ k_ ≠ gb110)) (HO117.out) (fun k_ hk => ⟨hk.1.1, ⟨hk.1.2, hk.2⟩⟩))).2.1 (Kd.V_F (Kd.V_mono (ok' := (fun k_ => (P0_0_ k_ ∨ w.heap.size ≤ k_) ∧ k_ ≠ gb109 ∧ k_ ≠ gb110)) (HO117.out) (fun k_ hk => ⟨hk.1.1, ⟨hk.1.2, hk.2⟩⟩))))) (Reps.one (show Kd.FK (Kd.slice 65 k65) _ _ y118 [.slice A18 y118.length c18] from (Kd.FK_slice_mk (Kd.V_reads' (Kd.V_mono (ok' := (fun k_ => (P0_0_ k_ ∨ w.heap.size ≤ k_) ∧ k_ ≠ gb109 ∧ k_ ≠ gb110)) (HO122.out) (fun k_ hk => ⟨hk.1.1, ⟨hk.1.2, hk.2⟩⟩))).2.1 (Kd.V_F (Kd.V_mono (ok' := (fun k_ => (P0_0_ k_ ∨ w.heap.size ≤ k_) ∧ k_ ≠ gb109 ∧ k_ ≠ gb110)) (HO122.out) (fun k_ hk => ⟨hk.1.1, ⟨hk.1.2, hk.2⟩⟩))))) (Reps.none _ _))))
            intro v124 w19 ho20 hb hg_ hnew_
            clear hg_ hnew_
            (first | rw [← Ny123.out] at ho20 | (simp only [Int.reduceToNat] at ho20; rw [← Ny123.out] at ho20))
            have n0_ := Aside0.mk (Kd.V_elder' (by (with_reducible repeat (first | apply Kd.V_alloc | apply Kd.V_drewN | apply Kd.V_drew)); exact HO0_0.out) (Kd.N_base ho20) hb)
            have n1_ := Aside0.mk (Kd.V_elder' (by (with_reducible repeat (first | apply Kd.V_alloc | apply Kd.V_drewN | apply Kd.V_drew)); exact HO117.out) (Kd.N_base ho20) hb)
            have n2_ := Aside0.mk (Kd.V_elder' (by (with_reducible repeat (first | apply Kd.V_alloc | apply Kd.V_drewN | apply Kd.V_drew)); exact HO122.out) (Kd.N_base ho20) hb)
            have n3_ := Aside0.mk (Kd.N_lower ho20 (below_size xb))
            have n4_ := blkB BK109 hb
            have n5_ := blkB BK110 hb
            have n6_ := Aside0.mk (below_step xb hb)
            clear HO0_0
            clear HO117
            clear HO122
            clear BK109
            clear BK110
            clear HB
            have HO0_0 := n0_
            have HO117 := n1_
            have HO122 := n2_
            have HO125 := n3_
            have BK109 := n4_
            have BK110 := n5_
            have HB := n6_
            clear n0_ n1_ n2_ n3_ n4_ n5_ n6_
            clear hb ho20
            obtain ⟨Ao21, co21, eo21⟩ := Kd.N_slice HO125.out
            (first | subst eo21 | (injection eo21 with f1_ f2_ f3_; have f4_ := f1_.symm; have f5_ := f3_.symm; clear f1_ f2_ f3_; subst f4_; subst f5_))
            refine hK.out _ _ ((blk_cell BK109.out 0).trans rfl) (fun hHeld => ?_)
            clear hK K
            refine norm_ (a' := ?_) ?_ ?_
            rotate_left
            · show Act.put _ (some 26) _ = _
              simp only [Act.put, List.setIfInBounds_toArray, List.set_cons_zero, List.set_cons_succ, i64_w, i32_w]
              rfl
            refine one_ (i := 10) (N := some 27) #[true, true, true, true, true, true, true, true, true, true, true, false, false, false] rfl rfl (one_of HT_.out (by kernel_rfl)) (by decide) (fun K hK => ?_)
            refine goes_ Try.func30 (by kernel_rfl) rfl #[.slice Ao21 y123.length co21] (by rfl) rfl rfl xg ?_
            with_reducible refine (cracknellaw14_Int_int_30.calls k _ _ y123 t126 _ ?side1 ?side2 A10.out).mono ?_
            (case side1 => repeat (first | exact (Kd.N_reads' HO125.out).2.2 | (with_reducible refine Kd.C_alloc ?_ _) | (with_reducible refine Kd.C_drewN ?_ _) | (with_reducible refine Kd.C_drew ?_)))
            (case side2 => exact (Kd.N_reads' HO125.out).2.1)
            rintro e w22 ⟨v127, rfl, ho0, hb⟩
            refine ⟨_, rfl, ?_⟩
            have n0_ := Aside0.mk (Kd.V_elder' (by (with_reducible repeat (first | apply Kd.V_alloc | apply Kd.V_drewN | apply Kd.V_drew)); exact HO0_0.out) (Kd.R_base ho0) hb)
            have n1_ := Aside0.mk (Kd.V_elder' (by (with_reducible repeat (first | apply Kd.V_alloc | apply Kd.V_drewN | apply Kd.V_drew)); exact HO117.out) (Kd.R_base ho0) hb)
            have n2_ := Aside0.mk (Kd.V_elder' (by (with_reducible repeat (first | apply Kd.V_alloc | apply Kd.V_drewN | apply Kd.V_drew)); exact HO122.out) (Kd.R_base ho0) hb)
            have n3_ := Aside0.mk (Kd.N_elder' (by (with_reducible repeat (first | apply Kd.N_alloc | apply Kd.N_drewN | apply Kd.N_drew)); exact HO125.out) (Kd.R_base ho0) hb)
            have n4_ := Aside0.mk (Kd.R_lower (Kd.R_newM (M := fun k_ => (w.heap.size ≤ k_)) ho0 (below_size xb) (fun k_ h_ => h_)) (below_size xb))
            have n5_ := blkB BK109 hb
            have n6_ := blkB BK110 hb
            have n7_ := Aside0.mk (below_step xb hb)
            clear HO0_0
            clear HO117
            clear HO122
            clear HO125
            clear BK109
            clear BK110
            clear HB
            have HO0_0 := n0_
            have HO117 := n1_
            have HO122 := n2_
            have HO125 := n3_
            have HO128 := n4_
            have BK109 := n5_
            have BK110 := n6_
            have HB := n7_
            clear n0_ n1_ n2_ n3_ n4_ n5_ n6_ n7_
            (try clear hb)
            (try clear hb2)
            (try clear hk)
            (try clear hi)
            (try clear ho0)
            obtain ⟨Ao23, co23, eo23⟩ := Kd.R_slice HO128.out
            (first | subst eo23 | (injection eo23 with f1_ f2_ f3_; have f4_ := f1_.symm; have f5_ := f3_.symm; clear f1_ f2_ f3_; subst f4_; subst f5_))
            refine hK.out _ _ ((blk_cell BK109.out 0).trans rfl) (fun hHeld => ?_)
            clear hK K
            refine norm_ (a' := ?_) ?_ ?_
            rotate_left
            · show Act.put _ (some 27) _ = _
              simp only [Act.put, List.setIfInBounds_toArray, List.set_cons_zero, List.set_cons_succ, i64_w, i32_w]
              rfl
            refine pure_ (i := 11) (N := some 28) (v := ?_) (a' := ?_) #[true, true, true, true, true, true, true, true, true, true, true, true, false, false] rfl rfl (any_of HT_.out (by kernel_rfl)) (fun _ _ _ h => h) (Or.inl ⟨by rfl, ?_⟩) ?_ ?_
            rotate_left
            · intro w'
              go_simp
              with_reducible rfl
            rotate_left
            · simp only [Act.put, List.setIfInBounds_toArray, List.set_cons_zero, List.set_cons_succ, i64_w, i32_w]
              rfl
            refine one_ (i := 12) (N := none) #[true, true, true, true, true, true, true, true, true, true, true, true, true, false] rfl rfl (one_of HT_.out (by kernel_rfl)) (by decide) (fun K hK => ?_)
            have hs24 : w22.cell? ⟨gb110, 0, none⟩ = some (.slice none 0 0) := (blk_cell BK110.out 0).trans rfl
            have hfs24 := blk_frozen BK110.out 0
            have hns24_0 := NB109_110.out
            have hms24_0 := NB110_109.out
            refine skip_ (w1 := ?_) (by rfl) rfl ?_ ?_
            rotate_left
            · go_simp
              rfl
            refine hK.out _ _ (((cell_far (p := ⟨gb110, _, none⟩) NB109_110.out _).trans (hHeld))) (fun hHeld => ?_)
            clear hK K
            refine pure_ (i := 13) (N := some 5) (v := ?_) (a' := ?_) #[true, true, true, true, true, true, true, true, true, true, true, true, true, true] rfl rfl (any_of HT_.out (by kernel_rfl)) (fun _ _ _ h => h) (Or.inl ⟨by rfl, ?_⟩) ?_ ?_
            rotate_left
            · intro w'
              go_simp
              with_reducible rfl
            rotate_left
            · simp only [Act.put, List.setIfInBounds_toArray, List.set_cons_zero, List.set_cons_succ, i64_w, i32_w]
              rfl
            refine done_ (done_of HT_.out (by kernel_rfl)) ?_
            try go_wp2
            refine bodyPost_ret (results_ct rfl _ _ gb110 27 #[.slice Ao23 t126.length co23] (0, 0) _ rfl xk Try.underlying27 rfl (by kernel_rfl)) rfl ?_
            exact ⟨_, by first | rfl | (simp [errW_none, errW_some] <;> rfl) | (simp only [← hji7]; first | rfl | (simp [errW_none, errW_some] <;> rfl)) | (simp [*, errW_none, errW_some] <;> rfl), Kd.V_mono (Kd.R_V (by (with_reducible repeat (first | apply Kd.R_alloc | apply Kd.R_drewN | apply Kd.R_drew)); exact Kd.R_mono (Kd.R_far (p := ⟨gb110, 0, none⟩) (Kd.R_types HO128.out BK110.out (by decide)) (fun _ hk => hk.2) (.slice Ao23 t126.length co23)) (fun _ hk => hk.1.1))) (fun k_ hk => by first | exact ⟨(.inr (hk.1)), hk.2⟩ | exact (.inr (hk))), by repeat (first | (with_reducible first | exact HB.out | apply below_alloc | apply pw_below_drewN | apply below_drew1 | refine below_set ?_ GE109.out | refine below_set ?_ GE110.out) | exact HB.out)⟩
          · rw [if_neg c9] at H
            exact absurd H (by simp)
        · rw [if_neg c8] at H
          exact absurd H (by simp)
      · rw [if_neg c6] at H
        exact absurd H (by simp)
    · rw [if_neg c5] at H
      exact absurd H (by simp)
  · replace c4 := Bool.eq_false_iff.mpr c4
    subst c4
    have H1 : (some (l0_0, false)) = some (r1, r2) := by rw [if_neg (show ¬ (false = true) by decide)] at H; exact H
    clear H
    have H := H1
    clear H1
    simp only [Option.some.injEq, Prod.mk.injEq] at H
    obtain ⟨rfl, rfl⟩ := H
    go_enter Try.func15, Try.ntmps15
    go_wp2_with (first | ((with_reducible refine gate_dst (N := 2) rfl ?_); refine box_event ?hg (N := 2) ?hd (cs := #[.slice A0_0 l0_0.length c0_0]) (t := 27) ?hr ?_; (case hd => rfl); (case hg => rfl); (case hr => first | (go_simp; done) | (go_simp; rfl)); intro gb109 hg w25 hbox hb; have n0_ := Aside0.mk (Kd.V_below (Kd.V_elderB (by (with_reducible repeat (first | apply Kd.V_alloc | apply Kd.V_drewN | apply Kd.V_drew)); exact HO0_0.out) gb109 (Nat.le_of_eq hg.symm)) hb); have n1_ := Aside0.mk (below_step xb hb); have n2_ := Aside0.mk (hbox); have n3_ := Aside0.mk ((by rw [hg]; exact (below_size xb) : w.heap.size ≤ gb109)); have n4_ := Aside0.mk ((by rw [hg]; exact (below_size xb) : w.heap.size ≤ gb109)); clear HO0_0; clear HB; have HO0_0 := n0_; have HB := n1_; have BK109 := n2_; have GW109 := n3_; have GE109 := n4_; clear n0_ n1_ n2_ n3_ n4_; clear hb hbox hg) | ((with_reducible refine gate_dst (N := 4) rfl ?_); refine box_event ?hg (N := 4) ?hd (cs := #[.slice none 0 0]) (t := 27) ?hr ?_; (case hd => rfl); (case hg => rfl); (case hr => first | (go_simp; done) | (go_simp; rfl)); intro gb110 hg w26 hbox hb; have n0_ := Aside0.mk (Kd.V_below (Kd.V_elderB (by (with_reducible repeat (first | apply Kd.V_alloc | apply Kd.V_drewN | apply Kd.V_drew)); exact HO0_0.out) gb110 (Nat.le_of_eq hg.symm)) hb); have n1_ := blkB BK109 hb; have n2_ := Aside0.mk (below_step xb hb); have n3_ := Aside0.mk (hbox); have n4_ := Aside0.mk ((by rw [hg]; exact (below_size xb) : w.heap.size ≤ gb110)); have n5_ := Aside0.mk ((by rw [hg]; exact (below_size xb) : w.heap.size ≤ gb110)); have n6_ := Aside0.mk ((by rw [hg]; exact Nat.ne_of_lt (blkL BK109) : gb109 ≠ gb110)); have n7_ := Aside0.mk ((by rw [hg]; exact Nat.ne_of_gt (blkL BK109) : gb110 ≠ gb109)); clear HO0_0; clear BK109; clear HB; have HO0_0 := n0_; have BK109 := n1_; have HB := n2_; have BK110 := n3_; have GW110 := n4_; have GE110 := n5_; have NB109_110 := n6_; have NB110_109 := n7_; clear n0_ n1_ n2_ n3_ n4_ n5_ n6_ n7_; clear hb hbox hg; have hnb27 := NB109_110.out; have hnc27 := NB110_109.out; have hcz28_0 : w26.cell? ⟨gb109, 0, none⟩ = some (.slice A0_0 l0_0.length c0_0) := (blk_cell BK109.out 0).trans rfl; have hfz28_0 := blk_frozen BK109.out 0) | ((with_reducible refine gate_callee (f := 29) rfl ?_); refine goesL_ (some 11) rfl rfl Try.func29 (by kernel_rfl) rfl #[.agg #[.slice A0_0 l0_0.length c0_0], .int .i64 a1] rfl xg ?_; (with_reducible refine (table_place_Int.calls _ _ l0_0 a1 t111 false _ ?side1 ?side2 A3.out).mono ?_); (case side1 => repeat (first | exact (Kd.V_reads' HO0_0.out).2.2 | (with_reducible refine Kd.C_alloc ?_ _) | (with_reducible refine Kd.C_drewN ?_ _) | (with_reducible refine Kd.C_drew ?_))); (case side2 => exact (Kd.V_reads' HO0_0.out).2.1); rintro e w29 ⟨rfl, hb⟩; refine ⟨_, rfl, ?_⟩; have n0_ := Aside0.mk (Kd.V_below (by (with_reducible repeat (first | apply Kd.V_alloc | apply Kd.V_drewN | apply Kd.V_drew)); exact HO0_0.out) hb); have n1_ := blkB BK109 hb; have n2_ := blkB BK110 hb; have n3_ := Aside0.mk (below_step xb hb); clear HO0_0; clear BK109; clear BK110; clear HB; have HO0_0 := n0_; have BK109 := n1_; have BK110 := n2_; have HB := n3_; clear n0_ n1_ n2_ n3_; (try clear hb); (try clear hb2); (try clear hk); (try clear hi); have hcz30_0 : w29.cell? ⟨gb109, 0, none⟩ = some (.slice A0_0 l0_0.length c0_0) := (blk_cell BK109.out 0).trans rfl; have hfz30_0 := blk_frozen BK109.out 0; have hcz31_0 : w29.cell? ⟨gb110, 0, none⟩ = some (.slice none 0 0) := (blk_cell BK110.out 0).trans rfl; have hfz31_0 := blk_frozen BK110.out 0))
    refine bodyPost_ret (results_ct rfl _ _ gb110 27 #[.slice A0_0 l0_0.length c0_0] (0, 0) _ rfl xk Try.underlying27 rfl (by kernel_rfl)) rfl ?_
    exact ⟨_, by first | rfl | (simp [errW_none, errW_some] <;> rfl) | (simp [*, errW_none, errW_some] <;> rfl), by (with_reducible repeat (first | apply Kd.V_alloc | apply Kd.V_drewN | apply Kd.V_drew)); exact Kd.V_mono (Kd.V_far (p := ⟨gb110, 0, none⟩) (Kd.V_mono HO0_0.out (fun k_ hk => (⟨hk, hk.2⟩ : _ ∧ k_ ≠ gb110))) (fun _ hk => hk.2) (.slice A0_0 l0_0.length c0_0)) (fun _ hk => hk.1.1.1), by repeat (first | (with_reducible first | exact HB.out | apply below_alloc | apply pw_below_drewN | apply below_drew1 | refine below_set ?_ GE109.out | refine below_set ?_ GE110.out) | exact HB.out)⟩

/-! ### cracknellaw14_Int_int_Put: function 16 -/
def cracknellaw14_Int_int_Put.f (k : Nat) (l0_0 : List (S65)) (a1 : Int) (a2 : Int) : Option ((List (S65))) := (table_place_Int.f l0_0 a1).bind fun bt131 => (if 0 ≤ bt131.1 then (if bt131.1 ≤ (l0_0.length : Int) then ((some (l0_0.drop (bt131.1 : Int).toNat : List (S65))).bind fun y133 => (if bt131.2 = true then (if 1 ≤ (y133.length : Int) then ((cracknellaw14_Int_int_30.f k (([(l0_0.take (bt131.1 : Int).toNat), (([(⟨a1, a2⟩ : S65)] : List (S65))), (y133.drop 1)] : List (List (S65))))).bind fun t154 => (some t154)) else (none)) else ((cracknellaw14_Int_int_30.f k (([(l0_0.take (bt131.1 : Int).toNat), (([(⟨a1, a2⟩ : S65)] : List (S65))), y133] : List (List (S65))))).bind fun t168 => (some t168)))) else (none)) else (none))
theorem cracknellaw14_Int_int_Put.mono : ∀ a0 a1 a2 k, LeO (cracknellaw14_Int_int_Put.f k a0 a1 a2) (cracknellaw14_Int_int_Put.f (k + 1) a0 a1 a2) := by
  intro a0 a1 a2 k
  unfold cracknellaw14_Int_int_Put.f
  repeat' first
      | (with_reducible exact cracknellaw14_Int_int_30.mono _ _)
      | (with_reducible exact LeO.refl _)
      | (with_reducible exact LeO.none _)
      | (with_reducible refine LeO.ite ?_ ?_)
      | (with_reducible refine LeO.bind ?_ (fun _ => ?_))
      | exact cracknellaw14_Int_int_30.mono _ _
      | exact LeO.none _
      | refine LeO.ite ?_ ?_
      | refine LeO.bind ?_ (fun _ => ?_)
set_option maxHeartbeats 8000000 in
set_option maxRecDepth 100000 in
theorem cracknellaw14_Int_int_Put.calls (k : Nat) (P0_0_ : Nat → Prop) (A0_0 : Option Addr) (c0_0 : Nat) (l0_0 : List (S65)) (a1 : Int) (a2 : Int) (r : List (S65)) (w : World) (hs0_0 : Kd.V k65 65 w w.heap.size (fun k_ => P0_0_ k_) (.slice A0_0 l0_0.length c0_0) l0_0) (h : cracknellaw14_Int_int_Put.f k l0_0 a1 a2 = some r) :
    Calls Try.prog 16 #[.agg #[.slice A0_0 l0_0.length c0_0], .int .i64 a1, .int .i64 a2] w fun e w' => ∃ v0_ : Value, e = .returned (.agg #[v0_]) ∧ Kd.R k65 65 w' w.heap.size (fun k_ => (w.heap.size ≤ k_)) v0_ r ∧ Below w.heap.size w w' := by
  have hu27 := Try.underlying27
  have hu65 := Try.underlying65
  have HO0_0 := Aside0.mk (show Kd.V k65 65 w w.heap.size (fun k_ => (P0_0_ k_ ∨ w.heap.size ≤ k_)) (.slice A0_0 l0_0.length c0_0) l0_0 from Kd.V_mono hs0_0 (fun k_ hk => .inl hk))
  have HB := Aside0.mk (Below.refl w.heap.size w)
  have H : ((table_place_Int.f l0_0 a1).bind fun bt131 => (if 0 ≤ bt131.1 then (if bt131.1 ≤ (l0_0.length : Int) then ((some (l0_0.drop (bt131.1 : Int).toNat : List (S65))).bind fun y133 => (if bt131.2 = true then (if 1 ≤ (y133.length : Int) then ((cracknellaw14_Int_int_30.f k (([(l0_0.take (bt131.1 : Int).toNat), (([(⟨a1, a2⟩ : S65)] : List (S65))), (y133.drop 1)] : List (List (S65))))).bind fun t154 => (some t154)) else (none)) else ((cracknellaw14_Int_int_30.f k (([(l0_0.take (bt131.1 : Int).toNat), (([(⟨a1, a2⟩ : S65)] : List (S65))), y133] : List (List (S65))))).bind fun t168 => (some t168)))) else (none)) else (none))) = some r := h
  clear h
  replace H := Option.bind_eq_some_iff.mp H
  obtain ⟨⟨t131, t132⟩, A40, H⟩ := H
  replace H : (if 0 ≤ t131 then (if t131 ≤ (l0_0.length : Int) then ((some (l0_0.drop (t131 : Int).toNat : List (S65))).bind fun y133 => (if t132 = true then (if 1 ≤ (y133.length : Int) then ((cracknellaw14_Int_int_30.f k (([(l0_0.take (t131 : Int).toNat), (([(⟨a1, a2⟩ : S65)] : List (S65))), (y133.drop 1)] : List (List (S65))))).bind fun t154 => (some t154)) else (none)) else ((cracknellaw14_Int_int_30.f k (([(l0_0.take (t131 : Int).toNat), (([(⟨a1, a2⟩ : S65)] : List (S65))), y133] : List (List (S65))))).bind fun t168 => (some t168)))) else (none)) else (none)) = some r := H
  have A4 := Aside0.mk A40
  clear A40
  by_cases c5 : 0 ≤ t131
  · rw [if_pos c5] at H
    have c5b0 := eq_true c5
    have c5b1 : decide (0 ≤ t131) = true := decide_eq_true c5
    clear c5
    by_cases c6 : t131 ≤ (l0_0.length : Int)
    · rw [if_pos c6] at H
      have c6b0 := eq_true c6
      have c6b1 : decide (t131 ≤ (l0_0.length : Int)) = true := decide_eq_true c6
      clear c6
      obtain ⟨y133, hy133⟩ : ∃ y_ : List (S65), y_ = (l0_0.drop (t131 : Int).toNat) := ⟨_, rfl⟩
      replace H : (if t132 = true then (if 1 ≤ (y133.length : Int) then ((cracknellaw14_Int_int_30.f k (([(l0_0.take (t131 : Int).toNat), (([(⟨a1, a2⟩ : S65)] : List (S65))), (y133.drop 1)] : List (List (S65))))).bind fun t154 => (some t154)) else (none)) else ((cracknellaw14_Int_int_30.f k (([(l0_0.take (t131 : Int).toNat), (([(⟨a1, a2⟩ : S65)] : List (S65))), y133] : List (List (S65))))).bind fun t168 => (some t168))) = some r := by first | (rw [hy133]; with_reducible exact H) | (have H2_ := (Option.bind_some _ _).symm.trans H; rw [hy133]; with_reducible exact H2_) | (have H2_ := (Option.bind_some _ _).symm.trans H; with_reducible exact H2_) | with_reducible exact H | (rw [hy133]; exact H) | exact H
      have Ny133 := Aside0.mk hy133
      clear hy133
      by_cases c7 : t132 = true
      · subst c7
        have H1 : (if 1 ≤ (y133.length : Int) then ((cracknellaw14_Int_int_30.f k (([(l0_0.take (t131 : Int).toNat), (([(⟨a1, a2⟩ : S65)] : List (S65))), (y133.drop 1)] : List (List (S65))))).bind fun t154 => (some t154)) else (none)) = some r := by rw [if_pos rfl] at H; exact H
        clear H
        have H := H1
        clear H1
        by_cases c8 : 1 ≤ (y133.length : Int)
        · rw [if_pos c8] at H
          have c8b0 := eq_true c8
          have c8b1 : decide (1 ≤ (y133.length : Int)) = true := decide_eq_true c8
          clear c8
          obtain ⟨y138, hy138⟩ : ∃ y_ : List (S65), y_ = (y133.drop 1) := ⟨_, rfl⟩
          replace H : ((cracknellaw14_Int_int_30.f k (([(l0_0.take (t131 : Int).toNat), (([(⟨a1, a2⟩ : S65)] : List (S65))), y138] : List (List (S65))))).bind fun t154 => (some t154)) = some r := by first | (rw [hy138]; with_reducible exact H) | (have H2_ := (Option.bind_some _ _).symm.trans H; rw [hy138]; with_reducible exact H2_) | (have H2_ := (Option.bind_some _ _).symm.trans H; with_reducible exact H2_) | with_reducible exact H | (rw [hy138]; exact H) | exact H
          have Ny138 := Aside0.mk hy138
          clear hy138
          have c9b0 := eq_true (of_decide_eq_true (by first | (with_reducible assumption) | assumption) : 0 ≤ t131)
          have c10b0 := eq_true (of_decide_eq_true (by first | (with_reducible assumption) | assumption) : t131 ≤ (l0_0.length : Int))
          obtain ⟨y143, hy143⟩ : ∃ y_ : List (S65), y_ = (l0_0.take (t131 : Int).toNat) := ⟨_, rfl⟩
          replace H : ((cracknellaw14_Int_int_30.f k (([y143, (([(⟨a1, a2⟩ : S65)] : List (S65))), y138] : List (List (S65))))).bind fun t154 => (some t154)) = some r := by first | (rw [hy143]; with_reducible exact H) | (have H2_ := (Option.bind_some _ _).symm.trans H; rw [hy143]; with_reducible exact H2_) | (have H2_ := (Option.bind_some _ _).symm.trans H; with_reducible exact H2_) | with_reducible exact H | (rw [hy143]; exact H) | exact H
          have Ny143 := Aside0.mk hy143
          clear hy143
          obtain ⟨y148, hy148⟩ : ∃ y_ : List (S65), y_ = (([(⟨a1, a2⟩ : S65)] : List (S65))) := ⟨_, rfl⟩
          replace H : ((cracknellaw14_Int_int_30.f k (([y143, y148, y138] : List (List (S65))))).bind fun t154 => (some t154)) = some r := by first | (rw [hy148]; with_reducible exact H) | (have H2_ := (Option.bind_some _ _).symm.trans H; rw [hy148]; with_reducible exact H2_) | (have H2_ := (Option.bind_some _ _).symm.trans H; with_reducible exact H2_) | with_reducible exact H | (rw [hy148]; exact H) | exact H
          have Ny148 := Aside0.mk hy148
          clear hy148
          obtain ⟨y151, hy151⟩ : ∃ y_ : List (List (S65)), y_ = (([y143, y148, y138] : List (List (S65)))) := ⟨_, rfl⟩
          replace H : ((cracknellaw14_Int_int_30.f k y151).bind fun t154 => (some t154)) = some r := by first | (rw [hy151]; with_reducible exact H) | (have H2_ := (Option.bind_some _ _).symm.trans H; rw [hy151]; with_reducible exact H2_) | (have H2_ := (Option.bind_some _ _).symm.trans H; with_reducible exact H2_) | with_reducible exact H | (rw [hy151]; exact H) | exact H
          have Ny151 := Aside0.mk hy151
          clear hy151
          replace H := Option.bind_eq_some_iff.mp H
          obtain ⟨t154, A110, H⟩ := H
          replace H : (some t154) = some r := H
          have A11 := Aside0.mk A110
          clear A110
          obtain rfl := Option.some.inj H
          go_enter Try.func16, Try.ntmps16
          go_wp2_with (first | ((with_reducible refine gate_dst (N := 3) rfl ?_); refine box_event ?hg (N := 3) ?hd (cs := #[.slice A0_0 l0_0.length c0_0]) (t := 27) ?hr ?_; (case hd => rfl); (case hg => rfl); (case hr => first | (go_simp; done) | (go_simp; rfl)); intro gb129 hg w12 hbox hb; have n0_ := Aside0.mk (Kd.V_below (Kd.V_elderB (by (with_reducible repeat (first | apply Kd.V_alloc | apply Kd.V_drewN | apply Kd.V_drew)); exact HO0_0.out) gb129 (Nat.le_of_eq hg.symm)) hb); have n1_ := Aside0.mk (below_step xb hb); have n2_ := Aside0.mk (hbox); have n3_ := Aside0.mk ((by rw [hg]; exact (below_size xb) : w.heap.size ≤ gb129)); have n4_ := Aside0.mk ((by rw [hg]; exact (below_size xb) : w.heap.size ≤ gb129)); clear HO0_0; clear HB; have HO0_0 := n0_; have HB := n1_; have BK129 := n2_; have GW129 := n3_; have GE129 := n4_; clear n0_ n1_ n2_ n3_ n4_; clear hb hbox hg) | ((with_reducible refine gate_dst (N := 6) rfl ?_); refine box_event ?hg (N := 6) ?hd (cs := #[.slice none 0 0]) (t := 27) ?hr ?_; (case hd => rfl); (case hg => rfl); (case hr => first | (go_simp; done) | (go_simp; rfl)); intro gb130 hg w13 hbox hb; have n0_ := Aside0.mk (Kd.V_below (Kd.V_elderB (by (with_reducible repeat (first | apply Kd.V_alloc | apply Kd.V_drewN | apply Kd.V_drew)); exact HO0_0.out) gb130 (Nat.le_of_eq hg.symm)) hb); have n1_ := blkB BK129 hb; have n2_ := Aside0.mk (below_step xb hb); have n3_ := Aside0.mk (hbox); have n4_ := Aside0.mk ((by rw [hg]; exact (below_size xb) : w.heap.size ≤ gb130)); have n5_ := Aside0.mk ((by rw [hg]; exact (below_size xb) : w.heap.size ≤ gb130)); have n6_ := Aside0.mk ((by rw [hg]; exact Nat.ne_of_lt (blkL BK129) : gb129 ≠ gb130)); have n7_ := Aside0.mk ((by rw [hg]; exact Nat.ne_of_gt (blkL BK129) : gb130 ≠ gb129)); clear HO0_0; clear BK129; clear HB; have HO0_0 := n0_; have BK129 := n1_; have HB := n2_; have BK130 := n3_; have GW130 := n4_; have GE130 := n5_; have NB129_130 := n6_; have NB130_129 := n7_; clear n0_ n1_ n2_ n3_ n4_ n5_ n6_ n7_; clear hb hbox hg; have hnb14 := NB129_130.out; have hnc14 := NB130_129.out; have hcz15_0 : w13.cell? ⟨gb129, 0, none⟩ = some (.slice A0_0 l0_0.length c0_0) := (blk_cell BK129.out 0).trans rfl; have hfz15_0 := blk_frozen BK129.out 0) | ((with_reducible refine gate_callee (f := 29) rfl ?_); refine goesL_ (some 13) rfl rfl Try.func29 (by kernel_rfl) rfl #[.agg #[.slice A0_0 l0_0.length c0_0], .int .i64 a1] rfl xg ?_; (with_reducible refine (table_place_Int.calls _ _ l0_0 a1 t131 true _ ?side1 ?side2 A4.out).mono ?_); (case side1 => repeat (first | exact (Kd.V_reads' HO0_0.out).2.2 | (with_reducible refine Kd.C_alloc ?_ _) | (with_reducible refine Kd.C_drewN ?_ _) | (with_reducible refine Kd.C_drew ?_))); (case side2 => exact (Kd.V_reads' HO0_0.out).2.1); rintro e w16 ⟨rfl, hb⟩; refine ⟨_, rfl, ?_⟩; have n0_ := Aside0.mk (Kd.V_below (by (with_reducible repeat (first | apply Kd.V_alloc | apply Kd.V_drewN | apply Kd.V_drew)); exact HO0_0.out) hb); have n1_ := blkB BK129 hb; have n2_ := blkB BK130 hb; have n3_ := Aside0.mk (below_step xb hb); clear HO0_0; clear BK129; clear BK130; clear HB; have HO0_0 := n0_; have BK129 := n1_; have BK130 := n2_; have HB := n3_; clear n0_ n1_ n2_ n3_; (try clear hb); (try clear hb2); (try clear hk); (try clear hi); have hcz17_0 : w16.cell? ⟨gb129, 0, none⟩ = some (.slice A0_0 l0_0.length c0_0) := (blk_cell BK129.out 0).trans rfl; have hfz17_0 := blk_frozen BK129.out 0; have q18 : (t131 : Int) ≤ ((l0_0.length : Int) : Int) := of_decide_eq_true (by first | (with_reducible assumption) | assumption); obtain ⟨i018, hi018, _, hsz18, _⟩ := info_parts info65; have hroom18 : l0_0.length ≤ c0_0 := (Kd.V_reads' HO0_0.out).2.1; have hC18 : Kd.F k65 _ _ A0_0 l0_0.length l0_0 := (Kd.V_at (base := w.heap.size) HO0_0.out).2.2; have q018 : (0 : Int) ≤ (t131 : Int) := of_decide_eq_true (by first | (with_reducible assumption) | assumption); have hcut18 := cut_from (P := Try.prog) 25 65 .i64 Try.underlying25 hi018 2 hsz18 A0_0 l0_0.length c0_0 t131 q018 q18; have hr18 := Kd.F_cut (m := (t131 : Int).toNat) (c := c0_0) hC18 (by omega) hroom18; obtain ⟨A18, hA18⟩ : ∃ A1, A1 = (if c0_0 = (t131 : Int).toNat then A0_0 else (A0_0 : Option Addr).map (·.add ((t131 : Int).toNat * 2))) := ⟨_, rfl⟩; obtain ⟨c18, hc18⟩ : ∃ c1, c1 = c0_0 - (t131 : Int).toNat := ⟨_, rfl⟩; have hy18 : y133.length = l0_0.length - (t131 : Int).toNat := (by rw [Ny133.out, List.length_drop] <;> omega); rw [show (l0_0).drop (t131 : Int).toNat = y133 from Ny133.out.symm] at hr18; replace hr18 : Kd.F k65 _ _ A18 y133.length y133 := (by rw [hA18]; exact hr18); rw [← hy18, ← hA18, ← hc18] at hcut18; have HO137 := Aside0.mk (show Kd.V k65 65 _ w.heap.size _ (.slice A18 y133.length c18) y133 from Kd.V_mk (by rw [hy18, hc18]; exact Nat.sub_le_sub_right hroom18 _) hr18); have HC137 := Aside0.mk (show y133.length ≤ c18 from by rw [hy18, hc18]; exact Nat.sub_le_sub_right hroom18 _); clear hr18 hC18 hroom18 hi018 hsz18 hc18; have KY18 := Aside0.mk hy18; have KA18 := Aside0.mk hA18; clear hy18 hA18; replace q18 := eq_true q18; have q19 : (1 : Int) ≤ ((y133.length : Int) : Int) := of_decide_eq_true (by first | (with_reducible assumption) | assumption); obtain ⟨i019, hi019, _, hsz19, _⟩ := info_parts info65; have hroom19 : y133.length ≤ c18 := (Kd.V_reads' HO137.out).2.1; have hC19 : Kd.F k65 _ _ A18 y133.length y133 := (Kd.V_at (base := w.heap.size) HO137.out).2.2; have hcut19 := cut_from (P := Try.prog) 25 65 .i64 Try.underlying25 hi019 2 hsz19 A18 y133.length c18 1 (by omega) q19; have hr19 := Kd.F_cut (m := (1 : Int).toNat) (c := c18) hC19 (by omega) hroom19; obtain ⟨A19, hA19⟩ : ∃ A1, A1 = (if c18 = (1 : Int).toNat then A18 else (A18 : Option Addr).map (·.add ((1 : Int).toNat * 2))) := ⟨_, rfl⟩; obtain ⟨c19, hc19⟩ : ∃ c1, c1 = c18 - (1 : Int).toNat := ⟨_, rfl⟩; have hy19 : y138.length = y133.length - (1 : Int).toNat := (by rw [Ny138.out, List.length_drop] <;> omega); rw [show (y133).drop (1 : Int).toNat = y138 from Ny138.out.symm] at hr19; replace hr19 : Kd.F k65 _ _ A19 y138.length y138 := (by rw [hA19]; exact hr19); rw [← hy19, ← hA19, ← hc19] at hcut19; have HO142 := Aside0.mk (show Kd.V k65 65 _ w.heap.size _ (.slice A19 y138.length c19) y138 from Kd.V_mk (by rw [hy19, hc19]; exact Nat.sub_le_sub_right hroom19 _) hr19); have HC142 := Aside0.mk (show y138.length ≤ c19 from by rw [hy19, hc19]; exact Nat.sub_le_sub_right hroom19 _); clear hr19 hC19 hroom19 hi019 hsz19 hc19; have KY19 := Aside0.mk hy19; have KA19 := Aside0.mk hA19; clear hy19 hA19; replace q19 := eq_true q19; have q20 : (t131 : Int) ≤ ((l0_0.length : Int) : Int) := of_decide_eq_true (by first | (with_reducible assumption) | assumption); obtain ⟨i020, hi020, _, hsz20, _⟩ := info_parts info65; have hroom20 : l0_0.length ≤ c0_0 := (Kd.V_reads' HO0_0.out).2.1; have hC20 : Kd.F k65 _ _ A0_0 l0_0.length l0_0 := (Kd.V_at (base := w.heap.size) HO0_0.out).2.2; have hcut20 := cut_to (P := Try.prog) 25 65 .i64 Try.underlying25 hi020 A0_0 l0_0.length c0_0 t131 (of_decide_eq_true (by first | (with_reducible assumption) | assumption)) q20 hroom20; have hr20 := Kd.F_take (m := (t131 : Int).toNat) hC20 (by omega); have hy20 : y143.length = (t131 : Int).toNat := (by rw [Ny143.out, List.length_take]; omega); rw [← Ny143.out] at hr20; rw [← hy20] at hcut20; have HO147 := Aside0.mk (show Kd.V k65 65 _ w.heap.size _ (.slice A0_0 y143.length c0_0) y143 from Kd.V_mk (by omega) hr20); have HC147 := Aside0.mk (show y143.length ≤ c0_0 from by omega); clear hr20 hC20 hroom20 hi020 hsz20; have KY20 := Aside0.mk hy20; clear hy20; replace q20 := eq_true q20) | ((with_reducible refine gate_dst (N := 30) rfl ?_); refine Kd.R_lit k65 _ 65 ?hg (N := 30) ?hd (xs := ([(⟨a1, a2⟩ : S65)] : List (S65))) (inner := [.int .i64 a1, .int .i64 a2]) (ok := fun _ => True) (okp := fun _ => True) ?hr ?hp (fun _ hk => hk) trivial (Below.refl _ _) (Nat.le_refl _) (by simp) ?_; (case hd => rfl); (case hg => rfl); (case hr => first | (go_simp; done) | (go_simp; rfl)); (case hp => exact (Reps.c2 (show Kd.M k65 _ _ _ (⟨a1, a2⟩ : S65) [.int .i64 a1, .int .i64 a2] from (k65_mkM _ _ _ (⟨a1, a2⟩ : S65) )) (Reps.none _ _))); intro v149 w21 ho22 hb hg_ hnew_; clear hg_ hnew_; (first | rw [← Ny148.out] at ho22 | (simp only [Int.reduceToNat] at ho22; rw [← Ny148.out] at ho22)); have n0_ := Aside0.mk (Kd.V_elder' (by (with_reducible repeat (first | apply Kd.V_alloc | apply Kd.V_drewN | apply Kd.V_drew)); exact HO0_0.out) (Kd.R_base ho22) hb); have n1_ := Aside0.mk (Kd.V_elder' (by (with_reducible repeat (first | apply Kd.V_alloc | apply Kd.V_drewN | apply Kd.V_drew)); exact HO137.out) (Kd.R_base ho22) hb); have n2_ := Aside0.mk (Kd.V_elder' (by (with_reducible repeat (first | apply Kd.V_alloc | apply Kd.V_drewN | apply Kd.V_drew)); exact HO142.out) (Kd.R_base ho22) hb); have n3_ := Aside0.mk (Kd.V_elder' (by (with_reducible repeat (first | apply Kd.V_alloc | apply Kd.V_drewN | apply Kd.V_drew)); exact HO147.out) (Kd.R_base ho22) hb); have n4_ := Aside0.mk (Kd.R_lower (Kd.R_newM (M := fun k_ => (w.heap.size ≤ k_)) ho22 (below_size xb) (fun k_ h_ => h_)) (below_size xb)); have n5_ := blkB BK129 hb; have n6_ := blkB BK130 hb; have n7_ := Aside0.mk (below_step xb hb); clear HO0_0; clear HO137; clear HO142; clear HO147; clear BK129; clear BK130; clear HB; have HO0_0 := n0_; have HO137 := n1_; have HO142 := n2_; have HO147 := n3_; have HO150 := n4_; have BK129 := n5_; have BK130 := n6_; have HB := n7_; clear n0_ n1_ n2_ n3_ n4_ n5_ n6_ n7_; clear hb ho22; obtain ⟨Ao23, co23, eo23⟩ := Kd.R_slice HO150.out; subst eo23) | ((with_reducible refine gate_dst (N := 32) rfl ?_); refine Kd.N_lit (Kd.slice 65 k65) _ 25 ?hg (N' := 32) ?hd (xs := ([y143, y148, y138] : List (List (S65)))) (inner := [.slice A0_0 y143.length c0_0, .slice Ao23 y148.length co23, .slice A19 y138.length c19]) (ok := (fun k_ => (P0_0_ k_ ∨ w.heap.size ≤ k_) ∧ k_ ≠ gb129 ∧ k_ ≠ gb130)) (okp := (fun k_ => (P0_0_ k_ ∨ w.heap.size ≤ k_) ∧ k_ ≠ gb129 ∧ k_ ≠ gb130)) ?hr ?hp (fun _ hk => hk) ((show ∀ k_, w21.heap.size ≤ k_ → (fun k_ => (P0_0_ k_ ∨ w.heap.size ≤ k_) ∧ k_ ≠ gb129 ∧ k_ ≠ gb130) k_ from fun k_ hk => ⟨(.inr (Nat.le_trans (below_size xb) hk)), Kd.freshB (g := gb129) (o := .cells #[.slice A0_0 l0_0.length c0_0] 27 (0, 0)) xk k_ hk, Kd.freshB (g := gb130) (o := .cells #[.slice none 0 0] 27 (0, 0)) xk k_ hk⟩) _ (Nat.le_refl _)) (Below.refl _ _) (Nat.le_refl _) (by simp) ?_; (case hd => rfl); (case hg => rfl); (case hr => first | (go_simp; done) | (go_simp; rfl)); (case hp => exact (Reps.one (show Kd.FK (Kd.slice 65 k65) _ _ y143 [.slice A0_0 y143.length c0_0] from (Kd.FK_slice_mk (Kd.V_reads' (Kd.V_mono (ok' := (fun k_ => (P0_0_ k_ ∨ w.heap.size ≤ k_) ∧ k_ ≠ gb129 ∧ k_ ≠ gb130)) (HO147.out) (fun k_ hk => ⟨hk.1.1.1, ⟨hk.1.1.2, hk.1.2⟩⟩))).2.1 (Kd.V_F (Kd.V_mono (ok' := (fun k_ => (P0_0_ k_ ∨ w.heap.size ≤ k_) ∧ k_ ≠ gb129 ∧ k_ ≠ gb130)) (HO147.out) (fun k_ hk => ⟨hk.1.1.1, ⟨hk.1.1.2, hk.1.2⟩⟩))))) (Reps.one (show Kd.FK (Kd.slice 65 k65) _ _ y148 [.slice Ao23 y148.length co23] from (Kd.FK_slice_mk (Kd.R_reads' (Kd.R_mono (ok' := (fun k_ => (P0_0_ k_ ∨ w.heap.size ≤ k_) ∧ k_ ≠ gb129 ∧ k_ ≠ gb130)) (Kd.R_types (Kd.R_types (HO150.out) BK129.out (by decide)) BK130.out (by decide)) (fun k_ hk => ⟨(.inr (hk.1.1.1)), ⟨hk.1.2, hk.2⟩⟩))).2.1 (Kd.R_F (Kd.R_mono (ok' := (fun k_ => (P0_0_ k_ ∨ w.heap.size ≤ k_) ∧ k_ ≠ gb129 ∧ k_ ≠ gb130)) (Kd.R_types (Kd.R_types (HO150.out) BK129.out (by decide)) BK130.out (by decide)) (fun k_ hk => ⟨(.inr (hk.1.1.1)), ⟨hk.1.2, hk.2⟩⟩))))) (Reps.one (show Kd.FK (Kd.slice 65 k65) _ _ y138 [.slice A19 y138.length c19] from (Kd.FK_slice_mk (Kd.V_reads' (Kd.V_mono (ok' := (fun k_ => (P0_0_ k_ ∨ w.heap.size ≤ k_) ∧ k_ ≠ gb129 ∧ k_ ≠ gb130)) (HO142.out) (fun k_ hk => ⟨hk.1.1.1, ⟨hk.1.1.2, hk.1.2⟩⟩))).2.1 (Kd.V_F (Kd.V_mono (ok' := (fun k_ => (P0_0_ k_ ∨ w.heap.size ≤ k_) ∧ k_ ≠ gb129 ∧ k_ ≠ gb130)) (HO142.out) (fun k_ hk => ⟨hk.1.1.1, ⟨hk.1.1.2, hk.1.2⟩⟩))))) (Reps.none _ _))))); intro v152 w24 ho25 hb hg_ hnew_; clear hg_ hnew_; (first | rw [← Ny151.out] at ho25 | (simp only [Int.reduceToNat] at ho25; rw [← Ny151.out] at ho25)); have n0_ := Aside0.mk (Kd.V_elder' (by (with_reducible repeat (first | apply Kd.V_alloc | apply Kd.V_drewN | apply Kd.V_drew)); exact HO0_0.out) (Kd.N_base ho25) hb); have n1_ := Aside0.mk (Kd.V_elder' (by (with_reducible repeat (first | apply Kd.V_alloc | apply Kd.V_drewN | apply Kd.V_drew)); exact HO137.out) (Kd.N_base ho25) hb); have n2_ := Aside0.mk (Kd.V_elder' (by (with_reducible repeat (first | apply Kd.V_alloc | apply Kd.V_drewN | apply Kd.V_drew)); exact HO142.out) (Kd.N_base ho25) hb); have n3_ := Aside0.mk (Kd.V_elder' (by (with_reducible repeat (first | apply Kd.V_alloc | apply Kd.V_drewN | apply Kd.V_drew)); exact HO147.out) (Kd.N_base ho25) hb); have n4_ := Aside0.mk (Kd.N_lower ho25 (below_size xb)); have n5_ := blkB BK129 hb; have n6_ := blkB BK130 hb; have n7_ := Aside0.mk (below_step xb hb); clear HO0_0; clear HO137; clear HO142; clear HO147; clear BK129; clear BK130; clear HB; clear HO150; have HO0_0 := n0_; have HO137 := n1_; have HO142 := n2_; have HO147 := n3_; have HO153 := n4_; have BK129 := n5_; have BK130 := n6_; have HB := n7_; clear n0_ n1_ n2_ n3_ n4_ n5_ n6_ n7_; clear hb ho25; obtain ⟨Ao26, co26, eo26⟩ := Kd.N_slice HO153.out; subst eo26) | ((with_reducible refine gate_callee (f := 30) rfl ?_); refine goesL_ (some 33) rfl rfl Try.func30 (by kernel_rfl) rfl #[.slice Ao26 y151.length co26] rfl xg ?_; (with_reducible refine (cracknellaw14_Int_int_30.calls k _ _ y151 t154 _ ?side1 ?side2 A11.out).mono ?_); (case side1 => repeat (first | exact (Kd.N_reads' HO153.out).2.2 | (with_reducible refine Kd.C_alloc ?_ _) | (with_reducible refine Kd.C_drewN ?_ _) | (with_reducible refine Kd.C_drew ?_))); (case side2 => exact (Kd.N_reads' HO153.out).2.1); rintro e w27 ⟨v155, rfl, ho0, hb⟩; refine ⟨_, rfl, ?_⟩; have n0_ := Aside0.mk (Kd.V_elder' (by (with_reducible repeat (first | apply Kd.V_alloc | apply Kd.V_drewN | apply Kd.V_drew)); exact HO0_0.out) (Kd.R_base ho0) hb); have n1_ := Aside0.mk (Kd.V_elder' (by (with_reducible repeat (first | apply Kd.V_alloc | apply Kd.V_drewN | apply Kd.V_drew)); exact HO137.out) (Kd.R_base ho0) hb); have n2_ := Aside0.mk (Kd.V_elder' (by (with_reducible repeat (first | apply Kd.V_alloc | apply Kd.V_drewN | apply Kd.V_drew)); exact HO142.out) (Kd.R_base ho0) hb); have n3_ := Aside0.mk (Kd.V_elder' (by (with_reducible repeat (first | apply Kd.V_alloc | apply Kd.V_drewN | apply Kd.V_drew)); exact HO147.out) (Kd.R_base ho0) hb); have n4_ := Aside0.mk (Kd.N_elder' (by (with_reducible repeat (first | apply Kd.N_alloc | apply Kd.N_drewN | apply Kd.N_drew)); exact HO153.out) (Kd.R_base ho0) hb); have n5_ := Aside0.mk (Kd.R_lower (Kd.R_newM (M := fun k_ => (w.heap.size ≤ k_)) ho0 (below_size xb) (fun k_ h_ => h_)) (below_size xb)); have n6_ := blkB BK129 hb; have n7_ := blkB BK130 hb; have n8_ := Aside0.mk (below_step xb hb); clear HO0_0; clear HO137; clear HO142; clear HO147; clear HO153; clear BK129; clear BK130; clear HB; have HO0_0 := n0_; have HO137 := n1_; have HO142 := n2_; have HO147 := n3_; have HO153 := n4_; have HO156 := n5_; have BK129 := n6_; have BK130 := n7_; have HB := n8_; clear n0_ n1_ n2_ n3_ n4_ n5_ n6_ n7_ n8_; (try clear hb); (try clear hb2); (try clear hk); (try clear hi); (try clear ho0); obtain ⟨Ao28, co28, eo28⟩ := Kd.R_slice HO156.out; subst eo28; have hcz29_0 : w27.cell? ⟨gb130, 0, none⟩ = some (.slice none 0 0) := (blk_cell BK130.out 0).trans rfl; have hfz29_0 := blk_frozen BK130.out 0))
          refine bodyPost_ret (results_cell_row rfl _ _ gb130 27 #[.slice Ao28 t154.length co28] (0, 0) _ rfl xk Try.underlying27 rfl (by kernel_rfl)) rfl ?_
          exact ⟨_, by first | rfl | (simp [errW_none, errW_some] <;> rfl) | (simp [*, errW_none, errW_some] <;> rfl), by (with_reducible repeat (first | apply Kd.R_alloc | apply Kd.R_drewN | apply Kd.R_drew)); exact Kd.R_mono (Kd.R_far (p := ⟨gb130, 0, none⟩) (Kd.R_types HO156.out BK130.out (by decide)) (fun _ hk => hk.2) (.slice Ao28 t154.length co28)) (fun _ hk => hk.1.1), by repeat (first | (with_reducible first | exact HB.out | apply below_alloc | apply pw_below_drewN | apply below_drew1 | refine below_set ?_ GE129.out | refine below_set ?_ GE130.out) | exact HB.out)⟩
        · rw [if_neg c8] at H
          exact absurd H (by simp)
      · replace c7 := Bool.eq_false_iff.mpr c7
        subst c7
        have H1 : ((cracknellaw14_Int_int_30.f k (([(l0_0.take (t131 : Int).toNat), (([(⟨a1, a2⟩ : S65)] : List (S65))), y133] : List (List (S65))))).bind fun t168 => (some t168)) = some r := by rw [if_neg (show ¬ (false = true) by decide)] at H; exact H
        clear H
        have H := H1
        clear H1
        have c30b0 := eq_true (of_decide_eq_true (by first | (with_reducible assumption) | assumption) : 0 ≤ t131)
        have c31b0 := eq_true (of_decide_eq_true (by first | (with_reducible assumption) | assumption) : t131 ≤ (l0_0.length : Int))
        obtain ⟨y157, hy157⟩ : ∃ y_ : List (S65), y_ = (l0_0.take (t131 : Int).toNat) := ⟨_, rfl⟩
        replace H : ((cracknellaw14_Int_int_30.f k (([y157, (([(⟨a1, a2⟩ : S65)] : List (S65))), y133] : List (List (S65))))).bind fun t168 => (some t168)) = some r := by first | (rw [hy157]; with_reducible exact H) | (have H2_ := (Option.bind_some _ _).symm.trans H; rw [hy157]; with_reducible exact H2_) | (have H2_ := (Option.bind_some _ _).symm.trans H; with_reducible exact H2_) | with_reducible exact H | (rw [hy157]; exact H) | exact H
        have Ny157 := Aside0.mk hy157
        clear hy157
        obtain ⟨y162, hy162⟩ : ∃ y_ : List (S65), y_ = (([(⟨a1, a2⟩ : S65)] : List (S65))) := ⟨_, rfl⟩
        replace H : ((cracknellaw14_Int_int_30.f k (([y157, y162, y133] : List (List (S65))))).bind fun t168 => (some t168)) = some r := by first | (rw [hy162]; with_reducible exact H) | (have H2_ := (Option.bind_some _ _).symm.trans H; rw [hy162]; with_reducible exact H2_) | (have H2_ := (Option.bind_some _ _).symm.trans H; with_reducible exact H2_) | with_reducible exact H | (rw [hy162]; exact H) | exact H
        have Ny162 := Aside0.mk hy162
        clear hy162
        obtain ⟨y165, hy165⟩ : ∃ y_ : List (List (S65)), y_ = (([y157, y162, y133] : List (List (S65)))) := ⟨_, rfl⟩
        replace H : ((cracknellaw14_Int_int_30.f k y165).bind fun t168 => (some t168)) = some r := by first | (rw [hy165]; with_reducible exact H) | (have H2_ := (Option.bind_some _ _).symm.trans H; rw [hy165]; with_reducible exact H2_) | (have H2_ := (Option.bind_some _ _).symm.trans H; with_reducible exact H2_) | with_reducible exact H | (rw [hy165]; exact H) | exact H
        have Ny165 := Aside0.mk hy165
        clear hy165
        replace H := Option.bind_eq_some_iff.mp H
        obtain ⟨t168, A320, H⟩ := H
        replace H : (some t168) = some r := H
        have A32 := Aside0.mk A320
        clear A320
        obtain rfl := Option.some.inj H
        go_enter Try.func16, Try.ntmps16
        go_wp2_with (first | ((with_reducible refine gate_dst (N := 3) rfl ?_); refine box_event ?hg (N := 3) ?hd (cs := #[.slice A0_0 l0_0.length c0_0]) (t := 27) ?hr ?_; (case hd => rfl); (case hg => rfl); (case hr => first | (go_simp; done) | (go_simp; rfl)); intro gb129 hg w33 hbox hb; have n0_ := Aside0.mk (Kd.V_below (Kd.V_elderB (by (with_reducible repeat (first | apply Kd.V_alloc | apply Kd.V_drewN | apply Kd.V_drew)); exact HO0_0.out) gb129 (Nat.le_of_eq hg.symm)) hb); have n1_ := Aside0.mk (below_step xb hb); have n2_ := Aside0.mk (hbox); have n3_ := Aside0.mk ((by rw [hg]; exact (below_size xb) : w.heap.size ≤ gb129)); have n4_ := Aside0.mk ((by rw [hg]; exact (below_size xb) : w.heap.size ≤ gb129)); clear HO0_0; clear HB; have HO0_0 := n0_; have HB := n1_; have BK129 := n2_; have GW129 := n3_; have GE129 := n4_; clear n0_ n1_ n2_ n3_ n4_; clear hb hbox hg) | ((with_reducible refine gate_dst (N := 6) rfl ?_); refine box_event ?hg (N := 6) ?hd (cs := #[.slice none 0 0]) (t := 27) ?hr ?_; (case hd => rfl); (case hg => rfl); (case hr => first | (go_simp; done) | (go_simp; rfl)); intro gb130 hg w34 hbox hb; have n0_ := Aside0.mk (Kd.V_below (Kd.V_elderB (by (with_reducible repeat (first | apply Kd.V_alloc | apply Kd.V_drewN | apply Kd.V_drew)); exact HO0_0.out) gb130 (Nat.le_of_eq hg.symm)) hb); have n1_ := blkB BK129 hb; have n2_ := Aside0.mk (below_step xb hb); have n3_ := Aside0.mk (hbox); have n4_ := Aside0.mk ((by rw [hg]; exact (below_size xb) : w.heap.size ≤ gb130)); have n5_ := Aside0.mk ((by rw [hg]; exact (below_size xb) : w.heap.size ≤ gb130)); have n6_ := Aside0.mk ((by rw [hg]; exact Nat.ne_of_lt (blkL BK129) : gb129 ≠ gb130)); have n7_ := Aside0.mk ((by rw [hg]; exact Nat.ne_of_gt (blkL BK129) : gb130 ≠ gb129)); clear HO0_0; clear BK129; clear HB; have HO0_0 := n0_; have BK129 := n1_; have HB := n2_; have BK130 := n3_; have GW130 := n4_; have GE130 := n5_; have NB129_130 := n6_; have NB130_129 := n7_; clear n0_ n1_ n2_ n3_ n4_ n5_ n6_ n7_; clear hb hbox hg; have hnb35 := NB129_130.out; have hnc35 := NB130_129.out; have hcz36_0 : w34.cell? ⟨gb129, 0, none⟩ = some (.slice A0_0 l0_0.length c0_0) := (blk_cell BK129.out 0).trans rfl; have hfz36_0 := blk_frozen BK129.out 0) | ((with_reducible refine gate_callee (f := 29) rfl ?_); refine goesL_ (some 13) rfl rfl Try.func29 (by kernel_rfl) rfl #[.agg #[.slice A0_0 l0_0.length c0_0], .int .i64 a1] rfl xg ?_; (with_reducible refine (table_place_Int.calls _ _ l0_0 a1 t131 false _ ?side1 ?side2 A4.out).mono ?_); (case side1 => repeat (first | exact (Kd.V_reads' HO0_0.out).2.2 | (with_reducible refine Kd.C_alloc ?_ _) | (with_reducible refine Kd.C_drewN ?_ _) | (with_reducible refine Kd.C_drew ?_))); (case side2 => exact (Kd.V_reads' HO0_0.out).2.1); rintro e w37 ⟨rfl, hb⟩; refine ⟨_, rfl, ?_⟩; have n0_ := Aside0.mk (Kd.V_below (by (with_reducible repeat (first | apply Kd.V_alloc | apply Kd.V_drewN | apply Kd.V_drew)); exact HO0_0.out) hb); have n1_ := blkB BK129 hb; have n2_ := blkB BK130 hb; have n3_ := Aside0.mk (below_step xb hb); clear HO0_0; clear BK129; clear BK130; clear HB; have HO0_0 := n0_; have BK129 := n1_; have BK130 := n2_; have HB := n3_; clear n0_ n1_ n2_ n3_; (try clear hb); (try clear hb2); (try clear hk); (try clear hi); have hcz38_0 : w37.cell? ⟨gb129, 0, none⟩ = some (.slice A0_0 l0_0.length c0_0) := (blk_cell BK129.out 0).trans rfl; have hfz38_0 := blk_frozen BK129.out 0; have q39 : (t131 : Int) ≤ ((l0_0.length : Int) : Int) := of_decide_eq_true (by first | (with_reducible assumption) | assumption); obtain ⟨i039, hi039, _, hsz39, _⟩ := info_parts info65; have hroom39 : l0_0.length ≤ c0_0 := (Kd.V_reads' HO0_0.out).2.1; have hC39 : Kd.F k65 _ _ A0_0 l0_0.length l0_0 := (Kd.V_at (base := w.heap.size) HO0_0.out).2.2; have q039 : (0 : Int) ≤ (t131 : Int) := of_decide_eq_true (by first | (with_reducible assumption) | assumption); have hcut39 := cut_from (P := Try.prog) 25 65 .i64 Try.underlying25 hi039 2 hsz39 A0_0 l0_0.length c0_0 t131 q039 q39; have hr39 := Kd.F_cut (m := (t131 : Int).toNat) (c := c0_0) hC39 (by omega) hroom39; obtain ⟨A39, hA39⟩ : ∃ A1, A1 = (if c0_0 = (t131 : Int).toNat then A0_0 else (A0_0 : Option Addr).map (·.add ((t131 : Int).toNat * 2))) := ⟨_, rfl⟩; obtain ⟨c39, hc39⟩ : ∃ c1, c1 = c0_0 - (t131 : Int).toNat := ⟨_, rfl⟩; have hy39 : y133.length = l0_0.length - (t131 : Int).toNat := (by rw [Ny133.out, List.length_drop] <;> omega); rw [show (l0_0).drop (t131 : Int).toNat = y133 from Ny133.out.symm] at hr39; replace hr39 : Kd.F k65 _ _ A39 y133.length y133 := (by rw [hA39]; exact hr39); rw [← hy39, ← hA39, ← hc39] at hcut39; have HO137 := Aside0.mk (show Kd.V k65 65 _ w.heap.size _ (.slice A39 y133.length c39) y133 from Kd.V_mk (by rw [hy39, hc39]; exact Nat.sub_le_sub_right hroom39 _) hr39); have HC137 := Aside0.mk (show y133.length ≤ c39 from by rw [hy39, hc39]; exact Nat.sub_le_sub_right hroom39 _); clear hr39 hC39 hroom39 hi039 hsz39 hc39; have KY39 := Aside0.mk hy39; have KA39 := Aside0.mk hA39; clear hy39 hA39; replace q39 := eq_true q39; have q40 : (t131 : Int) ≤ ((l0_0.length : Int) : Int) := of_decide_eq_true (by first | (with_reducible assumption) | assumption); obtain ⟨i040, hi040, _, hsz40, _⟩ := info_parts info65; have hroom40 : l0_0.length ≤ c0_0 := (Kd.V_reads' HO0_0.out).2.1; have hC40 : Kd.F k65 _ _ A0_0 l0_0.length l0_0 := (Kd.V_at (base := w.heap.size) HO0_0.out).2.2; have hcut40 := cut_to (P := Try.prog) 25 65 .i64 Try.underlying25 hi040 A0_0 l0_0.length c0_0 t131 (of_decide_eq_true (by first | (with_reducible assumption) | assumption)) q40 hroom40; have hr40 := Kd.F_take (m := (t131 : Int).toNat) hC40 (by omega); have hy40 : y157.length = (t131 : Int).toNat := (by rw [Ny157.out, List.length_take]; omega); rw [← Ny157.out] at hr40; rw [← hy40] at hcut40; have HO161 := Aside0.mk (show Kd.V k65 65 _ w.heap.size _ (.slice A0_0 y157.length c0_0) y157 from Kd.V_mk (by omega) hr40); have HC161 := Aside0.mk (show y157.length ≤ c0_0 from by omega); clear hr40 hC40 hroom40 hi040 hsz40; have KY40 := Aside0.mk hy40; clear hy40; replace q40 := eq_true q40) | ((with_reducible refine gate_dst (N := 30) rfl ?_); refine Kd.R_lit k65 _ 65 ?hg (N := 30) ?hd (xs := ([(⟨a1, a2⟩ : S65)] : List (S65))) (inner := [.int .i64 a1, .int .i64 a2]) (ok := fun _ => True) (okp := fun _ => True) ?hr ?hp (fun _ hk => hk) trivial (Below.refl _ _) (Nat.le_refl _) (by simp) ?_; (case hd => rfl); (case hg => rfl); (case hr => first | (go_simp; done) | (go_simp; rfl)); (case hp => exact (Reps.c2 (show Kd.M k65 _ _ _ (⟨a1, a2⟩ : S65) [.int .i64 a1, .int .i64 a2] from (k65_mkM _ _ _ (⟨a1, a2⟩ : S65) )) (Reps.none _ _))); intro v163 w41 ho42 hb hg_ hnew_; clear hg_ hnew_; (first | rw [← Ny162.out] at ho42 | (simp only [Int.reduceToNat] at ho42; rw [← Ny162.out] at ho42)); have n0_ := Aside0.mk (Kd.V_elder' (by (with_reducible repeat (first | apply Kd.V_alloc | apply Kd.V_drewN | apply Kd.V_drew)); exact HO0_0.out) (Kd.R_base ho42) hb); have n1_ := Aside0.mk (Kd.V_elder' (by (with_reducible repeat (first | apply Kd.V_alloc | apply Kd.V_drewN | apply Kd.V_drew)); exact HO137.out) (Kd.R_base ho42) hb); have n2_ := Aside0.mk (Kd.V_elder' (by (with_reducible repeat (first | apply Kd.V_alloc | apply Kd.V_drewN | apply Kd.V_drew)); exact HO161.out) (Kd.R_base ho42) hb); have n3_ := Aside0.mk (Kd.R_lower (Kd.R_newM (M := fun k_ => (w.heap.size ≤ k_)) ho42 (below_size xb) (fun k_ h_ => h_)) (below_size xb)); have n4_ := blkB BK129 hb; have n5_ := blkB BK130 hb; have n6_ := Aside0.mk (below_step xb hb); clear HO0_0; clear HO137; clear HO161; clear BK129; clear BK130; clear HB; have HO0_0 := n0_; have HO137 := n1_; have HO161 := n2_; have HO164 := n3_; have BK129 := n4_; have BK130 := n5_; have HB := n6_; clear n0_ n1_ n2_ n3_ n4_ n5_ n6_; clear hb ho42; obtain ⟨Ao43, co43, eo43⟩ := Kd.R_slice HO164.out; subst eo43) | ((with_reducible refine gate_dst (N := 32) rfl ?_); refine Kd.N_lit (Kd.slice 65 k65) _ 25 ?hg (N' := 32) ?hd (xs := ([y157, y162, y133] : List (List (S65)))) (inner := [.slice A0_0 y157.length c0_0, .slice Ao43 y162.length co43, .slice A39 y133.length c39]) (ok := (fun k_ => (P0_0_ k_ ∨ w.heap.size ≤ k_) ∧ k_ ≠ gb129 ∧ k_ ≠ gb130)) (okp := (fun k_ => (P0_0_ k_ ∨ w.heap.size ≤ k_) ∧ k_ ≠ gb129 ∧ k_ ≠ gb130)) ?hr ?hp (fun _ hk => hk) ((show ∀ k_, w41.heap.size ≤ k_ → (fun k_ => (P0_0_ k_ ∨ w.heap.size ≤ k_) ∧ k_ ≠ gb129 ∧ k_ ≠ gb130) k_ from fun k_ hk => ⟨(.inr (Nat.le_trans (below_size xb) hk)), Kd.freshB (g := gb129) (o := .cells #[.slice A0_0 l0_0.length c0_0] 27 (0, 0)) xk k_ hk, Kd.freshB (g := gb130) (o := .cells #[.slice none 0 0] 27 (0, 0)) xk k_ hk⟩) _ (Nat.le_refl _)) (Below.refl _ _) (Nat.le_refl _) (by simp) ?_; (case hd => rfl); (case hg => rfl); (case hr => first | (go_simp; done) | (go_simp; rfl)); (case hp => exact (Reps.one (show Kd.FK (Kd.slice 65 k65) _ _ y157 [.slice A0_0 y157.length c0_0] from (Kd.FK_slice_mk (Kd.V_reads' (Kd.V_mono (ok' := (fun k_ => (P0_0_ k_ ∨ w.heap.size ≤ k_) ∧ k_ ≠ gb129 ∧ k_ ≠ gb130)) (HO161.out) (fun k_ hk => ⟨hk.1.1.1, ⟨hk.1.1.2, hk.1.2⟩⟩))).2.1 (Kd.V_F (Kd.V_mono (ok' := (fun k_ => (P0_0_ k_ ∨ w.heap.size ≤ k_) ∧ k_ ≠ gb129 ∧ k_ ≠ gb130)) (HO161.out) (fun k_ hk => ⟨hk.1.1.1, ⟨hk.1.1.2, hk.1.2⟩⟩))))) (Reps.one (show Kd.FK (Kd.slice 65 k65) _ _ y162 [.slice Ao43 y162.length co43] from (Kd.FK_slice_mk (Kd.R_reads' (Kd.R_mono (ok' := (fun k_ => (P0_0_ k_ ∨ w.heap.size ≤ k_) ∧ k_ ≠ gb129 ∧ k_ ≠ gb130)) (Kd.R_types (Kd.R_types (HO164.out) BK129.out (by decide)) BK130.out (by decide)) (fun k_ hk => ⟨(.inr (hk.1.1.1)), ⟨hk.1.2, hk.2⟩⟩))).2.1 (Kd.R_F (Kd.R_mono (ok' := (fun k_ => (P0_0_ k_ ∨ w.heap.size ≤ k_) ∧ k_ ≠ gb129 ∧ k_ ≠ gb130)) (Kd.R_types (Kd.R_types (HO164.out) BK129.out (by decide)) BK130.out (by decide)) (fun k_ hk => ⟨(.inr (hk.1.1.1)), ⟨hk.1.2, hk.2⟩⟩))))) (Reps.one (show Kd.FK (Kd.slice 65 k65) _ _ y133 [.slice A39 y133.length c39] from (Kd.FK_slice_mk (Kd.V_reads' (Kd.V_mono (ok' := (fun k_ => (P0_0_ k_ ∨ w.heap.size ≤ k_) ∧ k_ ≠ gb129 ∧ k_ ≠ gb130)) (HO137.out) (fun k_ hk => ⟨hk.1.1.1, ⟨hk.1.1.2, hk.1.2⟩⟩))).2.1 (Kd.V_F (Kd.V_mono (ok' := (fun k_ => (P0_0_ k_ ∨ w.heap.size ≤ k_) ∧ k_ ≠ gb129 ∧ k_ ≠ gb130)) (HO137.out) (fun k_ hk => ⟨hk.1.1.1, ⟨hk.1.1.2, hk.1.2⟩⟩))))) (Reps.none _ _))))); intro v166 w44 ho45 hb hg_ hnew_; clear hg_ hnew_; (first | rw [← Ny165.out] at ho45 | (simp only [Int.reduceToNat] at ho45; rw [← Ny165.out] at ho45)); have n0_ := Aside0.mk (Kd.V_elder' (by (with_reducible repeat (first | apply Kd.V_alloc | apply Kd.V_drewN | apply Kd.V_drew)); exact HO0_0.out) (Kd.N_base ho45) hb); have n1_ := Aside0.mk (Kd.V_elder' (by (with_reducible repeat (first | apply Kd.V_alloc | apply Kd.V_drewN | apply Kd.V_drew)); exact HO137.out) (Kd.N_base ho45) hb); have n2_ := Aside0.mk (Kd.V_elder' (by (with_reducible repeat (first | apply Kd.V_alloc | apply Kd.V_drewN | apply Kd.V_drew)); exact HO161.out) (Kd.N_base ho45) hb); have n3_ := Aside0.mk (Kd.N_lower ho45 (below_size xb)); have n4_ := blkB BK129 hb; have n5_ := blkB BK130 hb; have n6_ := Aside0.mk (below_step xb hb); clear HO0_0; clear HO137; clear HO161; clear BK129; clear BK130; clear HB; clear HO164; have HO0_0 := n0_; have HO137 := n1_; have HO161 := n2_; have HO167 := n3_; have BK129 := n4_; have BK130 := n5_; have HB := n6_; clear n0_ n1_ n2_ n3_ n4_ n5_ n6_; clear hb ho45; obtain ⟨Ao46, co46, eo46⟩ := Kd.N_slice HO167.out; subst eo46) | ((with_reducible refine gate_callee (f := 30) rfl ?_); refine goesL_ (some 33) rfl rfl Try.func30 (by kernel_rfl) rfl #[.slice Ao46 y165.length co46] rfl xg ?_; (with_reducible refine (cracknellaw14_Int_int_30.calls k _ _ y165 t168 _ ?side1 ?side2 A32.out).mono ?_); (case side1 => repeat (first | exact (Kd.N_reads' HO167.out).2.2 | (with_reducible refine Kd.C_alloc ?_ _) | (with_reducible refine Kd.C_drewN ?_ _) | (with_reducible refine Kd.C_drew ?_))); (case side2 => exact (Kd.N_reads' HO167.out).2.1); rintro e w47 ⟨v169, rfl, ho0, hb⟩; refine ⟨_, rfl, ?_⟩; have n0_ := Aside0.mk (Kd.V_elder' (by (with_reducible repeat (first | apply Kd.V_alloc | apply Kd.V_drewN | apply Kd.V_drew)); exact HO0_0.out) (Kd.R_base ho0) hb); have n1_ := Aside0.mk (Kd.V_elder' (by (with_reducible repeat (first | apply Kd.V_alloc | apply Kd.V_drewN | apply Kd.V_drew)); exact HO137.out) (Kd.R_base ho0) hb); have n2_ := Aside0.mk (Kd.V_elder' (by (with_reducible repeat (first | apply Kd.V_alloc | apply Kd.V_drewN | apply Kd.V_drew)); exact HO161.out) (Kd.R_base ho0) hb); have n3_ := Aside0.mk (Kd.N_elder' (by (with_reducible repeat (first | apply Kd.N_alloc | apply Kd.N_drewN | apply Kd.N_drew)); exact HO167.out) (Kd.R_base ho0) hb); have n4_ := Aside0.mk (Kd.R_lower (Kd.R_newM (M := fun k_ => (w.heap.size ≤ k_)) ho0 (below_size xb) (fun k_ h_ => h_)) (below_size xb)); have n5_ := blkB BK129 hb; have n6_ := blkB BK130 hb; have n7_ := Aside0.mk (below_step xb hb); clear HO0_0; clear HO137; clear HO161; clear HO167; clear BK129; clear BK130; clear HB; have HO0_0 := n0_; have HO137 := n1_; have HO161 := n2_; have HO167 := n3_; have HO170 := n4_; have BK129 := n5_; have BK130 := n6_; have HB := n7_; clear n0_ n1_ n2_ n3_ n4_ n5_ n6_ n7_; (try clear hb); (try clear hb2); (try clear hk); (try clear hi); (try clear ho0); obtain ⟨Ao48, co48, eo48⟩ := Kd.R_slice HO170.out; subst eo48; have hcz49_0 : w47.cell? ⟨gb130, 0, none⟩ = some (.slice none 0 0) := (blk_cell BK130.out 0).trans rfl; have hfz49_0 := blk_frozen BK130.out 0))
        refine bodyPost_ret (results_cell_row rfl _ _ gb130 27 #[.slice Ao48 t168.length co48] (0, 0) _ rfl xk Try.underlying27 rfl (by kernel_rfl)) rfl ?_
        exact ⟨_, by first | rfl | (simp [errW_none, errW_some] <;> rfl) | (simp [*, errW_none, errW_some] <;> rfl), by (with_reducible repeat (first | apply Kd.R_alloc | apply Kd.R_drewN | apply Kd.R_drew)); exact Kd.R_mono (Kd.R_far (p := ⟨gb130, 0, none⟩) (Kd.R_types HO170.out BK130.out (by decide)) (fun _ hk => hk.2) (.slice Ao48 t168.length co48)) (fun _ hk => hk.1.1), by repeat (first | (with_reducible first | exact HB.out | apply below_alloc | apply pw_below_drewN | apply below_drew1 | refine below_set ?_ GE129.out | refine below_set ?_ GE130.out) | exact HB.out)⟩
    · rw [if_neg c6] at H
      exact absurd H (by simp)
  · rw [if_neg c5] at H
    exact absurd H (by simp)

/-! ### cracknellaw14_made: function 11 -/
def cracknellaw14_made.l0 : Nat → List (S43) → Int → Int → List (S65) → Option ((List (S65)))
  | 0, _, _, _, _ => none
  | k + 1, x6, x7, x8, x173000 => if x8 < x7 then (if 0 ≤ x8 then (if x8 < (x6.length : Int) then (if ((rd_T43 x6 x8).f0) = 1 then ((cracknellaw14_Int_int_Drop.f k x173000 ((rd_T43 x6 x8).f1)).bind fun bt175 => (cracknellaw14_made.l0 k x6 x7 (wrap64 (x8 + 1)) bt175.1)) else ((cracknellaw14_Int_int_Put.f k x173000 ((rd_T43 x6 x8).f1) ((rd_T43 x6 x8).f2)).bind fun t179 => (cracknellaw14_made.l0 k x6 x7 (wrap64 (x8 + 1)) t179))) else (none)) else (none)) else (some x173000)
def cracknellaw14_made.f (k : Nat) (l0 : List (S43)) : Option ((List (S65))) := cracknellaw14_made.l0 k l0 (l0.length : Int) 0 ([] : List (S65))
theorem cracknellaw14_made.mono_l : ∀ k, (∀ y0 y1 y2 y3, LeO (cracknellaw14_made.l0 k y0 y1 y2 y3) (cracknellaw14_made.l0 (k + 1) y0 y1 y2 y3))
  | 0 => fun _ _ _ _ r h => by simp [cracknellaw14_made.l0] at h
  | k + 1 => by
    have ih0 := cracknellaw14_made.mono_l k
    · intro y0 y1 y2 y3
      unfold cracknellaw14_made.l0
      repeat' first
      | (with_reducible exact ih0 _ _ _ _)
      | (with_reducible exact cracknellaw14_Int_int_Drop.mono _ _ _)
      | (with_reducible exact cracknellaw14_Int_int_Put.mono _ _ _ _)
      | (with_reducible exact LeO.refl _)
      | (with_reducible exact LeO.none _)
      | (with_reducible refine LeO.ite ?_ ?_)
      | (with_reducible refine LeO.bind ?_ (fun _ => ?_))
      | exact ih0 _ _ _ _
      | exact cracknellaw14_Int_int_Drop.mono _ _ _
      | exact cracknellaw14_Int_int_Put.mono _ _ _ _
      | exact LeO.none _
      | refine LeO.ite ?_ ?_
      | refine LeO.bind ?_ (fun _ => ?_)
theorem cracknellaw14_made.mono : ∀ a0 k, LeO (cracknellaw14_made.f k a0) (cracknellaw14_made.f (k + 1) a0) := by
  intro a0 k
  have ih0 := cracknellaw14_made.mono_l k
  unfold cracknellaw14_made.f
  repeat' first
      | (with_reducible exact ih0 _ _ _ _)
      | (with_reducible exact cracknellaw14_Int_int_Drop.mono _ _ _)
      | (with_reducible exact cracknellaw14_Int_int_Put.mono _ _ _ _)
      | (with_reducible exact LeO.refl _)
      | (with_reducible exact LeO.none _)
      | (with_reducible refine LeO.ite ?_ ?_)
      | (with_reducible refine LeO.bind ?_ (fun _ => ?_))
      | exact ih0 _ _ _ _
      | exact cracknellaw14_Int_int_Drop.mono _ _ _
      | exact cracknellaw14_Int_int_Put.mono _ _ _ _
      | exact LeO.none _
      | refine LeO.ite ?_ ?_
      | refine LeO.bind ?_ (fun _ => ?_)
set_option maxHeartbeats 8000000 in
set_option maxRecDepth 100000 in
theorem cracknellaw14_made.calls (k : Nat) (A0 : Option Addr) (c0 : Nat) (l0 : List (S43)) (r : List (S65)) (w : World) (hr0 : Kd.C k43 w A0 l0.length l0) (hc0 : l0.length ≤ c0) (h : cracknellaw14_made.f k l0 = some r) :
    Calls Try.prog 11 #[.slice A0 l0.length c0] w fun e w' => ∃ v0_ : Value, e = .returned (.agg #[v0_]) ∧ Kd.V k65 65 w' w.heap.size (fun k_ => (w.heap.size ≤ k_)) v0_ r ∧ Below w.heap.size w w' := by
  have hu27 := Try.underlying27
  have hu43 := Try.underlying43
  have HR0 := Aside0.mk hr0
  have HC0 := Aside0.mk hc0
  clear hr0 hc0
  have HB := Aside0.mk (Below.refl w.heap.size w)
  have H : (cracknellaw14_made.l0 k l0 (l0.length : Int) 0 ([] : List (S65))) = some r := h
  clear h
  have H' := Aside0.mk H
  clear H
  go_enter Try.func11, Try.ntmps11
  go_wp2_with (first | ((with_reducible refine gate_dst (N := 2) rfl ?_); refine box_event ?hg (N := 2) ?hd (cs := #[.slice none 0 0]) (t := 27) ?hr ?_; (case hd => rfl); (case hg => rfl); (case hr => first | (go_simp; done) | (go_simp; rfl)); intro gb171 hg w2 hbox hb; have n0_ := Aside0.mk (below_step xb hb); have n1_ := Aside0.mk (hbox); have n2_ := Aside0.mk ((by rw [hg]; exact (below_size xb) : w.heap.size ≤ gb171)); have n3_ := Aside0.mk ((by rw [hg]; exact (below_size xb) : w.heap.size ≤ gb171)); clear HB; have HB := n0_; have BK171 := n1_; have GW171 := n2_; have GE171 := n3_; clear n0_ n1_ n2_ n3_; clear hb hbox hg) | ((with_reducible refine gate_dst (N := 3) rfl ?_); refine box_event ?hg (N := 3) ?hd (cs := #[.slice none 0 0]) (t := 27) ?hr ?_; (case hd => rfl); (case hg => rfl); (case hr => first | (go_simp; done) | (go_simp; rfl)); intro gb172 hg w3 hbox hb; have n0_ := blkB BK171 hb; have n1_ := Aside0.mk (below_step xb hb); have n2_ := Aside0.mk (hbox); have n3_ := Aside0.mk ((by rw [hg]; exact (below_size xb) : w.heap.size ≤ gb172)); have n4_ := Aside0.mk ((by rw [hg]; exact (below_size xb) : w.heap.size ≤ gb172)); have n5_ := Aside0.mk ((by rw [hg]; exact Nat.ne_of_lt (blkL BK171) : gb171 ≠ gb172)); have n6_ := Aside0.mk ((by rw [hg]; exact Nat.ne_of_gt (blkL BK171) : gb172 ≠ gb171)); clear BK171; clear HB; have BK171 := n0_; have HB := n1_; have BK172 := n2_; have GW172 := n3_; have GE172 := n4_; have NB171_172 := n5_; have NB172_171 := n6_; clear n0_ n1_ n2_ n3_ n4_ n5_ n6_; clear hb hbox hg))
  go_loopg [8] k (fun kq v8 w' => ∃ (x8_1 : Int) (x173000_1 : List (S65)) (u173000 : Value), v8 = .int .i64 x8_1 ∧ Aside0 (cracknellaw14_made.l0 kq l0 (l0.length : Int) x8_1 x173000_1 = some r) ∧ Aside0 (kq ≤ k) ∧ Aside0 (Kd.V k65 65 w' w.heap.size (fun k_ => (w.heap.size ≤ k_) ∧ k_ ≠ gb171 ∧ k_ ≠ gb172) u173000 x173000_1) ∧ Aside0 (w'.heap[gb171]? = some (.cells #[(.slice none 0 0)] 27 (0, 0))) ∧ Aside0 (w'.heap[gb172]? = some (.cells #[u173000] 27 (0, 0))) ∧ Aside0 (Below w.heap.size w w'))
  case atStart => exact ⟨(0), (([] : List (S65))), (.slice none 0 0), (by first | rfl | (simp; done) | (simp [*]; done)), H', ⟨Nat.le_refl _⟩, ⟨Kd.R_V (by first | exact Kd.R_nil _ _ _ _ _ | exact Kd.N_nil _ _ _ _ _ | exact Kd.V_nil _ _ _ _ _ | exact Kd.Q_nil _ _ _ _ _ | exact Kd.S_nil _ _ _ _ _ | exact Kd.R_nil _ _ _ w.heap.size _)⟩, ⟨xk⟩, ⟨xk⟩, ⟨xb⟩⟩
  case round =>
    clear H'
    try clear c1
    try clear p2
    obtain ⟨x8_1, x173000_1, u173000, rfl, HA, HK1, HO_173000, BK171, BK172, HB⟩ := hrel
    cases gk with
    | zero => exact absurd HA.out (by simp [cracknellaw14_made.l0])
    | succ k1 =>
      have H := HA.out
      clear HA
      simp only [cracknellaw14_made.l0] at H
      by_cases c4 : x8_1 < (l0.length : Int)
      · rw [if_pos c4] at H
        have c4b0 : decide (x8_1 < (l0.length : Int)) = true := decide_eq_true c4
        clear c4
        by_cases c5 : 0 ≤ x8_1
        · rw [if_pos c5] at H
          have c5b0 : decide (0 ≤ x8_1) = true := decide_eq_true c5
          clear c5
          by_cases c6 : x8_1 < (l0.length : Int)
          · rw [if_pos c6] at H
            have c6b0 : decide (x8_1 < (l0.length : Int)) = true := decide_eq_true c6
            clear c6
            by_cases c7 : ((rd_T43 l0 x8_1).f0) = 1
            · rw [if_pos c7] at H
              have c7b0 : (((rd_T43 l0 x8_1).f0) == 1) = true := beq_iff_eq.mpr c7
              have c7b1 : (((rd_T43 l0 x8_1).f0) != 1) = false := bne_eq_false_iff_eq.mpr c7
              clear c7
              replace H := Option.bind_eq_some_iff.mp H
              obtain ⟨⟨t175, t178⟩, A80, H⟩ := H
              replace H : (cracknellaw14_made.l0 k1 l0 (l0.length : Int) (wrap64 (x8_1 + 1)) t175) = some r := H
              have A8 := Aside0.mk A80
              clear A80
              have H' := Aside0.mk H
              clear H
              have p173 : 0 ≤ (x8_1 : Int) := of_decide_eq_true (by first | (with_reducible assumption) | assumption)
              have q173 : x8_1 < (l0.length : Int) := of_decide_eq_true (by first | (with_reducible assumption) | assumption)
              obtain ⟨ad173, e173, hx173_0, hx173_1, hx173_2⟩ := at_T43 HR0.out x8_1 p173 q173
              cases e173
              replace hx173_0 := (HB.out.cell (World.block_lt_of_cell? w _ hx173_0)).trans hx173_0
              replace hx173_1 := (HB.out.cell (World.block_lt_of_cell? w _ hx173_1)).trans hx173_1
              replace hx173_2 := (HB.out.cell (World.block_lt_of_cell? w _ hx173_2)).trans hx173_2
              replace p173 := eq_true p173
              replace q173 := eq_true q173
              go_wp2_with (first | ((with_reducible refine gate_dst (N := 5) rfl ?_); refine box_event ?hg (N := 5) ?hd (cs := #[.int .i64 0, .int .i64 0, .int .i64 0]) (t := 43) ?hr ?_; (case hd => rfl); (case hg => rfl); (case hr => first | (go_simp; done) | (go_simp; rfl)); intro gb174 hg w9 hbox hb; have n0_ := Aside0.mk (Kd.V_below (Kd.V_elderB (by (with_reducible repeat (first | apply Kd.V_alloc | apply Kd.V_drewN | apply Kd.V_drew)); exact HO_173000.out) gb174 (Nat.le_of_eq hg.symm)) hb); have n1_ := blkB BK171 hb; have n2_ := blkB BK172 hb; have n3_ := Aside0.mk (below_step xb hb); have n4_ := Aside0.mk (hbox); have n5_ := Aside0.mk ((by rw [hg]; exact (below_size xb) : w.heap.size ≤ gb174)); have n6_ := Aside0.mk ((by rw [hg]; exact (below_size xb) : w.heap.size ≤ gb174)); have n7_ := Aside0.mk ((by rw [hg]; exact Nat.ne_of_lt (blkL BK171) : gb171 ≠ gb174)); have n8_ := Aside0.mk ((by rw [hg]; exact Nat.ne_of_gt (blkL BK171) : gb174 ≠ gb171)); have n9_ := Aside0.mk ((by rw [hg]; exact Nat.ne_of_lt (blkL BK172) : gb172 ≠ gb174)); have n10_ := Aside0.mk ((by rw [hg]; exact Nat.ne_of_gt (blkL BK172) : gb174 ≠ gb172)); clear HO_173000; clear BK171; clear BK172; clear HB; have HO_173000 := n0_; have BK171 := n1_; have BK172 := n2_; have HB := n3_; have BK174 := n4_; have GW174 := n5_; have GE174 := n6_; have NB171_174 := n7_; have NB174_171 := n8_; have NB172_174 := n9_; have NB174_172 := n10_; clear n0_ n1_ n2_ n3_ n4_ n5_ n6_ n7_ n8_ n9_ n10_; clear hb hbox hg; have hnb10 := NB174_171.out; have hnc10 := NB171_174.out; have hnb11 := NB174_172.out; have hnc11 := NB172_174.out; have hcz12_0 : w9.cell? ⟨gb174, 0, none⟩ = some (.int .i64 0) := (blk_cell BK174.out 0).trans rfl; have hcz12_1 : w9.cell? ⟨gb174, 1, none⟩ = some (.int .i64 0) := (blk_cell BK174.out 1).trans rfl; have hcz12_2 : w9.cell? ⟨gb174, 2, none⟩ = some (.int .i64 0) := (blk_cell BK174.out 2).trans rfl; have hfz12_0 := blk_frozen BK174.out 0; have hfz12_1 := blk_frozen BK174.out 1; have hfz12_2 := blk_frozen BK174.out 2) | ((with_reducible refine gate_store (t := 43) (p := 5) rfl ?_); refine store_event (t := 43) (p := 5) (v := ?vo_w13) (w1 := (((w9.setCell ⟨gb174, 0, none⟩ (.int .i64 ((rd_T43 l0 x8_1).f0))).setCell ⟨gb174, 1, none⟩ (.int .i64 ((rd_T43 l0 x8_1).f1))).setCell ⟨gb174, 2, none⟩ (.int .i64 ((rd_T43 l0 x8_1).f2)))) ?hg ?ho ?hn ?hr ?_; (case ho => rfl); (case hg => rfl); (case hn => rfl); (case hr => first | (go_simp; done) | (go_simp; rfl)); intro w13 hw; have n0_ : Aside0 (Kd.V k65 65 w13 w.heap.size (fun k_ => (w.heap.size ≤ k_) ∧ k_ ≠ gb171 ∧ k_ ≠ gb172 ∧ k_ ≠ gb174) u173000 x173000_1) := ⟨(by rw [hw]; exact (by (with_reducible repeat (first | apply Kd.V_alloc | apply Kd.V_drewN | apply Kd.V_drew)); exact Kd.V_mono (Kd.V_far (p := ⟨gb174, 2, none⟩) (Kd.V_far (p := ⟨gb174, 1, none⟩) (Kd.V_far (p := ⟨gb174, 0, none⟩) (Kd.V_mono HO_173000.out (fun k_ hk => (⟨hk, hk.2⟩ : _ ∧ k_ ≠ gb174))) (fun _ hk => hk.2) (.int .i64 ((rd_T43 l0 x8_1).f0))) (fun _ hk => hk.2) (.int .i64 ((rd_T43 l0 x8_1).f1))) (fun _ hk => hk.2) (.int .i64 ((rd_T43 l0 x8_1).f2))) (fun _ hk => ⟨hk.1.1.1, ⟨hk.1.1.2.1, ⟨hk.1.1.2.2, hk.1.2⟩⟩⟩)))⟩; have n1_ : Aside0 (w13.heap[gb171]? = some (.cells #[.slice none 0 0] 27 (0, 0))) := ⟨(by rw [hw]; exact xk)⟩; have n2_ : Aside0 (w13.heap[gb172]? = some (.cells #[u173000] 27 (0, 0))) := ⟨(by rw [hw]; exact xk)⟩; have n3_ : Aside0 (w13.heap[gb174]? = some (.cells #[.int .i64 ((rd_T43 l0 x8_1).f0), .int .i64 ((rd_T43 l0 x8_1).f1), .int .i64 ((rd_T43 l0 x8_1).f2)] 43 (0, 0))) := ⟨(by rw [hw]; exact xk)⟩; have n4_ : Aside0 (Below w.heap.size w w13) := ⟨(by rw [hw]; exact xb)⟩; clear hw; clear HO_173000; clear BK171; clear BK172; clear BK174; clear HB; have HO_173000 := n0_; have BK171 := n1_; have BK172 := n2_; have BK174 := n3_; have HB := n4_; clear n0_ n1_ n2_ n3_ n4_; have hcz14_0 : w13.cell? ⟨gb174, 0, none⟩ = some (.int .i64 ((rd_T43 l0 x8_1).f0)) := (blk_cell BK174.out 0).trans rfl; have hcz14_1 : w13.cell? ⟨gb174, 1, none⟩ = some (.int .i64 ((rd_T43 l0 x8_1).f1)) := (blk_cell BK174.out 1).trans rfl; have hcz14_2 : w13.cell? ⟨gb174, 2, none⟩ = some (.int .i64 ((rd_T43 l0 x8_1).f2)) := (blk_cell BK174.out 2).trans rfl; have hfz14_0 := blk_frozen BK174.out 0; have hfz14_1 := blk_frozen BK174.out 1; have hfz14_2 := blk_frozen BK174.out 2; have hnb15 := NB172_171.out; have hnc15 := NB171_172.out; have hcz16_0 : w13.cell? ⟨gb172, 0, none⟩ = some (u173000) := (blk_cell BK172.out 0).trans rfl; have hfz16_0 := blk_frozen BK172.out 0; obtain ⟨Ao17, co17, eo17⟩ := Kd.V_slice HO_173000.out; subst eo17) | ((with_reducible refine gate_callee (f := 15) rfl ?_); refine goesL_ (some 19) rfl rfl Try.func15 (by kernel_rfl) rfl #[.agg #[.slice Ao17 x173000_1.length co17], .int .i64 ((rd_T43 l0 x8_1).f1)] rfl xg ?_; (with_reducible refine (cracknellaw14_Int_int_Drop.calls k1 (fun k_ => ((w.heap.size ≤ k_) ∧ (k_ ≠ gb171 ∧ (k_ ≠ gb172 ∧ k_ ≠ gb174)))) _ _ x173000_1 ((rd_T43 l0 x8_1).f1) t175 t178 _ ?side1 A8.out).mono ?_); (case side1 => exact HO_173000.out); rintro e w18 ⟨v176, rfl, ho0, hb⟩; refine ⟨_, rfl, ?_⟩; have n0_ := Aside0.mk (Kd.V_below (by (with_reducible repeat (first | apply Kd.V_alloc | apply Kd.V_drewN | apply Kd.V_drew)); exact HO_173000.out) hb); have n1_ := Aside0.mk (Kd.V_lower (Kd.V_mono (ok' := fun k_ => (w.heap.size ≤ k_) ∧ k_ ≠ gb171 ∧ k_ ≠ gb172 ∧ k_ ≠ gb174) ho0 (fun k_ hk_ => ⟨Or.elim hk_ (fun hs_ => hs_.1) (fun hn_ => (Nat.le_trans (below_size xb) hn_)), Or.elim hk_ (fun hs_ => hs_.2.1) (fun hn_ => (Kd.freshB (g := gb171) (o := .cells #[.slice none 0 0] 27 (0, 0)) xk k_ hn_)), Or.elim hk_ (fun hs_ => hs_.2.2.1) (fun hn_ => (Kd.freshB (g := gb172) (o := .cells #[.slice Ao17 x173000_1.length co17] 27 (0, 0)) xk k_ hn_)), Or.elim hk_ (fun hs_ => hs_.2.2.2) (fun hn_ => (Kd.freshB (g := gb174) (o := .cells #[.int .i64 ((rd_T43 l0 x8_1).f0), .int .i64 ((rd_T43 l0 x8_1).f1), .int .i64 ((rd_T43 l0 x8_1).f2)] 43 (0, 0)) xk k_ hn_))⟩)) (below_size xb)); have n2_ := blkB BK171 hb; have n3_ := blkB BK172 hb; have n4_ := blkB BK174 hb; have n5_ := Aside0.mk (below_step xb hb); clear HO_173000; clear BK171; clear BK172; clear BK174; clear HB; have HO_173000 := n0_; have HO177 := n1_; have BK171 := n2_; have BK172 := n3_; have BK174 := n4_; have HB := n5_; clear n0_ n1_ n2_ n3_ n4_ n5_; (try clear hb); (try clear hb2); (try clear hk); (try clear hi); (try clear ho0); obtain ⟨Ao19, co19, eo19⟩ := Kd.V_slice HO177.out; subst eo19; have hcz20_0 : w18.cell? ⟨gb172, 0, none⟩ = some (.slice Ao17 x173000_1.length co17) := (blk_cell BK172.out 0).trans rfl; have hfz20_0 := blk_frozen BK172.out 0))
              go_roundg k1
              case measure => have := HK1.out; omega
              case rel => exact ⟨(wrap64 (x8_1 + 1)), (t175), (.slice Ao19 t175.length co19), (by first | rfl | (simp; done) | (simp [*]; done)), H', ⟨by have := HK1.out; omega⟩, ⟨by (with_reducible repeat (first | apply Kd.V_alloc | apply Kd.V_drewN | apply Kd.V_drew)); exact Kd.V_mono (Kd.V_far (p := ⟨gb172, 0, none⟩) (Kd.V_mono HO177.out (fun k_ hk => (⟨hk, hk.2.2.1⟩ : _ ∧ k_ ≠ gb172))) (fun _ hk => hk.2) (.slice Ao19 t175.length co19)) (fun _ hk => ⟨hk.1.1, ⟨hk.1.2.1, hk.1.2.2.1⟩⟩)⟩, ⟨xk⟩, ⟨xk⟩, ⟨xb⟩⟩
            · rw [if_neg c7] at H
              have c7b0 : (((rd_T43 l0 x8_1).f0) == 1) = false := beq_eq_false_iff_ne.mpr c7
              have c7b1 : (((rd_T43 l0 x8_1).f0) != 1) = true := bne_iff_ne.mpr c7
              replace H := Option.bind_eq_some_iff.mp H
              obtain ⟨t179, A210, H⟩ := H
              replace H : (cracknellaw14_made.l0 k1 l0 (l0.length : Int) (wrap64 (x8_1 + 1)) t179) = some r := H
              have A21 := Aside0.mk A210
              clear A210
              have H' := Aside0.mk H
              clear H
              have p173 : 0 ≤ (x8_1 : Int) := of_decide_eq_true (by first | (with_reducible assumption) | assumption)
              have q173 : x8_1 < (l0.length : Int) := of_decide_eq_true (by first | (with_reducible assumption) | assumption)
              obtain ⟨ad173, e173, hx173_0, hx173_1, hx173_2⟩ := at_T43 HR0.out x8_1 p173 q173
              cases e173
              replace hx173_0 := (HB.out.cell (World.block_lt_of_cell? w _ hx173_0)).trans hx173_0
              replace hx173_1 := (HB.out.cell (World.block_lt_of_cell? w _ hx173_1)).trans hx173_1
              replace hx173_2 := (HB.out.cell (World.block_lt_of_cell? w _ hx173_2)).trans hx173_2
              replace p173 := eq_true p173
              replace q173 := eq_true q173
              go_wp2_with (first | ((with_reducible refine gate_dst (N := 5) rfl ?_); refine box_event ?hg (N := 5) ?hd (cs := #[.int .i64 0, .int .i64 0, .int .i64 0]) (t := 43) ?hr ?_; (case hd => rfl); (case hg => rfl); (case hr => first | (go_simp; done) | (go_simp; rfl)); intro gb174 hg w22 hbox hb; have n0_ := Aside0.mk (Kd.V_below (Kd.V_elderB (by (with_reducible repeat (first | apply Kd.V_alloc | apply Kd.V_drewN | apply Kd.V_drew)); exact HO_173000.out) gb174 (Nat.le_of_eq hg.symm)) hb); have n1_ := blkB BK171 hb; have n2_ := blkB BK172 hb; have n3_ := Aside0.mk (below_step xb hb); have n4_ := Aside0.mk (hbox); have n5_ := Aside0.mk ((by rw [hg]; exact (below_size xb) : w.heap.size ≤ gb174)); have n6_ := Aside0.mk ((by rw [hg]; exact (below_size xb) : w.heap.size ≤ gb174)); have n7_ := Aside0.mk ((by rw [hg]; exact Nat.ne_of_lt (blkL BK171) : gb171 ≠ gb174)); have n8_ := Aside0.mk ((by rw [hg]; exact Nat.ne_of_gt (blkL BK171) : gb174 ≠ gb171)); have n9_ := Aside0.mk ((by rw [hg]; exact Nat.ne_of_lt (blkL BK172) : gb172 ≠ gb174)); have n10_ := Aside0.mk ((by rw [hg]; exact Nat.ne_of_gt (blkL BK172) : gb174 ≠ gb172)); clear HO_173000; clear BK171; clear BK172; clear HB; have HO_173000 := n0_; have BK171 := n1_; have BK172 := n2_; have HB := n3_; have BK174 := n4_; have GW174 := n5_; have GE174 := n6_; have NB171_174 := n7_; have NB174_171 := n8_; have NB172_174 := n9_; have NB174_172 := n10_; clear n0_ n1_ n2_ n3_ n4_ n5_ n6_ n7_ n8_ n9_ n10_; clear hb hbox hg; have hnb23 := NB174_171.out; have hnc23 := NB171_174.out; have hnb24 := NB174_172.out; have hnc24 := NB172_174.out; have hcz25_0 : w22.cell? ⟨gb174, 0, none⟩ = some (.int .i64 0) := (blk_cell BK174.out 0).trans rfl; have hcz25_1 : w22.cell? ⟨gb174, 1, none⟩ = some (.int .i64 0) := (blk_cell BK174.out 1).trans rfl; have hcz25_2 : w22.cell? ⟨gb174, 2, none⟩ = some (.int .i64 0) := (blk_cell BK174.out 2).trans rfl; have hfz25_0 := blk_frozen BK174.out 0; have hfz25_1 := blk_frozen BK174.out 1; have hfz25_2 := blk_frozen BK174.out 2) | ((with_reducible refine gate_store (t := 43) (p := 5) rfl ?_); refine store_event (t := 43) (p := 5) (v := ?vo_w26) (w1 := (((w22.setCell ⟨gb174, 0, none⟩ (.int .i64 ((rd_T43 l0 x8_1).f0))).setCell ⟨gb174, 1, none⟩ (.int .i64 ((rd_T43 l0 x8_1).f1))).setCell ⟨gb174, 2, none⟩ (.int .i64 ((rd_T43 l0 x8_1).f2)))) ?hg ?ho ?hn ?hr ?_; (case ho => rfl); (case hg => rfl); (case hn => rfl); (case hr => first | (go_simp; done) | (go_simp; rfl)); intro w26 hw; have n0_ : Aside0 (Kd.V k65 65 w26 w.heap.size (fun k_ => (w.heap.size ≤ k_) ∧ k_ ≠ gb171 ∧ k_ ≠ gb172 ∧ k_ ≠ gb174) u173000 x173000_1) := ⟨(by rw [hw]; exact (by (with_reducible repeat (first | apply Kd.V_alloc | apply Kd.V_drewN | apply Kd.V_drew)); exact Kd.V_mono (Kd.V_far (p := ⟨gb174, 2, none⟩) (Kd.V_far (p := ⟨gb174, 1, none⟩) (Kd.V_far (p := ⟨gb174, 0, none⟩) (Kd.V_mono HO_173000.out (fun k_ hk => (⟨hk, hk.2⟩ : _ ∧ k_ ≠ gb174))) (fun _ hk => hk.2) (.int .i64 ((rd_T43 l0 x8_1).f0))) (fun _ hk => hk.2) (.int .i64 ((rd_T43 l0 x8_1).f1))) (fun _ hk => hk.2) (.int .i64 ((rd_T43 l0 x8_1).f2))) (fun _ hk => ⟨hk.1.1.1, ⟨hk.1.1.2.1, ⟨hk.1.1.2.2, hk.1.2⟩⟩⟩)))⟩; have n1_ : Aside0 (w26.heap[gb171]? = some (.cells #[.slice none 0 0] 27 (0, 0))) := ⟨(by rw [hw]; exact xk)⟩; have n2_ : Aside0 (w26.heap[gb172]? = some (.cells #[u173000] 27 (0, 0))) := ⟨(by rw [hw]; exact xk)⟩; have n3_ : Aside0 (w26.heap[gb174]? = some (.cells #[.int .i64 ((rd_T43 l0 x8_1).f0), .int .i64 ((rd_T43 l0 x8_1).f1), .int .i64 ((rd_T43 l0 x8_1).f2)] 43 (0, 0))) := ⟨(by rw [hw]; exact xk)⟩; have n4_ : Aside0 (Below w.heap.size w w26) := ⟨(by rw [hw]; exact xb)⟩; clear hw; clear HO_173000; clear BK171; clear BK172; clear BK174; clear HB; have HO_173000 := n0_; have BK171 := n1_; have BK172 := n2_; have BK174 := n3_; have HB := n4_; clear n0_ n1_ n2_ n3_ n4_; have hcz27_0 : w26.cell? ⟨gb174, 0, none⟩ = some (.int .i64 ((rd_T43 l0 x8_1).f0)) := (blk_cell BK174.out 0).trans rfl; have hcz27_1 : w26.cell? ⟨gb174, 1, none⟩ = some (.int .i64 ((rd_T43 l0 x8_1).f1)) := (blk_cell BK174.out 1).trans rfl; have hcz27_2 : w26.cell? ⟨gb174, 2, none⟩ = some (.int .i64 ((rd_T43 l0 x8_1).f2)) := (blk_cell BK174.out 2).trans rfl; have hfz27_0 := blk_frozen BK174.out 0; have hfz27_1 := blk_frozen BK174.out 1; have hfz27_2 := blk_frozen BK174.out 2; have hnb28 := NB172_171.out; have hnc28 := NB171_172.out; have hcz29_0 : w26.cell? ⟨gb172, 0, none⟩ = some (u173000) := (blk_cell BK172.out 0).trans rfl; have hfz29_0 := blk_frozen BK172.out 0; obtain ⟨Ao30, co30, eo30⟩ := Kd.V_slice HO_173000.out; subst eo30) | ((with_reducible refine gate_callee (f := 16) rfl ?_); refine goesL_ (some 27) rfl rfl Try.func16 (by kernel_rfl) rfl #[.agg #[.slice Ao30 x173000_1.length co30], .int .i64 ((rd_T43 l0 x8_1).f1), .int .i64 ((rd_T43 l0 x8_1).f2)] rfl xg ?_; (with_reducible refine (cracknellaw14_Int_int_Put.calls k1 (fun k_ => ((w.heap.size ≤ k_) ∧ (k_ ≠ gb171 ∧ (k_ ≠ gb172 ∧ k_ ≠ gb174)))) _ _ x173000_1 ((rd_T43 l0 x8_1).f1) ((rd_T43 l0 x8_1).f2) t179 _ ?side1 A21.out).mono ?_); (case side1 => exact HO_173000.out); rintro e w31 ⟨v180, rfl, ho0, hb⟩; refine ⟨_, rfl, ?_⟩; have n0_ := Aside0.mk (Kd.V_elder' (by (with_reducible repeat (first | apply Kd.V_alloc | apply Kd.V_drewN | apply Kd.V_drew)); exact HO_173000.out) (Kd.R_base ho0) hb); have n1_ := Aside0.mk (Kd.R_lower (Kd.R_newM (M := fun k_ => (w.heap.size ≤ k_)) (Kd.R_mono (ok' := fun k_ => True) ho0 (fun _ hk_ => trivial)) (below_size xb) (fun k_ h_ => h_)) (below_size xb)); have n2_ := blkB BK171 hb; have n3_ := blkB BK172 hb; have n4_ := blkB BK174 hb; have n5_ := Aside0.mk (below_step xb hb); clear HO_173000; clear BK171; clear BK172; clear BK174; clear HB; have HO_173000 := n0_; have HO181 := n1_; have BK171 := n2_; have BK172 := n3_; have BK174 := n4_; have HB := n5_; clear n0_ n1_ n2_ n3_ n4_ n5_; (try clear hb); (try clear hb2); (try clear hk); (try clear hi); (try clear ho0); obtain ⟨Ao32, co32, eo32⟩ := Kd.R_slice HO181.out; subst eo32; have hcz33_0 : w31.cell? ⟨gb172, 0, none⟩ = some (.slice Ao30 x173000_1.length co30) := (blk_cell BK172.out 0).trans rfl; have hfz33_0 := blk_frozen BK172.out 0))
              go_roundg k1
              case measure => have := HK1.out; omega
              case rel => exact ⟨(wrap64 (x8_1 + 1)), (t179), (.slice Ao32 t179.length co32), (by first | rfl | (simp; done) | (simp [*]; done)), H', ⟨by have := HK1.out; omega⟩, ⟨Kd.R_V (by (with_reducible repeat (first | apply Kd.R_alloc | apply Kd.R_drewN | apply Kd.R_drew)); exact Kd.R_mono (Kd.R_far (p := ⟨gb172, 0, none⟩) (Kd.R_types (Kd.R_types (Kd.R_types HO181.out BK171.out (by decide)) BK172.out (by decide)) BK172.out (by decide)) (fun _ hk => hk.2) (.slice Ao32 t179.length co32)) (fun _ hk => ⟨hk.1.1.1.1, ⟨hk.1.1.2, hk.1.2⟩⟩))⟩, ⟨xk⟩, ⟨xk⟩, ⟨xb⟩⟩
          · rw [if_neg c6] at H
            exact absurd H (by simp)
        · rw [if_neg c5] at H
          exact absurd H (by simp)
      · rw [if_neg c4] at H
        have c4b0 : decide (x8_1 < (l0.length : Int)) = false := decide_eq_false c4
        clear c4
        obtain rfl := Option.some.inj H
        have hnb34 := NB172_171.out
        have hnc34 := NB171_172.out
        have hcz35_0 : wr.cell? ⟨gb172, 0, none⟩ = some (u173000) := (blk_cell BK172.out 0).trans rfl
        have hfz35_0 := blk_frozen BK172.out 0
        obtain ⟨Ao36, co36, eo36⟩ := Kd.V_slice HO_173000.out
        subst eo36
        have hcz37_0 : wr.cell? ⟨gb171, 0, none⟩ = some (.slice none 0 0) := (blk_cell BK171.out 0).trans rfl
        have hfz37_0 := blk_frozen BK171.out 0
        go_wp2
        refine bodyPost_ret (results_cell_row rfl _ _ gb171 27 #[.slice Ao36 x173000_1.length co36] (0, 0) _ rfl xk Try.underlying27 rfl (by kernel_rfl)) rfl ?_
        exact ⟨_, by first | rfl | (simp [errW_none, errW_some] <;> rfl) | (simp [*, errW_none, errW_some] <;> rfl), by (with_reducible repeat (first | apply Kd.V_alloc | apply Kd.V_drewN | apply Kd.V_drew)); exact Kd.V_mono (Kd.V_far (p := ⟨gb171, 0, none⟩) (Kd.V_mono HO_173000.out (fun k_ hk => (⟨hk, hk.2.1⟩ : _ ∧ k_ ≠ gb171))) (fun _ hk => hk.2) (.slice Ao36 x173000_1.length co36)) (fun _ hk => hk.1.1), by repeat (first | (with_reducible first | exact HB.out | apply below_alloc | apply pw_below_drewN | apply below_drew1 | refine below_set ?_ GE171.out | refine below_set ?_ GE172.out) | exact HB.out)⟩

end Go.Proofs.Ytmpccjkdfdgedaa.Print
