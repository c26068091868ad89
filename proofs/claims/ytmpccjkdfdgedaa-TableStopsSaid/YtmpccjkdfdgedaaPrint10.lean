/- Printed by a program of this claim's session (xprint.py): the machine's side: each Go function as a Lean function, and that a call of it comes to what that tells; the row of a statement. No condition. -/
import Derived.Test.YtmpccjkdfdgedaaPrint0
import Derived.Test.YtmpccjkdfdgedaaGtableB
import Derived.Test.YtmpccjkdfdgedaaGgrowB
namespace Go.Proofs.Ytmpccjkdfdgedaa.Print
open Go.RowKit Go.Proofs.YtmpccjkdfdgedaaW.PrintWords Go.Proofs.YtmpccjkdfdgedaaW.PrintLast Go.Proofs.YtmpccjkdfdgedaaW.PrintMore
attribute [local go_sem] max2_int min2_int max_two min_two max_three min_three max_four min_four   -- for this text's walks alone
set_option linter.unusedVariables false
set_option linter.unusedSimpArgs false

/-! ### cracknellaw14_Back_int_32: function 32 -/
mutual
def cracknellaw14_Back_int_32.l0 : Nat → List (List (S72)) → Int → List (List (S72)) → Int → Int → Option ((List (S72)))
  | 0, _, _, _, _, _ => none
  | k + 1, x0, x3, x9, x10, x11 => if x11 < x10 then (if 0 ≤ x11 then (if x11 < (x9.length : Int) then (if (wrap64 (x3 + ((rd_L10 x9 x11).length : Int))) < 0 then (none) else (cracknellaw14_Back_int_32.l0 k x0 (wrap64 (x3 + ((rd_L10 x9 x11).length : Int))) x9 x10 (wrap64 (x11 + 1)))) else (none)) else (none)) else ((slices_Grow_Back.f ([] : List (S72)) x3).bind fun t412 => (cracknellaw14_Back_int_32.l1 k t412 x0 (x0.length : Int) 0))
def cracknellaw14_Back_int_32.l1 : Nat → List (S72) → List (List (S72)) → Int → Int → Option ((List (S72)))
  | 0, _, _, _, _ => none
  | k + 1, x6, x25, x26, x27 => if x27 < x26 then (if 0 ≤ x27 then (if x27 < (x25.length : Int) then (if x6.length + (rd_L10 x25 x27).length < 8796093022208 then (cracknellaw14_Back_int_32.l1 k (x6 ++ (rd_L10 x25 x27)) x25 x26 (wrap64 (x27 + 1))) else (none)) else (none)) else (none)) else (some x6)
end
def cracknellaw14_Back_int_32.f (k : Nat) (l0 : List (List (S72))) : Option ((List (S72))) := cracknellaw14_Back_int_32.l0 k l0 0 l0 (l0.length : Int) 0
theorem cracknellaw14_Back_int_32.mono_l : ∀ k, (∀ y0 y1 y2 y3 y4, LeO (cracknellaw14_Back_int_32.l0 k y0 y1 y2 y3 y4) (cracknellaw14_Back_int_32.l0 (k + 1) y0 y1 y2 y3 y4)) ∧ (∀ y0 y1 y2 y3, LeO (cracknellaw14_Back_int_32.l1 k y0 y1 y2 y3) (cracknellaw14_Back_int_32.l1 (k + 1) y0 y1 y2 y3))
  | 0 => ⟨fun _ _ _ _ _ r h => by simp [cracknellaw14_Back_int_32.l0] at h, fun _ _ _ _ r h => by simp [cracknellaw14_Back_int_32.l1] at h⟩
  | k + 1 => by
    obtain ⟨ih0, ih1⟩ := cracknellaw14_Back_int_32.mono_l k
    refine ⟨?_, ?_⟩
    · intro y0 y1 y2 y3 y4
      unfold cracknellaw14_Back_int_32.l0
      repeat' first
      | (with_reducible exact ih0 _ _ _ _ _)
      | (with_reducible exact ih1 _ _ _ _)
      | (with_reducible exact LeO.refl _)
      | (with_reducible exact LeO.none _)
      | (with_reducible refine LeO.ite ?_ ?_)
      | (with_reducible refine LeO.bind ?_ (fun _ => ?_))
      | exact ih0 _ _ _ _ _
      | exact ih1 _ _ _ _
      | exact LeO.none _
      | refine LeO.ite ?_ ?_
      | refine LeO.bind ?_ (fun _ => ?_)
    · intro y0 y1 y2 y3
      unfold cracknellaw14_Back_int_32.l1
      repeat' first
      | (with_reducible exact ih0 _ _ _ _ _)
      | (with_reducible exact ih1 _ _ _ _)
      | (with_reducible exact LeO.refl _)
      | (with_reducible exact LeO.none _)
      | (with_reducible refine LeO.ite ?_ ?_)
      | (with_reducible refine LeO.bind ?_ (fun _ => ?_))
      | exact ih0 _ _ _ _ _
      | exact ih1 _ _ _ _
      | exact LeO.none _
      | refine LeO.ite ?_ ?_
      | refine LeO.bind ?_ (fun _ => ?_)
theorem cracknellaw14_Back_int_32.mono : ∀ a0 k, LeO (cracknellaw14_Back_int_32.f k a0) (cracknellaw14_Back_int_32.f (k + 1) a0) := by
  intro a0 k
  obtain ⟨ih0, ih1⟩ := cracknellaw14_Back_int_32.mono_l k
  unfold cracknellaw14_Back_int_32.f
  repeat' first
      | (with_reducible exact ih0 _ _ _ _ _)
      | (with_reducible exact ih1 _ _ _ _)
      | (with_reducible exact LeO.refl _)
      | (with_reducible exact LeO.none _)
      | (with_reducible refine LeO.ite ?_ ?_)
      | (with_reducible refine LeO.bind ?_ (fun _ => ?_))
      | exact ih0 _ _ _ _ _
      | exact ih1 _ _ _ _
      | exact LeO.none _
      | refine LeO.ite ?_ ?_
      | refine LeO.bind ?_ (fun _ => ?_)
set_option maxHeartbeats 8000000 in
set_option maxRecDepth 100000 in
theorem cracknellaw14_Back_int_32.calls (k : Nat) (A0 : Option Addr) (c0 : Nat) (l0 : List (List (S72))) (r : List (S72)) (w : World) (hr0 : Kd.C (Kd.slice 72 k72) w A0 l0.length l0) (hc0 : l0.length ≤ c0) (h : cracknellaw14_Back_int_32.f k l0 = some r) :
    Calls Try.prog 32 #[.slice A0 l0.length c0] w fun e w' => ∃ v0_ : Value, e = .returned (v0_) ∧ Kd.R k72 72 w' w.heap.size (fun _ => True) v0_ r ∧ Below w.heap.size w w' := by
  have HR0 := Aside0.mk hr0
  have HC0 := Aside0.mk hc0
  clear hr0 hc0
  have HB := Aside0.mk (Below.refl w.heap.size w)
  have H : (cracknellaw14_Back_int_32.l0 k l0 0 l0 (l0.length : Int) 0) = some r := h
  clear h
  have H' := Aside0.mk H
  clear H
  go_enter Try.func32, Try.ntmps32
  go_wp2
  go_loopg [3, 11] k (fun kq v3 v11 w' => ∃ (x3_1 : Int) (x11_1 : Int), v3 = .int .i64 x3_1 ∧ v11 = .int .i64 x11_1 ∧ Aside0 (cracknellaw14_Back_int_32.l0 kq l0 x3_1 l0 (l0.length : Int) x11_1 = some r) ∧ Aside0 (kq ≤ k) ∧ Aside0 (Below w.heap.size w w'))
  case atStart => exact ⟨(0), (0), (by first | rfl | (simp; done) | (simp [*]; done)), (by first | rfl | (simp; done) | (simp [*]; done)), H', ⟨Nat.le_refl _⟩, ⟨xb⟩⟩
  case round =>
    clear H'
    obtain ⟨x3_1, x11_1, rfl, rfl, HA, HK1, HB⟩ := hrel
    cases gk with
    | zero => exact absurd HA.out (by simp [cracknellaw14_Back_int_32.l0])
    | succ k1 =>
      have H := HA.out
      clear HA
      simp only [cracknellaw14_Back_int_32.l0] at H
      by_cases c2 : x11_1 < (l0.length : Int)
      · rw [if_pos c2] at H
        have c2b0 : decide (x11_1 < (l0.length : Int)) = true := decide_eq_true c2
        clear c2
        by_cases c3 : 0 ≤ x11_1
        · rw [if_pos c3] at H
          have c3b0 : decide (0 ≤ x11_1) = true := decide_eq_true c3
          clear c3
          by_cases c4 : x11_1 < (l0.length : Int)
          · rw [if_pos c4] at H
            have c4b0 : decide (x11_1 < (l0.length : Int)) = true := decide_eq_true c4
            clear c4
            by_cases c5 : (wrap64 (x3_1 + ((rd_L10 l0 x11_1).length : Int))) < 0
            · rw [if_pos c5] at H
              exact absurd H (by simp)
            · rw [if_neg c5] at H
              have c5b0 : decide ((wrap64 (x3_1 + ((rd_L10 l0 x11_1).length : Int))) < 0) = false := decide_eq_false c5
              clear c5
              have H' := Aside0.mk H
              clear H
              have p411 : 0 ≤ (x11_1 : Int) := of_decide_eq_true (by first | (with_reducible assumption) | assumption)
              have q411 : x11_1 < (l0.length : Int) := of_decide_eq_true (by first | (with_reducible assumption) | assumption)
              obtain ⟨ad411, A411_0, c411_0, e411, hx411_0, hl411_0, hi411_0⟩ := at_L10 HR0.out x11_1 p411 q411
              cases e411
              replace hx411_0 := (HB.out.cell (World.block_lt_of_cell? w _ hx411_0)).trans hx411_0
              have HR411_0 := Aside0.mk hi411_0
              have HC411_0 := Aside0.mk hl411_0
              clear hi411_0 hl411_0
              replace p411 := eq_true p411
              replace q411 := eq_true q411
              go_wp2
              go_roundg k1
              case measure => have := HK1.out; omega
              case rel => exact ⟨(wrap64 (x3_1 + ((rd_L10 l0 x11_1).length : Int))), (wrap64 (x11_1 + 1)), (by first | rfl | (simp; done) | (simp [*]; done)), (by first | rfl | (simp; done) | (simp [*]; done)), H', ⟨by have := HK1.out; omega⟩, ⟨xb⟩⟩
          · rw [if_neg c4] at H
            exact absurd H (by simp)
        · rw [if_neg c3] at H
          exact absurd H (by simp)
      · rw [if_neg c2] at H
        have c2b0 : decide (x11_1 < (l0.length : Int)) = false := decide_eq_false c2
        clear c2
        replace H := Option.bind_eq_some_iff.mp H
        obtain ⟨t412, A60, H⟩ := H
        replace H : (cracknellaw14_Back_int_32.l1 k1 t412 l0 (l0.length : Int) 0) = some r := H
        have A6 := Aside0.mk A60
        clear A60
        have H' := Aside0.mk H
        clear H
        go_wp2_with (first | ((with_reducible refine gate_callee (f := 39) rfl ?_); refine goesL_ (some 24) rfl rfl Try.func39 (by kernel_rfl) rfl #[.slice none 0 0, .int .i64 x3_1] rfl xg ?_; (refine (slices_Grow_Back.calls _ _ ([] : List (S72)) x3_1 t412 _ ?side1 ?side2 A6.out).mono ?_); (case side1 => exact Kd.C_nil _ _); (case side2 => exact Nat.le_refl _); rintro e w7 ⟨v413, rfl, ho0, hb⟩; refine ⟨_, rfl, ?_⟩; have n0_ := Aside0.mk (Kd.R_lower ho0 (below_size xb)); have n1_ := Aside0.mk (below_step xb hb); clear HB; have HO414 := n0_; have HB := n1_; clear n0_ n1_; (try clear hb); (try clear hb2); (try clear hk); (try clear hi); (try clear ho0)))
        go_loopg [6, 27] k1 (fun kq v6 v27 w' => ∃ (x6_2 : List (S72)) (x27_2 : Int), v27 = .int .i64 x27_2 ∧ Aside0 (cracknellaw14_Back_int_32.l1 kq x6_2 l0 (l0.length : Int) x27_2 = some r) ∧ Aside0 (kq ≤ k1) ∧ Aside0 (Kd.R k72 72 w' w.heap.size (fun _ => True) v6 x6_2) ∧ Aside0 (Below w.heap.size w w'))
        case atStart => exact ⟨(t412), (0), (by first | rfl | (simp; done) | (simp [*]; done)), H', ⟨Nat.le_refl _⟩, ⟨by (with_reducible repeat (first | apply Kd.R_alloc | apply Kd.R_drewN | apply Kd.R_drew)); exact HO414.out⟩, ⟨xb⟩⟩
        case round =>
          clear H'
          try clear c2
          try clear c2b0
          try clear p2
          try clear c3
          try clear c3b0
          try clear p3
          try clear c4
          try clear c4b0
          try clear p4
          try clear q4
          try clear hx4
          try clear c5
          try clear c5b0
          try clear p6
          try clear hx411_0
          try clear p411
          try clear q411
          obtain ⟨x6_2, x27_2, rfl, HA, HK2, HO_6, HB⟩ := hrel
          cases gk with
          | zero => exact absurd HA.out (by simp [cracknellaw14_Back_int_32.l1])
          | succ k2 =>
            have H := HA.out
            clear HA
            simp only [cracknellaw14_Back_int_32.l1] at H
            by_cases c8 : x27_2 < (l0.length : Int)
            · rw [if_pos c8] at H
              have c8b0 : decide (x27_2 < (l0.length : Int)) = true := decide_eq_true c8
              clear c8
              by_cases c9 : 0 ≤ x27_2
              · rw [if_pos c9] at H
                have c9b0 : decide (0 ≤ x27_2) = true := decide_eq_true c9
                clear c9
                by_cases c10 : x27_2 < (l0.length : Int)
                · rw [if_pos c10] at H
                  have c10b0 : decide (x27_2 < (l0.length : Int)) = true := decide_eq_true c10
                  clear c10
                  by_cases c11 : x6_2.length + (rd_L10 l0 x27_2).length < 8796093022208
                  · rw [if_pos c11] at H
                    have LMc11 := Aside0.mk c11
                    clear c11
                    obtain ⟨y416, hy416⟩ : ∃ y_ : List (S72), y_ = (x6_2 ++ (rd_L10 l0 x27_2)) := ⟨_, rfl⟩
                    replace H : (cracknellaw14_Back_int_32.l1 k2 y416 l0 (l0.length : Int) (wrap64 (x27_2 + 1))) = some r := by first | (rw [hy416]; with_reducible exact H) | (have H2_ := (Option.bind_some _ _).symm.trans H; rw [hy416]; with_reducible exact H2_) | (have H2_ := (Option.bind_some _ _).symm.trans H; with_reducible exact H2_) | with_reducible exact H | (rw [hy416]; exact H) | exact H
                    have Ny416 := Aside0.mk hy416
                    clear hy416
                    have H' := Aside0.mk H
                    clear H
                    have p415 : 0 ≤ (x27_2 : Int) := of_decide_eq_true (by first | (with_reducible assumption) | assumption)
                    have q415 : x27_2 < (l0.length : Int) := of_decide_eq_true (by first | (with_reducible assumption) | assumption)
                    obtain ⟨ad415, A415_0, c415_0, e415, hx415_0, hl415_0, hi415_0⟩ := at_L10 HR0.out x27_2 p415 q415
                    cases e415
                    replace hx415_0 := (HB.out.cell (World.block_lt_of_cell? w _ hx415_0)).trans hx415_0
                    have HR415_0 := Aside0.mk hi415_0
                    have HC415_0 := Aside0.mk hl415_0
                    clear hi415_0 hl415_0
                    replace p415 := eq_true p415
                    replace q415 := eq_true q415
                    go_wp2_with (first | ((with_reducible refine gate_builtin (b := .append) (xs := #[.tmp 31, .tmp 32]) rfl ?_); at_builtin; refine Kd.R_append_rows k72 (w0 := w) w.heap.size rfl (.tmp 31) (.tmp 32) 54 72 (.agg #[(.int .i64 0), (.int .i64 0)]) 16 rfl Try.underlying54 info72 rfl (by decide) (by omega) u6 x6_2 (rd_L10 l0 x27_2) _ _ _ (fun _ => True) (fun _ => False) rfl rfl ?aO ?aR (fun _ _ h => h) (fun _ h => h.elim) ?aF ?aB ?aS ?aL ?_; (case aR => repeat (first | exact (Kd.C_below HR415_0.out HB.out) | (with_reducible refine Kd.C_alloc ?_ _) | (with_reducible refine Kd.C_drewN ?_ _) | (with_reducible refine Kd.C_drew ?_))); (case aB => exact xb); (case aF => exact (fun _ _ => trivial)); (case aO => exact (by (with_reducible repeat (first | apply Kd.R_alloc | apply Kd.R_drewN | apply Kd.R_drew)); exact HO_6.out)); (case aS => exact (below_size xb)); (case aL => have := LMc11.out; omega); intro v417 w12 ho hb hg hat; rw [← Ny416.out] at ho; have n0_ := Aside0.mk (hb); have n1_ := Aside0.mk (ho); clear HB; clear HO_6; have HB := n0_; have HO418 := n1_; clear n0_ n1_; clear ho hb hg hat))
                    go_roundg k2
                    case measure => have := HK1.out; have := HK2.out; omega
                    case rel => exact ⟨(y416), (wrap64 (x27_2 + 1)), (by first | rfl | (simp; done) | (simp [*]; done)), H', ⟨by have := HK1.out; have := HK2.out; omega⟩, ⟨by (with_reducible repeat (first | apply Kd.R_alloc | apply Kd.R_drewN | apply Kd.R_drew)); exact HO418.out⟩, ⟨xb⟩⟩
                  · rw [if_neg c11] at H
                    exact absurd H (by simp)
                · rw [if_neg c10] at H
                  exact absurd H (by simp)
              · rw [if_neg c9] at H
                exact absurd H (by simp)
            · rw [if_neg c8] at H
              have c8b0 : decide (x27_2 < (l0.length : Int)) = false := decide_eq_false c8
              clear c8
              obtain rfl := Option.some.inj H
              go_wp2
              go_ret
              exact ⟨_, by first | rfl | (simp [errW_none, errW_some] <;> rfl) | (simp [*, errW_none, errW_some] <;> rfl), by (with_reducible repeat (first | apply Kd.R_alloc | apply Kd.R_drewN | apply Kd.R_drew)); exact HO_6.out, by repeat (first | (with_reducible first | exact HB.out | apply below_alloc | apply pw_below_drewN | apply below_drew1) | exact HB.out)⟩

/-! ### cracknellaw14_Back_int_Put: function 24 -/
def cracknellaw14_Back_int_Put.f (k : Nat) (l0_0 : List (S72)) (a1 : Int) (a2 : Int) : Option ((List (S72))) := (table_place_Back.f l0_0 a1).bind fun bt421 => (if 0 ≤ bt421.1 then (if bt421.1 ≤ (l0_0.length : Int) then ((some (l0_0.drop (bt421.1 : Int).toNat : List (S72))).bind fun y423 => (if bt421.2 = true then (if 1 ≤ (y423.length : Int) then ((cracknellaw14_Back_int_32.f k (([(l0_0.take (bt421.1 : Int).toNat), (([(⟨a1, a2⟩ : S72)] : List (S72))), (y423.drop 1)] : List (List (S72))))).bind fun t444 => (some t444)) else (none)) else ((cracknellaw14_Back_int_32.f k (([(l0_0.take (bt421.1 : Int).toNat), (([(⟨a1, a2⟩ : S72)] : List (S72))), y423] : List (List (S72))))).bind fun t458 => (some t458)))) else (none)) else (none))
theorem cracknellaw14_Back_int_Put.mono : ∀ a0 a1 a2 k, LeO (cracknellaw14_Back_int_Put.f k a0 a1 a2) (cracknellaw14_Back_int_Put.f (k + 1) a0 a1 a2) := by
  intro a0 a1 a2 k
  unfold cracknellaw14_Back_int_Put.f
  repeat' first
      | (with_reducible exact cracknellaw14_Back_int_32.mono _ _)
      | (with_reducible exact LeO.refl _)
      | (with_reducible exact LeO.none _)
      | (with_reducible refine LeO.ite ?_ ?_)
      | (with_reducible refine LeO.bind ?_ (fun _ => ?_))
      | exact cracknellaw14_Back_int_32.mono _ _
      | exact LeO.none _
      | refine LeO.ite ?_ ?_
      | refine LeO.bind ?_ (fun _ => ?_)
set_option maxHeartbeats 8000000 in
set_option maxRecDepth 100000 in
theorem cracknellaw14_Back_int_Put.calls (k : Nat) (P0_0_ : Nat → Prop) (A0_0 : Option Addr) (c0_0 : Nat) (l0_0 : List (S72)) (a1 : Int) (a2 : Int) (r : List (S72)) (w : World) (hs0_0 : Kd.V k72 72 w w.heap.size (fun k_ => P0_0_ k_) (.slice A0_0 l0_0.length c0_0) l0_0) (h : cracknellaw14_Back_int_Put.f k l0_0 a1 a2 = some r) :
    Calls Try.prog 24 #[.agg #[.slice A0_0 l0_0.length c0_0], .int .i64 a1, .int .i64 a2] w fun e w' => ∃ v0_ : Value, e = .returned (.agg #[v0_]) ∧ Kd.R k72 72 w' w.heap.size (fun k_ => (w.heap.size ≤ k_)) v0_ r ∧ Below w.heap.size w w' := by
  have hu56 := Try.underlying56
  have hu72 := Try.underlying72
  have HO0_0 := Aside0.mk (show Kd.V k72 72 w w.heap.size (fun k_ => (P0_0_ k_ ∨ w.heap.size ≤ k_)) (.slice A0_0 l0_0.length c0_0) l0_0 from Kd.V_mono hs0_0 (fun k_ hk => .inl hk))
  have HB := Aside0.mk (Below.refl w.heap.size w)
  have H : ((table_place_Back.f l0_0 a1).bind fun bt421 => (if 0 ≤ bt421.1 then (if bt421.1 ≤ (l0_0.length : Int) then ((some (l0_0.drop (bt421.1 : Int).toNat : List (S72))).bind fun y423 => (if bt421.2 = true then (if 1 ≤ (y423.length : Int) then ((cracknellaw14_Back_int_32.f k (([(l0_0.take (bt421.1 : Int).toNat), (([(⟨a1, a2⟩ : S72)] : List (S72))), (y423.drop 1)] : List (List (S72))))).bind fun t444 => (some t444)) else (none)) else ((cracknellaw14_Back_int_32.f k (([(l0_0.take (bt421.1 : Int).toNat), (([(⟨a1, a2⟩ : S72)] : List (S72))), y423] : List (List (S72))))).bind fun t458 => (some t458)))) else (none)) else (none))) = some r := h
  clear h
  replace H := Option.bind_eq_some_iff.mp H
  obtain ⟨⟨t421, t422⟩, A40, H⟩ := H
  replace H : (if 0 ≤ t421 then (if t421 ≤ (l0_0.length : Int) then ((some (l0_0.drop (t421 : Int).toNat : List (S72))).bind fun y423 => (if t422 = true then (if 1 ≤ (y423.length : Int) then ((cracknellaw14_Back_int_32.f k (([(l0_0.take (t421 : Int).toNat), (([(⟨a1, a2⟩ : S72)] : List (S72))), (y423.drop 1)] : List (List (S72))))).bind fun t444 => (some t444)) else (none)) else ((cracknellaw14_Back_int_32.f k (([(l0_0.take (t421 : Int).toNat), (([(⟨a1, a2⟩ : S72)] : List (S72))), y423] : List (List (S72))))).bind fun t458 => (some t458)))) else (none)) else (none)) = some r := H
  have A4 := Aside0.mk A40
  clear A40
  by_cases c5 : 0 ≤ t421
  · rw [if_pos c5] at H
    have c5b0 := eq_true c5
    have c5b1 : decide (0 ≤ t421) = true := decide_eq_true c5
    clear c5
    by_cases c6 : t421 ≤ (l0_0.length : Int)
    · rw [if_pos c6] at H
      have c6b0 := eq_true c6
      have c6b1 : decide (t421 ≤ (l0_0.length : Int)) = true := decide_eq_true c6
      clear c6
      obtain ⟨y423, hy423⟩ : ∃ y_ : List (S72), y_ = (l0_0.drop (t421 : Int).toNat) := ⟨_, rfl⟩
      replace H : (if t422 = true then (if 1 ≤ (y423.length : Int) then ((cracknellaw14_Back_int_32.f k (([(l0_0.take (t421 : Int).toNat), (([(⟨a1, a2⟩ : S72)] : List (S72))), (y423.drop 1)] : List (List (S72))))).bind fun t444 => (some t444)) else (none)) else ((cracknellaw14_Back_int_32.f k (([(l0_0.take (t421 : Int).toNat), (([(⟨a1, a2⟩ : S72)] : List (S72))), y423] : List (List (S72))))).bind fun t458 => (some t458))) = some r := by first | (rw [hy423]; with_reducible exact H) | (have H2_ := (Option.bind_some _ _).symm.trans H; rw [hy423]; with_reducible exact H2_) | (have H2_ := (Option.bind_some _ _).symm.trans H; with_reducible exact H2_) | with_reducible exact H | (rw [hy423]; exact H) | exact H
      have Ny423 := Aside0.mk hy423
      clear hy423
      by_cases c7 : t422 = true
      · subst c7
        have H1 : (if 1 ≤ (y423.length : Int) then ((cracknellaw14_Back_int_32.f k (([(l0_0.take (t421 : Int).toNat), (([(⟨a1, a2⟩ : S72)] : List (S72))), (y423.drop 1)] : List (List (S72))))).bind fun t444 => (some t444)) else (none)) = some r := by rw [if_pos rfl] at H; exact H
        clear H
        have H := H1
        clear H1
        by_cases c8 : 1 ≤ (y423.length : Int)
        · rw [if_pos c8] at H
          have c8b0 := eq_true c8
          have c8b1 : decide (1 ≤ (y423.length : Int)) = true := decide_eq_true c8
          clear c8
          obtain ⟨y428, hy428⟩ : ∃ y_ : List (S72), y_ = (y423.drop 1) := ⟨_, rfl⟩
          replace H : ((cracknellaw14_Back_int_32.f k (([(l0_0.take (t421 : Int).toNat), (([(⟨a1, a2⟩ : S72)] : List (S72))), y428] : List (List (S72))))).bind fun t444 => (some t444)) = some r := by first | (rw [hy428]; with_reducible exact H) | (have H2_ := (Option.bind_some _ _).symm.trans H; rw [hy428]; with_reducible exact H2_) | (have H2_ := (Option.bind_some _ _).symm.trans H; with_reducible exact H2_) | with_reducible exact H | (rw [hy428]; exact H) | exact H
          have Ny428 := Aside0.mk hy428
          clear hy428
          have c9b0 := eq_true (of_decide_eq_true (by first | (with_reducible assumption) | assumption) : 0 ≤ t421)
          have c10b0 := eq_true (of_decide_eq_true (by first | (with_reducible assumption) | assumption) : t421 ≤ (l0_0.length : Int))
          obtain ⟨y433, hy433⟩ : ∃ y_ : List (S72), y_ = (l0_0.take (t421 : Int).toNat) := ⟨_, rfl⟩
          replace H : ((cracknellaw14_Back_int_32.f k (([y433, (([(⟨a1, a2⟩ : S72)] : List (S72))), y428] : List (List (S72))))).bind fun t444 => (some t444)) = some r := by first | (rw [hy433]; with_reducible exact H) | (have H2_ := (Option.bind_some _ _).symm.trans H; rw [hy433]; with_reducible exact H2_) | (have H2_ := (Option.bind_some _ _).symm.trans H; with_reducible exact H2_) | with_reducible exact H | (rw [hy433]; exact H) | exact H
          have Ny433 := Aside0.mk hy433
          clear hy433
          obtain ⟨y438, hy438⟩ : ∃ y_ : List (S72), y_ = (([(⟨a1, a2⟩ : S72)] : List (S72))) := ⟨_, rfl⟩
          replace H : ((cracknellaw14_Back_int_32.f k (([y433, y438, y428] : List (List (S72))))).bind fun t444 => (some t444)) = some r := by first | (rw [hy438]; with_reducible exact H) | (have H2_ := (Option.bind_some _ _).symm.trans H; rw [hy438]; with_reducible exact H2_) | (have H2_ := (Option.bind_some _ _).symm.trans H; with_reducible exact H2_) | with_reducible exact H | (rw [hy438]; exact H) | exact H
          have Ny438 := Aside0.mk hy438
          clear hy438
          obtain ⟨y441, hy441⟩ : ∃ y_ : List (List (S72)), y_ = (([y433, y438, y428] : List (List (S72)))) := ⟨_, rfl⟩
          replace H : ((cracknellaw14_Back_int_32.f k y441).bind fun t444 => (some t444)) = some r := by first | (rw [hy441]; with_reducible exact H) | (have H2_ := (Option.bind_some _ _).symm.trans H; rw [hy441]; with_reducible exact H2_) | (have H2_ := (Option.bind_some _ _).symm.trans H; with_reducible exact H2_) | with_reducible exact H | (rw [hy441]; exact H) | exact H
          have Ny441 := Aside0.mk hy441
          clear hy441
          replace H := Option.bind_eq_some_iff.mp H
          obtain ⟨t444, A110, H⟩ := H
          replace H : (some t444) = some r := H
          have A11 := Aside0.mk A110
          clear A110
          obtain rfl := Option.some.inj H
          go_enter Try.func24, Try.ntmps24
          go_wp2_with (first | ((with_reducible refine gate_dst (N := 3) rfl ?_); refine box_event ?hg (N := 3) ?hd (cs := #[.slice A0_0 l0_0.length c0_0]) (t := 56) ?hr ?_; (case hd => rfl); (case hg => rfl); (case hr => first | (go_simp; done) | (go_simp; rfl)); intro gb419 hg w12 hbox hb; have n0_ := Aside0.mk (Kd.V_below (Kd.V_elderB (by (with_reducible repeat (first | apply Kd.V_alloc | apply Kd.V_drewN | apply Kd.V_drew)); exact HO0_0.out) gb419 (Nat.le_of_eq hg.symm)) hb); have n1_ := Aside0.mk (below_step xb hb); have n2_ := Aside0.mk (hbox); have n3_ := Aside0.mk ((by rw [hg]; exact (below_size xb) : w.heap.size ≤ gb419)); have n4_ := Aside0.mk ((by rw [hg]; exact (below_size xb) : w.heap.size ≤ gb419)); clear HO0_0; clear HB; have HO0_0 := n0_; have HB := n1_; have BK419 := n2_; have GW419 := n3_; have GE419 := n4_; clear n0_ n1_ n2_ n3_ n4_; clear hb hbox hg) | ((with_reducible refine gate_dst (N := 6) rfl ?_); refine box_event ?hg (N := 6) ?hd (cs := #[.slice none 0 0]) (t := 56) ?hr ?_; (case hd => rfl); (case hg => rfl); (case hr => first | (go_simp; done) | (go_simp; rfl)); intro gb420 hg w13 hbox hb; have n0_ := Aside0.mk (Kd.V_below (Kd.V_elderB (by (with_reducible repeat (first | apply Kd.V_alloc | apply Kd.V_drewN | apply Kd.V_drew)); exact HO0_0.out) gb420 (Nat.le_of_eq hg.symm)) hb); have n1_ := blkB BK419 hb; have n2_ := Aside0.mk (below_step xb hb); have n3_ := Aside0.mk (hbox); have n4_ := Aside0.mk ((by rw [hg]; exact (below_size xb) : w.heap.size ≤ gb420)); have n5_ := Aside0.mk ((by rw [hg]; exact (below_size xb) : w.heap.size ≤ gb420)); have n6_ := Aside0.mk ((by rw [hg]; exact Nat.ne_of_lt (blkL BK419) : gb419 ≠ gb420)); have n7_ := Aside0.mk ((by rw [hg]; exact Nat.ne_of_gt (blkL BK419) : gb420 ≠ gb419)); clear HO0_0; clear BK419; clear HB; have HO0_0 := n0_; have BK419 := n1_; have HB := n2_; have BK420 := n3_; have GW420 := n4_; have GE420 := n5_; have NB419_420 := n6_; have NB420_419 := n7_; clear n0_ n1_ n2_ n3_ n4_ n5_ n6_ n7_; clear hb hbox hg; have hnb14 := NB419_420.out; have hnc14 := NB420_419.out; have hcz15_0 : w13.cell? ⟨gb419, 0, none⟩ = some (.slice A0_0 l0_0.length c0_0) := (blk_cell BK419.out 0).trans rfl; have hfz15_0 := blk_frozen BK419.out 0) | ((with_reducible refine gate_callee (f := 31) rfl ?_); refine goesL_ (some 13) rfl rfl Try.func31 (by kernel_rfl) rfl #[.agg #[.slice A0_0 l0_0.length c0_0], .int .i64 a1] rfl xg ?_; (with_reducible refine (table_place_Back.calls _ _ l0_0 a1 t421 true _ ?side1 ?side2 A4.out).mono ?_); (case side1 => repeat (first | exact (Kd.V_reads' HO0_0.out).2.2 | (with_reducible refine Kd.C_alloc ?_ _) | (with_reducible refine Kd.C_drewN ?_ _) | (with_reducible refine Kd.C_drew ?_))); (case side2 => exact (Kd.V_reads' HO0_0.out).2.1); rintro e w16 ⟨rfl, hb⟩; refine ⟨_, rfl, ?_⟩; have n0_ := Aside0.mk (Kd.V_below (by (with_reducible repeat (first | apply Kd.V_alloc | apply Kd.V_drewN | apply Kd.V_drew)); exact HO0_0.out) hb); have n1_ := blkB BK419 hb; have n2_ := blkB BK420 hb; have n3_ := Aside0.mk (below_step xb hb); clear HO0_0; clear BK419; clear BK420; clear HB; have HO0_0 := n0_; have BK419 := n1_; have BK420 := n2_; have HB := n3_; clear n0_ n1_ n2_ n3_; (try clear hb); (try clear hb2); (try clear hk); (try clear hi); have hcz17_0 : w16.cell? ⟨gb419, 0, none⟩ = some (.slice A0_0 l0_0.length c0_0) := (blk_cell BK419.out 0).trans rfl; have hfz17_0 := blk_frozen BK419.out 0; have q18 : (t421 : Int) ≤ ((l0_0.length : Int) : Int) := of_decide_eq_true (by first | (with_reducible assumption) | assumption); obtain ⟨i018, hi018, _, hsz18, _⟩ := info_parts info72; have hroom18 : l0_0.length ≤ c0_0 := (Kd.V_reads' HO0_0.out).2.1; have hC18 : Kd.F k72 _ _ A0_0 l0_0.length l0_0 := (Kd.V_at (base := w.heap.size) HO0_0.out).2.2; have q018 : (0 : Int) ≤ (t421 : Int) := of_decide_eq_true (by first | (with_reducible assumption) | assumption); have hcut18 := cut_from (P := Try.prog) 54 72 .i64 Try.underlying54 hi018 2 hsz18 A0_0 l0_0.length c0_0 t421 q018 q18; have hr18 := Kd.F_cut (m := (t421 : Int).toNat) (c := c0_0) hC18 (by omega) hroom18; obtain ⟨A18, hA18⟩ : ∃ A1, A1 = (if c0_0 = (t421 : Int).toNat then A0_0 else (A0_0 : Option Addr).map (·.add ((t421 : Int).toNat * 2))) := ⟨_, rfl⟩; obtain ⟨c18, hc18⟩ : ∃ c1, c1 = c0_0 - (t421 : Int).toNat := ⟨_, rfl⟩; have hy18 : y423.length = l0_0.length - (t421 : Int).toNat := (by rw [Ny423.out, List.length_drop] <;> omega); rw [show (l0_0).drop (t421 : Int).toNat = y423 from Ny423.out.symm] at hr18; replace hr18 : Kd.F k72 _ _ A18 y423.length y423 := (by rw [hA18]; exact hr18); rw [← hy18, ← hA18, ← hc18] at hcut18; have HO427 := Aside0.mk (show Kd.V k72 72 _ w.heap.size _ (.slice A18 y423.length c18) y423 from Kd.V_mk (by rw [hy18, hc18]; exact Nat.sub_le_sub_right hroom18 _) hr18); have HC427 := Aside0.mk (show y423.length ≤ c18 from by rw [hy18, hc18]; exact Nat.sub_le_sub_right hroom18 _); clear hr18 hC18 hroom18 hi018 hsz18 hc18; have KY18 := Aside0.mk hy18; have KA18 := Aside0.mk hA18; clear hy18 hA18; replace q18 := eq_true q18; have q19 : (1 : Int) ≤ ((y423.length : Int) : Int) := of_decide_eq_true (by first | (with_reducible assumption) | assumption); obtain ⟨i019, hi019, _, hsz19, _⟩ := info_parts info72; have hroom19 : y423.length ≤ c18 := (Kd.V_reads' HO427.out).2.1; have hC19 : Kd.F k72 _ _ A18 y423.length y423 := (Kd.V_at (base := w.heap.size) HO427.out).2.2; have hcut19 := cut_from (P := Try.prog) 54 72 .i64 Try.underlying54 hi019 2 hsz19 A18 y423.length c18 1 (by omega) q19; have hr19 := Kd.F_cut (m := (1 : Int).toNat) (c := c18) hC19 (by omega) hroom19; obtain ⟨A19, hA19⟩ : ∃ A1, A1 = (if c18 = (1 : Int).toNat then A18 else (A18 : Option Addr).map (·.add ((1 : Int).toNat * 2))) := ⟨_, rfl⟩; obtain ⟨c19, hc19⟩ : ∃ c1, c1 = c18 - (1 : Int).toNat := ⟨_, rfl⟩; have hy19 : y428.length = y423.length - (1 : Int).toNat := (by rw [Ny428.out, List.length_drop] <;> omega); rw [show (y423).drop (1 : Int).toNat = y428 from Ny428.out.symm] at hr19; replace hr19 : Kd.F k72 _ _ A19 y428.length y428 := (by rw [hA19]; exact hr19); rw [← hy19, ← hA19, ← hc19] at hcut19; have HO432 := Aside0.mk (show Kd.V k72 72 _ w.heap.size _ (.slice A19 y428.length c19) y428 from Kd.V_mk (by rw [hy19, hc19]; exact Nat.sub_le_sub_right hroom19 _) hr19); have HC432 := Aside0.mk (show y428.length ≤ c19 from by rw [hy19, hc19]; exact Nat.sub_le_sub_right hroom19 _); clear hr19 hC19 hroom19 hi019 hsz19 hc19; have KY19 := Aside0.mk hy19; have KA19 := Aside0.mk hA19; clear hy19 hA19; replace q19 := eq_true q19; have q20 : (t421 : Int) ≤ ((l0_0.length : Int) : Int) := of_decide_eq_true (by first | (with_reducible assumption) | assumption); obtain ⟨i020, hi020, _, hsz20, _⟩ := info_parts info72; have hroom20 : l0_0.length ≤ c0_0 := (Kd.V_reads' HO0_0.out).2.1; have hC20 : Kd.F k72 _ _ A0_0 l0_0.length l0_0 := (Kd.V_at (base := w.heap.size) HO0_0.out).2.2; have hcut20 := cut_to (P := Try.prog) 54 72 .i64 Try.underlying54 hi020 A0_0 l0_0.length c0_0 t421 (of_decide_eq_true (by first | (with_reducible assumption) | assumption)) q20 hroom20; have hr20 := Kd.F_take (m := (t421 : Int).toNat) hC20 (by omega); have hy20 : y433.length = (t421 : Int).toNat := (by rw [Ny433.out, List.length_take]; omega); rw [← Ny433.out] at hr20; rw [← hy20] at hcut20; have HO437 := Aside0.mk (show Kd.V k72 72 _ w.heap.size _ (.slice A0_0 y433.length c0_0) y433 from Kd.V_mk (by omega) hr20); have HC437 := Aside0.mk (show y433.length ≤ c0_0 from by omega); clear hr20 hC20 hroom20 hi020 hsz20; have KY20 := Aside0.mk hy20; clear hy20; replace q20 := eq_true q20) | ((with_reducible refine gate_dst (N := 30) rfl ?_); refine Kd.R_lit k72 _ 72 ?hg (N := 30) ?hd (xs := ([(⟨a1, a2⟩ : S72)] : List (S72))) (inner := [.int .i64 a1, .int .i64 a2]) (ok := fun _ => True) (okp := fun _ => True) ?hr ?hp (fun _ hk => hk) trivial (Below.refl _ _) (Nat.le_refl _) (by simp) ?_; (case hd => rfl); (case hg => rfl); (case hr => first | (go_simp; done) | (go_simp; rfl)); (case hp => exact (Reps.c2 (show Kd.M k72 _ _ _ (⟨a1, a2⟩ : S72) [.int .i64 a1, .int .i64 a2] from (k72_mkM _ _ _ (⟨a1, a2⟩ : S72) )) (Reps.none _ _))); intro v439 w21 ho22 hb hg_ hnew_; clear hg_ hnew_; (first | rw [← Ny438.out] at ho22 | (simp only [Int.reduceToNat] at ho22; rw [← Ny438.out] at ho22)); have n0_ := Aside0.mk (Kd.V_elder' (by (with_reducible repeat (first | apply Kd.V_alloc | apply Kd.V_drewN | apply Kd.V_drew)); exact HO0_0.out) (Kd.R_base ho22) hb); have n1_ := Aside0.mk (Kd.V_elder' (by (with_reducible repeat (first | apply Kd.V_alloc | apply Kd.V_drewN | apply Kd.V_drew)); exact HO427.out) (Kd.R_base ho22) hb); have n2_ := Aside0.mk (Kd.V_elder' (by (with_reducible repeat (first | apply Kd.V_alloc | apply Kd.V_drewN | apply Kd.V_drew)); exact HO432.out) (Kd.R_base ho22) hb); have n3_ := Aside0.mk (Kd.V_elder' (by (with_reducible repeat (first | apply Kd.V_alloc | apply Kd.V_drewN | apply Kd.V_drew)); exact HO437.out) (Kd.R_base ho22) hb); have n4_ := Aside0.mk (Kd.R_lower (Kd.R_newM (M := fun k_ => (w.heap.size ≤ k_)) ho22 (below_size xb) (fun k_ h_ => h_)) (below_size xb)); have n5_ := blkB BK419 hb; have n6_ := blkB BK420 hb; have n7_ := Aside0.mk (below_step xb hb); clear HO0_0; clear HO427; clear HO432; clear HO437; clear BK419; clear BK420; clear HB; have HO0_0 := n0_; have HO427 := n1_; have HO432 := n2_; have HO437 := n3_; have HO440 := n4_; have BK419 := n5_; have BK420 := n6_; have HB := n7_; clear n0_ n1_ n2_ n3_ n4_ n5_ n6_ n7_; clear hb ho22; obtain ⟨Ao23, co23, eo23⟩ := Kd.R_slice HO440.out; subst eo23) | ((with_reducible refine gate_dst (N := 32) rfl ?_); refine Kd.N_lit (Kd.slice 72 k72) _ 54 ?hg (N' := 32) ?hd (xs := ([y433, y438, y428] : List (List (S72)))) (inner := [.slice A0_0 y433.length c0_0, .slice Ao23 y438.length co23, .slice A19 y428.length c19]) (ok := (fun k_ => (P0_0_ k_ ∨ w.heap.size ≤ k_) ∧ k_ ≠ gb419 ∧ k_ ≠ gb420)) (okp := (fun k_ => (P0_0_ k_ ∨ w.heap.size ≤ k_) ∧ k_ ≠ gb419 ∧ k_ ≠ gb420)) ?hr ?hp (fun _ hk => hk) ((show ∀ k_, w21.heap.size ≤ k_ → (fun k_ => (P0_0_ k_ ∨ w.heap.size ≤ k_) ∧ k_ ≠ gb419 ∧ k_ ≠ gb420) k_ from fun k_ hk => ⟨(.inr (Nat.le_trans (below_size xb) hk)), Kd.freshB (g := gb419) (o := .cells #[.slice A0_0 l0_0.length c0_0] 56 (0, 0)) xk k_ hk, Kd.freshB (g := gb420) (o := .cells #[.slice none 0 0] 56 (0, 0)) xk k_ hk⟩) _ (Nat.le_refl _)) (Below.refl _ _) (Nat.le_refl _) (by simp) ?_; (case hd => rfl); (case hg => rfl); (case hr => first | (go_simp; done) | (go_simp; rfl)); (case hp => exact (Reps.one (show Kd.FK (Kd.slice 72 k72) _ _ y433 [.slice A0_0 y433.length c0_0] from (Kd.FK_slice_mk (Kd.V_reads' (Kd.V_mono (ok' := (fun k_ => (P0_0_ k_ ∨ w.heap.size ≤ k_) ∧ k_ ≠ gb419 ∧ k_ ≠ gb420)) (HO437.out) (fun k_ hk => ⟨hk.1.1.1, ⟨hk.1.1.2, hk.1.2⟩⟩))).2.1 (Kd.V_F (Kd.V_mono (ok' := (fun k_ => (P0_0_ k_ ∨ w.heap.size ≤ k_) ∧ k_ ≠ gb419 ∧ k_ ≠ gb420)) (HO437.out) (fun k_ hk => ⟨hk.1.1.1, ⟨hk.1.1.2, hk.1.2⟩⟩))))) (Reps.one (show Kd.FK (Kd.slice 72 k72) _ _ y438 [.slice Ao23 y438.length co23] from (Kd.FK_slice_mk (Kd.R_reads' (Kd.R_mono (ok' := (fun k_ => (P0_0_ k_ ∨ w.heap.size ≤ k_) ∧ k_ ≠ gb419 ∧ k_ ≠ gb420)) (Kd.R_types (Kd.R_types (HO440.out) BK419.out (by decide)) BK420.out (by decide)) (fun k_ hk => ⟨(.inr (hk.1.1.1)), ⟨hk.1.2, hk.2⟩⟩))).2.1 (Kd.R_F (Kd.R_mono (ok' := (fun k_ => (P0_0_ k_ ∨ w.heap.size ≤ k_) ∧ k_ ≠ gb419 ∧ k_ ≠ gb420)) (Kd.R_types (Kd.R_types (HO440.out) BK419.out (by decide)) BK420.out (by decide)) (fun k_ hk => ⟨(.inr (hk.1.1.1)), ⟨hk.1.2, hk.2⟩⟩))))) (Reps.one (show Kd.FK (Kd.slice 72 k72) _ _ y428 [.slice A19 y428.length c19] from (Kd.FK_slice_mk (Kd.V_reads' (Kd.V_mono (ok' := (fun k_ => (P0_0_ k_ ∨ w.heap.size ≤ k_) ∧ k_ ≠ gb419 ∧ k_ ≠ gb420)) (HO432.out) (fun k_ hk => ⟨hk.1.1.1, ⟨hk.1.1.2, hk.1.2⟩⟩))).2.1 (Kd.V_F (Kd.V_mono (ok' := (fun k_ => (P0_0_ k_ ∨ w.heap.size ≤ k_) ∧ k_ ≠ gb419 ∧ k_ ≠ gb420)) (HO432.out) (fun k_ hk => ⟨hk.1.1.1, ⟨hk.1.1.2, hk.1.2⟩⟩))))) (Reps.none _ _))))); intro v442 w24 ho25 hb hg_ hnew_; clear hg_ hnew_; (first | rw [← Ny441.out] at ho25 | (simp only [Int.reduceToNat] at ho25; rw [← Ny441.out] at ho25)); have n0_ := Aside0.mk (Kd.V_elder' (by (with_reducible repeat (first | apply Kd.V_alloc | apply Kd.V_drewN | apply Kd.V_drew)); exact HO0_0.out) (Kd.N_base ho25) hb); have n1_ := Aside0.mk (Kd.V_elder' (by (with_reducible repeat (first | apply Kd.V_alloc | apply Kd.V_drewN | apply Kd.V_drew)); exact HO427.out) (Kd.N_base ho25) hb); have n2_ := Aside0.mk (Kd.V_elder' (by (with_reducible repeat (first | apply Kd.V_alloc | apply Kd.V_drewN | apply Kd.V_drew)); exact HO432.out) (Kd.N_base ho25) hb); have n3_ := Aside0.mk (Kd.V_elder' (by (with_reducible repeat (first | apply Kd.V_alloc | apply Kd.V_drewN | apply Kd.V_drew)); exact HO437.out) (Kd.N_base ho25) hb); have n4_ := Aside0.mk (Kd.N_lower ho25 (below_size xb)); have n5_ := blkB BK419 hb; have n6_ := blkB BK420 hb; have n7_ := Aside0.mk (below_step xb hb); clear HO0_0; clear HO427; clear HO432; clear HO437; clear BK419; clear BK420; clear HB; clear HO440; have HO0_0 := n0_; have HO427 := n1_; have HO432 := n2_; have HO437 := n3_; have HO443 := n4_; have BK419 := n5_; have BK420 := n6_; have HB := n7_; clear n0_ n1_ n2_ n3_ n4_ n5_ n6_ n7_; clear hb ho25; obtain ⟨Ao26, co26, eo26⟩ := Kd.N_slice HO443.out; subst eo26) | ((with_reducible refine gate_callee (f := 32) rfl ?_); refine goesL_ (some 33) rfl rfl Try.func32 (by kernel_rfl) rfl #[.slice Ao26 y441.length co26] rfl xg ?_; (with_reducible refine (cracknellaw14_Back_int_32.calls k _ _ y441 t444 _ ?side1 ?side2 A11.out).mono ?_); (case side1 => repeat (first | exact (Kd.N_reads' HO443.out).2.2 | (with_reducible refine Kd.C_alloc ?_ _) | (with_reducible refine Kd.C_drewN ?_ _) | (with_reducible refine Kd.C_drew ?_))); (case side2 => exact (Kd.N_reads' HO443.out).2.1); rintro e w27 ⟨v445, rfl, ho0, hb⟩; refine ⟨_, rfl, ?_⟩; have n0_ := Aside0.mk (Kd.V_elder' (by (with_reducible repeat (first | apply Kd.V_alloc | apply Kd.V_drewN | apply Kd.V_drew)); exact HO0_0.out) (Kd.R_base ho0) hb); have n1_ := Aside0.mk (Kd.V_elder' (by (with_reducible repeat (first | apply Kd.V_alloc | apply Kd.V_drewN | apply Kd.V_drew)); exact HO427.out) (Kd.R_base ho0) hb); have n2_ := Aside0.mk (Kd.V_elder' (by (with_reducible repeat (first | apply Kd.V_alloc | apply Kd.V_drewN | apply Kd.V_drew)); exact HO432.out) (Kd.R_base ho0) hb); have n3_ := Aside0.mk (Kd.V_elder' (by (with_reducible repeat (first | apply Kd.V_alloc | apply Kd.V_drewN | apply Kd.V_drew)); exact HO437.out) (Kd.R_base ho0) hb); have n4_ := Aside0.mk (Kd.N_elder' (by (with_reducible repeat (first | apply Kd.N_alloc | apply Kd.N_drewN | apply Kd.N_drew)); exact HO443.out) (Kd.R_base ho0) hb); have n5_ := Aside0.mk (Kd.R_lower (Kd.R_newM (M := fun k_ => (w.heap.size ≤ k_)) ho0 (below_size xb) (fun k_ h_ => h_)) (below_size xb)); have n6_ := blkB BK419 hb; have n7_ := blkB BK420 hb; have n8_ := Aside0.mk (below_step xb hb); clear HO0_0; clear HO427; clear HO432; clear HO437; clear HO443; clear BK419; clear BK420; clear HB; have HO0_0 := n0_; have HO427 := n1_; have HO432 := n2_; have HO437 := n3_; have HO443 := n4_; have HO446 := n5_; have BK419 := n6_; have BK420 := n7_; have HB := n8_; clear n0_ n1_ n2_ n3_ n4_ n5_ n6_ n7_ n8_; (try clear hb); (try clear hb2); (try clear hk); (try clear hi); (try clear ho0); obtain ⟨Ao28, co28, eo28⟩ := Kd.R_slice HO446.out; subst eo28; have hcz29_0 : w27.cell? ⟨gb420, 0, none⟩ = some (.slice none 0 0) := (blk_cell BK420.out 0).trans rfl; have hfz29_0 := blk_frozen BK420.out 0))
          refine bodyPost_ret (results_cell_row rfl _ _ gb420 56 #[.slice Ao28 t444.length co28] (0, 0) _ rfl xk Try.underlying56 rfl (by kernel_rfl)) rfl ?_
          exact ⟨_, by first | rfl | (simp [errW_none, errW_some] <;> rfl) | (simp [*, errW_none, errW_some] <;> rfl), by (with_reducible repeat (first | apply Kd.R_alloc | apply Kd.R_drewN | apply Kd.R_drew)); exact Kd.R_mono (Kd.R_far (p := ⟨gb420, 0, none⟩) (Kd.R_types HO446.out BK420.out (by decide)) (fun _ hk => hk.2) (.slice Ao28 t444.length co28)) (fun _ hk => hk.1.1), by repeat (first | (with_reducible first | exact HB.out | apply below_alloc | apply pw_below_drewN | apply below_drew1 | refine below_set ?_ GE419.out | refine below_set ?_ GE420.out) | exact HB.out)⟩
        · rw [if_neg c8] at H
          exact absurd H (by simp)
      · replace c7 := Bool.eq_false_iff.mpr c7
        subst c7
        have H1 : ((cracknellaw14_Back_int_32.f k (([(l0_0.take (t421 : Int).toNat), (([(⟨a1, a2⟩ : S72)] : List (S72))), y423] : List (List (S72))))).bind fun t458 => (some t458)) = some r := by rw [if_neg (show ¬ (false = true) by decide)] at H; exact H
        clear H
        have H := H1
        clear H1
        have c30b0 := eq_true (of_decide_eq_true (by first | (with_reducible assumption) | assumption) : 0 ≤ t421)
        have c31b0 := eq_true (of_decide_eq_true (by first | (with_reducible assumption) | assumption) : t421 ≤ (l0_0.length : Int))
        obtain ⟨y447, hy447⟩ : ∃ y_ : List (S72), y_ = (l0_0.take (t421 : Int).toNat) := ⟨_, rfl⟩
        replace H : ((cracknellaw14_Back_int_32.f k (([y447, (([(⟨a1, a2⟩ : S72)] : List (S72))), y423] : List (List (S72))))).bind fun t458 => (some t458)) = some r := by first | (rw [hy447]; with_reducible exact H) | (have H2_ := (Option.bind_some _ _).symm.trans H; rw [hy447]; with_reducible exact H2_) | (have H2_ := (Option.bind_some _ _).symm.trans H; with_reducible exact H2_) | with_reducible exact H | (rw [hy447]; exact H) | exact H
        have Ny447 := Aside0.mk hy447
        clear hy447
        obtain ⟨y452, hy452⟩ : ∃ y_ : List (S72), y_ = (([(⟨a1, a2⟩ : S72)] : List (S72))) := ⟨_, rfl⟩
        replace H : ((cracknellaw14_Back_int_32.f k (([y447, y452, y423] : List (List (S72))))).bind fun t458 => (some t458)) = some r := by first | (rw [hy452]; with_reducible exact H) | (have H2_ := (Option.bind_some _ _).symm.trans H; rw [hy452]; with_reducible exact H2_) | (have H2_ := (Option.bind_some _ _).symm.trans H; with_reducible exact H2_) | with_reducible exact H | (rw [hy452]; exact H) | exact H
        have Ny452 := Aside0.mk hy452
        clear hy452
        obtain ⟨y455, hy455⟩ : ∃ y_ : List (List (S72)), y_ = (([y447, y452, y423] : List (List (S72)))) := ⟨_, rfl⟩
        replace H : ((cracknellaw14_Back_int_32.f k y455).bind fun t458 => (some t458)) = some r := by first | (rw [hy455]; with_reducible exact H) | (have H2_ := (Option.bind_some _ _).symm.trans H; rw [hy455]; with_reducible exact H2_) | (have H2_ := (Option.bind_some _ _).symm.trans H; with_reducible exact H2_) | with_reducible exact H | (rw [hy455]; exact H) | exact H
        have Ny455 := Aside0.mk hy455
        clear hy455
        replace H := Option.bind_eq_some_iff.mp H
        obtain ⟨t458, A320, H⟩ := H
        replace H : (some t458) = some r := H
        have A32 := Aside0.mk A320
        clear A320
        obtain rfl := Option.some.inj H
        go_enter Try.func24, Try.ntmps24
        go_wp2_with (first | ((with_reducible refine gate_dst (N := 3) rfl ?_); refine box_event ?hg (N := 3) ?hd (cs := #[.slice A0_0 l0_0.length c0_0]) (t := 56) ?hr ?_; (case hd => rfl); (case hg => rfl); (case hr => first | (go_simp; done) | (go_simp; rfl)); intro gb419 hg w33 hbox hb; have n0_ := Aside0.mk (Kd.V_below (Kd.V_elderB (by (with_reducible repeat (first | apply Kd.V_alloc | apply Kd.V_drewN | apply Kd.V_drew)); exact HO0_0.out) gb419 (Nat.le_of_eq hg.symm)) hb); have n1_ := Aside0.mk (below_step xb hb); have n2_ := Aside0.mk (hbox); have n3_ := Aside0.mk ((by rw [hg]; exact (below_size xb) : w.heap.size ≤ gb419)); have n4_ := Aside0.mk ((by rw [hg]; exact (below_size xb) : w.heap.size ≤ gb419)); clear HO0_0; clear HB; have HO0_0 := n0_; have HB := n1_; have BK419 := n2_; have GW419 := n3_; have GE419 := n4_; clear n0_ n1_ n2_ n3_ n4_; clear hb hbox hg) | ((with_reducible refine gate_dst (N := 6) rfl ?_); refine box_event ?hg (N := 6) ?hd (cs := #[.slice none 0 0]) (t := 56) ?hr ?_; (case hd => rfl); (case hg => rfl); (case hr => first | (go_simp; done) | (go_simp; rfl)); intro gb420 hg w34 hbox hb; have n0_ := Aside0.mk (Kd.V_below (Kd.V_elderB (by (with_reducible repeat (first | apply Kd.V_alloc | apply Kd.V_drewN | apply Kd.V_drew)); exact HO0_0.out) gb420 (Nat.le_of_eq hg.symm)) hb); have n1_ := blkB BK419 hb; have n2_ := Aside0.mk (below_step xb hb); have n3_ := Aside0.mk (hbox); have n4_ := Aside0.mk ((by rw [hg]; exact (below_size xb) : w.heap.size ≤ gb420)); have n5_ := Aside0.mk ((by rw [hg]; exact (below_size xb) : w.heap.size ≤ gb420)); have n6_ := Aside0.mk ((by rw [hg]; exact Nat.ne_of_lt (blkL BK419) : gb419 ≠ gb420)); have n7_ := Aside0.mk ((by rw [hg]; exact Nat.ne_of_gt (blkL BK419) : gb420 ≠ gb419)); clear HO0_0; clear BK419; clear HB; have HO0_0 := n0_; have BK419 := n1_; have HB := n2_; have BK420 := n3_; have GW420 := n4_; have GE420 := n5_; have NB419_420 := n6_; have NB420_419 := n7_; clear n0_ n1_ n2_ n3_ n4_ n5_ n6_ n7_; clear hb hbox hg; have hnb35 := NB419_420.out; have hnc35 := NB420_419.out; have hcz36_0 : w34.cell? ⟨gb419, 0, none⟩ = some (.slice A0_0 l0_0.length c0_0) := (blk_cell BK419.out 0).trans rfl; have hfz36_0 := blk_frozen BK419.out 0) | ((with_reducible refine gate_callee (f := 31) rfl ?_); refine goesL_ (some 13) rfl rfl Try.func31 (by kernel_rfl) rfl #[.agg #[.slice A0_0 l0_0.length c0_0], .int .i64 a1] rfl xg ?_; (with_reducible refine (table_place_Back.calls _ _ l0_0 a1 t421 false _ ?side1 ?side2 A4.out).mono ?_); (case side1 => repeat (first | exact (Kd.V_reads' HO0_0.out).2.2 | (with_reducible refine Kd.C_alloc ?_ _) | (with_reducible refine Kd.C_drewN ?_ _) | (with_reducible refine Kd.C_drew ?_))); (case side2 => exact (Kd.V_reads' HO0_0.out).2.1); rintro e w37 ⟨rfl, hb⟩; refine ⟨_, rfl, ?_⟩; have n0_ := Aside0.mk (Kd.V_below (by (with_reducible repeat (first | apply Kd.V_alloc | apply Kd.V_drewN | apply Kd.V_drew)); exact HO0_0.out) hb); have n1_ := blkB BK419 hb; have n2_ := blkB BK420 hb; have n3_ := Aside0.mk (below_step xb hb); clear HO0_0; clear BK419; clear BK420; clear HB; have HO0_0 := n0_; have BK419 := n1_; have BK420 := n2_; have HB := n3_; clear n0_ n1_ n2_ n3_; (try clear hb); (try clear hb2); (try clear hk); (try clear hi); have hcz38_0 : w37.cell? ⟨gb419, 0, none⟩ = some (.slice A0_0 l0_0.length c0_0) := (blk_cell BK419.out 0).trans rfl; have hfz38_0 := blk_frozen BK419.out 0; have q39 : (t421 : Int) ≤ ((l0_0.length : Int) : Int) := of_decide_eq_true (by first | (with_reducible assumption) | assumption); obtain ⟨i039, hi039, _, hsz39, _⟩ := info_parts info72; have hroom39 : l0_0.length ≤ c0_0 := (Kd.V_reads' HO0_0.out).2.1; have hC39 : Kd.F k72 _ _ A0_0 l0_0.length l0_0 := (Kd.V_at (base := w.heap.size) HO0_0.out).2.2; have q039 : (0 : Int) ≤ (t421 : Int) := of_decide_eq_true (by first | (with_reducible assumption) | assumption); have hcut39 := cut_from (P := Try.prog) 54 72 .i64 Try.underlying54 hi039 2 hsz39 A0_0 l0_0.length c0_0 t421 q039 q39; have hr39 := Kd.F_cut (m := (t421 : Int).toNat) (c := c0_0) hC39 (by omega) hroom39; obtain ⟨A39, hA39⟩ : ∃ A1, A1 = (if c0_0 = (t421 : Int).toNat then A0_0 else (A0_0 : Option Addr).map (·.add ((t421 : Int).toNat * 2))) := ⟨_, rfl⟩; obtain ⟨c39, hc39⟩ : ∃ c1, c1 = c0_0 - (t421 : Int).toNat := ⟨_, rfl⟩; have hy39 : y423.length = l0_0.length - (t421 : Int).toNat := (by rw [Ny423.out, List.length_drop] <;> omega); rw [show (l0_0).drop (t421 : Int).toNat = y423 from Ny423.out.symm] at hr39; replace hr39 : Kd.F k72 _ _ A39 y423.length y423 := (by rw [hA39]; exact hr39); rw [← hy39, ← hA39, ← hc39] at hcut39; have HO427 := Aside0.mk (show Kd.V k72 72 _ w.heap.size _ (.slice A39 y423.length c39) y423 from Kd.V_mk (by rw [hy39, hc39]; exact Nat.sub_le_sub_right hroom39 _) hr39); have HC427 := Aside0.mk (show y423.length ≤ c39 from by rw [hy39, hc39]; exact Nat.sub_le_sub_right hroom39 _); clear hr39 hC39 hroom39 hi039 hsz39 hc39; have KY39 := Aside0.mk hy39; have KA39 := Aside0.mk hA39; clear hy39 hA39; replace q39 := eq_true q39; have q40 : (t421 : Int) ≤ ((l0_0.length : Int) : Int) := of_decide_eq_true (by first | (with_reducible assumption) | assumption); obtain ⟨i040, hi040, _, hsz40, _⟩ := info_parts info72; have hroom40 : l0_0.length ≤ c0_0 := (Kd.V_reads' HO0_0.out).2.1; have hC40 : Kd.F k72 _ _ A0_0 l0_0.length l0_0 := (Kd.V_at (base := w.heap.size) HO0_0.out).2.2; have hcut40 := cut_to (P := Try.prog) 54 72 .i64 Try.underlying54 hi040 A0_0 l0_0.length c0_0 t421 (of_decide_eq_true (by first | (with_reducible assumption) | assumption)) q40 hroom40; have hr40 := Kd.F_take (m := (t421 : Int).toNat) hC40 (by omega); have hy40 : y447.length = (t421 : Int).toNat := (by rw [Ny447.out, List.length_take]; omega); rw [← Ny447.out] at hr40; rw [← hy40] at hcut40; have HO451 := Aside0.mk (show Kd.V k72 72 _ w.heap.size _ (.slice A0_0 y447.length c0_0) y447 from Kd.V_mk (by omega) hr40); have HC451 := Aside0.mk (show y447.length ≤ c0_0 from by omega); clear hr40 hC40 hroom40 hi040 hsz40; have KY40 := Aside0.mk hy40; clear hy40; replace q40 := eq_true q40) | ((with_reducible refine gate_dst (N := 30) rfl ?_); refine Kd.R_lit k72 _ 72 ?hg (N := 30) ?hd (xs := ([(⟨a1, a2⟩ : S72)] : List (S72))) (inner := [.int .i64 a1, .int .i64 a2]) (ok := fun _ => True) (okp := fun _ => True) ?hr ?hp (fun _ hk => hk) trivial (Below.refl _ _) (Nat.le_refl _) (by simp) ?_; (case hd => rfl); (case hg => rfl); (case hr => first | (go_simp; done) | (go_simp; rfl)); (case hp => exact (Reps.c2 (show Kd.M k72 _ _ _ (⟨a1, a2⟩ : S72) [.int .i64 a1, .int .i64 a2] from (k72_mkM _ _ _ (⟨a1, a2⟩ : S72) )) (Reps.none _ _))); intro v453 w41 ho42 hb hg_ hnew_; clear hg_ hnew_; (first | rw [← Ny452.out] at ho42 | (simp only [Int.reduceToNat] at ho42; rw [← Ny452.out] at ho42)); have n0_ := Aside0.mk (Kd.V_elder' (by (with_reducible repeat (first | apply Kd.V_alloc | apply Kd.V_drewN | apply Kd.V_drew)); exact HO0_0.out) (Kd.R_base ho42) hb); have n1_ := Aside0.mk (Kd.V_elder' (by (with_reducible repeat (first | apply Kd.V_alloc | apply Kd.V_drewN | apply Kd.V_drew)); exact HO427.out) (Kd.R_base ho42) hb); have n2_ := Aside0.mk (Kd.V_elder' (by (with_reducible repeat (first | apply Kd.V_alloc | apply Kd.V_drewN | apply Kd.V_drew)); exact HO451.out) (Kd.R_base ho42) hb); have n3_ := Aside0.mk (Kd.R_lower (Kd.R_newM (M := fun k_ => (w.heap.size ≤ k_)) ho42 (below_size xb) (fun k_ h_ => h_)) (below_size xb)); have n4_ := blkB BK419 hb; have n5_ := blkB BK420 hb; have n6_ := Aside0.mk (below_step xb hb); clear HO0_0; clear HO427; clear HO451; clear BK419; clear BK420; clear HB; have HO0_0 := n0_; have HO427 := n1_; have HO451 := n2_; have HO454 := n3_; have BK419 := n4_; have BK420 := n5_; have HB := n6_; clear n0_ n1_ n2_ n3_ n4_ n5_ n6_; clear hb ho42; obtain ⟨Ao43, co43, eo43⟩ := Kd.R_slice HO454.out; subst eo43) | ((with_reducible refine gate_dst (N := 32) rfl ?_); refine Kd.N_lit (Kd.slice 72 k72) _ 54 ?hg (N' := 32) ?hd (xs := ([y447, y452, y423] : List (List (S72)))) (inner := [.slice A0_0 y447.length c0_0, .slice Ao43 y452.length co43, .slice A39 y423.length c39]) (ok := (fun k_ => (P0_0_ k_ ∨ w.heap.size ≤ k_) ∧ k_ ≠ gb419 ∧ k_ ≠ gb420)) (okp := (fun k_ => (P0_0_ k_ ∨ w.heap.size ≤ k_) ∧ k_ ≠ gb419 ∧ k_ ≠ gb420)) ?hr ?hp (fun _ hk => hk) ((show ∀ k_, w41.heap.size ≤ k_ → (fun k_ => (P0_0_ k_ ∨ w.heap.size ≤ k_) ∧ k_ ≠ gb419 ∧ k_ ≠ gb420) k_ from fun k_ hk => ⟨(.inr (Nat.le_trans (below_size xb) hk)), Kd.freshB (g := gb419) (o := .cells #[.slice A0_0 l0_0.length c0_0] 56 (0, 0)) xk k_ hk, Kd.freshB (g := gb420) (o := .cells #[.slice none 0 0] 56 (0, 0)) xk k_ hk⟩) _ (Nat.le_refl _)) (Below.refl _ _) (Nat.le_refl _) (by simp) ?_; (case hd => rfl); (case hg => rfl); (case hr => first | (go_simp; done) | (go_simp; rfl)); (case hp => exact (Reps.one (show Kd.FK (Kd.slice 72 k72) _ _ y447 [.slice A0_0 y447.length c0_0] from (Kd.FK_slice_mk (Kd.V_reads' (Kd.V_mono (ok' := (fun k_ => (P0_0_ k_ ∨ w.heap.size ≤ k_) ∧ k_ ≠ gb419 ∧ k_ ≠ gb420)) (HO451.out) (fun k_ hk => ⟨hk.1.1.1, ⟨hk.1.1.2, hk.1.2⟩⟩))).2.1 (Kd.V_F (Kd.V_mono (ok' := (fun k_ => (P0_0_ k_ ∨ w.heap.size ≤ k_) ∧ k_ ≠ gb419 ∧ k_ ≠ gb420)) (HO451.out) (fun k_ hk => ⟨hk.1.1.1, ⟨hk.1.1.2, hk.1.2⟩⟩))))) (Reps.one (show Kd.FK (Kd.slice 72 k72) _ _ y452 [.slice Ao43 y452.length co43] from (Kd.FK_slice_mk (Kd.R_reads' (Kd.R_mono (ok' := (fun k_ => (P0_0_ k_ ∨ w.heap.size ≤ k_) ∧ k_ ≠ gb419 ∧ k_ ≠ gb420)) (Kd.R_types (Kd.R_types (HO454.out) BK419.out (by decide)) BK420.out (by decide)) (fun k_ hk => ⟨(.inr (hk.1.1.1)), ⟨hk.1.2, hk.2⟩⟩))).2.1 (Kd.R_F (Kd.R_mono (ok' := (fun k_ => (P0_0_ k_ ∨ w.heap.size ≤ k_) ∧ k_ ≠ gb419 ∧ k_ ≠ gb420)) (Kd.R_types (Kd.R_types (HO454.out) BK419.out (by decide)) BK420.out (by decide)) (fun k_ hk => ⟨(.inr (hk.1.1.1)), ⟨hk.1.2, hk.2⟩⟩))))) (Reps.one (show Kd.FK (Kd.slice 72 k72) _ _ y423 [.slice A39 y423.length c39] from (Kd.FK_slice_mk (Kd.V_reads' (Kd.V_mono (ok' := (fun k_ => (P0_0_ k_ ∨ w.heap.size ≤ k_) ∧ k_ ≠ gb419 ∧ k_ ≠ gb420)) (HO427.out) (fun k_ hk => ⟨hk.1.1.1, ⟨hk.1.1.2, hk.1.2⟩⟩))).2.1 (Kd.V_F (Kd.V_mono (ok' := (fun k_ => (P0_0_ k_ ∨ w.heap.size ≤ k_) ∧ k_ ≠ gb419 ∧ k_ ≠ gb420)) (HO427.out) (fun k_ hk => ⟨hk.1.1.1, ⟨hk.1.1.2, hk.1.2⟩⟩))))) (Reps.none _ _))))); intro v456 w44 ho45 hb hg_ hnew_; clear hg_ hnew_; (first | rw [← Ny455.out] at ho45 | (simp only [Int.reduceToNat] at ho45; rw [← Ny455.out] at ho45)); have n0_ := Aside0.mk (Kd.V_elder' (by (with_reducible repeat (first | apply Kd.V_alloc | apply Kd.V_drewN | apply Kd.V_drew)); exact HO0_0.out) (Kd.N_base ho45) hb); have n1_ := Aside0.mk (Kd.V_elder' (by (with_reducible repeat (first | apply Kd.V_alloc | apply Kd.V_drewN | apply Kd.V_drew)); exact HO427.out) (Kd.N_base ho45) hb); have n2_ := Aside0.mk (Kd.V_elder' (by (with_reducible repeat (first | apply Kd.V_alloc | apply Kd.V_drewN | apply Kd.V_drew)); exact HO451.out) (Kd.N_base ho45) hb); have n3_ := Aside0.mk (Kd.N_lower ho45 (below_size xb)); have n4_ := blkB BK419 hb; have n5_ := blkB BK420 hb; have n6_ := Aside0.mk (below_step xb hb); clear HO0_0; clear HO427; clear HO451; clear BK419; clear BK420; clear HB; clear HO454; have HO0_0 := n0_; have HO427 := n1_; have HO451 := n2_; have HO457 := n3_; have BK419 := n4_; have BK420 := n5_; have HB := n6_; clear n0_ n1_ n2_ n3_ n4_ n5_ n6_; clear hb ho45; obtain ⟨Ao46, co46, eo46⟩ := Kd.N_slice HO457.out; subst eo46) | ((with_reducible refine gate_callee (f := 32) rfl ?_); refine goesL_ (some 33) rfl rfl Try.func32 (by kernel_rfl) rfl #[.slice Ao46 y455.length co46] rfl xg ?_; (with_reducible refine (cracknellaw14_Back_int_32.calls k _ _ y455 t458 _ ?side1 ?side2 A32.out).mono ?_); (case side1 => repeat (first | exact (Kd.N_reads' HO457.out).2.2 | (with_reducible refine Kd.C_alloc ?_ _) | (with_reducible refine Kd.C_drewN ?_ _) | (with_reducible refine Kd.C_drew ?_))); (case side2 => exact (Kd.N_reads' HO457.out).2.1); rintro e w47 ⟨v459, rfl, ho0, hb⟩; refine ⟨_, rfl, ?_⟩; have n0_ := Aside0.mk (Kd.V_elder' (by (with_reducible repeat (first | apply Kd.V_alloc | apply Kd.V_drewN | apply Kd.V_drew)); exact HO0_0.out) (Kd.R_base ho0) hb); have n1_ := Aside0.mk (Kd.V_elder' (by (with_reducible repeat (first | apply Kd.V_alloc | apply Kd.V_drewN | apply Kd.V_drew)); exact HO427.out) (Kd.R_base ho0) hb); have n2_ := Aside0.mk (Kd.V_elder' (by (with_reducible repeat (first | apply Kd.V_alloc | apply Kd.V_drewN | apply Kd.V_drew)); exact HO451.out) (Kd.R_base ho0) hb); have n3_ := Aside0.mk (Kd.N_elder' (by (with_reducible repeat (first | apply Kd.N_alloc | apply Kd.N_drewN | apply Kd.N_drew)); exact HO457.out) (Kd.R_base ho0) hb); have n4_ := Aside0.mk (Kd.R_lower (Kd.R_newM (M := fun k_ => (w.heap.size ≤ k_)) ho0 (below_size xb) (fun k_ h_ => h_)) (below_size xb)); have n5_ := blkB BK419 hb; have n6_ := blkB BK420 hb; have n7_ := Aside0.mk (below_step xb hb); clear HO0_0; clear HO427; clear HO451; clear HO457; clear BK419; clear BK420; clear HB; have HO0_0 := n0_; have HO427 := n1_; have HO451 := n2_; have HO457 := n3_; have HO460 := n4_; have BK419 := n5_; have BK420 := n6_; have HB := n7_; clear n0_ n1_ n2_ n3_ n4_ n5_ n6_ n7_; (try clear hb); (try clear hb2); (try clear hk); (try clear hi); (try clear ho0); obtain ⟨Ao48, co48, eo48⟩ := Kd.R_slice HO460.out; subst eo48; have hcz49_0 : w47.cell? ⟨gb420, 0, none⟩ = some (.slice none 0 0) := (blk_cell BK420.out 0).trans rfl; have hfz49_0 := blk_frozen BK420.out 0))
        refine bodyPost_ret (results_cell_row rfl _ _ gb420 56 #[.slice Ao48 t458.length co48] (0, 0) _ rfl xk Try.underlying56 rfl (by kernel_rfl)) rfl ?_
        exact ⟨_, by first | rfl | (simp [errW_none, errW_some] <;> rfl) | (simp [*, errW_none, errW_some] <;> rfl), by (with_reducible repeat (first | apply Kd.R_alloc | apply Kd.R_drewN | apply Kd.R_drew)); exact Kd.R_mono (Kd.R_far (p := ⟨gb420, 0, none⟩) (Kd.R_types HO460.out BK420.out (by decide)) (fun _ hk => hk.2) (.slice Ao48 t458.length co48)) (fun _ hk => hk.1.1), by repeat (first | (with_reducible first | exact HB.out | apply below_alloc | apply pw_below_drewN | apply below_drew1 | refine below_set ?_ GE419.out | refine below_set ?_ GE420.out) | exact HB.out)⟩
    · rw [if_neg c6] at H
      exact absurd H (by simp)
  · rw [if_neg c5] at H
    exact absurd H (by simp)

-- NOT PRINTED: function 8 (cracknellaw14_TableStops)

end Go.Proofs.Ytmpccjkdfdgedaa.Print
