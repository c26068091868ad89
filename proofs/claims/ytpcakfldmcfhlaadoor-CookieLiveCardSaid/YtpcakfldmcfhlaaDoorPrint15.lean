/- Printed by a program of this claim's session (xprint.py): the machine's side: each Go function as a Lean function, and that a call of it comes to what that tells; the row of a statement. No condition. -/
import Derived.Test.YtpcakfldmcfhlaaDoorPrint0
import Derived.Test.YtpcakfldmcfhlaaDoorPrint14
namespace Go.Proofs.YtpcakfldmcfhlaaDoor.Print
open Go.RowKit Go.Proofs.YtpcakfldmcfhlaaDoorW.PrintWords Go.Proofs.YtpcakfldmcfhlaaDoorW.PrintLast Go.Proofs.YtpcakfldmcfhlaaDoorW.PrintMore
attribute [local go_sem] max2_int min2_int max_two min_two max_three min_three max_four min_four   -- for this text's walks alone
set_option linter.unusedVariables false
set_option linter.unusedSimpArgs false

/-! ### cracknelref11_Ip: function 47 -/
def cracknelref11_Ip.l0 : Nat → List ByteArray → Int → Option (Bool)
  | 0, _, _ => none
  | k + 1, x3, x4 => if x4 < (x3.length : Int) then (if 0 ≤ x4 then ((cracknelref02_Read.f k (rdOf ByteArray.empty x3 x4)).bind fun bt421 => (if bt421.2 = true then (if bt421.1 < 0 then (some false) else (if bt421.1 > 255 then (some false) else (cracknelref11_Ip.l0 k x3 (wrap64 (x4 + 1))))) else (some false))) else (none)) else (some ((x3.length : Int) == 4))
def cracknelref11_Ip.f (k : Nat) (a0 : ByteArray) : Option (Bool) := (cracknelref11_Parts.f k a0).bind fun t417 => (cracknelref11_Ip.l0 k t417 0)
theorem cracknelref11_Ip.mono_l : ∀ k, (∀ y0 y1, LeO (cracknelref11_Ip.l0 k y0 y1) (cracknelref11_Ip.l0 (k + 1) y0 y1))
  | 0 => fun _ _ r h => by simp [cracknelref11_Ip.l0] at h
  | k + 1 => by
    have ih0 := cracknelref11_Ip.mono_l k
    · intro y0 y1
      unfold cracknelref11_Ip.l0
      repeat' first
      | (with_reducible exact ih0 _ _)
      | (with_reducible exact cracknelref02_Read.mono _ _)
      | (with_reducible exact cracknelref11_Parts.mono _ _)
      | (with_reducible exact LeO.refl _)
      | (with_reducible exact LeO.none _)
      | (with_reducible refine LeO.ite ?_ ?_)
      | (with_reducible refine LeO.bind ?_ (fun _ => ?_))
      | exact ih0 _ _
      | exact cracknelref02_Read.mono _ _
      | exact cracknelref11_Parts.mono _ _
      | exact LeO.none _
      | refine LeO.ite ?_ ?_
      | refine LeO.bind ?_ (fun _ => ?_)
theorem cracknelref11_Ip.mono : ∀ a0 k, LeO (cracknelref11_Ip.f k a0) (cracknelref11_Ip.f (k + 1) a0) := by
  intro a0 k
  have ih0 := cracknelref11_Ip.mono_l k
  unfold cracknelref11_Ip.f
  repeat' first
      | (with_reducible exact ih0 _ _)
      | (with_reducible exact cracknelref02_Read.mono _ _)
      | (with_reducible exact cracknelref11_Parts.mono _ _)
      | (with_reducible exact LeO.refl _)
      | (with_reducible exact LeO.none _)
      | (with_reducible refine LeO.ite ?_ ?_)
      | (with_reducible refine LeO.bind ?_ (fun _ => ?_))
      | exact ih0 _ _
      | exact cracknelref02_Read.mono _ _
      | exact cracknelref11_Parts.mono _ _
      | exact LeO.none _
      | refine LeO.ite ?_ ?_
      | refine LeO.bind ?_ (fun _ => ?_)
set_option maxHeartbeats 8000000 in
set_option maxRecDepth 100000 in
theorem cracknelref11_Ip.calls (k : Nat) (a0 : ByteArray) (r : Bool) (w : World) (h : cracknelref11_Ip.f k a0 = some r) :
    Calls Tryd.prog 47 #[.string a0] w fun e w' => e = .returned (.bool r) ∧ Below w.heap.size w w' := by
  have HB := Aside0.mk (Below.refl w.heap.size w)
  have H : ((cracknelref11_Parts.f k a0).bind fun t417 => (cracknelref11_Ip.l0 k t417 0)) = some r := h
  clear h
  replace H := Option.bind_eq_some_iff.mp H
  obtain ⟨t417, A20, H⟩ := H
  replace H : (cracknelref11_Ip.l0 k t417 0) = some r := H
  have A2 := Aside0.mk A20
  clear A20
  have H' := Aside0.mk H
  clear H
  go_enter Tryd.func47, Tryd.ntmps47
  go_wp2_with (first | ((with_reducible refine gate_callee (f := 59) rfl ?_); refine goesL_ (some 8) rfl rfl Tryd.func59 (by kernel_rfl) rfl #[.string a0] rfl xg ?_; (with_reducible refine (cracknelref11_Parts.calls k a0 t417 _ A2.out).mono ?_); rintro e w3 ⟨v418, rfl, ho0, hb⟩; refine ⟨_, rfl, ?_⟩; have n0_ := Aside0.mk (Kd.R_lower ho0 (below_size xb)); have n1_ := Aside0.mk (below_step xb hb); clear HB; have HO419 := n0_; have HB := n1_; clear n0_ n1_; (try clear hb); (try clear hb2); (try clear hk); (try clear hi); (try clear ho0)))
  go_loopg [4] k (fun kq v4 w' => ∃ (x4_1 : Int), v4 = .int .i64 x4_1 ∧ Aside0 (cracknelref11_Ip.l0 kq t417 x4_1 = some r) ∧ Aside0 (kq ≤ k) ∧ Aside0 (Kd.R Kd.string 9 w' w.heap.size (fun _ => True) v418 t417) ∧ Aside0 (Below w.heap.size w w'))
  case atStart => exact ⟨(0), (by first | rfl | (simp; done) | (simp [*]; done)), H', ⟨Nat.le_refl _⟩, ⟨by (with_reducible repeat (first | apply Kd.R_alloc | apply Kd.R_drewN | apply Kd.R_drew)); exact HO419.out⟩, ⟨xb⟩⟩
  case round =>
    clear H'
    try clear p2
    try clear p3
    obtain ⟨x4_1, rfl, HA, HK1, HO_3, HB⟩ := hrel
    cases gk with
    | zero => exact absurd HA.out (by simp [cracknelref11_Ip.l0])
    | succ k1 =>
      have H := HA.out
      clear HA
      simp only [cracknelref11_Ip.l0] at H
      by_cases c4 : x4_1 < (t417.length : Int)
      · rw [if_pos c4] at H
        have c4b0 : decide (x4_1 < (t417.length : Int)) = true := decide_eq_true c4
        clear c4
        by_cases c5 : 0 ≤ x4_1
        · rw [if_pos c5] at H
          have c5b0 : decide (0 ≤ x4_1) = true := decide_eq_true c5
          clear c5
          replace H := Option.bind_eq_some_iff.mp H
          obtain ⟨⟨t421, t422⟩, A60, H⟩ := H
          replace H : (if t422 = true then (if t421 < 0 then (some false) else (if t421 > 255 then (some false) else (cracknelref11_Ip.l0 k1 t417 (wrap64 (x4_1 + 1))))) else (some false)) = some r := H
          have A6 := Aside0.mk A60
          clear A60
          by_cases c7 : t422 = true
          · subst c7
            have H1 : (if t421 < 0 then (some false) else (if t421 > 255 then (some false) else (cracknelref11_Ip.l0 k1 t417 (wrap64 (x4_1 + 1))))) = some r := by rw [if_pos rfl] at H; exact H
            clear H
            have H := H1
            clear H1
            by_cases c8 : t421 < 0
            · rw [if_pos c8] at H
              have c8b0 : decide (t421 < 0) = true := decide_eq_true c8
              clear c8
              obtain rfl := Option.some.inj H
              obtain ⟨Ao9, co9, eo9⟩ := Kd.R_slice HO_3.out
              subst eo9
              have p420 : 0 ≤ (x4_1 : Int) := of_decide_eq_true (by first | (with_reducible assumption) | assumption)
              have q420 : x4_1 < (t417.length : Int) := of_decide_eq_true (by first | (with_reducible assumption) | assumption)
              obtain ⟨ad420, e420, hx420_0⟩ := Kd.at_string (Kd.R_reads' HO_3.out).2.2 x4_1 p420 q420
              cases e420
              replace p420 := eq_true p420
              replace q420 := eq_true q420
              go_wp2_with (first | ((with_reducible refine gate_callee (f := 60) rfl ?_); refine goesL_ (some 20) rfl rfl Tryd.func60 (by kernel_rfl) rfl #[.string (rdOf ByteArray.empty t417 x4_1)] rfl xg ?_; (with_reducible refine (cracknelref02_Read.calls k1 (rdOf ByteArray.empty t417 x4_1) t421 true _ A6.out).mono ?_); rintro e w10 ⟨rfl, hb⟩; refine ⟨_, rfl, ?_⟩; have n0_ := Aside0.mk (Kd.R_below (by (with_reducible repeat (first | apply Kd.R_alloc | apply Kd.R_drewN | apply Kd.R_drew)); exact HO_3.out) hb); have n1_ := Aside0.mk (below_step xb hb); clear HO_3; clear HB; have HO_3 := n0_; have HB := n1_; clear n0_ n1_; (try clear hb); (try clear hb2); (try clear hk); (try clear hi)))
              go_ret
              exact ⟨by first | rfl | (simp [errW_none, errW_some] <;> rfl) | (simp [*, errW_none, errW_some] <;> rfl), by repeat (first | (with_reducible first | exact HB.out | apply below_alloc | apply pw_below_drewN | apply below_drew1) | exact HB.out)⟩
            · rw [if_neg c8] at H
              have c8b0 : decide (t421 < 0) = false := decide_eq_false c8
              clear c8
              by_cases c11 : t421 > 255
              · rw [if_pos c11] at H
                have c11b0 : decide (255 < t421) = true := decide_eq_true c11
                clear c11
                obtain rfl := Option.some.inj H
                obtain ⟨Ao12, co12, eo12⟩ := Kd.R_slice HO_3.out
                subst eo12
                have p420 : 0 ≤ (x4_1 : Int) := of_decide_eq_true (by first | (with_reducible assumption) | assumption)
                have q420 : x4_1 < (t417.length : Int) := of_decide_eq_true (by first | (with_reducible assumption) | assumption)
                obtain ⟨ad420, e420, hx420_0⟩ := Kd.at_string (Kd.R_reads' HO_3.out).2.2 x4_1 p420 q420
                cases e420
                replace p420 := eq_true p420
                replace q420 := eq_true q420
                go_wp2_with (first | ((with_reducible refine gate_callee (f := 60) rfl ?_); refine goesL_ (some 20) rfl rfl Tryd.func60 (by kernel_rfl) rfl #[.string (rdOf ByteArray.empty t417 x4_1)] rfl xg ?_; (with_reducible refine (cracknelref02_Read.calls k1 (rdOf ByteArray.empty t417 x4_1) t421 true _ A6.out).mono ?_); rintro e w13 ⟨rfl, hb⟩; refine ⟨_, rfl, ?_⟩; have n0_ := Aside0.mk (Kd.R_below (by (with_reducible repeat (first | apply Kd.R_alloc | apply Kd.R_drewN | apply Kd.R_drew)); exact HO_3.out) hb); have n1_ := Aside0.mk (below_step xb hb); clear HO_3; clear HB; have HO_3 := n0_; have HB := n1_; clear n0_ n1_; (try clear hb); (try clear hb2); (try clear hk); (try clear hi)))
                go_ret
                exact ⟨by first | rfl | (simp [errW_none, errW_some] <;> rfl) | (simp [*, errW_none, errW_some] <;> rfl), by repeat (first | (with_reducible first | exact HB.out | apply below_alloc | apply pw_below_drewN | apply below_drew1) | exact HB.out)⟩
              · rw [if_neg c11] at H
                have c11b0 : decide (255 < t421) = false := decide_eq_false c11
                clear c11
                have H' := Aside0.mk H
                clear H
                obtain ⟨Ao14, co14, eo14⟩ := Kd.R_slice HO_3.out
                subst eo14
                have p420 : 0 ≤ (x4_1 : Int) := of_decide_eq_true (by first | (with_reducible assumption) | assumption)
                have q420 : x4_1 < (t417.length : Int) := of_decide_eq_true (by first | (with_reducible assumption) | assumption)
                obtain ⟨ad420, e420, hx420_0⟩ := Kd.at_string (Kd.R_reads' HO_3.out).2.2 x4_1 p420 q420
                cases e420
                replace p420 := eq_true p420
                replace q420 := eq_true q420
                go_wp2_with (first | ((with_reducible refine gate_callee (f := 60) rfl ?_); refine goesL_ (some 20) rfl rfl Tryd.func60 (by kernel_rfl) rfl #[.string (rdOf ByteArray.empty t417 x4_1)] rfl xg ?_; (with_reducible refine (cracknelref02_Read.calls k1 (rdOf ByteArray.empty t417 x4_1) t421 true _ A6.out).mono ?_); rintro e w15 ⟨rfl, hb⟩; refine ⟨_, rfl, ?_⟩; have n0_ := Aside0.mk (Kd.R_below (by (with_reducible repeat (first | apply Kd.R_alloc | apply Kd.R_drewN | apply Kd.R_drew)); exact HO_3.out) hb); have n1_ := Aside0.mk (below_step xb hb); clear HO_3; clear HB; have HO_3 := n0_; have HB := n1_; clear n0_ n1_; (try clear hb); (try clear hb2); (try clear hk); (try clear hi)))
                go_roundg k1
                case measure => have := HK1.out; omega
                case rel => exact ⟨(wrap64 (x4_1 + 1)), (by first | rfl | (simp; done) | (simp [*]; done)), H', ⟨by have := HK1.out; omega⟩, ⟨by (with_reducible repeat (first | apply Kd.R_alloc | apply Kd.R_drewN | apply Kd.R_drew)); exact HO_3.out⟩, ⟨xb⟩⟩
          · replace c7 := Bool.eq_false_iff.mpr c7
            subst c7
            have H1 : (some false) = some r := by rw [if_neg (show ¬ (false = true) by decide)] at H; exact H
            clear H
            have H := H1
            clear H1
            obtain rfl := Option.some.inj H
            obtain ⟨Ao16, co16, eo16⟩ := Kd.R_slice HO_3.out
            subst eo16
            have p420 : 0 ≤ (x4_1 : Int) := of_decide_eq_true (by first | (with_reducible assumption) | assumption)
            have q420 : x4_1 < (t417.length : Int) := of_decide_eq_true (by first | (with_reducible assumption) | assumption)
            obtain ⟨ad420, e420, hx420_0⟩ := Kd.at_string (Kd.R_reads' HO_3.out).2.2 x4_1 p420 q420
            cases e420
            replace p420 := eq_true p420
            replace q420 := eq_true q420
            go_wp2_with (first | ((with_reducible refine gate_callee (f := 60) rfl ?_); refine goesL_ (some 20) rfl rfl Tryd.func60 (by kernel_rfl) rfl #[.string (rdOf ByteArray.empty t417 x4_1)] rfl xg ?_; (with_reducible refine (cracknelref02_Read.calls k1 (rdOf ByteArray.empty t417 x4_1) t421 false _ A6.out).mono ?_); rintro e w17 ⟨rfl, hb⟩; refine ⟨_, rfl, ?_⟩; have n0_ := Aside0.mk (Kd.R_below (by (with_reducible repeat (first | apply Kd.R_alloc | apply Kd.R_drewN | apply Kd.R_drew)); exact HO_3.out) hb); have n1_ := Aside0.mk (below_step xb hb); clear HO_3; clear HB; have HO_3 := n0_; have HB := n1_; clear n0_ n1_; (try clear hb); (try clear hb2); (try clear hk); (try clear hi)))
            go_ret
            exact ⟨by first | rfl | (simp [errW_none, errW_some] <;> rfl) | (simp [*, errW_none, errW_some] <;> rfl), by repeat (first | (with_reducible first | exact HB.out | apply below_alloc | apply pw_below_drewN | apply below_drew1) | exact HB.out)⟩
        · rw [if_neg c5] at H
          exact absurd H (by simp)
      · rw [if_neg c4] at H
        have c4b0 : decide (x4_1 < (t417.length : Int)) = false := decide_eq_false c4
        clear c4
        obtain rfl := Option.some.inj H
        obtain ⟨Ao18, co18, eo18⟩ := Kd.R_slice HO_3.out
        subst eo18
        go_wp2
        go_ret
        exact ⟨by first | rfl | (simp [errW_none, errW_some] <;> rfl) | (simp [*, errW_none, errW_some] <;> rfl), by repeat (first | (with_reducible first | exact HB.out | apply below_alloc | apply pw_below_drewN | apply below_drew1) | exact HB.out)⟩

/-! ### cracknelref11_Match: function 35 -/
def cracknelref11_Match.f (k : Nat) (a0 : ByteArray) (a1 : ByteArray) : Option (Bool) := if a0.toList = a1.toList then (some true) else (if (wrap64 ((a0.size : Int) - (a1.size : Int))) > 0 then (if 0 ≤ (wrap64 ((a0.size : Int) - (a1.size : Int))) then (if (wrap64 ((a0.size : Int) - (a1.size : Int))) ≤ (a0.size : Int) then (if (a0.extract ((wrap64 ((a0.size : Int) - (a1.size : Int))) : Int).toNat a0.size).toList = a1.toList then (if 0 ≤ (wrap64 ((wrap64 ((a0.size : Int) - (a1.size : Int))) - 1)) then (if (wrap64 ((wrap64 ((a0.size : Int) - (a1.size : Int))) - 1)) < (a0.size : Int) then (if (bt a0 (wrap64 ((wrap64 ((a0.size : Int) - (a1.size : Int))) - 1))) = 46 then ((cracknelref11_Ip.f k a0).bind fun t423 => (some (!t423))) else (some false)) else (none)) else (none)) else (some false)) else (none)) else (none)) else (some false))
theorem cracknelref11_Match.mono : ∀ a0 a1 k, LeO (cracknelref11_Match.f k a0 a1) (cracknelref11_Match.f (k + 1) a0 a1) := by
  intro a0 a1 k
  unfold cracknelref11_Match.f
  repeat' first
      | (with_reducible exact cracknelref11_Ip.mono _ _)
      | (with_reducible exact LeO.refl _)
      | (with_reducible exact LeO.none _)
      | (with_reducible refine LeO.ite ?_ ?_)
      | (with_reducible refine LeO.bind ?_ (fun _ => ?_))
      | exact cracknelref11_Ip.mono _ _
      | exact LeO.none _
      | refine LeO.ite ?_ ?_
      | refine LeO.bind ?_ (fun _ => ?_)
set_option maxHeartbeats 8000000 in
set_option maxRecDepth 100000 in
theorem cracknelref11_Match.calls (k : Nat) (a0 : ByteArray) (a1 : ByteArray) (r : Bool) (w : World) (h : cracknelref11_Match.f k a0 a1 = some r) :
    Calls Tryd.prog 35 #[.string a0, .string a1] w fun e w' => e = .returned (.bool r) ∧ Below w.heap.size w w' := by
  have HB := Aside0.mk (Below.refl w.heap.size w)
  have H : (if a0.toList = a1.toList then (some true) else (if (wrap64 ((a0.size : Int) - (a1.size : Int))) > 0 then (if 0 ≤ (wrap64 ((a0.size : Int) - (a1.size : Int))) then (if (wrap64 ((a0.size : Int) - (a1.size : Int))) ≤ (a0.size : Int) then (if (a0.extract ((wrap64 ((a0.size : Int) - (a1.size : Int))) : Int).toNat a0.size).toList = a1.toList then (if 0 ≤ (wrap64 ((wrap64 ((a0.size : Int) - (a1.size : Int))) - 1)) then (if (wrap64 ((wrap64 ((a0.size : Int) - (a1.size : Int))) - 1)) < (a0.size : Int) then (if (bt a0 (wrap64 ((wrap64 ((a0.size : Int) - (a1.size : Int))) - 1))) = 46 then ((cracknelref11_Ip.f k a0).bind fun t423 => (some (!t423))) else (some false)) else (none)) else (none)) else (some false)) else (none)) else (none)) else (some false))) = some r := h
  clear h
  by_cases c3 : a0.toList = a1.toList
  · rw [if_pos c3] at H
    have c3b0 : (a0.toList == a1.toList) = true := beq_iff_eq.mpr c3
    have c3b1 : (a0.toList != a1.toList) = false := bne_eq_false_iff_eq.mpr c3
    clear c3
    obtain rfl := Option.some.inj H
    go_enter Tryd.func35, Tryd.ntmps35
    go_wp2
    go_ret
    exact ⟨by first | rfl | (simp [errW_none, errW_some] <;> rfl) | (simp [*, errW_none, errW_some] <;> rfl), by repeat (first | (with_reducible first | exact HB.out | apply below_alloc | apply pw_below_drewN | apply below_drew1) | exact HB.out)⟩
  · rw [if_neg c3] at H
    have c3b0 : (a0.toList == a1.toList) = false := beq_eq_false_iff_ne.mpr c3
    have c3b1 : (a0.toList != a1.toList) = true := bne_iff_ne.mpr c3
    by_cases c4 : (wrap64 ((a0.size : Int) - (a1.size : Int))) > 0
    · rw [if_pos c4] at H
      have c4b0 : decide (0 < (wrap64 ((a0.size : Int) - (a1.size : Int)))) = true := decide_eq_true c4
      clear c4
      obtain ⟨ji5, hji5⟩ : ∃ j_ : Int, (wrap64 ((a0.size : Int) - (a1.size : Int))) = j_ := ⟨_, rfl⟩
      replace H : (if 0 ≤ (ji5) then (if (ji5) ≤ (a0.size : Int) then (if (a0.extract ((ji5) : Int).toNat a0.size).toList = a1.toList then (if 0 ≤ (wrap64 ((ji5) - 1)) then (if (wrap64 ((ji5) - 1)) < (a0.size : Int) then (if (bt a0 (wrap64 ((ji5) - 1))) = 46 then ((cracknelref11_Ip.f k a0).bind fun t423 => (some (!t423))) else (some false)) else (none)) else (none)) else (some false)) else (none)) else (none)) = some r := by first | (rw [hji5] at H; exact H) | (simp only [hji5] at H ⊢; exact H)
      (try rw [hji5] at c4b0)
      have hji5w : (IntKind.i64.wrap ((a0.size : Int) - (a1.size : Int))) = ji5 := (i64_w _).trans hji5
      by_cases c6 : 0 ≤ (ji5)
      · rw [if_pos c6] at H
        have c6b0 := eq_true c6
        have c6b1 : decide (0 ≤ (ji5)) = true := decide_eq_true c6
        clear c6
        by_cases c7 : (ji5) ≤ (a0.size : Int)
        · rw [if_pos c7] at H
          have c7b0 := eq_true c7
          have c7b1 : decide ((ji5) ≤ (a0.size : Int)) = true := decide_eq_true c7
          clear c7
          by_cases c8 : (a0.extract ((ji5) : Int).toNat a0.size).toList = a1.toList
          · rw [if_pos c8] at H
            have c8b0 : ((a0.extract ((ji5) : Int).toNat a0.size).toList == a1.toList) = true := beq_iff_eq.mpr c8
            have c8b1 : ((a0.extract ((ji5) : Int).toNat a0.size).toList != a1.toList) = false := bne_eq_false_iff_eq.mpr c8
            clear c8
            obtain ⟨ji9, hji9⟩ : ∃ j_ : Int, (wrap64 ((ji5) - 1)) = j_ := ⟨_, rfl⟩
            replace H : (if 0 ≤ (ji9) then (if (ji9) < (a0.size : Int) then (if (bt a0 (ji9)) = 46 then ((cracknelref11_Ip.f k a0).bind fun t423 => (some (!t423))) else (some false)) else (none)) else (none)) = some r := by first | (rw [hji9] at H; exact H) | (simp only [hji9] at H ⊢; exact H)
            have hji9w : (IntKind.i64.wrap ((ji5) - 1)) = ji9 := (i64_w _).trans hji9
            by_cases c10 : 0 ≤ (ji9)
            · rw [if_pos c10] at H
              have c10b0 : decide (0 ≤ (ji9)) = true := decide_eq_true c10
              clear c10
              by_cases c11 : (ji9) < (a0.size : Int)
              · rw [if_pos c11] at H
                have c11b0 : decide ((ji9) < (a0.size : Int)) = true := decide_eq_true c11
                clear c11
                by_cases c13 : (bt a0 (ji9)) = 46
                · rw [if_pos c13] at H
                  have c13b0 : ((bt a0 (ji9)) == 46) = true := beq_iff_eq.mpr c13
                  have c13b1 : ((bt a0 (ji9)) != 46) = false := bne_eq_false_iff_eq.mpr c13
                  clear c13
                  replace H := Option.bind_eq_some_iff.mp H
                  obtain ⟨t423, A140, H⟩ := H
                  replace H : (some (!t423)) = some r := H
                  have A14 := Aside0.mk A140
                  clear A140
                  obtain rfl := Option.some.inj H
                  have p12 : 0 ≤ ((ji9) : Int) := of_decide_eq_true (by first | (with_reducible assumption) | assumption)
                  have q12 : (ji9) < (a0.size : Int) := of_decide_eq_true (by first | (with_reducible assumption) | assumption)
                  have hx12 := bt_at a0 (ji9)
                  replace p12 := eq_true p12
                  replace q12 := eq_true q12
                  go_enter Tryd.func35, Tryd.ntmps35
                  go_wp2_with (first | (go_at_call 47; (with_reducible refine (cracknelref11_Ip.calls k a0 t423 _ A14.out).mono ?_); rintro e w15 ⟨rfl, hb⟩; have n0_ := Aside0.mk (below_step xb hb); clear HB; have HB := n0_; clear n0_; (try clear hb); (try clear hb2); (try clear hk); (try clear hi)))
                  go_ret
                  exact ⟨by first | rfl | (simp [errW_none, errW_some] <;> rfl) | (simp only [← hji5, ← hji9]; first | rfl | (simp [errW_none, errW_some] <;> rfl)) | (simp [*, errW_none, errW_some] <;> rfl), by repeat (first | (with_reducible first | exact HB.out | apply below_alloc | apply pw_below_drewN | apply below_drew1) | exact HB.out)⟩
                · rw [if_neg c13] at H
                  have c13b0 : ((bt a0 (ji9)) == 46) = false := beq_eq_false_iff_ne.mpr c13
                  have c13b1 : ((bt a0 (ji9)) != 46) = true := bne_iff_ne.mpr c13
                  obtain rfl := Option.some.inj H
                  have p12 : 0 ≤ ((ji9) : Int) := of_decide_eq_true (by first | (with_reducible assumption) | assumption)
                  have q12 : (ji9) < (a0.size : Int) := of_decide_eq_true (by first | (with_reducible assumption) | assumption)
                  have hx12 := bt_at a0 (ji9)
                  replace p12 := eq_true p12
                  replace q12 := eq_true q12
                  go_enter Tryd.func35, Tryd.ntmps35
                  go_wp2
                  go_ret
                  exact ⟨by first | rfl | (simp [errW_none, errW_some] <;> rfl) | (simp only [← hji5, ← hji9]; first | rfl | (simp [errW_none, errW_some] <;> rfl)) | (simp [*, errW_none, errW_some] <;> rfl), by repeat (first | (with_reducible first | exact HB.out | apply below_alloc | apply pw_below_drewN | apply below_drew1) | exact HB.out)⟩
              · rw [if_neg c11] at H
                exact absurd H (by simp)
            · rw [if_neg c10] at H
              exact absurd H (by simp)
          · rw [if_neg c8] at H
            have c8b0 : ((a0.extract ((ji5) : Int).toNat a0.size).toList == a1.toList) = false := beq_eq_false_iff_ne.mpr c8
            have c8b1 : ((a0.extract ((ji5) : Int).toNat a0.size).toList != a1.toList) = true := bne_iff_ne.mpr c8
            obtain rfl := Option.some.inj H
            go_enter Tryd.func35, Tryd.ntmps35
            go_wp2
            go_ret
            exact ⟨by first | rfl | (simp [errW_none, errW_some] <;> rfl) | (simp only [← hji5]; first | rfl | (simp [errW_none, errW_some] <;> rfl)) | (simp [*, errW_none, errW_some] <;> rfl), by repeat (first | (with_reducible first | exact HB.out | apply below_alloc | apply pw_below_drewN | apply below_drew1) | exact HB.out)⟩
        · rw [if_neg c7] at H
          exact absurd H (by simp)
      · rw [if_neg c6] at H
        exact absurd H (by simp)
    · rw [if_neg c4] at H
      have c4b0 : decide (0 < (wrap64 ((a0.size : Int) - (a1.size : Int)))) = false := decide_eq_false c4
      clear c4
      obtain rfl := Option.some.inj H
      go_enter Tryd.func35, Tryd.ntmps35
      go_wp2
      go_ret
      exact ⟨by first | rfl | (simp [errW_none, errW_some] <;> rfl) | (simp [*, errW_none, errW_some] <;> rfl), by repeat (first | (with_reducible first | exact HB.out | apply below_alloc | apply pw_below_drewN | apply below_drew1) | exact HB.out)⟩

/-! ### cracknelref12_Match: function 36 -/
def cracknelref12_Match.f (a0 : ByteArray) (a1 : ByteArray) : Option (Bool) := if a0.toList = a1.toList then (some true) else (if (a1.size : Int) ≥ (a0.size : Int) then (some false) else (if 0 ≤ (a1.size : Int) then (if (a1.size : Int) ≤ (a0.size : Int) then (if (a0.extract 0 ((a1.size : Int) : Int).toNat).toList = a1.toList then (if (a1.size : Int) > 0 then (if 0 ≤ (wrap64 ((a1.size : Int) - 1)) then (if (wrap64 ((a1.size : Int) - 1)) < (a1.size : Int) then (if (bt a1 (wrap64 ((a1.size : Int) - 1))) = 47 then (some true) else (if (a1.size : Int) < (a0.size : Int) then (some ((bt a0 (a1.size : Int)) == 47)) else (none))) else (none)) else (none)) else (if (a1.size : Int) < (a0.size : Int) then (some ((bt a0 (a1.size : Int)) == 47)) else (none))) else (some false)) else (none)) else (none)))
set_option maxHeartbeats 8000000 in
set_option maxRecDepth 100000 in
theorem cracknelref12_Match.calls (a0 : ByteArray) (a1 : ByteArray) (r : Bool) (w : World) (h : cracknelref12_Match.f a0 a1 = some r) :
    Calls Tryd.prog 36 #[.string a0, .string a1] w fun e w' => e = .returned (.bool r) ∧ Drawn0 w w' := by
  have H : (if a0.toList = a1.toList then (some true) else (if (a1.size : Int) ≥ (a0.size : Int) then (some false) else (if 0 ≤ (a1.size : Int) then (if (a1.size : Int) ≤ (a0.size : Int) then (if (a0.extract 0 ((a1.size : Int) : Int).toNat).toList = a1.toList then (if (a1.size : Int) > 0 then (if 0 ≤ (wrap64 ((a1.size : Int) - 1)) then (if (wrap64 ((a1.size : Int) - 1)) < (a1.size : Int) then (if (bt a1 (wrap64 ((a1.size : Int) - 1))) = 47 then (some true) else (if (a1.size : Int) < (a0.size : Int) then (some ((bt a0 (a1.size : Int)) == 47)) else (none))) else (none)) else (none)) else (if (a1.size : Int) < (a0.size : Int) then (some ((bt a0 (a1.size : Int)) == 47)) else (none))) else (some false)) else (none)) else (none)))) = some r := h
  clear h
  by_cases c3 : a0.toList = a1.toList
  · rw [if_pos c3] at H
    have c3b0 : (a0.toList == a1.toList) = true := beq_iff_eq.mpr c3
    have c3b1 : (a0.toList != a1.toList) = false := bne_eq_false_iff_eq.mpr c3
    clear c3
    obtain rfl := Option.some.inj H
    go_enter Tryd.func36, Tryd.ntmps36
    go_wp2
    go_ret
    exact ⟨by first | rfl | (simp; done) | (simp [*]; done), by repeat (first | exact Drawn0.refl _ | apply Drawn0.step)⟩
  · rw [if_neg c3] at H
    have c3b0 : (a0.toList == a1.toList) = false := beq_eq_false_iff_ne.mpr c3
    have c3b1 : (a0.toList != a1.toList) = true := bne_iff_ne.mpr c3
    by_cases c4 : (a1.size : Int) ≥ (a0.size : Int)
    · rw [if_pos c4] at H
      have c4b0 : decide ((a0.size : Int) ≤ (a1.size : Int)) = true := decide_eq_true c4
      have c4b1 : decide (a0.size ≤ a1.size) = true := decide_eq_true (Int.ofNat_le.mp c4)
      clear c4
      obtain rfl := Option.some.inj H
      go_enter Tryd.func36, Tryd.ntmps36
      go_wp2
      go_ret
      exact ⟨by first | rfl | (simp; done) | (simp [*]; done), by repeat (first | exact Drawn0.refl _ | apply Drawn0.step)⟩
    · rw [if_neg c4] at H
      have c4b0 : decide ((a0.size : Int) ≤ (a1.size : Int)) = false := decide_eq_false c4
      have c4b1 : decide (a0.size ≤ a1.size) = false := decide_eq_false (fun h => c4 (Int.ofNat_le.mpr h))
      clear c4
      by_cases c5 : 0 ≤ (a1.size : Int)
      · rw [if_pos c5] at H
        have c5b0 := eq_true c5
        have c5b1 : decide (0 ≤ (a1.size : Int)) = true := decide_eq_true c5
        clear c5
        by_cases c6 : (a1.size : Int) ≤ (a0.size : Int)
        · rw [if_pos c6] at H
          have c6b0 := eq_true c6
          have c6b1 : decide ((a1.size : Int) ≤ (a0.size : Int)) = true := decide_eq_true c6
          clear c6
          by_cases c7 : (a0.extract 0 ((a1.size : Int) : Int).toNat).toList = a1.toList
          · rw [if_pos c7] at H
            have c7b0 : ((a0.extract 0 ((a1.size : Int) : Int).toNat).toList == a1.toList) = true := beq_iff_eq.mpr c7
            have c7b1 : ((a0.extract 0 ((a1.size : Int) : Int).toNat).toList != a1.toList) = false := bne_eq_false_iff_eq.mpr c7
            have c7b2 : ((a0.extract 0 a1.size).toList == a1.toList) = true := beq_iff_eq.mpr c7
            have c7b3 : ((a0.extract 0 a1.size).toList != a1.toList) = false := bne_eq_false_iff_eq.mpr c7
            clear c7
            by_cases c8 : (a1.size : Int) > 0
            · rw [if_pos c8] at H
              have c8b0 : decide (0 < (a1.size : Int)) = true := decide_eq_true c8
              have c8b1 : decide (0 < a1.size) = true := decide_eq_true (by omega)
              clear c8
              obtain ⟨ji9, hji9⟩ : ∃ j_ : Int, (wrap64 ((a1.size : Int) - 1)) = j_ := ⟨_, rfl⟩
              replace H : (if 0 ≤ (ji9) then (if (ji9) < (a1.size : Int) then (if (bt a1 (ji9)) = 47 then (some true) else (if (a1.size : Int) < (a0.size : Int) then (some ((bt a0 (a1.size : Int)) == 47)) else (none))) else (none)) else (none)) = some r := by first | (rw [hji9] at H; exact H) | (simp only [hji9] at H ⊢; exact H)
              have hji9w : (IntKind.i64.wrap ((a1.size : Int) - 1)) = ji9 := (i64_w _).trans hji9
              by_cases c10 : 0 ≤ (ji9)
              · rw [if_pos c10] at H
                have c10b0 : decide (0 ≤ (ji9)) = true := decide_eq_true c10
                clear c10
                by_cases c11 : (ji9) < (a1.size : Int)
                · rw [if_pos c11] at H
                  have c11b0 : decide ((ji9) < (a1.size : Int)) = true := decide_eq_true c11
                  clear c11
                  by_cases c13 : (bt a1 (ji9)) = 47
                  · rw [if_pos c13] at H
                    have c13b0 : ((bt a1 (ji9)) == 47) = true := beq_iff_eq.mpr c13
                    have c13b1 : ((bt a1 (ji9)) != 47) = false := bne_eq_false_iff_eq.mpr c13
                    clear c13
                    obtain rfl := Option.some.inj H
                    have p12 : 0 ≤ ((ji9) : Int) := of_decide_eq_true (by first | (with_reducible assumption) | assumption)
                    have q12 : (ji9) < (a1.size : Int) := of_decide_eq_true (by first | (with_reducible assumption) | assumption)
                    have hx12 := bt_at a1 (ji9)
                    replace p12 := eq_true p12
                    replace q12 := eq_true q12
                    go_enter Tryd.func36, Tryd.ntmps36
                    go_wp2
                    go_ret
                    exact ⟨by first | rfl | (simp; done) | (simp only [← hji9] <;> (first | rfl | simp)) | (simp [*]; done), by repeat (first | exact Drawn0.refl _ | apply Drawn0.step)⟩
                  · rw [if_neg c13] at H
                    have c13b0 : ((bt a1 (ji9)) == 47) = false := beq_eq_false_iff_ne.mpr c13
                    have c13b1 : ((bt a1 (ji9)) != 47) = true := bne_iff_ne.mpr c13
                    by_cases c14 : (a1.size : Int) < (a0.size : Int)
                    · rw [if_pos c14] at H
                      have c14b0 : decide ((a1.size : Int) < (a0.size : Int)) = true := decide_eq_true c14
                      have c14b1 : decide (a1.size < a0.size) = true := decide_eq_true (Int.ofNat_lt.mp c14)
                      clear c14
                      obtain rfl := Option.some.inj H
                      have p12 : 0 ≤ ((ji9) : Int) := of_decide_eq_true (by first | (with_reducible assumption) | assumption)
                      have q12 : (ji9) < (a1.size : Int) := of_decide_eq_true (by first | (with_reducible assumption) | assumption)
                      have hx12 := bt_at a1 (ji9)
                      replace p12 := eq_true p12
                      replace q12 := eq_true q12
                      have p15 : 0 ≤ ((a1.size : Int) : Int) := of_decide_eq_true (by first | (with_reducible assumption) | assumption)
                      have q15 : (a1.size : Int) < (a0.size : Int) := of_decide_eq_true (by first | (with_reducible assumption) | assumption)
                      have hx15 := bt_at a0 (a1.size : Int)
                      have hy15 : ∀ h : a1.size < a0.size, ((a0[a1.size]'h).toNat : Int) = bt a0 (a1.size : Int) := fun h => bt_at a0 (a1.size : Int) h
                      replace p15 := eq_true p15
                      replace q15 := eq_true q15
                      go_enter Tryd.func36, Tryd.ntmps36
                      go_wp2
                      go_ret
                      exact ⟨by first | rfl | (simp; done) | (simp only [← hji9] <;> (first | rfl | simp)) | (simp [*]; done), by repeat (first | exact Drawn0.refl _ | apply Drawn0.step)⟩
                    · rw [if_neg c14] at H
                      exact absurd H (by simp)
                · rw [if_neg c11] at H
                  exact absurd H (by simp)
              · rw [if_neg c10] at H
                exact absurd H (by simp)
            · rw [if_neg c8] at H
              have c8b0 : decide (0 < (a1.size : Int)) = false := decide_eq_false c8
              have c8b1 : decide (0 < a1.size) = false := decide_eq_false (by omega)
              clear c8
              by_cases c16 : (a1.size : Int) < (a0.size : Int)
              · rw [if_pos c16] at H
                have c16b0 : decide ((a1.size : Int) < (a0.size : Int)) = true := decide_eq_true c16
                have c16b1 : decide (a1.size < a0.size) = true := decide_eq_true (Int.ofNat_lt.mp c16)
                clear c16
                obtain rfl := Option.some.inj H
                have p17 : 0 ≤ ((a1.size : Int) : Int) := of_decide_eq_true (by first | (with_reducible assumption) | assumption)
                have q17 : (a1.size : Int) < (a0.size : Int) := of_decide_eq_true (by first | (with_reducible assumption) | assumption)
                have hx17 := bt_at a0 (a1.size : Int)
                have hy17 : ∀ h : a1.size < a0.size, ((a0[a1.size]'h).toNat : Int) = bt a0 (a1.size : Int) := fun h => bt_at a0 (a1.size : Int) h
                replace p17 := eq_true p17
                replace q17 := eq_true q17
                go_enter Tryd.func36, Tryd.ntmps36
                go_wp2
                go_ret
                exact ⟨by first | rfl | (simp; done) | (simp [*]; done), by repeat (first | exact Drawn0.refl _ | apply Drawn0.step)⟩
              · rw [if_neg c16] at H
                exact absurd H (by simp)
          · rw [if_neg c7] at H
            have c7b0 : ((a0.extract 0 ((a1.size : Int) : Int).toNat).toList == a1.toList) = false := beq_eq_false_iff_ne.mpr c7
            have c7b1 : ((a0.extract 0 ((a1.size : Int) : Int).toNat).toList != a1.toList) = true := bne_iff_ne.mpr c7
            have c7b2 : ((a0.extract 0 a1.size).toList == a1.toList) = false := beq_eq_false_iff_ne.mpr c7
            have c7b3 : ((a0.extract 0 a1.size).toList != a1.toList) = true := bne_iff_ne.mpr c7
            obtain rfl := Option.some.inj H
            go_enter Tryd.func36, Tryd.ntmps36
            go_wp2
            go_ret
            exact ⟨by first | rfl | (simp; done) | (simp [*]; done), by repeat (first | exact Drawn0.refl _ | apply Drawn0.step)⟩
        · rw [if_neg c6] at H
          exact absurd H (by simp)
      · rw [if_neg c5] at H
        exact absurd H (by simp)

end Go.Proofs.YtpcakfldmcfhlaaDoor.Print
