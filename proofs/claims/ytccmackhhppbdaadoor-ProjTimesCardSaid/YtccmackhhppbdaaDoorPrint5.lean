/- Printed by a program of this claim's session (xprint.py): the machine's side: each Go function as a Lean function, and that a call of it comes to what that tells; the row of a statement. No condition. -/
import Derived.Test.YtccmackhhppbdaaDoorPrint0
namespace Go.Proofs.YtccmackhhppbdaaDoor.Print
open Go.RowKit Go.Proofs.YtccmackhhppbdaaDoorW.PrintWords Go.Proofs.YtccmackhhppbdaaDoorW.PrintLast Go.Proofs.YtccmackhhppbdaaDoorW.PrintMore
attribute [local go_sem] max2_int min2_int max_two min_two max_three min_three max_four min_four   -- for this text's walks alone
set_option linter.unusedVariables false
set_option linter.unusedSimpArgs false

/-! ### host_may: function 45 -/
def host_may.f (a0 : Int) (a1 : Bool) : Option (Bool) := if a0 ≥ 97 then (if a0 ≤ 122 then (some true) else (if a0 ≥ 48 then (if a0 ≤ 57 then (some true) else (if a0 = 45 then (some (!a1)) else (some false))) else (if a0 = 45 then (some (!a1)) else (some false)))) else (if a0 ≥ 48 then (if a0 ≤ 57 then (some true) else (if a0 = 45 then (some (!a1)) else (some false))) else (if a0 = 45 then (some (!a1)) else (some false)))
set_option maxHeartbeats 8000000 in
set_option maxRecDepth 100000 in
theorem host_may.calls (a0 : Int) (a1 : Bool) (r : Bool) (w : World) (h : host_may.f a0 a1 = some r) :
    Calls Tryd.prog 45 #[.int .u8 a0, .bool a1] w fun e w' => e = .returned (.bool r) ∧ Drawn0 w w' := by
  have H : (if a0 ≥ 97 then (if a0 ≤ 122 then (some true) else (if a0 ≥ 48 then (if a0 ≤ 57 then (some true) else (if a0 = 45 then (some (!a1)) else (some false))) else (if a0 = 45 then (some (!a1)) else (some false)))) else (if a0 ≥ 48 then (if a0 ≤ 57 then (some true) else (if a0 = 45 then (some (!a1)) else (some false))) else (if a0 = 45 then (some (!a1)) else (some false)))) = some r := h
  clear h
  by_cases c3 : a0 ≥ 97
  · rw [if_pos c3] at H
    have c3b0 : decide (97 ≤ a0) = true := decide_eq_true c3
    clear c3
    by_cases c4 : a0 ≤ 122
    · rw [if_pos c4] at H
      have c4b0 : decide (a0 ≤ 122) = true := decide_eq_true c4
      clear c4
      obtain rfl := Option.some.inj H
      go_enter Tryd.func45, Tryd.ntmps45
      go_wp2
      go_ret
      exact ⟨by first | rfl | (simp; done) | (simp [*]; done), by repeat (first | exact Drawn0.refl _ | apply Drawn0.step)⟩
    · rw [if_neg c4] at H
      have c4b0 : decide (a0 ≤ 122) = false := decide_eq_false c4
      clear c4
      by_cases c5 : a0 ≥ 48
      · rw [if_pos c5] at H
        have c5b0 : decide (48 ≤ a0) = true := decide_eq_true c5
        clear c5
        by_cases c6 : a0 ≤ 57
        · rw [if_pos c6] at H
          have c6b0 : decide (a0 ≤ 57) = true := decide_eq_true c6
          clear c6
          obtain rfl := Option.some.inj H
          go_enter Tryd.func45, Tryd.ntmps45
          go_wp2
          go_ret
          exact ⟨by first | rfl | (simp; done) | (simp [*]; done), by repeat (first | exact Drawn0.refl _ | apply Drawn0.step)⟩
        · rw [if_neg c6] at H
          have c6b0 : decide (a0 ≤ 57) = false := decide_eq_false c6
          clear c6
          by_cases c7 : a0 = 45
          · rw [if_pos c7] at H
            have c7b0 : (a0 == 45) = true := beq_iff_eq.mpr c7
            have c7b1 : (a0 != 45) = false := bne_eq_false_iff_eq.mpr c7
            clear c7
            obtain rfl := Option.some.inj H
            go_enter Tryd.func45, Tryd.ntmps45
            go_wp2
            go_ret
            exact ⟨by first | rfl | (simp; done) | (simp [*]; done), by repeat (first | exact Drawn0.refl _ | apply Drawn0.step)⟩
          · rw [if_neg c7] at H
            have c7b0 : (a0 == 45) = false := beq_eq_false_iff_ne.mpr c7
            have c7b1 : (a0 != 45) = true := bne_iff_ne.mpr c7
            obtain rfl := Option.some.inj H
            go_enter Tryd.func45, Tryd.ntmps45
            go_wp2
            go_ret
            exact ⟨by first | rfl | (simp; done) | (simp [*]; done), by repeat (first | exact Drawn0.refl _ | apply Drawn0.step)⟩
      · rw [if_neg c5] at H
        have c5b0 : decide (48 ≤ a0) = false := decide_eq_false c5
        clear c5
        by_cases c8 : a0 = 45
        · rw [if_pos c8] at H
          have c8b0 : (a0 == 45) = true := beq_iff_eq.mpr c8
          have c8b1 : (a0 != 45) = false := bne_eq_false_iff_eq.mpr c8
          clear c8
          obtain rfl := Option.some.inj H
          go_enter Tryd.func45, Tryd.ntmps45
          go_wp2
          go_ret
          exact ⟨by first | rfl | (simp; done) | (simp [*]; done), by repeat (first | exact Drawn0.refl _ | apply Drawn0.step)⟩
        · rw [if_neg c8] at H
          have c8b0 : (a0 == 45) = false := beq_eq_false_iff_ne.mpr c8
          have c8b1 : (a0 != 45) = true := bne_iff_ne.mpr c8
          obtain rfl := Option.some.inj H
          go_enter Tryd.func45, Tryd.ntmps45
          go_wp2
          go_ret
          exact ⟨by first | rfl | (simp; done) | (simp [*]; done), by repeat (first | exact Drawn0.refl _ | apply Drawn0.step)⟩
  · rw [if_neg c3] at H
    have c3b0 : decide (97 ≤ a0) = false := decide_eq_false c3
    clear c3
    by_cases c9 : a0 ≥ 48
    · rw [if_pos c9] at H
      have c9b0 : decide (48 ≤ a0) = true := decide_eq_true c9
      clear c9
      by_cases c10 : a0 ≤ 57
      · rw [if_pos c10] at H
        have c10b0 : decide (a0 ≤ 57) = true := decide_eq_true c10
        clear c10
        obtain rfl := Option.some.inj H
        go_enter Tryd.func45, Tryd.ntmps45
        go_wp2
        go_ret
        exact ⟨by first | rfl | (simp; done) | (simp [*]; done), by repeat (first | exact Drawn0.refl _ | apply Drawn0.step)⟩
      · rw [if_neg c10] at H
        have c10b0 : decide (a0 ≤ 57) = false := decide_eq_false c10
        clear c10
        by_cases c11 : a0 = 45
        · rw [if_pos c11] at H
          have c11b0 : (a0 == 45) = true := beq_iff_eq.mpr c11
          have c11b1 : (a0 != 45) = false := bne_eq_false_iff_eq.mpr c11
          clear c11
          obtain rfl := Option.some.inj H
          go_enter Tryd.func45, Tryd.ntmps45
          go_wp2
          go_ret
          exact ⟨by first | rfl | (simp; done) | (simp [*]; done), by repeat (first | exact Drawn0.refl _ | apply Drawn0.step)⟩
        · rw [if_neg c11] at H
          have c11b0 : (a0 == 45) = false := beq_eq_false_iff_ne.mpr c11
          have c11b1 : (a0 != 45) = true := bne_iff_ne.mpr c11
          obtain rfl := Option.some.inj H
          go_enter Tryd.func45, Tryd.ntmps45
          go_wp2
          go_ret
          exact ⟨by first | rfl | (simp; done) | (simp [*]; done), by repeat (first | exact Drawn0.refl _ | apply Drawn0.step)⟩
    · rw [if_neg c9] at H
      have c9b0 : decide (48 ≤ a0) = false := decide_eq_false c9
      clear c9
      by_cases c12 : a0 = 45
      · rw [if_pos c12] at H
        have c12b0 : (a0 == 45) = true := beq_iff_eq.mpr c12
        have c12b1 : (a0 != 45) = false := bne_eq_false_iff_eq.mpr c12
        clear c12
        obtain rfl := Option.some.inj H
        go_enter Tryd.func45, Tryd.ntmps45
        go_wp2
        go_ret
        exact ⟨by first | rfl | (simp; done) | (simp [*]; done), by repeat (first | exact Drawn0.refl _ | apply Drawn0.step)⟩
      · rw [if_neg c12] at H
        have c12b0 : (a0 == 45) = false := beq_eq_false_iff_ne.mpr c12
        have c12b1 : (a0 != 45) = true := bne_iff_ne.mpr c12
        obtain rfl := Option.some.inj H
        go_enter Tryd.func45, Tryd.ntmps45
        go_wp2
        go_ret
        exact ⟨by first | rfl | (simp; done) | (simp [*]; done), by repeat (first | exact Drawn0.refl _ | apply Drawn0.step)⟩

end Go.Proofs.YtccmackhhppbdaaDoor.Print
