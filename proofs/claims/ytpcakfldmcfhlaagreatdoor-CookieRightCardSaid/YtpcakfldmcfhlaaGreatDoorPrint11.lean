/- Printed by a program of this claim's session (xprint.py): the machine's side: each Go function as a Lean function, and that a call of it comes to what that tells; the row of a statement. No condition. -/
import Derived.Test.YtpcakfldmcfhlaaGreatDoorPrint0
import Derived.Test.YtpcakfldmcfhlaaGreatDoorPrint10
namespace Go.Proofs.YtpcakfldmcfhlaaGreatDoor.Print
open Go.RowKit Go.Proofs.YtpcakfldmcfhlaaGreatDoorW.PrintWords Go.Proofs.YtpcakfldmcfhlaaGreatDoorW.PrintLast Go.Proofs.YtpcakfldmcfhlaaGreatDoorW.PrintMore
attribute [local go_sem] max2_int min2_int max_two min_two max_three min_three max_four min_four   -- for this text's walks alone
set_option linter.unusedVariables false
set_option linter.unusedSimpArgs false

/-! ### cracknelref01_Token: function 23 -/
def cracknelref01_Token.l0 : Nat → ByteArray → Int → Option (Bool)
  | 0, _, _ => none
  | k + 1, x0, x3 => if x3 < (x0.size : Int) then (if 0 ≤ x3 then ((cracknelref01_name.f (bt x0 x3)).bind fun t246 => (if t246 = true then (cracknelref01_Token.l0 k x0 (wrap64 (x3 + 1))) else (some false))) else (none)) else (some (decide ((x0.size : Int) > 0)))
def cracknelref01_Token.f (k : Nat) (a0 : ByteArray) : Option (Bool) := cracknelref01_Token.l0 k a0 0
theorem cracknelref01_Token.mono_l : ∀ k, (∀ y0 y1, LeO (cracknelref01_Token.l0 k y0 y1) (cracknelref01_Token.l0 (k + 1) y0 y1))
  | 0 => fun _ _ r h => by simp [cracknelref01_Token.l0] at h
  | k + 1 => by
    have ih0 := cracknelref01_Token.mono_l k
    · intro y0 y1
      unfold cracknelref01_Token.l0
      repeat' first
      | (with_reducible exact ih0 _ _)
      | (with_reducible exact LeO.refl _)
      | (with_reducible exact LeO.none _)
      | (with_reducible refine LeO.ite ?_ ?_)
      | (with_reducible refine LeO.bind ?_ (fun _ => ?_))
      | exact ih0 _ _
      | exact LeO.none _
      | refine LeO.ite ?_ ?_
      | refine LeO.bind ?_ (fun _ => ?_)
theorem cracknelref01_Token.mono : ∀ a0 k, LeO (cracknelref01_Token.f k a0) (cracknelref01_Token.f (k + 1) a0) := by
  intro a0 k
  have ih0 := cracknelref01_Token.mono_l k
  unfold cracknelref01_Token.f
  repeat' first
      | (with_reducible exact ih0 _ _)
      | (with_reducible exact LeO.refl _)
      | (with_reducible exact LeO.none _)
      | (with_reducible refine LeO.ite ?_ ?_)
      | (with_reducible refine LeO.bind ?_ (fun _ => ?_))
      | exact ih0 _ _
      | exact LeO.none _
      | refine LeO.ite ?_ ?_
      | refine LeO.bind ?_ (fun _ => ?_)
set_option maxHeartbeats 8000000 in
set_option maxRecDepth 100000 in
theorem cracknelref01_Token.calls (k : Nat) (a0 : ByteArray) (r : Bool) (w : World) (h : cracknelref01_Token.f k a0 = some r) :
    Calls Tryz.prog 23 #[.string a0] w fun e w' => e = .returned (.bool r) ∧ Drawn0 w w' := by
  have H : (cracknelref01_Token.l0 k a0 0) = some r := h
  clear h
  have H' := Aside0.mk H
  clear H
  go_enter Tryz.func23, Tryz.ntmps23
  go_wp2
  go_loopg [3] k (fun kq v3 w' => ∃ (x3_1 : Int), v3 = .int .i64 x3_1 ∧ Aside0 (cracknelref01_Token.l0 kq a0 x3_1 = some r) ∧ Aside0 (kq ≤ k) ∧ Drawn0 w w')
  case atStart => exact ⟨(0), (by first | rfl | (simp; done) | (simp [*]; done)), H', ⟨Nat.le_refl _⟩, by repeat (first | exact Drawn0.refl _ | apply Drawn0.step)⟩
  case round =>
    clear H'
    obtain ⟨x3_1, rfl, HA, HK1, ⟨m1, rfl⟩⟩ := hrel
    cases gk with
    | zero => exact absurd HA.out (by simp [cracknelref01_Token.l0])
    | succ k1 =>
      have H := HA.out
      clear HA
      simp only [cracknelref01_Token.l0] at H
      by_cases c2 : x3_1 < (a0.size : Int)
      · rw [if_pos c2] at H
        have c2b0 : decide (x3_1 < (a0.size : Int)) = true := decide_eq_true c2
        clear c2
        by_cases c3 : 0 ≤ x3_1
        · rw [if_pos c3] at H
          have c3b0 : decide (0 ≤ x3_1) = true := decide_eq_true c3
          clear c3
          replace H := Option.bind_eq_some_iff.mp H
          obtain ⟨t246, A50, H⟩ := H
          replace H : (if t246 = true then (cracknelref01_Token.l0 k1 a0 (wrap64 (x3_1 + 1))) else (some false)) = some r := H
          have A5 := Aside0.mk A50
          clear A50
          by_cases c6 : t246 = true
          · subst c6
            have H1 : (cracknelref01_Token.l0 k1 a0 (wrap64 (x3_1 + 1))) = some r := by rw [if_pos rfl] at H; exact H
            clear H
            have H := H1
            clear H1
            have H' := Aside0.mk H
            clear H
            have p4 : 0 ≤ (x3_1 : Int) := of_decide_eq_true (by first | (with_reducible assumption) | assumption)
            have q4 : x3_1 < (a0.size : Int) := of_decide_eq_true (by first | (with_reducible assumption) | assumption)
            have hx4 := bt_at a0 x3_1
            replace p4 := eq_true p4
            replace q4 := eq_true q4
            go_wp2_with (first | ((with_reducible refine gate_callee (f := 47) rfl ?_); refine goesL_ (some 13) rfl rfl Tryz.func47 (by kernel_rfl) rfl #[.int .u8 (bt a0 x3_1)] rfl xg ?_; (with_reducible refine (cracknelref01_name.calls (bt a0 x3_1) true _ A5.out).mono ?_); rintro e w' ⟨rfl, ⟨nd, rfl⟩⟩; refine ⟨_, rfl, ?_⟩))
            go_roundg k1
            case measure => have := HK1.out; omega
            case rel => exact ⟨(wrap64 (x3_1 + 1)), (by first | rfl | (simp; done) | (simp [*]; done)), H', ⟨by have := HK1.out; omega⟩, by repeat (first | exact Drawn0.refl _ | apply Drawn0.step)⟩
          · replace c6 := Bool.eq_false_iff.mpr c6
            subst c6
            have H1 : (some false) = some r := by rw [if_neg (show ¬ (false = true) by decide)] at H; exact H
            clear H
            have H := H1
            clear H1
            obtain rfl := Option.some.inj H
            have p4 : 0 ≤ (x3_1 : Int) := of_decide_eq_true (by first | (with_reducible assumption) | assumption)
            have q4 : x3_1 < (a0.size : Int) := of_decide_eq_true (by first | (with_reducible assumption) | assumption)
            have hx4 := bt_at a0 x3_1
            replace p4 := eq_true p4
            replace q4 := eq_true q4
            go_wp2_with (first | ((with_reducible refine gate_callee (f := 47) rfl ?_); refine goesL_ (some 13) rfl rfl Tryz.func47 (by kernel_rfl) rfl #[.int .u8 (bt a0 x3_1)] rfl xg ?_; (with_reducible refine (cracknelref01_name.calls (bt a0 x3_1) false _ A5.out).mono ?_); rintro e w' ⟨rfl, ⟨nd, rfl⟩⟩; refine ⟨_, rfl, ?_⟩))
            go_ret
            exact ⟨by first | rfl | (simp; done) | (simp [*]; done), by repeat (first | exact Drawn0.refl _ | apply Drawn0.step)⟩
        · rw [if_neg c3] at H
          exact absurd H (by simp)
      · rw [if_neg c2] at H
        have c2b0 : decide (x3_1 < (a0.size : Int)) = false := decide_eq_false c2
        clear c2
        obtain rfl := Option.some.inj H
        go_wp2
        go_ret
        exact ⟨by first | rfl | (simp; done) | (simp [*]; done), by repeat (first | exact Drawn0.refl _ | apply Drawn0.step)⟩

/-! ### cracknelref01_octet: function 48 -/
def cracknelref01_octet.f (a0 : Int) : Option (Bool) := if a0 = 33 then (some true) else (if a0 ≥ 35 then (if a0 ≤ 43 then (some true) else (if a0 ≥ 45 then (if a0 ≤ 58 then (some true) else (if a0 ≥ 60 then (if a0 ≤ 91 then (some true) else (if a0 ≥ 93 then (some (decide (a0 ≤ 126))) else (some false))) else (if a0 ≥ 93 then (some (decide (a0 ≤ 126))) else (some false)))) else (if a0 ≥ 60 then (if a0 ≤ 91 then (some true) else (if a0 ≥ 93 then (some (decide (a0 ≤ 126))) else (some false))) else (if a0 ≥ 93 then (some (decide (a0 ≤ 126))) else (some false))))) else (if a0 ≥ 45 then (if a0 ≤ 58 then (some true) else (if a0 ≥ 60 then (if a0 ≤ 91 then (some true) else (if a0 ≥ 93 then (some (decide (a0 ≤ 126))) else (some false))) else (if a0 ≥ 93 then (some (decide (a0 ≤ 126))) else (some false)))) else (if a0 ≥ 60 then (if a0 ≤ 91 then (some true) else (if a0 ≥ 93 then (some (decide (a0 ≤ 126))) else (some false))) else (if a0 ≥ 93 then (some (decide (a0 ≤ 126))) else (some false)))))
set_option maxHeartbeats 8000000 in
set_option maxRecDepth 100000 in
theorem cracknelref01_octet.calls (a0 : Int) (r : Bool) (w : World) (h : cracknelref01_octet.f a0 = some r) :
    Calls Tryz.prog 48 #[.int .u8 a0] w fun e w' => e = .returned (.bool r) ∧ Drawn0 w w' := by
  have H : (if a0 = 33 then (some true) else (if a0 ≥ 35 then (if a0 ≤ 43 then (some true) else (if a0 ≥ 45 then (if a0 ≤ 58 then (some true) else (if a0 ≥ 60 then (if a0 ≤ 91 then (some true) else (if a0 ≥ 93 then (some (decide (a0 ≤ 126))) else (some false))) else (if a0 ≥ 93 then (some (decide (a0 ≤ 126))) else (some false)))) else (if a0 ≥ 60 then (if a0 ≤ 91 then (some true) else (if a0 ≥ 93 then (some (decide (a0 ≤ 126))) else (some false))) else (if a0 ≥ 93 then (some (decide (a0 ≤ 126))) else (some false))))) else (if a0 ≥ 45 then (if a0 ≤ 58 then (some true) else (if a0 ≥ 60 then (if a0 ≤ 91 then (some true) else (if a0 ≥ 93 then (some (decide (a0 ≤ 126))) else (some false))) else (if a0 ≥ 93 then (some (decide (a0 ≤ 126))) else (some false)))) else (if a0 ≥ 60 then (if a0 ≤ 91 then (some true) else (if a0 ≥ 93 then (some (decide (a0 ≤ 126))) else (some false))) else (if a0 ≥ 93 then (some (decide (a0 ≤ 126))) else (some false)))))) = some r := h
  clear h
  by_cases c2 : a0 = 33
  · rw [if_pos c2] at H
    have c2b0 : (a0 == 33) = true := beq_iff_eq.mpr c2
    have c2b1 : (a0 != 33) = false := bne_eq_false_iff_eq.mpr c2
    clear c2
    obtain rfl := Option.some.inj H
    go_enter Tryz.func48, Tryz.ntmps48
    go_wp2
    go_ret
    exact ⟨by first | rfl | (simp; done) | (simp [*]; done), by repeat (first | exact Drawn0.refl _ | apply Drawn0.step)⟩
  · rw [if_neg c2] at H
    have c2b0 : (a0 == 33) = false := beq_eq_false_iff_ne.mpr c2
    have c2b1 : (a0 != 33) = true := bne_iff_ne.mpr c2
    by_cases c3 : a0 ≥ 35
    · rw [if_pos c3] at H
      have c3b0 : decide (35 ≤ a0) = true := decide_eq_true c3
      clear c3
      by_cases c4 : a0 ≤ 43
      · rw [if_pos c4] at H
        have c4b0 : decide (a0 ≤ 43) = true := decide_eq_true c4
        clear c4
        obtain rfl := Option.some.inj H
        go_enter Tryz.func48, Tryz.ntmps48
        go_wp2
        go_ret
        exact ⟨by first | rfl | (simp; done) | (simp [*]; done), by repeat (first | exact Drawn0.refl _ | apply Drawn0.step)⟩
      · rw [if_neg c4] at H
        have c4b0 : decide (a0 ≤ 43) = false := decide_eq_false c4
        clear c4
        by_cases c5 : a0 ≥ 45
        · rw [if_pos c5] at H
          have c5b0 : decide (45 ≤ a0) = true := decide_eq_true c5
          clear c5
          by_cases c6 : a0 ≤ 58
          · rw [if_pos c6] at H
            have c6b0 : decide (a0 ≤ 58) = true := decide_eq_true c6
            clear c6
            obtain rfl := Option.some.inj H
            go_enter Tryz.func48, Tryz.ntmps48
            go_wp2
            go_ret
            exact ⟨by first | rfl | (simp; done) | (simp [*]; done), by repeat (first | exact Drawn0.refl _ | apply Drawn0.step)⟩
          · rw [if_neg c6] at H
            have c6b0 : decide (a0 ≤ 58) = false := decide_eq_false c6
            clear c6
            by_cases c7 : a0 ≥ 60
            · rw [if_pos c7] at H
              have c7b0 : decide (60 ≤ a0) = true := decide_eq_true c7
              clear c7
              by_cases c8 : a0 ≤ 91
              · rw [if_pos c8] at H
                have c8b0 : decide (a0 ≤ 91) = true := decide_eq_true c8
                clear c8
                obtain rfl := Option.some.inj H
                go_enter Tryz.func48, Tryz.ntmps48
                go_wp2
                go_ret
                exact ⟨by first | rfl | (simp; done) | (simp [*]; done), by repeat (first | exact Drawn0.refl _ | apply Drawn0.step)⟩
              · rw [if_neg c8] at H
                have c8b0 : decide (a0 ≤ 91) = false := decide_eq_false c8
                clear c8
                by_cases c9 : a0 ≥ 93
                · rw [if_pos c9] at H
                  have c9b0 : decide (93 ≤ a0) = true := decide_eq_true c9
                  clear c9
                  obtain rfl := Option.some.inj H
                  go_enter Tryz.func48, Tryz.ntmps48
                  go_wp2
                  go_ret
                  exact ⟨by first | rfl | (simp; done) | (simp [*]; done), by repeat (first | exact Drawn0.refl _ | apply Drawn0.step)⟩
                · rw [if_neg c9] at H
                  have c9b0 : decide (93 ≤ a0) = false := decide_eq_false c9
                  clear c9
                  obtain rfl := Option.some.inj H
                  go_enter Tryz.func48, Tryz.ntmps48
                  go_wp2
                  go_ret
                  exact ⟨by first | rfl | (simp; done) | (simp [*]; done), by repeat (first | exact Drawn0.refl _ | apply Drawn0.step)⟩
            · rw [if_neg c7] at H
              have c7b0 : decide (60 ≤ a0) = false := decide_eq_false c7
              clear c7
              by_cases c10 : a0 ≥ 93
              · rw [if_pos c10] at H
                have c10b0 : decide (93 ≤ a0) = true := decide_eq_true c10
                clear c10
                obtain rfl := Option.some.inj H
                go_enter Tryz.func48, Tryz.ntmps48
                go_wp2
                go_ret
                exact ⟨by first | rfl | (simp; done) | (simp [*]; done), by repeat (first | exact Drawn0.refl _ | apply Drawn0.step)⟩
              · rw [if_neg c10] at H
                have c10b0 : decide (93 ≤ a0) = false := decide_eq_false c10
                clear c10
                obtain rfl := Option.some.inj H
                go_enter Tryz.func48, Tryz.ntmps48
                go_wp2
                go_ret
                exact ⟨by first | rfl | (simp; done) | (simp [*]; done), by repeat (first | exact Drawn0.refl _ | apply Drawn0.step)⟩
        · rw [if_neg c5] at H
          have c5b0 : decide (45 ≤ a0) = false := decide_eq_false c5
          clear c5
          by_cases c11 : a0 ≥ 60
          · rw [if_pos c11] at H
            have c11b0 : decide (60 ≤ a0) = true := decide_eq_true c11
            clear c11
            by_cases c12 : a0 ≤ 91
            · rw [if_pos c12] at H
              have c12b0 : decide (a0 ≤ 91) = true := decide_eq_true c12
              clear c12
              obtain rfl := Option.some.inj H
              go_enter Tryz.func48, Tryz.ntmps48
              go_wp2
              go_ret
              exact ⟨by first | rfl | (simp; done) | (simp [*]; done), by repeat (first | exact Drawn0.refl _ | apply Drawn0.step)⟩
            · rw [if_neg c12] at H
              have c12b0 : decide (a0 ≤ 91) = false := decide_eq_false c12
              clear c12
              by_cases c13 : a0 ≥ 93
              · rw [if_pos c13] at H
                have c13b0 : decide (93 ≤ a0) = true := decide_eq_true c13
                clear c13
                obtain rfl := Option.some.inj H
                go_enter Tryz.func48, Tryz.ntmps48
                go_wp2
                go_ret
                exact ⟨by first | rfl | (simp; done) | (simp [*]; done), by repeat (first | exact Drawn0.refl _ | apply Drawn0.step)⟩
              · rw [if_neg c13] at H
                have c13b0 : decide (93 ≤ a0) = false := decide_eq_false c13
                clear c13
                obtain rfl := Option.some.inj H
                go_enter Tryz.func48, Tryz.ntmps48
                go_wp2
                go_ret
                exact ⟨by first | rfl | (simp; done) | (simp [*]; done), by repeat (first | exact Drawn0.refl _ | apply Drawn0.step)⟩
          · rw [if_neg c11] at H
            have c11b0 : decide (60 ≤ a0) = false := decide_eq_false c11
            clear c11
            by_cases c14 : a0 ≥ 93
            · rw [if_pos c14] at H
              have c14b0 : decide (93 ≤ a0) = true := decide_eq_true c14
              clear c14
              obtain rfl := Option.some.inj H
              go_enter Tryz.func48, Tryz.ntmps48
              go_wp2
              go_ret
              exact ⟨by first | rfl | (simp; done) | (simp [*]; done), by repeat (first | exact Drawn0.refl _ | apply Drawn0.step)⟩
            · rw [if_neg c14] at H
              have c14b0 : decide (93 ≤ a0) = false := decide_eq_false c14
              clear c14
              obtain rfl := Option.some.inj H
              go_enter Tryz.func48, Tryz.ntmps48
              go_wp2
              go_ret
              exact ⟨by first | rfl | (simp; done) | (simp [*]; done), by repeat (first | exact Drawn0.refl _ | apply Drawn0.step)⟩
    · rw [if_neg c3] at H
      have c3b0 : decide (35 ≤ a0) = false := decide_eq_false c3
      clear c3
      by_cases c15 : a0 ≥ 45
      · rw [if_pos c15] at H
        have c15b0 : decide (45 ≤ a0) = true := decide_eq_true c15
        clear c15
        by_cases c16 : a0 ≤ 58
        · rw [if_pos c16] at H
          have c16b0 : decide (a0 ≤ 58) = true := decide_eq_true c16
          clear c16
          obtain rfl := Option.some.inj H
          go_enter Tryz.func48, Tryz.ntmps48
          go_wp2
          go_ret
          exact ⟨by first | rfl | (simp; done) | (simp [*]; done), by repeat (first | exact Drawn0.refl _ | apply Drawn0.step)⟩
        · rw [if_neg c16] at H
          have c16b0 : decide (a0 ≤ 58) = false := decide_eq_false c16
          clear c16
          by_cases c17 : a0 ≥ 60
          · rw [if_pos c17] at H
            have c17b0 : decide (60 ≤ a0) = true := decide_eq_true c17
            clear c17
            by_cases c18 : a0 ≤ 91
            · rw [if_pos c18] at H
              have c18b0 : decide (a0 ≤ 91) = true := decide_eq_true c18
              clear c18
              obtain rfl := Option.some.inj H
              go_enter Tryz.func48, Tryz.ntmps48
              go_wp2
              go_ret
              exact ⟨by first | rfl | (simp; done) | (simp [*]; done), by repeat (first | exact Drawn0.refl _ | apply Drawn0.step)⟩
            · rw [if_neg c18] at H
              have c18b0 : decide (a0 ≤ 91) = false := decide_eq_false c18
              clear c18
              by_cases c19 : a0 ≥ 93
              · rw [if_pos c19] at H
                have c19b0 : decide (93 ≤ a0) = true := decide_eq_true c19
                clear c19
                obtain rfl := Option.some.inj H
                go_enter Tryz.func48, Tryz.ntmps48
                go_wp2
                go_ret
                exact ⟨by first | rfl | (simp; done) | (simp [*]; done), by repeat (first | exact Drawn0.refl _ | apply Drawn0.step)⟩
              · rw [if_neg c19] at H
                have c19b0 : decide (93 ≤ a0) = false := decide_eq_false c19
                clear c19
                obtain rfl := Option.some.inj H
                go_enter Tryz.func48, Tryz.ntmps48
                go_wp2
                go_ret
                exact ⟨by first | rfl | (simp; done) | (simp [*]; done), by repeat (first | exact Drawn0.refl _ | apply Drawn0.step)⟩
          · rw [if_neg c17] at H
            have c17b0 : decide (60 ≤ a0) = false := decide_eq_false c17
            clear c17
            by_cases c20 : a0 ≥ 93
            · rw [if_pos c20] at H
              have c20b0 : decide (93 ≤ a0) = true := decide_eq_true c20
              clear c20
              obtain rfl := Option.some.inj H
              go_enter Tryz.func48, Tryz.ntmps48
              go_wp2
              go_ret
              exact ⟨by first | rfl | (simp; done) | (simp [*]; done), by repeat (first | exact Drawn0.refl _ | apply Drawn0.step)⟩
            · rw [if_neg c20] at H
              have c20b0 : decide (93 ≤ a0) = false := decide_eq_false c20
              clear c20
              obtain rfl := Option.some.inj H
              go_enter Tryz.func48, Tryz.ntmps48
              go_wp2
              go_ret
              exact ⟨by first | rfl | (simp; done) | (simp [*]; done), by repeat (first | exact Drawn0.refl _ | apply Drawn0.step)⟩
      · rw [if_neg c15] at H
        have c15b0 : decide (45 ≤ a0) = false := decide_eq_false c15
        clear c15
        by_cases c21 : a0 ≥ 60
        · rw [if_pos c21] at H
          have c21b0 : decide (60 ≤ a0) = true := decide_eq_true c21
          clear c21
          by_cases c22 : a0 ≤ 91
          · rw [if_pos c22] at H
            have c22b0 : decide (a0 ≤ 91) = true := decide_eq_true c22
            clear c22
            obtain rfl := Option.some.inj H
            go_enter Tryz.func48, Tryz.ntmps48
            go_wp2
            go_ret
            exact ⟨by first | rfl | (simp; done) | (simp [*]; done), by repeat (first | exact Drawn0.refl _ | apply Drawn0.step)⟩
          · rw [if_neg c22] at H
            have c22b0 : decide (a0 ≤ 91) = false := decide_eq_false c22
            clear c22
            by_cases c23 : a0 ≥ 93
            · rw [if_pos c23] at H
              have c23b0 : decide (93 ≤ a0) = true := decide_eq_true c23
              clear c23
              obtain rfl := Option.some.inj H
              go_enter Tryz.func48, Tryz.ntmps48
              go_wp2
              go_ret
              exact ⟨by first | rfl | (simp; done) | (simp [*]; done), by repeat (first | exact Drawn0.refl _ | apply Drawn0.step)⟩
            · rw [if_neg c23] at H
              have c23b0 : decide (93 ≤ a0) = false := decide_eq_false c23
              clear c23
              obtain rfl := Option.some.inj H
              go_enter Tryz.func48, Tryz.ntmps48
              go_wp2
              go_ret
              exact ⟨by first | rfl | (simp; done) | (simp [*]; done), by repeat (first | exact Drawn0.refl _ | apply Drawn0.step)⟩
        · rw [if_neg c21] at H
          have c21b0 : decide (60 ≤ a0) = false := decide_eq_false c21
          clear c21
          by_cases c24 : a0 ≥ 93
          · rw [if_pos c24] at H
            have c24b0 : decide (93 ≤ a0) = true := decide_eq_true c24
            clear c24
            obtain rfl := Option.some.inj H
            go_enter Tryz.func48, Tryz.ntmps48
            go_wp2
            go_ret
            exact ⟨by first | rfl | (simp; done) | (simp [*]; done), by repeat (first | exact Drawn0.refl _ | apply Drawn0.step)⟩
          · rw [if_neg c24] at H
            have c24b0 : decide (93 ≤ a0) = false := decide_eq_false c24
            clear c24
            obtain rfl := Option.some.inj H
            go_enter Tryz.func48, Tryz.ntmps48
            go_wp2
            go_ret
            exact ⟨by first | rfl | (simp; done) | (simp [*]; done), by repeat (first | exact Drawn0.refl _ | apply Drawn0.step)⟩

/-! ### cracknelref01_Octets: function 24 -/
def cracknelref01_Octets.l0 : Nat → ByteArray → Int → Option (Bool)
  | 0, _, _ => none
  | k + 1, x0, x3 => if x3 < (x0.size : Int) then (if 0 ≤ x3 then ((cracknelref01_octet.f (bt x0 x3)).bind fun t247 => (if t247 = true then (cracknelref01_Octets.l0 k x0 (wrap64 (x3 + 1))) else (some false))) else (none)) else (some true)
def cracknelref01_Octets.f (k : Nat) (a0 : ByteArray) : Option (Bool) := cracknelref01_Octets.l0 k a0 0
theorem cracknelref01_Octets.mono_l : ∀ k, (∀ y0 y1, LeO (cracknelref01_Octets.l0 k y0 y1) (cracknelref01_Octets.l0 (k + 1) y0 y1))
  | 0 => fun _ _ r h => by simp [cracknelref01_Octets.l0] at h
  | k + 1 => by
    have ih0 := cracknelref01_Octets.mono_l k
    · intro y0 y1
      unfold cracknelref01_Octets.l0
      repeat' first
      | (with_reducible exact ih0 _ _)
      | (with_reducible exact LeO.refl _)
      | (with_reducible exact LeO.none _)
      | (with_reducible refine LeO.ite ?_ ?_)
      | (with_reducible refine LeO.bind ?_ (fun _ => ?_))
      | exact ih0 _ _
      | exact LeO.none _
      | refine LeO.ite ?_ ?_
      | refine LeO.bind ?_ (fun _ => ?_)
theorem cracknelref01_Octets.mono : ∀ a0 k, LeO (cracknelref01_Octets.f k a0) (cracknelref01_Octets.f (k + 1) a0) := by
  intro a0 k
  have ih0 := cracknelref01_Octets.mono_l k
  unfold cracknelref01_Octets.f
  repeat' first
      | (with_reducible exact ih0 _ _)
      | (with_reducible exact LeO.refl _)
      | (with_reducible exact LeO.none _)
      | (with_reducible refine LeO.ite ?_ ?_)
      | (with_reducible refine LeO.bind ?_ (fun _ => ?_))
      | exact ih0 _ _
      | exact LeO.none _
      | refine LeO.ite ?_ ?_
      | refine LeO.bind ?_ (fun _ => ?_)
set_option maxHeartbeats 8000000 in
set_option maxRecDepth 100000 in
theorem cracknelref01_Octets.calls (k : Nat) (a0 : ByteArray) (r : Bool) (w : World) (h : cracknelref01_Octets.f k a0 = some r) :
    Calls Tryz.prog 24 #[.string a0] w fun e w' => e = .returned (.bool r) ∧ Drawn0 w w' := by
  have H : (cracknelref01_Octets.l0 k a0 0) = some r := h
  clear h
  have H' := Aside0.mk H
  clear H
  go_enter Tryz.func24, Tryz.ntmps24
  go_wp2
  go_loopg [3] k (fun kq v3 w' => ∃ (x3_1 : Int), v3 = .int .i64 x3_1 ∧ Aside0 (cracknelref01_Octets.l0 kq a0 x3_1 = some r) ∧ Aside0 (kq ≤ k) ∧ Drawn0 w w')
  case atStart => exact ⟨(0), (by first | rfl | (simp; done) | (simp [*]; done)), H', ⟨Nat.le_refl _⟩, by repeat (first | exact Drawn0.refl _ | apply Drawn0.step)⟩
  case round =>
    clear H'
    obtain ⟨x3_1, rfl, HA, HK1, ⟨m1, rfl⟩⟩ := hrel
    cases gk with
    | zero => exact absurd HA.out (by simp [cracknelref01_Octets.l0])
    | succ k1 =>
      have H := HA.out
      clear HA
      simp only [cracknelref01_Octets.l0] at H
      by_cases c2 : x3_1 < (a0.size : Int)
      · rw [if_pos c2] at H
        have c2b0 : decide (x3_1 < (a0.size : Int)) = true := decide_eq_true c2
        clear c2
        by_cases c3 : 0 ≤ x3_1
        · rw [if_pos c3] at H
          have c3b0 : decide (0 ≤ x3_1) = true := decide_eq_true c3
          clear c3
          replace H := Option.bind_eq_some_iff.mp H
          obtain ⟨t247, A50, H⟩ := H
          replace H : (if t247 = true then (cracknelref01_Octets.l0 k1 a0 (wrap64 (x3_1 + 1))) else (some false)) = some r := H
          have A5 := Aside0.mk A50
          clear A50
          by_cases c6 : t247 = true
          · subst c6
            have H1 : (cracknelref01_Octets.l0 k1 a0 (wrap64 (x3_1 + 1))) = some r := by rw [if_pos rfl] at H; exact H
            clear H
            have H := H1
            clear H1
            have H' := Aside0.mk H
            clear H
            have p4 : 0 ≤ (x3_1 : Int) := of_decide_eq_true (by first | (with_reducible assumption) | assumption)
            have q4 : x3_1 < (a0.size : Int) := of_decide_eq_true (by first | (with_reducible assumption) | assumption)
            have hx4 := bt_at a0 x3_1
            replace p4 := eq_true p4
            replace q4 := eq_true q4
            go_wp2_with (first | ((with_reducible refine gate_callee (f := 48) rfl ?_); refine goesL_ (some 13) rfl rfl Tryz.func48 (by kernel_rfl) rfl #[.int .u8 (bt a0 x3_1)] rfl xg ?_; (with_reducible refine (cracknelref01_octet.calls (bt a0 x3_1) true _ A5.out).mono ?_); rintro e w' ⟨rfl, ⟨nd, rfl⟩⟩; refine ⟨_, rfl, ?_⟩))
            go_roundg k1
            case measure => have := HK1.out; omega
            case rel => exact ⟨(wrap64 (x3_1 + 1)), (by first | rfl | (simp; done) | (simp [*]; done)), H', ⟨by have := HK1.out; omega⟩, by repeat (first | exact Drawn0.refl _ | apply Drawn0.step)⟩
          · replace c6 := Bool.eq_false_iff.mpr c6
            subst c6
            have H1 : (some false) = some r := by rw [if_neg (show ¬ (false = true) by decide)] at H; exact H
            clear H
            have H := H1
            clear H1
            obtain rfl := Option.some.inj H
            have p4 : 0 ≤ (x3_1 : Int) := of_decide_eq_true (by first | (with_reducible assumption) | assumption)
            have q4 : x3_1 < (a0.size : Int) := of_decide_eq_true (by first | (with_reducible assumption) | assumption)
            have hx4 := bt_at a0 x3_1
            replace p4 := eq_true p4
            replace q4 := eq_true q4
            go_wp2_with (first | ((with_reducible refine gate_callee (f := 48) rfl ?_); refine goesL_ (some 13) rfl rfl Tryz.func48 (by kernel_rfl) rfl #[.int .u8 (bt a0 x3_1)] rfl xg ?_; (with_reducible refine (cracknelref01_octet.calls (bt a0 x3_1) false _ A5.out).mono ?_); rintro e w' ⟨rfl, ⟨nd, rfl⟩⟩; refine ⟨_, rfl, ?_⟩))
            go_ret
            exact ⟨by first | rfl | (simp; done) | (simp [*]; done), by repeat (first | exact Drawn0.refl _ | apply Drawn0.step)⟩
        · rw [if_neg c3] at H
          exact absurd H (by simp)
      · rw [if_neg c2] at H
        have c2b0 : decide (x3_1 < (a0.size : Int)) = false := decide_eq_false c2
        clear c2
        obtain rfl := Option.some.inj H
        go_wp2
        go_ret
        exact ⟨by first | rfl | (simp; done) | (simp [*]; done), by repeat (first | exact Drawn0.refl _ | apply Drawn0.step)⟩

end Go.Proofs.YtpcakfldmcfhlaaGreatDoor.Print
