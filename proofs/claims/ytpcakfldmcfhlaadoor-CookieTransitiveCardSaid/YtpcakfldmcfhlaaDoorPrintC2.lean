/- Printed by a program of this claim's session (xprint.py): the machine's side: each Go function as a Lean function, and that a call of it comes to what that tells; the row of a statement. No condition. -/
import Derived.Test.YtpcakfldmcfhlaaDoorPrintC0
import Derived.Test.YtpcakfldmcfhlaaDoorPrintC1
namespace Go.Proofs.YtpcakfldmcfhlaaDoor.PrintC
open Go.RowKit Go.Proofs.YtpcakfldmcfhlaaDoorW.PrintWords Go.Proofs.YtpcakfldmcfhlaaDoorW.PrintLast Go.Proofs.YtpcakfldmcfhlaaDoorW.PrintMore
attribute [local go_sem] max2_int min2_int max_two min_two max_three min_three max_four min_four   -- for this text's walks alone
set_option linter.unusedVariables false
set_option linter.unusedSimpArgs false

/-! ### ascii_Token_1: function 54 -/
def ascii_Token_1.j0 : Nat → Int → Bool → Option (Bool)
  | 0, _, _ => none
  | k + 1, x0, x3 => if x3 = true then (some true) else (if x0 = 33 then (some true) else ((ascii_within.f x0 35 39).bind fun t104 => (if t104 = true then (some true) else (if x0 = 42 then (some true) else (if x0 = 43 then (some true) else (if x0 = 45 then (some true) else (if x0 = 46 then (some true) else ((ascii_within.f x0 94 96).bind fun t105 => (if t105 = true then (some true) else (if x0 = 124 then (some true) else (some (x0 == 126))))))))))))
def ascii_Token_1.f (k : Nat) (a0 : Int) : Option (Bool) := (ascii_within.f a0 97 122).bind fun t101 => (if t101 = true then (ascii_Token_1.j0 k a0 t101) else ((ascii_within.f a0 65 90).bind fun t102 => (if t102 = true then (ascii_Token_1.j0 k a0 t102) else ((ascii_within.f a0 48 57).bind fun t103 => (ascii_Token_1.j0 k a0 t103)))))
theorem ascii_Token_1.mono_l : ∀ k, (∀ y0 y1, LeO (ascii_Token_1.j0 k y0 y1) (ascii_Token_1.j0 (k + 1) y0 y1))
  | 0 => fun _ _ r h => by simp [ascii_Token_1.j0] at h
  | k + 1 => by
    have ih0 := ascii_Token_1.mono_l k
    · intro y0 y1
      unfold ascii_Token_1.j0
      repeat' first
      | (with_reducible exact ih0 _ _)
      | (with_reducible exact LeO.refl _)
      | (with_reducible exact LeO.none _)
      | (with_reducible refine LeO.ite ?_ ?_)
      | (with_reducible refine LeO.bind ?_ (fun _ => ?_))
      | exact ih0 _ _
      | exact LeO.none _
      | refine LeO.ite ?_ ?_
      | refine LeO.bind ?_ (fun _ => ?_)
theorem ascii_Token_1.mono : ∀ a0 k, LeO (ascii_Token_1.f k a0) (ascii_Token_1.f (k + 1) a0) := by
  intro a0 k
  have ih0 := ascii_Token_1.mono_l k
  unfold ascii_Token_1.f
  repeat' first
      | (with_reducible exact ih0 _ _)
      | (with_reducible exact LeO.refl _)
      | (with_reducible exact LeO.none _)
      | (with_reducible refine LeO.ite ?_ ?_)
      | (with_reducible refine LeO.bind ?_ (fun _ => ?_))
      | exact ih0 _ _
      | exact LeO.none _
      | refine LeO.ite ?_ ?_
      | refine LeO.bind ?_ (fun _ => ?_)
set_option maxHeartbeats 8000000 in
set_option maxRecDepth 100000 in
theorem ascii_Token_1.calls (k : Nat) (a0 : Int) (r : Bool) (w : World) (h : ascii_Token_1.f k a0 = some r) :
    Calls Tryd.prog 54 #[.int .u8 a0] w fun e w' => e = .returned (.bool r) ∧ Drawn0 w w' := by
  have H : ((ascii_within.f a0 97 122).bind fun t101 => (if t101 = true then (ascii_Token_1.j0 k a0 t101) else ((ascii_within.f a0 65 90).bind fun t102 => (if t102 = true then (ascii_Token_1.j0 k a0 t102) else ((ascii_within.f a0 48 57).bind fun t103 => (ascii_Token_1.j0 k a0 t103)))))) = some r := h
  clear h
  replace H := Option.bind_eq_some_iff.mp H
  obtain ⟨t101, A20, H⟩ := H
  replace H : (if t101 = true then (ascii_Token_1.j0 k a0 t101) else ((ascii_within.f a0 65 90).bind fun t102 => (if t102 = true then (ascii_Token_1.j0 k a0 t102) else ((ascii_within.f a0 48 57).bind fun t103 => (ascii_Token_1.j0 k a0 t103))))) = some r := H
  have A2 := Aside0.mk A20
  clear A20
  have HC3 := Aside0.mk H
  clear H
  go_enter Tryd.func54, Tryd.ntmps54
  go_upto_if 3 with (first | ((with_reducible refine gate_callee (f := 55) rfl ?_); refine goesL_ (some 5) rfl rfl Tryd.func55 (by kernel_rfl) rfl #[.int .u8 a0, .int .u8 97, .int .u8 122] rfl (by (try simp only [List.map_toArray, List.map_cons, List.map_nil]); first | done | rfl | (simp only [List.length_drop, List.length_take]; rfl) | ((try simp [Act.eval]) <;> (try simp only [xw_u64, xw_u32, xw_u8, wrap64, wrap32]) <;> omega)) ?_; (with_reducible refine (ascii_within.calls a0 97 122 t101 _ A2.out).mono ?_); rintro e w' ⟨rfl, ⟨nd, rfl⟩⟩; refine ⟨_, rfl, ?_⟩))
  (try simp only [Act.put, List.setIfInBounds_toArray, List.set_cons_zero, List.set_cons_succ])
  go_cut [3] (fun v3 wc => ∃ (kq : Nat) (x3_2 : Bool), v3 = .bool x3_2 ∧ Aside0 (ascii_Token_1.j0 kq a0 x3_2 = some r) ∧ Aside0 (kq ≤ k) ∧ Drawn0 w wc)
  case first =>
    have H := HC3.out
    clear HC3
    by_cases c4 : t101 = true
    · subst c4
      have H1 : (ascii_Token_1.j0 k a0 true) = some r := by rw [if_pos rfl] at H; exact H
      clear H
      have H := H1
      clear H1
      have H' := Aside0.mk H
      clear H
      go_wp2
      go_meet
      case rel => exact ⟨_, (true), (by first | rfl | (simp; done) | (simp [*]; done)), H', ⟨by first | omega | exact Nat.le_refl _⟩, by repeat (first | exact Drawn0.refl _ | apply Drawn0.step)⟩
    · replace c4 := Bool.eq_false_iff.mpr c4
      subst c4
      have H1 : ((ascii_within.f a0 65 90).bind fun t102 => (if t102 = true then (ascii_Token_1.j0 k a0 t102) else ((ascii_within.f a0 48 57).bind fun t103 => (ascii_Token_1.j0 k a0 t103)))) = some r := by rw [if_neg (show ¬ (false = true) by decide)] at H; exact H
      clear H
      have H := H1
      clear H1
      replace H := Option.bind_eq_some_iff.mp H
      obtain ⟨t102, A50, H⟩ := H
      replace H : (if t102 = true then (ascii_Token_1.j0 k a0 t102) else ((ascii_within.f a0 48 57).bind fun t103 => (ascii_Token_1.j0 k a0 t103))) = some r := H
      have A5 := Aside0.mk A50
      clear A50
      by_cases c6 : t102 = true
      · subst c6
        have H1 : (ascii_Token_1.j0 k a0 true) = some r := by rw [if_pos rfl] at H; exact H
        clear H
        have H := H1
        clear H1
        have H' := Aside0.mk H
        clear H
        go_wp2_with (first | ((with_reducible refine gate_callee (f := 55) rfl ?_); refine goesL_ (some 7) rfl rfl Tryd.func55 (by kernel_rfl) rfl #[.int .u8 a0, .int .u8 65, .int .u8 90] rfl (by (try simp only [List.map_toArray, List.map_cons, List.map_nil]); first | done | rfl | (simp only [List.length_drop, List.length_take]; rfl) | ((try simp [Act.eval]) <;> (try simp only [xw_u64, xw_u32, xw_u8, wrap64, wrap32]) <;> omega)) ?_; (with_reducible refine (ascii_within.calls a0 65 90 true _ A5.out).mono ?_); rintro e w' ⟨rfl, ⟨nd, rfl⟩⟩; refine ⟨_, rfl, ?_⟩))
        go_meet
        case rel => exact ⟨_, (true), (by first | rfl | (simp; done) | (simp [*]; done)), H', ⟨by first | omega | exact Nat.le_refl _⟩, by repeat (first | exact Drawn0.refl _ | apply Drawn0.step)⟩
      · replace c6 := Bool.eq_false_iff.mpr c6
        subst c6
        have H1 : ((ascii_within.f a0 48 57).bind fun t103 => (ascii_Token_1.j0 k a0 t103)) = some r := by rw [if_neg (show ¬ (false = true) by decide)] at H; exact H
        clear H
        have H := H1
        clear H1
        replace H := Option.bind_eq_some_iff.mp H
        obtain ⟨t103, A70, H⟩ := H
        replace H : (ascii_Token_1.j0 k a0 t103) = some r := H
        have A7 := Aside0.mk A70
        clear A70
        have H' := Aside0.mk H
        clear H
        go_wp2_with (first | ((with_reducible refine gate_callee (f := 55) rfl ?_); refine goesL_ (some 7) rfl rfl Tryd.func55 (by kernel_rfl) rfl #[.int .u8 a0, .int .u8 65, .int .u8 90] rfl (by (try simp only [List.map_toArray, List.map_cons, List.map_nil]); first | done | rfl | (simp only [List.length_drop, List.length_take]; rfl) | ((try simp [Act.eval]) <;> (try simp only [xw_u64, xw_u32, xw_u8, wrap64, wrap32]) <;> omega)) ?_; (with_reducible refine (ascii_within.calls a0 65 90 false _ A5.out).mono ?_); rintro e w' ⟨rfl, ⟨nd, rfl⟩⟩; refine ⟨_, rfl, ?_⟩) | ((with_reducible refine gate_callee (f := 55) rfl ?_); refine goesL_ (some 9) rfl rfl Tryd.func55 (by kernel_rfl) rfl #[.int .u8 a0, .int .u8 48, .int .u8 57] rfl (by (try simp only [List.map_toArray, List.map_cons, List.map_nil]); first | done | rfl | (simp only [List.length_drop, List.length_take]; rfl) | ((try simp [Act.eval]) <;> (try simp only [xw_u64, xw_u32, xw_u8, wrap64, wrap32]) <;> omega)) ?_; (with_reducible refine (ascii_within.calls a0 48 57 t103 _ A7.out).mono ?_); rintro e w' ⟨rfl, ⟨nd, rfl⟩⟩; refine ⟨_, rfl, ?_⟩))
        go_meet
        case rel => exact ⟨_, (t103), (by first | rfl | (simp; done) | (simp [*]; done)), H', ⟨by first | omega | exact Nat.le_refl _⟩, by repeat (first | exact Drawn0.refl _ | apply Drawn0.step)⟩
  case rest =>
    clear HC3
    try clear p2
    try clear p3
    try clear c4
    try clear c5
    try clear c6
    try clear p6
    obtain ⟨kq, x3_2, rfl, HA, HJ2, ⟨mc2, rfl⟩⟩ := hcut
    cases kq with
    | zero => exact absurd HA.out (by simp [ascii_Token_1.j0])
    | succ kj2 =>
      have H := HA.out
      clear HA
      simp only [ascii_Token_1.j0] at H
      by_cases c8 : x3_2 = true
      · subst c8
        have H1 : (some true) = some r := by rw [if_pos rfl] at H; exact H
        clear H
        have H := H1
        clear H1
        obtain rfl := Option.some.inj H
        go_wp2
        go_ret
        exact ⟨by first | rfl | (simp; done) | (simp [*]; done), by repeat (first | exact Drawn0.refl _ | apply Drawn0.step)⟩
      · replace c8 := Bool.eq_false_iff.mpr c8
        subst c8
        have H1 : (if a0 = 33 then (some true) else ((ascii_within.f a0 35 39).bind fun t104 => (if t104 = true then (some true) else (if a0 = 42 then (some true) else (if a0 = 43 then (some true) else (if a0 = 45 then (some true) else (if a0 = 46 then (some true) else ((ascii_within.f a0 94 96).bind fun t105 => (if t105 = true then (some true) else (if a0 = 124 then (some true) else (some (a0 == 126)))))))))))) = some r := by rw [if_neg (show ¬ (false = true) by decide)] at H; exact H
        clear H
        have H := H1
        clear H1
        by_cases c9 : a0 = 33
        · rw [if_pos c9] at H
          have c9b0 : (a0 == 33) = true := beq_iff_eq.mpr c9
          have c9b1 : (a0 != 33) = false := bne_eq_false_iff_eq.mpr c9
          clear c9
          obtain rfl := Option.some.inj H
          go_wp2
          go_ret
          exact ⟨by first | rfl | (simp; done) | (simp [*]; done), by repeat (first | exact Drawn0.refl _ | apply Drawn0.step)⟩
        · rw [if_neg c9] at H
          have c9b0 : (a0 == 33) = false := beq_eq_false_iff_ne.mpr c9
          have c9b1 : (a0 != 33) = true := bne_iff_ne.mpr c9
          replace H := Option.bind_eq_some_iff.mp H
          obtain ⟨t104, A100, H⟩ := H
          replace H : (if t104 = true then (some true) else (if a0 = 42 then (some true) else (if a0 = 43 then (some true) else (if a0 = 45 then (some true) else (if a0 = 46 then (some true) else ((ascii_within.f a0 94 96).bind fun t105 => (if t105 = true then (some true) else (if a0 = 124 then (some true) else (some (a0 == 126)))))))))) = some r := H
          have A10 := Aside0.mk A100
          clear A100
          by_cases c11 : t104 = true
          · subst c11
            have H1 : (some true) = some r := by rw [if_pos rfl] at H; exact H
            clear H
            have H := H1
            clear H1
            obtain rfl := Option.some.inj H
            go_wp2_with (first | (go_at_call 55; (with_reducible refine (ascii_within.calls a0 35 39 true _ A10.out).mono ?_); rintro e w' ⟨rfl, ⟨nd, rfl⟩⟩))
            go_ret
            exact ⟨by first | rfl | (simp; done) | (simp [*]; done), by repeat (first | exact Drawn0.refl _ | apply Drawn0.step)⟩
          · replace c11 := Bool.eq_false_iff.mpr c11
            subst c11
            have H1 : (if a0 = 42 then (some true) else (if a0 = 43 then (some true) else (if a0 = 45 then (some true) else (if a0 = 46 then (some true) else ((ascii_within.f a0 94 96).bind fun t105 => (if t105 = true then (some true) else (if a0 = 124 then (some true) else (some (a0 == 126))))))))) = some r := by rw [if_neg (show ¬ (false = true) by decide)] at H; exact H
            clear H
            have H := H1
            clear H1
            by_cases c12 : a0 = 42
            · rw [if_pos c12] at H
              have c12b0 : (a0 == 42) = true := beq_iff_eq.mpr c12
              have c12b1 : (a0 != 42) = false := bne_eq_false_iff_eq.mpr c12
              clear c12
              obtain rfl := Option.some.inj H
              go_wp2_with (first | (go_at_call 55; (with_reducible refine (ascii_within.calls a0 35 39 false _ A10.out).mono ?_); rintro e w' ⟨rfl, ⟨nd, rfl⟩⟩))
              go_ret
              exact ⟨by first | rfl | (simp; done) | (simp [*]; done), by repeat (first | exact Drawn0.refl _ | apply Drawn0.step)⟩
            · rw [if_neg c12] at H
              have c12b0 : (a0 == 42) = false := beq_eq_false_iff_ne.mpr c12
              have c12b1 : (a0 != 42) = true := bne_iff_ne.mpr c12
              by_cases c13 : a0 = 43
              · rw [if_pos c13] at H
                have c13b0 : (a0 == 43) = true := beq_iff_eq.mpr c13
                have c13b1 : (a0 != 43) = false := bne_eq_false_iff_eq.mpr c13
                clear c13
                obtain rfl := Option.some.inj H
                go_wp2_with (first | (go_at_call 55; (with_reducible refine (ascii_within.calls a0 35 39 false _ A10.out).mono ?_); rintro e w' ⟨rfl, ⟨nd, rfl⟩⟩))
                go_ret
                exact ⟨by first | rfl | (simp; done) | (simp [*]; done), by repeat (first | exact Drawn0.refl _ | apply Drawn0.step)⟩
              · rw [if_neg c13] at H
                have c13b0 : (a0 == 43) = false := beq_eq_false_iff_ne.mpr c13
                have c13b1 : (a0 != 43) = true := bne_iff_ne.mpr c13
                by_cases c14 : a0 = 45
                · rw [if_pos c14] at H
                  have c14b0 : (a0 == 45) = true := beq_iff_eq.mpr c14
                  have c14b1 : (a0 != 45) = false := bne_eq_false_iff_eq.mpr c14
                  clear c14
                  obtain rfl := Option.some.inj H
                  go_wp2_with (first | (go_at_call 55; (with_reducible refine (ascii_within.calls a0 35 39 false _ A10.out).mono ?_); rintro e w' ⟨rfl, ⟨nd, rfl⟩⟩))
                  go_ret
                  exact ⟨by first | rfl | (simp; done) | (simp [*]; done), by repeat (first | exact Drawn0.refl _ | apply Drawn0.step)⟩
                · rw [if_neg c14] at H
                  have c14b0 : (a0 == 45) = false := beq_eq_false_iff_ne.mpr c14
                  have c14b1 : (a0 != 45) = true := bne_iff_ne.mpr c14
                  by_cases c15 : a0 = 46
                  · rw [if_pos c15] at H
                    have c15b0 : (a0 == 46) = true := beq_iff_eq.mpr c15
                    have c15b1 : (a0 != 46) = false := bne_eq_false_iff_eq.mpr c15
                    clear c15
                    obtain rfl := Option.some.inj H
                    go_wp2_with (first | (go_at_call 55; (with_reducible refine (ascii_within.calls a0 35 39 false _ A10.out).mono ?_); rintro e w' ⟨rfl, ⟨nd, rfl⟩⟩))
                    go_ret
                    exact ⟨by first | rfl | (simp; done) | (simp [*]; done), by repeat (first | exact Drawn0.refl _ | apply Drawn0.step)⟩
                  · rw [if_neg c15] at H
                    have c15b0 : (a0 == 46) = false := beq_eq_false_iff_ne.mpr c15
                    have c15b1 : (a0 != 46) = true := bne_iff_ne.mpr c15
                    replace H := Option.bind_eq_some_iff.mp H
                    obtain ⟨t105, A160, H⟩ := H
                    replace H : (if t105 = true then (some true) else (if a0 = 124 then (some true) else (some (a0 == 126)))) = some r := H
                    have A16 := Aside0.mk A160
                    clear A160
                    by_cases c17 : t105 = true
                    · subst c17
                      have H1 : (some true) = some r := by rw [if_pos rfl] at H; exact H
                      clear H
                      have H := H1
                      clear H1
                      obtain rfl := Option.some.inj H
                      go_wp2_with (first | (go_at_call 55; (with_reducible refine (ascii_within.calls a0 35 39 false _ A10.out).mono ?_); rintro e w' ⟨rfl, ⟨nd, rfl⟩⟩) | (go_at_call 55; (with_reducible refine (ascii_within.calls a0 94 96 true _ A16.out).mono ?_); rintro e w' ⟨rfl, ⟨nd, rfl⟩⟩))
                      go_ret
                      exact ⟨by first | rfl | (simp; done) | (simp [*]; done), by repeat (first | exact Drawn0.refl _ | apply Drawn0.step)⟩
                    · replace c17 := Bool.eq_false_iff.mpr c17
                      subst c17
                      have H1 : (if a0 = 124 then (some true) else (some (a0 == 126))) = some r := by rw [if_neg (show ¬ (false = true) by decide)] at H; exact H
                      clear H
                      have H := H1
                      clear H1
                      by_cases c18 : a0 = 124
                      · rw [if_pos c18] at H
                        have c18b0 : (a0 == 124) = true := beq_iff_eq.mpr c18
                        have c18b1 : (a0 != 124) = false := bne_eq_false_iff_eq.mpr c18
                        clear c18
                        obtain rfl := Option.some.inj H
                        go_wp2_with (first | (go_at_call 55; (with_reducible refine (ascii_within.calls a0 35 39 false _ A10.out).mono ?_); rintro e w' ⟨rfl, ⟨nd, rfl⟩⟩) | (go_at_call 55; (with_reducible refine (ascii_within.calls a0 94 96 false _ A16.out).mono ?_); rintro e w' ⟨rfl, ⟨nd, rfl⟩⟩))
                        go_ret
                        exact ⟨by first | rfl | (simp; done) | (simp [*]; done), by repeat (first | exact Drawn0.refl _ | apply Drawn0.step)⟩
                      · rw [if_neg c18] at H
                        have c18b0 : (a0 == 124) = false := beq_eq_false_iff_ne.mpr c18
                        have c18b1 : (a0 != 124) = true := bne_iff_ne.mpr c18
                        obtain rfl := Option.some.inj H
                        go_wp2_with (first | (go_at_call 55; (with_reducible refine (ascii_within.calls a0 35 39 false _ A10.out).mono ?_); rintro e w' ⟨rfl, ⟨nd, rfl⟩⟩) | (go_at_call 55; (with_reducible refine (ascii_within.calls a0 94 96 false _ A16.out).mono ?_); rintro e w' ⟨rfl, ⟨nd, rfl⟩⟩))
                        go_ret
                        exact ⟨by first | rfl | (simp; done) | (simp [*]; done), by repeat (first | exact Drawn0.refl _ | apply Drawn0.step)⟩

end Go.Proofs.YtpcakfldmcfhlaaDoor.PrintC
