/- Printed by a program of this claim's session (xprint.py): the machine's side: each Go function as a Lean function, and that a call of it comes to what that tells; the row of a statement. No condition. -/
import Derived.Test.YtlnpphagcmhojaaPrint0
import Derived.Test.YtlnpphagcmhojaaPrint7
namespace Go.Proofs.Ytlnpphagcmhojaa.Print
open Go.RowKit Go.Proofs.YtlnpphagcmhojaaW.PrintWords Go.Proofs.YtlnpphagcmhojaaW.PrintLast Go.Proofs.YtlnpphagcmhojaaW.PrintMore
attribute [local go_sem] max2_int min2_int max_two min_two max_three min_three max_four min_four   -- for this text's walks alone
set_option linter.unusedVariables false
set_option linter.unusedSimpArgs false

/-! ### cracknelref03_TakeText: function 22 -/
def cracknelref03_TakeText.j0 : Nat → ByteArray → Int → Option (ByteArray × Int × Int)
  | 0, _, _ => none
  | k + 1, x0, x1 => (cracknelref03_Take.f k x0).bind fun bt178 => (if bt178.2.2 = 0 then (if bt178.1 > (IntKind.u64.wrap (x1)) then (some ((⟨#[]⟩ : ByteArray), 0, 31)) else (if bt178.1 > (IntKind.u64.wrap (wrap64 ((x0.size : Int) - bt178.2.1))) then (some ((⟨#[]⟩ : ByteArray), 0, 30)) else (if 0 ≤ bt178.2.1 then (if bt178.2.1 ≤ (wrap64 (bt178.2.1 + (wrap64 (bt178.1)))) then (if (wrap64 (bt178.2.1 + (wrap64 (bt178.1)))) ≤ (x0.size : Int) then (some (x0.extract (bt178.2.1 : Int).toNat ((wrap64 (bt178.2.1 + (wrap64 (bt178.1)))) : Int).toNat, wrap64 (bt178.2.1 + (wrap64 (bt178.1))), 0)) else (none)) else (none)) else (none)))) else (some ((⟨#[]⟩ : ByteArray), 0, bt178.2.2)))
def cracknelref03_TakeText.f (k : Nat) (a0 : ByteArray) (a1 : Int) : Option (ByteArray × Int × Int) := if a1 < 0 then (cracknelref03_TakeText.j0 k a0 0) else (cracknelref03_TakeText.j0 k a0 a1)
theorem cracknelref03_TakeText.mono_l : ∀ k, (∀ y0 y1, LeO (cracknelref03_TakeText.j0 k y0 y1) (cracknelref03_TakeText.j0 (k + 1) y0 y1))
  | 0 => fun _ _ r h => by simp [cracknelref03_TakeText.j0] at h
  | k + 1 => by
    have ih0 := cracknelref03_TakeText.mono_l k
    · intro y0 y1
      unfold cracknelref03_TakeText.j0
      repeat' first
      | (with_reducible exact ih0 _ _)
      | (with_reducible exact cracknelref03_Take.mono _ _)
      | (with_reducible exact LeO.refl _)
      | (with_reducible exact LeO.none _)
      | (with_reducible refine LeO.ite ?_ ?_)
      | (with_reducible refine LeO.bind ?_ (fun _ => ?_))
      | exact ih0 _ _
      | exact cracknelref03_Take.mono _ _
      | exact LeO.none _
      | refine LeO.ite ?_ ?_
      | refine LeO.bind ?_ (fun _ => ?_)
theorem cracknelref03_TakeText.mono : ∀ a0 a1 k, LeO (cracknelref03_TakeText.f k a0 a1) (cracknelref03_TakeText.f (k + 1) a0 a1) := by
  intro a0 a1 k
  have ih0 := cracknelref03_TakeText.mono_l k
  unfold cracknelref03_TakeText.f
  repeat' first
      | (with_reducible exact ih0 _ _)
      | (with_reducible exact cracknelref03_Take.mono _ _)
      | (with_reducible exact LeO.refl _)
      | (with_reducible exact LeO.none _)
      | (with_reducible refine LeO.ite ?_ ?_)
      | (with_reducible refine LeO.bind ?_ (fun _ => ?_))
      | exact ih0 _ _
      | exact cracknelref03_Take.mono _ _
      | exact LeO.none _
      | refine LeO.ite ?_ ?_
      | refine LeO.bind ?_ (fun _ => ?_)
set_option maxHeartbeats 8000000 in
set_option maxRecDepth 100000 in
theorem cracknelref03_TakeText.calls (k : Nat) (a0 : ByteArray) (a1 : Int) (r1 : ByteArray) (r2 : Int) (r3 : Int) (w : World) (h : cracknelref03_TakeText.f k a0 a1 = some (r1, r2, r3)) :
    Calls Try.prog 22 #[.string a0, .int .i64 a1] w fun e w' => e = .returned (.tuple #[.string r1, .int .i64 r2, .int .i64 r3]) ∧ Drawn0 w w' := by
  have H : (if a1 < 0 then (cracknelref03_TakeText.j0 k a0 0) else (cracknelref03_TakeText.j0 k a0 a1)) = some (r1, r2, r3) := h
  clear h
  have HC3 := Aside0.mk H
  clear H
  go_enter Try.func22, Try.ntmps22
  go_upto_if 11 with (fail)
  go_cut [1] (fun v1 wc => ∃ (kq : Nat) (x1_2 : Int), v1 = .int .i64 x1_2 ∧ Aside0 (cracknelref03_TakeText.j0 kq a0 x1_2 = some (r1, r2, r3)) ∧ Aside0 (kq ≤ k) ∧ Drawn0 w wc)
  case first =>
    have H := HC3.out
    clear HC3
    by_cases c4 : a1 < 0
    · rw [if_pos c4] at H
      have c4b0 : decide (a1 < 0) = true := decide_eq_true c4
      clear c4
      (first | rw [c4b0] | (simp only [i64_w, i32_w]; rw [c4b0]) | skip)
      have H' := Aside0.mk H
      clear H
      go_wp2
      go_meet
      case rel => exact ⟨_, (0), (by first | rfl | (simp; done) | (simp [*]; done)), H', ⟨by first | omega | exact Nat.le_refl _⟩, by repeat (first | exact Drawn0.refl _ | apply Drawn0.step)⟩
    · rw [if_neg c4] at H
      have c4b0 : decide (a1 < 0) = false := decide_eq_false c4
      clear c4
      (first | rw [c4b0] | (simp only [i64_w, i32_w]; rw [c4b0]) | skip)
      have H' := Aside0.mk H
      clear H
      go_wp2
      go_meet
      case rel => exact ⟨_, (a1), (by first | rfl | (simp; done) | (simp [*]; done)), H', ⟨by first | omega | exact Nat.le_refl _⟩, by repeat (first | exact Drawn0.refl _ | apply Drawn0.step)⟩
  case rest =>
    clear HC3
    try clear c2
    try clear p2
    try clear c4
    try clear c4b0
    obtain ⟨kq, x1_2, rfl, HA, HJ2, ⟨mc2, rfl⟩⟩ := hcut
    cases kq with
    | zero => exact absurd HA.out (by simp [cracknelref03_TakeText.j0])
    | succ kj2 =>
      have H := HA.out
      clear HA
      simp only [cracknelref03_TakeText.j0] at H
      replace H := Option.bind_eq_some_iff.mp H
      obtain ⟨⟨t178, t179, t180⟩, A50, H⟩ := H
      replace H : (if t180 = 0 then (if t178 > (IntKind.u64.wrap (x1_2)) then (some ((⟨#[]⟩ : ByteArray), 0, 31)) else (if t178 > (IntKind.u64.wrap (wrap64 ((a0.size : Int) - t179))) then (some ((⟨#[]⟩ : ByteArray), 0, 30)) else (if 0 ≤ t179 then (if t179 ≤ (wrap64 (t179 + (wrap64 (t178)))) then (if (wrap64 (t179 + (wrap64 (t178)))) ≤ (a0.size : Int) then (some (a0.extract (t179 : Int).toNat ((wrap64 (t179 + (wrap64 (t178)))) : Int).toNat, wrap64 (t179 + (wrap64 (t178))), 0)) else (none)) else (none)) else (none)))) else (some ((⟨#[]⟩ : ByteArray), 0, t180))) = some (r1, r2, r3) := H
      have A5 := Aside0.mk A50
      clear A50
      by_cases c6 : t180 = 0
      · rw [if_pos c6] at H
        have c6b0 : (t180 == 0) = true := beq_iff_eq.mpr c6
        have c6b1 : (t180 != 0) = false := bne_eq_false_iff_eq.mpr c6
        clear c6
        by_cases c7 : t178 > (IntKind.u64.wrap (x1_2))
        · rw [if_pos c7] at H
          have c7b0 : decide ((IntKind.u64.wrap (x1_2)) < t178) = true := decide_eq_true c7
          clear c7
          simp only [Option.some.injEq, Prod.mk.injEq] at H
          obtain ⟨rfl, rfl, rfl⟩ := H
          go_wp2_with (first | ((with_reducible refine gate_callee (f := 14) rfl ?_); refine goesL_ (some 14) rfl rfl Try.func14 (by kernel_rfl) rfl #[.string a0] rfl (by (try simp only [List.map_toArray, List.map_cons, List.map_nil]); first | done | rfl | (simp only [List.length_drop, List.length_take]; rfl) | ((try simp [Act.eval]) <;> (try simp only [xw_u64, xw_u32, xw_u8, wrap64, wrap32]) <;> omega)) ?_; (with_reducible refine (cracknelref03_Take.calls kj2 a0 t178 t179 t180 _ A5.out).mono ?_); rintro e w' ⟨rfl, ⟨nd, rfl⟩⟩; refine ⟨_, rfl, ?_⟩))
          go_ret3
          exact ⟨by first | rfl | (simp; done) | (simp [*]; done), by repeat (first | exact Drawn0.refl _ | apply Drawn0.step)⟩
        · rw [if_neg c7] at H
          have c7b0 : decide ((IntKind.u64.wrap (x1_2)) < t178) = false := decide_eq_false c7
          clear c7
          by_cases c8 : t178 > (IntKind.u64.wrap (wrap64 ((a0.size : Int) - t179)))
          · rw [if_pos c8] at H
            have c8b0 : decide ((IntKind.u64.wrap (wrap64 ((a0.size : Int) - t179))) < t178) = true := decide_eq_true c8
            clear c8
            simp only [Option.some.injEq, Prod.mk.injEq] at H
            obtain ⟨rfl, rfl, rfl⟩ := H
            go_wp2_with (first | ((with_reducible refine gate_callee (f := 14) rfl ?_); refine goesL_ (some 14) rfl rfl Try.func14 (by kernel_rfl) rfl #[.string a0] rfl (by (try simp only [List.map_toArray, List.map_cons, List.map_nil]); first | done | rfl | (simp only [List.length_drop, List.length_take]; rfl) | ((try simp [Act.eval]) <;> (try simp only [xw_u64, xw_u32, xw_u8, wrap64, wrap32]) <;> omega)) ?_; (with_reducible refine (cracknelref03_Take.calls kj2 a0 t178 t179 t180 _ A5.out).mono ?_); rintro e w' ⟨rfl, ⟨nd, rfl⟩⟩; refine ⟨_, rfl, ?_⟩))
            go_ret3
            exact ⟨by first | rfl | (simp; done) | (simp [*]; done), by repeat (first | exact Drawn0.refl _ | apply Drawn0.step)⟩
          · rw [if_neg c8] at H
            have c8b0 : decide ((IntKind.u64.wrap (wrap64 ((a0.size : Int) - t179))) < t178) = false := decide_eq_false c8
            clear c8
            by_cases c9 : 0 ≤ t179
            · rw [if_pos c9] at H
              have c9b0 := eq_true c9
              have c9b1 : decide (0 ≤ t179) = true := decide_eq_true c9
              clear c9
              by_cases c10 : t179 ≤ (wrap64 (t179 + (wrap64 (t178))))
              · rw [if_pos c10] at H
                have c10b0 := eq_true c10
                have c10b1 : decide (t179 ≤ (wrap64 (t179 + (wrap64 (t178))))) = true := decide_eq_true c10
                by_cases c11 : (wrap64 (t179 + (wrap64 (t178)))) ≤ (a0.size : Int)
                · rw [if_pos c11] at H
                  have c11b0 := eq_true c11
                  have c11b1 : decide ((wrap64 (t179 + (wrap64 (t178)))) ≤ (a0.size : Int)) = true := decide_eq_true c11
                  simp only [Option.some.injEq, Prod.mk.injEq] at H
                  obtain ⟨rfl, rfl, rfl⟩ := H
                  go_wp2_with (first | ((with_reducible refine gate_callee (f := 14) rfl ?_); refine goesL_ (some 14) rfl rfl Try.func14 (by kernel_rfl) rfl #[.string a0] rfl (by (try simp only [List.map_toArray, List.map_cons, List.map_nil]); first | done | rfl | (simp only [List.length_drop, List.length_take]; rfl) | ((try simp [Act.eval]) <;> (try simp only [xw_u64, xw_u32, xw_u8, wrap64, wrap32]) <;> omega)) ?_; (with_reducible refine (cracknelref03_Take.calls kj2 a0 t178 t179 t180 _ A5.out).mono ?_); rintro e w' ⟨rfl, ⟨nd, rfl⟩⟩; refine ⟨_, rfl, ?_⟩))
                  go_ret3
                  exact ⟨by first | rfl | (simp; done) | (simp [*]; done), by repeat (first | exact Drawn0.refl _ | apply Drawn0.step)⟩
                · rw [if_neg c11] at H
                  exact absurd H (by simp)
              · rw [if_neg c10] at H
                exact absurd H (by simp)
            · rw [if_neg c9] at H
              exact absurd H (by simp)
      · rw [if_neg c6] at H
        have c6b0 : (t180 == 0) = false := beq_eq_false_iff_ne.mpr c6
        have c6b1 : (t180 != 0) = true := bne_iff_ne.mpr c6
        simp only [Option.some.injEq, Prod.mk.injEq] at H
        obtain ⟨rfl, rfl, rfl⟩ := H
        go_wp2_with (first | ((with_reducible refine gate_callee (f := 14) rfl ?_); refine goesL_ (some 14) rfl rfl Try.func14 (by kernel_rfl) rfl #[.string a0] rfl (by (try simp only [List.map_toArray, List.map_cons, List.map_nil]); first | done | rfl | (simp only [List.length_drop, List.length_take]; rfl) | ((try simp [Act.eval]) <;> (try simp only [xw_u64, xw_u32, xw_u8, wrap64, wrap32]) <;> omega)) ?_; (with_reducible refine (cracknelref03_Take.calls kj2 a0 t178 t179 t180 _ A5.out).mono ?_); rintro e w' ⟨rfl, ⟨nd, rfl⟩⟩; refine ⟨_, rfl, ?_⟩))
        go_ret3
        exact ⟨by first | rfl | (simp; done) | (simp [*]; done), by repeat (first | exact Drawn0.refl _ | apply Drawn0.step)⟩

end Go.Proofs.Ytlnpphagcmhojaa.Print
