/- Printed by a program of this claim's session (xprint.py): the machine's side: each Go function as a Lean function, and that a call of it comes to what that tells; the row of a statement. No condition. -/
import Derived.Test.YtmpccjkdfdgedaaPrint0
import Derived.Test.YtmpccjkdfdgedaaGsame
import Derived.Test.YtmpccjkdfdgedaaGalive14
import Derived.Test.YtmpccjkdfdgedaaPrint1
import Derived.Test.YtmpccjkdfdgedaaPrint2
import Derived.Test.YtmpccjkdfdgedaaPrint6
import Derived.Test.YtmpccjkdfdgedaaPrint7
namespace Go.Proofs.Ytmpccjkdfdgedaa.Print
open Go.RowKit Go.Proofs.YtmpccjkdfdgedaaW.PrintWords Go.Proofs.YtmpccjkdfdgedaaW.PrintLast Go.Proofs.YtmpccjkdfdgedaaW.PrintMore
attribute [local go_sem] max2_int min2_int max_two min_two max_three min_three max_four min_four   -- for this text's walks alone
set_option linter.unusedVariables false
set_option linter.unusedSimpArgs false

/-! ### cracknellaw14_TableThree: function 7 -/
def cracknellaw14_TableThree.j0 : Nat → List (S43) → List (S43) → List (S43) → Bool → Option (Bool)
  | 0, _, _, _, _ => none
  | k + 1, x0, x1, x2, x24 => if x24 = true then ((law14_alive.f).bind fun t461 => (some t461)) else ((cracknellaw14_made.f k x0).bind fun t462 => ((cracknellaw14_made.f k x1).bind fun t465 => ((cracknellaw14_made.f k x2).bind fun t468 => ((cracknellaw14_model.f k x0).bind fun t474 => ((cracknellaw14_model.f k x1).bind fun t477 => ((cracknelref14_Merge.f k t474 t477).bind fun t480 => ((cracknellaw14_model.f k x2).bind fun t483 => ((cracknelref14_Merge.f k t480 t483).bind fun t486 => ((law14_alive.f).bind fun t489 => (if t489 = true then ((cracknellaw14_Int_int_21_22.f k t462 t465).bind fun t490 => ((cracknellaw14_Int_int_21_22.f k t490 t468).bind fun t493 => ((law14_same.f t493 t486).bind fun t496 => (if t496 = true then ((cracknellaw14_Int_int_21_22.f k t465 t468).bind fun t497 => ((cracknellaw14_Int_int_21_22.f k t462 t497).bind fun t500 => ((law14_same.f t500 t486).bind fun t503 => (some t503)))) else (some false))))) else (some false)))))))))))
def cracknellaw14_TableThree.f (k : Nat) (l0 : List (S43)) (l1 : List (S43)) (l2 : List (S43)) : Option (Bool) := if (l0.length : Int) > 30 then (cracknellaw14_TableThree.j0 k l0 l1 l2 true) else (if (l1.length : Int) > 30 then (cracknellaw14_TableThree.j0 k l0 l1 l2 true) else (cracknellaw14_TableThree.j0 k l0 l1 l2 (decide ((l2.length : Int) > 30))))
theorem cracknellaw14_TableThree.mono_l : ∀ k, (∀ y0 y1 y2 y3, LeO (cracknellaw14_TableThree.j0 k y0 y1 y2 y3) (cracknellaw14_TableThree.j0 (k + 1) y0 y1 y2 y3))
  | 0 => fun _ _ _ _ r h => by simp [cracknellaw14_TableThree.j0] at h
  | k + 1 => by
    have ih0 := cracknellaw14_TableThree.mono_l k
    · intro y0 y1 y2 y3
      unfold cracknellaw14_TableThree.j0
      repeat' first
      | (with_reducible exact ih0 _ _ _ _)
      | (with_reducible exact cracknellaw14_Int_int_21_22.mono _ _ _)
      | (with_reducible exact cracknellaw14_made.mono _ _)
      | (with_reducible exact cracknellaw14_model.mono _ _)
      | (with_reducible exact cracknelref14_Merge.mono _ _ _)
      | (with_reducible exact LeO.refl _)
      | (with_reducible exact LeO.none _)
      | (with_reducible refine LeO.ite ?_ ?_)
      | (with_reducible refine LeO.bind ?_ (fun _ => ?_))
      | exact ih0 _ _ _ _
      | exact cracknellaw14_Int_int_21_22.mono _ _ _
      | exact cracknellaw14_made.mono _ _
      | exact cracknellaw14_model.mono _ _
      | exact cracknelref14_Merge.mono _ _ _
      | exact LeO.none _
      | refine LeO.ite ?_ ?_
      | refine LeO.bind ?_ (fun _ => ?_)
theorem cracknellaw14_TableThree.mono : ∀ a0 a1 a2 k, LeO (cracknellaw14_TableThree.f k a0 a1 a2) (cracknellaw14_TableThree.f (k + 1) a0 a1 a2) := by
  intro a0 a1 a2 k
  have ih0 := cracknellaw14_TableThree.mono_l k
  unfold cracknellaw14_TableThree.f
  repeat' first
      | (with_reducible exact ih0 _ _ _ _)
      | (with_reducible exact cracknellaw14_Int_int_21_22.mono _ _ _)
      | (with_reducible exact cracknellaw14_made.mono _ _)
      | (with_reducible exact cracknellaw14_model.mono _ _)
      | (with_reducible exact cracknelref14_Merge.mono _ _ _)
      | (with_reducible exact LeO.refl _)
      | (with_reducible exact LeO.none _)
      | (with_reducible refine LeO.ite ?_ ?_)
      | (with_reducible refine LeO.bind ?_ (fun _ => ?_))
      | exact ih0 _ _ _ _
      | exact cracknellaw14_Int_int_21_22.mono _ _ _
      | exact cracknellaw14_made.mono _ _
      | exact cracknellaw14_model.mono _ _
      | exact cracknelref14_Merge.mono _ _ _
      | exact LeO.none _
      | refine LeO.ite ?_ ?_
      | refine LeO.bind ?_ (fun _ => ?_)
def cracknellaw14_TableThree.T6 : Bool × List (List Nat × List Nat) := (true, [([], []), ([0, 0], [0]), ([1], [1]), ([1], [1]), ([1], [1]), ([2, 3, 4, 1, 1], [1, 2, 3, 4]), ([1], [1]), ([1], [1]), ([5, 6, 7, 5, 1], [1, 5, 6, 7]), ([1], [1]), ([8, 9, 8, 1], [1, 8, 9]), ([1, 10], [1, 10]), ([11, 10], [11]), ([12], [12]), ([12], [12]), ([12], [12]), ([12], [12]), ([14, 15, 16, 12, 12], [12, 14, 15, 16]), ([12], [12]), ([13, 17, 18, 17, 12], [12, 13, 17, 18]), ([12], [12]), ([19, 20, 19, 12], [12, 19, 20]), ([12, 21], [12, 21]), ([22, 21, 0, 1, 2, 3, 4, 5, 6, 7, 8, 9, 10, 11, 12, 13, 14, 15, 16, 17, 18, 19, 20, 21, 22], [22])])
def cracknellaw14_TableThree.B6 : List Nat := [0, 1, 3, 3, 3, 31, 3, 3, 255, 3, 1023, 2047, 4095, 8191, 8191, 8191, 8191, 122879, 8191, 524287, 8191, 2097151, 4194303, 8388607]
theorem cracknellaw14_TableThree.tab6 : rtab .any (opsOf Try.f7 6) = cracknellaw14_TableThree.T6 := by kernel_rfl
theorem cracknellaw14_TableThree.bits6 : waitsOk cracknellaw14_TableThree.T6.2 cracknellaw14_TableThree.B6 = true := by kernel_rfl
set_option maxHeartbeats 8000000 in
set_option maxRecDepth 100000 in
theorem cracknellaw14_TableThree.calls (k : Nat) (A0 : Option Addr) (c0 : Nat) (l0 : List (S43)) (A1 : Option Addr) (c1 : Nat) (l1 : List (S43)) (A2 : Option Addr) (c2 : Nat) (l2 : List (S43)) (r : Bool) (w : World) (hr0 : Kd.C k43 w A0 l0.length l0) (hc0 : l0.length ≤ c0) (hr1 : Kd.C k43 w A1 l1.length l1) (hc1 : l1.length ≤ c1) (hr2 : Kd.C k43 w A2 l2.length l2) (hc2 : l2.length ≤ c2) (hT_ : Aside0 (r = true)) (h : cracknellaw14_TableThree.f k l0 l1 l2 = some r) :
    Calls Try.prog 7 #[.slice A0 l0.length c0, .slice A1 l1.length c1, .slice A2 l2.length c2] w fun e w' => e = .returned (.bool r) ∧ Below w.heap.size w w' := by
  have hu27 := Try.underlying27
  have HR0 := Aside0.mk hr0
  have HC0 := Aside0.mk hc0
  clear hr0 hc0
  have HR1 := Aside0.mk hr1
  have HC1 := Aside0.mk hc1
  clear hr1 hc1
  have HR2 := Aside0.mk hr2
  have HC2 := Aside0.mk hc2
  clear hr2 hc2
  have HB := Aside0.mk (Below.refl w.heap.size w)
  have H : (if (l0.length : Int) > 30 then (cracknellaw14_TableThree.j0 k l0 l1 l2 true) else (if (l1.length : Int) > 30 then (cracknellaw14_TableThree.j0 k l0 l1 l2 true) else (cracknellaw14_TableThree.j0 k l0 l1 l2 (decide ((l2.length : Int) > 30))))) = some r := h
  clear h
  have HC4 := Aside0.mk H
  clear H
  go_enter Try.func7, Try.ntmps7
  go_upto_region 1 with (fail)
  go_cut [24] (fun v24 wc => ∃ (kq : Nat) (x24_3 : Bool), v24 = .bool x24_3 ∧ Aside0 (cracknellaw14_TableThree.j0 kq l0 l1 l2 x24_3 = some r) ∧ Aside0 (kq ≤ k) ∧ Aside0 (Below w.heap.size w wc))
  case first =>
    have H := HC4.out
    clear HC4
    by_cases c5 : (l0.length : Int) > 30
    · rw [if_pos c5] at H
      have c5b0 : decide (30 < (l0.length : Int)) = true := decide_eq_true c5
      have c5b1 : decide (30 < l0.length) = true := decide_eq_true (by omega)
      clear c5
      (first | rw [c5b0] | (simp only [i64_w, i32_w]; rw [c5b0]) | skip)
      have H' := Aside0.mk H
      clear H
      go_wp2
      go_meet
      case rel => exact ⟨_, (true), (by first | rfl | (simp; done) | (simp [*]; done)), H', ⟨by first | omega | exact Nat.le_refl _⟩, ⟨xb⟩⟩
    · rw [if_neg c5] at H
      have c5b0 : decide (30 < (l0.length : Int)) = false := decide_eq_false c5
      have c5b1 : decide (30 < l0.length) = false := decide_eq_false (by omega)
      clear c5
      (first | rw [c5b0] | (simp only [i64_w, i32_w]; rw [c5b0]) | skip)
      by_cases c6 : (l1.length : Int) > 30
      · rw [if_pos c6] at H
        have c6b0 : decide (30 < (l1.length : Int)) = true := decide_eq_true c6
        have c6b1 : decide (30 < l1.length) = true := decide_eq_true (by omega)
        clear c6
        have H' := Aside0.mk H
        clear H
        go_wp2
        go_meet
        case rel => exact ⟨_, (true), (by first | rfl | (simp; done) | (simp [*]; done)), H', ⟨by first | omega | exact Nat.le_refl _⟩, ⟨xb⟩⟩
      · rw [if_neg c6] at H
        have c6b0 : decide (30 < (l1.length : Int)) = false := decide_eq_false c6
        have c6b1 : decide (30 < l1.length) = false := decide_eq_false (by omega)
        clear c6
        have H' := Aside0.mk H
        clear H
        go_wp2
        go_meet
        case rel => exact ⟨_, (decide ((l2.length : Int) > 30)), (by first | rfl | (simp; done) | (simp [*]; done)), H', ⟨by first | omega | exact Nat.le_refl _⟩, ⟨xb⟩⟩
  case rest =>
    clear HC4
    try clear c1
    try clear c2
    try clear p2
    try clear c5
    try clear c5b0
    try clear c5b1
    try clear c6
    try clear c6b0
    try clear c6b1
    obtain ⟨kq, x24_3, rfl, HA, HJ3, HB⟩ := hcut
    cases kq with
    | zero => exact absurd HA.out (by simp [cracknellaw14_TableThree.j0])
    | succ kj3 =>
      have H := HA.out
      clear HA
      simp only [cracknellaw14_TableThree.j0] at H
      by_cases c7 : x24_3 = true
      · subst c7
        have H1 : ((law14_alive.f).bind fun t461 => (some t461)) = some r := by rw [if_pos rfl] at H; exact H
        clear H
        have H := H1
        clear H1
        replace H := Option.bind_eq_some_iff.mp H
        obtain ⟨t461, A80, H⟩ := H
        replace H : (some t461) = some r := H
        have A8 := Aside0.mk A80
        clear A80
        obtain rfl := Option.some.inj H
        go_wp2_with (first | ((with_reducible refine gate_callee (f := 9) rfl ?_); refine goesL_ (some 25) rfl rfl Try.func9 (by kernel_rfl) rfl #[] rfl xg ?_; (with_reducible refine (law14_alive.calls  t461 _ A8.out).mono ?_); rintro e w9 ⟨rfl, hb⟩; refine ⟨_, rfl, ?_⟩; have n0_ := Aside0.mk (below_step xb hb); clear HB; have HB := n0_; clear n0_; (try clear hb); (try clear hb2); (try clear hk); (try clear hi)))
        go_ret
        exact ⟨by first | rfl | (simp [errW_none, errW_some] <;> rfl) | (simp [*, errW_none, errW_some] <;> rfl), by repeat (first | (with_reducible first | exact HB.out | apply below_alloc | apply pw_below_drewN | apply below_drew1) | exact HB.out)⟩
      · replace c7 := Bool.eq_false_iff.mpr c7
        subst c7
        have H1 : ((cracknellaw14_made.f kj3 l0).bind fun t462 => ((cracknellaw14_made.f kj3 l1).bind fun t465 => ((cracknellaw14_made.f kj3 l2).bind fun t468 => ((cracknellaw14_model.f kj3 l0).bind fun t474 => ((cracknellaw14_model.f kj3 l1).bind fun t477 => ((cracknelref14_Merge.f kj3 t474 t477).bind fun t480 => ((cracknellaw14_model.f kj3 l2).bind fun t483 => ((cracknelref14_Merge.f kj3 t480 t483).bind fun t486 => ((law14_alive.f).bind fun t489 => (if t489 = true then ((cracknellaw14_Int_int_21_22.f kj3 t462 t465).bind fun t490 => ((cracknellaw14_Int_int_21_22.f kj3 t490 t468).bind fun t493 => ((law14_same.f t493 t486).bind fun t496 => (if t496 = true then ((cracknellaw14_Int_int_21_22.f kj3 t465 t468).bind fun t497 => ((cracknellaw14_Int_int_21_22.f kj3 t462 t497).bind fun t500 => ((law14_same.f t500 t486).bind fun t503 => (some t503)))) else (some false))))) else (some false))))))))))) = some r := by rw [if_neg (show ¬ (false = true) by decide)] at H; exact H
        clear H
        have H := H1
        clear H1
        replace H := Option.bind_eq_some_iff.mp H
        obtain ⟨t462, A100, H⟩ := H
        replace H : ((cracknellaw14_made.f kj3 l1).bind fun t465 => ((cracknellaw14_made.f kj3 l2).bind fun t468 => ((cracknellaw14_model.f kj3 l0).bind fun t474 => ((cracknellaw14_model.f kj3 l1).bind fun t477 => ((cracknelref14_Merge.f kj3 t474 t477).bind fun t480 => ((cracknellaw14_model.f kj3 l2).bind fun t483 => ((cracknelref14_Merge.f kj3 t480 t483).bind fun t486 => ((law14_alive.f).bind fun t489 => (if t489 = true then ((cracknellaw14_Int_int_21_22.f kj3 t462 t465).bind fun t490 => ((cracknellaw14_Int_int_21_22.f kj3 t490 t468).bind fun t493 => ((law14_same.f t493 t486).bind fun t496 => (if t496 = true then ((cracknellaw14_Int_int_21_22.f kj3 t465 t468).bind fun t497 => ((cracknellaw14_Int_int_21_22.f kj3 t462 t497).bind fun t500 => ((law14_same.f t500 t486).bind fun t503 => (some t503)))) else (some false))))) else (some false)))))))))) = some r := H
        have A10 := Aside0.mk A100
        clear A100
        replace H := Option.bind_eq_some_iff.mp H
        obtain ⟨t465, A110, H⟩ := H
        replace H : ((cracknellaw14_made.f kj3 l2).bind fun t468 => ((cracknellaw14_model.f kj3 l0).bind fun t474 => ((cracknellaw14_model.f kj3 l1).bind fun t477 => ((cracknelref14_Merge.f kj3 t474 t477).bind fun t480 => ((cracknellaw14_model.f kj3 l2).bind fun t483 => ((cracknelref14_Merge.f kj3 t480 t483).bind fun t486 => ((law14_alive.f).bind fun t489 => (if t489 = true then ((cracknellaw14_Int_int_21_22.f kj3 t462 t465).bind fun t490 => ((cracknellaw14_Int_int_21_22.f kj3 t490 t468).bind fun t493 => ((law14_same.f t493 t486).bind fun t496 => (if t496 = true then ((cracknellaw14_Int_int_21_22.f kj3 t465 t468).bind fun t497 => ((cracknellaw14_Int_int_21_22.f kj3 t462 t497).bind fun t500 => ((law14_same.f t500 t486).bind fun t503 => (some t503)))) else (some false))))) else (some false))))))))) = some r := H
        have A11 := Aside0.mk A110
        clear A110
        replace H := Option.bind_eq_some_iff.mp H
        obtain ⟨t468, A120, H⟩ := H
        replace H : ((cracknellaw14_model.f kj3 l0).bind fun t474 => ((cracknellaw14_model.f kj3 l1).bind fun t477 => ((cracknelref14_Merge.f kj3 t474 t477).bind fun t480 => ((cracknellaw14_model.f kj3 l2).bind fun t483 => ((cracknelref14_Merge.f kj3 t480 t483).bind fun t486 => ((law14_alive.f).bind fun t489 => (if t489 = true then ((cracknellaw14_Int_int_21_22.f kj3 t462 t465).bind fun t490 => ((cracknellaw14_Int_int_21_22.f kj3 t490 t468).bind fun t493 => ((law14_same.f t493 t486).bind fun t496 => (if t496 = true then ((cracknellaw14_Int_int_21_22.f kj3 t465 t468).bind fun t497 => ((cracknellaw14_Int_int_21_22.f kj3 t462 t497).bind fun t500 => ((law14_same.f t500 t486).bind fun t503 => (some t503)))) else (some false))))) else (some false)))))))) = some r := H
        have A12 := Aside0.mk A120
        clear A120
        replace H := Option.bind_eq_some_iff.mp H
        obtain ⟨t474, A130, H⟩ := H
        replace H : ((cracknellaw14_model.f kj3 l1).bind fun t477 => ((cracknelref14_Merge.f kj3 t474 t477).bind fun t480 => ((cracknellaw14_model.f kj3 l2).bind fun t483 => ((cracknelref14_Merge.f kj3 t480 t483).bind fun t486 => ((law14_alive.f).bind fun t489 => (if t489 = true then ((cracknellaw14_Int_int_21_22.f kj3 t462 t465).bind fun t490 => ((cracknellaw14_Int_int_21_22.f kj3 t490 t468).bind fun t493 => ((law14_same.f t493 t486).bind fun t496 => (if t496 = true then ((cracknellaw14_Int_int_21_22.f kj3 t465 t468).bind fun t497 => ((cracknellaw14_Int_int_21_22.f kj3 t462 t497).bind fun t500 => ((law14_same.f t500 t486).bind fun t503 => (some t503)))) else (some false))))) else (some false))))))) = some r := H
        have A13 := Aside0.mk A130
        clear A130
        replace H := Option.bind_eq_some_iff.mp H
        obtain ⟨t477, A140, H⟩ := H
        replace H : ((cracknelref14_Merge.f kj3 t474 t477).bind fun t480 => ((cracknellaw14_model.f kj3 l2).bind fun t483 => ((cracknelref14_Merge.f kj3 t480 t483).bind fun t486 => ((law14_alive.f).bind fun t489 => (if t489 = true then ((cracknellaw14_Int_int_21_22.f kj3 t462 t465).bind fun t490 => ((cracknellaw14_Int_int_21_22.f kj3 t490 t468).bind fun t493 => ((law14_same.f t493 t486).bind fun t496 => (if t496 = true then ((cracknellaw14_Int_int_21_22.f kj3 t465 t468).bind fun t497 => ((cracknellaw14_Int_int_21_22.f kj3 t462 t497).bind fun t500 => ((law14_same.f t500 t486).bind fun t503 => (some t503)))) else (some false))))) else (some false)))))) = some r := H
        have A14 := Aside0.mk A140
        clear A140
        replace H := Option.bind_eq_some_iff.mp H
        obtain ⟨t480, A150, H⟩ := H
        replace H : ((cracknellaw14_model.f kj3 l2).bind fun t483 => ((cracknelref14_Merge.f kj3 t480 t483).bind fun t486 => ((law14_alive.f).bind fun t489 => (if t489 = true then ((cracknellaw14_Int_int_21_22.f kj3 t462 t465).bind fun t490 => ((cracknellaw14_Int_int_21_22.f kj3 t490 t468).bind fun t493 => ((law14_same.f t493 t486).bind fun t496 => (if t496 = true then ((cracknellaw14_Int_int_21_22.f kj3 t465 t468).bind fun t497 => ((cracknellaw14_Int_int_21_22.f kj3 t462 t497).bind fun t500 => ((law14_same.f t500 t486).bind fun t503 => (some t503)))) else (some false))))) else (some false))))) = some r := H
        have A15 := Aside0.mk A150
        clear A150
        replace H := Option.bind_eq_some_iff.mp H
        obtain ⟨t483, A160, H⟩ := H
        replace H : ((cracknelref14_Merge.f kj3 t480 t483).bind fun t486 => ((law14_alive.f).bind fun t489 => (if t489 = true then ((cracknellaw14_Int_int_21_22.f kj3 t462 t465).bind fun t490 => ((cracknellaw14_Int_int_21_22.f kj3 t490 t468).bind fun t493 => ((law14_same.f t493 t486).bind fun t496 => (if t496 = true then ((cracknellaw14_Int_int_21_22.f kj3 t465 t468).bind fun t497 => ((cracknellaw14_Int_int_21_22.f kj3 t462 t497).bind fun t500 => ((law14_same.f t500 t486).bind fun t503 => (some t503)))) else (some false))))) else (some false)))) = some r := H
        have A16 := Aside0.mk A160
        clear A160
        replace H := Option.bind_eq_some_iff.mp H
        obtain ⟨t486, A170, H⟩ := H
        replace H : ((law14_alive.f).bind fun t489 => (if t489 = true then ((cracknellaw14_Int_int_21_22.f kj3 t462 t465).bind fun t490 => ((cracknellaw14_Int_int_21_22.f kj3 t490 t468).bind fun t493 => ((law14_same.f t493 t486).bind fun t496 => (if t496 = true then ((cracknellaw14_Int_int_21_22.f kj3 t465 t468).bind fun t497 => ((cracknellaw14_Int_int_21_22.f kj3 t462 t497).bind fun t500 => ((law14_same.f t500 t486).bind fun t503 => (some t503)))) else (some false))))) else (some false))) = some r := H
        have A17 := Aside0.mk A170
        clear A170
        replace H := Option.bind_eq_some_iff.mp H
        obtain ⟨t489, A180, H⟩ := H
        replace H : (if t489 = true then ((cracknellaw14_Int_int_21_22.f kj3 t462 t465).bind fun t490 => ((cracknellaw14_Int_int_21_22.f kj3 t490 t468).bind fun t493 => ((law14_same.f t493 t486).bind fun t496 => (if t496 = true then ((cracknellaw14_Int_int_21_22.f kj3 t465 t468).bind fun t497 => ((cracknellaw14_Int_int_21_22.f kj3 t462 t497).bind fun t500 => ((law14_same.f t500 t486).bind fun t503 => (some t503)))) else (some false))))) else (some false)) = some r := H
        have A18 := Aside0.mk A180
        clear A180
        by_cases c19 : t489 = true
        · subst c19
          have H1 : ((cracknellaw14_Int_int_21_22.f kj3 t462 t465).bind fun t490 => ((cracknellaw14_Int_int_21_22.f kj3 t490 t468).bind fun t493 => ((law14_same.f t493 t486).bind fun t496 => (if t496 = true then ((cracknellaw14_Int_int_21_22.f kj3 t465 t468).bind fun t497 => ((cracknellaw14_Int_int_21_22.f kj3 t462 t497).bind fun t500 => ((law14_same.f t500 t486).bind fun t503 => (some t503)))) else (some false))))) = some r := by rw [if_pos rfl] at H; exact H
          clear H
          have H := H1
          clear H1
          replace H := Option.bind_eq_some_iff.mp H
          obtain ⟨t490, A200, H⟩ := H
          replace H : ((cracknellaw14_Int_int_21_22.f kj3 t490 t468).bind fun t493 => ((law14_same.f t493 t486).bind fun t496 => (if t496 = true then ((cracknellaw14_Int_int_21_22.f kj3 t465 t468).bind fun t497 => ((cracknellaw14_Int_int_21_22.f kj3 t462 t497).bind fun t500 => ((law14_same.f t500 t486).bind fun t503 => (some t503)))) else (some false)))) = some r := H
          have A20 := Aside0.mk A200
          clear A200
          replace H := Option.bind_eq_some_iff.mp H
          obtain ⟨t493, A210, H⟩ := H
          replace H : ((law14_same.f t493 t486).bind fun t496 => (if t496 = true then ((cracknellaw14_Int_int_21_22.f kj3 t465 t468).bind fun t497 => ((cracknellaw14_Int_int_21_22.f kj3 t462 t497).bind fun t500 => ((law14_same.f t500 t486).bind fun t503 => (some t503)))) else (some false))) = some r := H
          have A21 := Aside0.mk A210
          clear A210
          replace H := Option.bind_eq_some_iff.mp H
          obtain ⟨t496, A220, H⟩ := H
          replace H : (if t496 = true then ((cracknellaw14_Int_int_21_22.f kj3 t465 t468).bind fun t497 => ((cracknellaw14_Int_int_21_22.f kj3 t462 t497).bind fun t500 => ((law14_same.f t500 t486).bind fun t503 => (some t503)))) else (some false)) = some r := H
          have A22 := Aside0.mk A220
          clear A220
          by_cases c23 : t496 = true
          · subst c23
            have H1 : ((cracknellaw14_Int_int_21_22.f kj3 t465 t468).bind fun t497 => ((cracknellaw14_Int_int_21_22.f kj3 t462 t497).bind fun t500 => ((law14_same.f t500 t486).bind fun t503 => (some t503)))) = some r := by rw [if_pos rfl] at H; exact H
            clear H
            have H := H1
            clear H1
            replace H := Option.bind_eq_some_iff.mp H
            obtain ⟨t497, A240, H⟩ := H
            replace H : ((cracknellaw14_Int_int_21_22.f kj3 t462 t497).bind fun t500 => ((law14_same.f t500 t486).bind fun t503 => (some t503))) = some r := H
            have A24 := Aside0.mk A240
            clear A240
            replace H := Option.bind_eq_some_iff.mp H
            obtain ⟨t500, A250, H⟩ := H
            replace H : ((law14_same.f t500 t486).bind fun t503 => (some t503)) = some r := H
            have A25 := Aside0.mk A250
            clear A250
            replace H := Option.bind_eq_some_iff.mp H
            obtain ⟨t503, A260, H⟩ := H
            replace H : (some t503) = some r := H
            have A26 := Aside0.mk A260
            clear A260
            obtain rfl := Option.some.inj H
            try go_wp2_with (first | ((with_reducible refine gate_callee (f := 11) rfl ?_); refine goesL_ (some 27) rfl rfl Try.func11 (by kernel_rfl) rfl #[.slice A0 l0.length c0] rfl xg ?_; (with_reducible refine (cracknellaw14_made.calls kj3 _ _ l0 t462 _ ?side1 ?side2 A10.out).mono ?_); (case side1 => repeat (first | exact (Kd.C_below HR0.out HB.out) | (with_reducible refine Kd.C_alloc ?_ _) | (with_reducible refine Kd.C_drewN ?_ _) | (with_reducible refine Kd.C_drew ?_))); (case side2 => exact HC0.out); rintro e w27 ⟨v463, rfl, ho0, hb⟩; refine ⟨_, rfl, ?_⟩; have n0_ := Aside0.mk (Kd.V_lower (Kd.V_mono (ok' := fun k_ => True) ho0 (fun k_ hk_ => trivial)) (below_size xb)); have n1_ := Aside0.mk (below_step xb hb); clear HB; have HO464 := n0_; have HB := n1_; clear n0_ n1_; (try clear hb); (try clear hb2); (try clear hk); (try clear hi); (try clear ho0)) | ((with_reducible refine gate_callee (f := 11) rfl ?_); refine goesL_ (some 29) rfl rfl Try.func11 (by kernel_rfl) rfl #[.slice A1 l1.length c1] rfl xg ?_; (with_reducible refine (cracknellaw14_made.calls kj3 _ _ l1 t465 _ ?side1 ?side2 A11.out).mono ?_); (case side1 => repeat (first | exact (Kd.C_below HR1.out HB.out) | (with_reducible refine Kd.C_alloc ?_ _) | (with_reducible refine Kd.C_drewN ?_ _) | (with_reducible refine Kd.C_drew ?_))); (case side2 => exact HC1.out); rintro e w28 ⟨v466, rfl, ho0, hb⟩; refine ⟨_, rfl, ?_⟩; have n0_ := Aside0.mk (Kd.V_below (by (with_reducible repeat (first | apply Kd.V_alloc | apply Kd.V_drewN | apply Kd.V_drew)); exact HO464.out) hb); have n1_ := Aside0.mk (Kd.V_lower (Kd.V_mono (ok' := fun k_ => True) ho0 (fun k_ hk_ => trivial)) (below_size xb)); have n2_ := Aside0.mk (below_step xb hb); clear HO464; clear HB; have HO464 := n0_; have HO467 := n1_; have HB := n2_; clear n0_ n1_ n2_; (try clear hb); (try clear hb2); (try clear hk); (try clear hi); (try clear ho0)) | ((with_reducible refine gate_callee (f := 11) rfl ?_); refine goesL_ (some 31) rfl rfl Try.func11 (by kernel_rfl) rfl #[.slice A2 l2.length c2] rfl xg ?_; (with_reducible refine (cracknellaw14_made.calls kj3 _ _ l2 t468 _ ?side1 ?side2 A12.out).mono ?_); (case side1 => repeat (first | exact (Kd.C_below HR2.out HB.out) | (with_reducible refine Kd.C_alloc ?_ _) | (with_reducible refine Kd.C_drewN ?_ _) | (with_reducible refine Kd.C_drew ?_))); (case side2 => exact HC2.out); rintro e w29 ⟨v469, rfl, ho0, hb⟩; refine ⟨_, rfl, ?_⟩; have n0_ := Aside0.mk (Kd.V_below (by (with_reducible repeat (first | apply Kd.V_alloc | apply Kd.V_drewN | apply Kd.V_drew)); exact HO464.out) hb); have n1_ := Aside0.mk (Kd.V_below (by (with_reducible repeat (first | apply Kd.V_alloc | apply Kd.V_drewN | apply Kd.V_drew)); exact HO467.out) hb); have n2_ := Aside0.mk (Kd.V_lower (Kd.V_mono (ok' := fun k_ => True) ho0 (fun k_ hk_ => trivial)) (below_size xb)); have n3_ := Aside0.mk (below_step xb hb); clear HO464; clear HO467; clear HB; have HO464 := n0_; have HO467 := n1_; have HO470 := n2_; have HB := n3_; clear n0_ n1_ n2_ n3_; (try clear hb); (try clear hb2); (try clear hk); (try clear hi); (try clear ho0)) | ((with_reducible refine gate_dst (N := 8) rfl ?_); (try (refine gate_guard (by rfl) ?_; dsimp only)); refine box_event ?hg (N := 8) ?hd (cs := #[.slice none 0 0]) (t := 27) ?hr ?_; (case hd => rfl); (case hg => rfl); (case hr => first | (go_simp; done) | (go_simp; rfl)); intro gb471 hg w30 hbox hb; have n0_ := Aside0.mk (Kd.V_below (Kd.V_elderB (by (with_reducible repeat (first | apply Kd.V_alloc | apply Kd.V_drewN | apply Kd.V_drew)); exact HO464.out) gb471 (Nat.le_of_eq hg.symm)) hb); have n1_ := Aside0.mk (Kd.V_below (Kd.V_elderB (by (with_reducible repeat (first | apply Kd.V_alloc | apply Kd.V_drewN | apply Kd.V_drew)); exact HO467.out) gb471 (Nat.le_of_eq hg.symm)) hb); have n2_ := Aside0.mk (Kd.V_below (Kd.V_elderB (by (with_reducible repeat (first | apply Kd.V_alloc | apply Kd.V_drewN | apply Kd.V_drew)); exact HO470.out) gb471 (Nat.le_of_eq hg.symm)) hb); have n3_ := Aside0.mk (below_step xb hb); have n4_ := Aside0.mk (hbox); have n5_ := Aside0.mk ((by rw [hg]; exact (below_size xb) : w.heap.size ≤ gb471)); have n6_ := Aside0.mk ((by rw [hg]; exact (below_size xb) : w.heap.size ≤ gb471)); clear HO464; clear HO467; clear HO470; clear HB; have HO464 := n0_; have HO467 := n1_; have HO470 := n2_; have HB := n3_; have BK471 := n4_; have GW471 := n5_; have GE471 := n6_; clear n0_ n1_ n2_ n3_ n4_ n5_ n6_; clear hb hbox hg) | ((with_reducible refine gate_dst (N := 9) rfl ?_); (try (refine gate_guard (by rfl) ?_; dsimp only)); refine box_event ?hg (N := 9) ?hd (cs := #[.slice none 0 0]) (t := 27) ?hr ?_; (case hd => rfl); (case hg => rfl); (case hr => first | (go_simp; done) | (go_simp; rfl)); intro gb472 hg w31 hbox hb; have n0_ := Aside0.mk (Kd.V_below (Kd.V_elderB (by (with_reducible repeat (first | apply Kd.V_alloc | apply Kd.V_drewN | apply Kd.V_drew)); exact HO464.out) gb472 (Nat.le_of_eq hg.symm)) hb); have n1_ := Aside0.mk (Kd.V_below (Kd.V_elderB (by (with_reducible repeat (first | apply Kd.V_alloc | apply Kd.V_drewN | apply Kd.V_drew)); exact HO467.out) gb472 (Nat.le_of_eq hg.symm)) hb); have n2_ := Aside0.mk (Kd.V_below (Kd.V_elderB (by (with_reducible repeat (first | apply Kd.V_alloc | apply Kd.V_drewN | apply Kd.V_drew)); exact HO470.out) gb472 (Nat.le_of_eq hg.symm)) hb); have n3_ := blkB BK471 hb; have n4_ := Aside0.mk (below_step xb hb); have n5_ := Aside0.mk (hbox); have n6_ := Aside0.mk ((by rw [hg]; exact (below_size xb) : w.heap.size ≤ gb472)); have n7_ := Aside0.mk ((by rw [hg]; exact (below_size xb) : w.heap.size ≤ gb472)); have n8_ := Aside0.mk ((by rw [hg]; exact Nat.ne_of_lt (blkL BK471) : gb471 ≠ gb472)); have n9_ := Aside0.mk ((by rw [hg]; exact Nat.ne_of_gt (blkL BK471) : gb472 ≠ gb471)); clear HO464; clear HO467; clear HO470; clear BK471; clear HB; have HO464 := n0_; have HO467 := n1_; have HO470 := n2_; have BK471 := n3_; have HB := n4_; have BK472 := n5_; have GW472 := n6_; have GE472 := n7_; have NB471_472 := n8_; have NB472_471 := n9_; clear n0_ n1_ n2_ n3_ n4_ n5_ n6_ n7_ n8_ n9_; clear hb hbox hg) | ((with_reducible refine gate_dst (N := 10) rfl ?_); (try (refine gate_guard (by rfl) ?_; dsimp only)); refine box_event ?hg (N := 10) ?hd (cs := #[.slice none 0 0]) (t := 27) ?hr ?_; (case hd => rfl); (case hg => rfl); (case hr => first | (go_simp; done) | (go_simp; rfl)); intro gb473 hg w32 hbox hb; have n0_ := Aside0.mk (Kd.V_below (Kd.V_elderB (by (with_reducible repeat (first | apply Kd.V_alloc | apply Kd.V_drewN | apply Kd.V_drew)); exact HO464.out) gb473 (Nat.le_of_eq hg.symm)) hb); have n1_ := Aside0.mk (Kd.V_below (Kd.V_elderB (by (with_reducible repeat (first | apply Kd.V_alloc | apply Kd.V_drewN | apply Kd.V_drew)); exact HO467.out) gb473 (Nat.le_of_eq hg.symm)) hb); have n2_ := Aside0.mk (Kd.V_below (Kd.V_elderB (by (with_reducible repeat (first | apply Kd.V_alloc | apply Kd.V_drewN | apply Kd.V_drew)); exact HO470.out) gb473 (Nat.le_of_eq hg.symm)) hb); have n3_ := blkB BK471 hb; have n4_ := blkB BK472 hb; have n5_ := Aside0.mk (below_step xb hb); have n6_ := Aside0.mk (hbox); have n7_ := Aside0.mk ((by rw [hg]; exact (below_size xb) : w.heap.size ≤ gb473)); have n8_ := Aside0.mk ((by rw [hg]; exact (below_size xb) : w.heap.size ≤ gb473)); have n9_ := Aside0.mk ((by rw [hg]; exact Nat.ne_of_lt (blkL BK471) : gb471 ≠ gb473)); have n10_ := Aside0.mk ((by rw [hg]; exact Nat.ne_of_gt (blkL BK471) : gb473 ≠ gb471)); have n11_ := Aside0.mk ((by rw [hg]; exact Nat.ne_of_lt (blkL BK472) : gb472 ≠ gb473)); have n12_ := Aside0.mk ((by rw [hg]; exact Nat.ne_of_gt (blkL BK472) : gb473 ≠ gb472)); clear HO464; clear HO467; clear HO470; clear BK471; clear BK472; clear HB; have HO464 := n0_; have HO467 := n1_; have HO470 := n2_; have BK471 := n3_; have BK472 := n4_; have HB := n5_; have BK473 := n6_; have GW473 := n7_; have GE473 := n8_; have NB471_473 := n9_; have NB473_471 := n10_; have NB472_473 := n11_; have NB473_472 := n12_; clear n0_ n1_ n2_ n3_ n4_ n5_ n6_ n7_ n8_ n9_ n10_ n11_ n12_; clear hb hbox hg; obtain ⟨Ao33, co33, eo33⟩ := Kd.V_slice HO464.out; subst eo33; have hnb34 := NB471_472.out; have hnc34 := NB472_471.out; have hnb35 := NB471_473.out; have hnc35 := NB473_471.out; have hcz36_0 : w32.cell? ⟨gb471, 0, none⟩ = some (.slice none 0 0) := (blk_cell BK471.out 0).trans rfl; have hfz36_0 := blk_frozen BK471.out 0; obtain ⟨Ao37, co37, eo37⟩ := Kd.V_slice HO467.out; subst eo37; have hnb38 := NB472_473.out; have hnc38 := NB473_472.out; have hcz39_0 : w32.cell? ⟨gb472, 0, none⟩ = some (.slice none 0 0) := (blk_cell BK472.out 0).trans rfl; have hfz39_0 := blk_frozen BK472.out 0; obtain ⟨Ao40, co40, eo40⟩ := Kd.V_slice HO470.out; subst eo40; have hcz41_0 : w32.cell? ⟨gb473, 0, none⟩ = some (.slice none 0 0) := (blk_cell BK473.out 0).trans rfl; have hfz41_0 := blk_frozen BK473.out 0) | ((with_reducible refine gate_callee (f := 12) rfl ?_); refine goesL_ (some 33) rfl rfl Try.func12 (by kernel_rfl) rfl #[.slice A0 l0.length c0] rfl xg ?_; (with_reducible refine (cracknellaw14_model.calls kj3 _ _ l0 t474 _ ?side1 ?side2 A13.out).mono ?_); (case side1 => exact Kd.C_below HR0.out xb); (case side2 => exact HC0.out); rintro e w42 ⟨v475, rfl, ho0, hb⟩; refine ⟨_, rfl, ?_⟩; have n0_ := Aside0.mk (Kd.V_elder' (by (with_reducible repeat (first | apply Kd.V_alloc | apply Kd.V_drewN | apply Kd.V_drew)); exact (Kd.V_mono (Kd.V_mono (Kd.V_mono (Kd.V_far (p := ⟨gb473, 0, none⟩) (Kd.V_far (p := ⟨gb472, 0, none⟩) (Kd.V_far (p := ⟨gb471, 0, none⟩) (Kd.V_mono (Kd.V_mono (Kd.V_mono HO464.out (fun k_ hk => (⟨hk, hk.1.1.2⟩ : _ ∧ k_ ≠ gb471))) (fun k_ hk => (⟨hk, hk.1.1.2⟩ : _ ∧ k_ ≠ gb472))) (fun k_ hk => (⟨hk, hk.1.1.2⟩ : _ ∧ k_ ≠ gb473))) (fun _ hk => hk.1.1.2) (.slice Ao33 t462.length co33)) (fun _ hk => hk.1.2) (.slice Ao37 t465.length co37)) (fun _ hk => hk.2) (.slice Ao40 t468.length co40)) (fun _ h_ => h_.1)) (fun _ h_ => h_.1)) (fun _ h_ => h_.1))) (Kd.R_base ho0) hb); have n1_ := Aside0.mk (Kd.V_elder' (by (with_reducible repeat (first | apply Kd.V_alloc | apply Kd.V_drewN | apply Kd.V_drew)); exact (Kd.V_mono (Kd.V_mono (Kd.V_mono (Kd.V_far (p := ⟨gb473, 0, none⟩) (Kd.V_far (p := ⟨gb472, 0, none⟩) (Kd.V_far (p := ⟨gb471, 0, none⟩) (Kd.V_mono (Kd.V_mono (Kd.V_mono HO467.out (fun k_ hk => (⟨hk, hk.1.1.2⟩ : _ ∧ k_ ≠ gb471))) (fun k_ hk => (⟨hk, hk.1.1.2⟩ : _ ∧ k_ ≠ gb472))) (fun k_ hk => (⟨hk, hk.1.1.2⟩ : _ ∧ k_ ≠ gb473))) (fun _ hk => hk.1.1.2) (.slice Ao33 t462.length co33)) (fun _ hk => hk.1.2) (.slice Ao37 t465.length co37)) (fun _ hk => hk.2) (.slice Ao40 t468.length co40)) (fun _ h_ => h_.1)) (fun _ h_ => h_.1)) (fun _ h_ => h_.1))) (Kd.R_base ho0) hb); have n2_ := Aside0.mk (Kd.V_elder' (by (with_reducible repeat (first | apply Kd.V_alloc | apply Kd.V_drewN | apply Kd.V_drew)); exact (Kd.V_mono (Kd.V_mono (Kd.V_mono (Kd.V_far (p := ⟨gb473, 0, none⟩) (Kd.V_far (p := ⟨gb472, 0, none⟩) (Kd.V_far (p := ⟨gb471, 0, none⟩) (Kd.V_mono (Kd.V_mono (Kd.V_mono HO470.out (fun k_ hk => (⟨hk, hk.1.1.2⟩ : _ ∧ k_ ≠ gb471))) (fun k_ hk => (⟨hk, hk.1.1.2⟩ : _ ∧ k_ ≠ gb472))) (fun k_ hk => (⟨hk, hk.1.1.2⟩ : _ ∧ k_ ≠ gb473))) (fun _ hk => hk.1.1.2) (.slice Ao33 t462.length co33)) (fun _ hk => hk.1.2) (.slice Ao37 t465.length co37)) (fun _ hk => hk.2) (.slice Ao40 t468.length co40)) (fun _ h_ => h_.1)) (fun _ h_ => h_.1)) (fun _ h_ => h_.1))) (Kd.R_base ho0) hb); have n3_ := Aside0.mk (Kd.R_lower ho0 (below_size xb)); have n4_ := Aside0.mk (blk_below (g := gb471) (o := .cells #[.slice Ao33 t462.length co33] 27 (0, 0)) xk hb); have n5_ := Aside0.mk (blk_below (g := gb472) (o := .cells #[.slice Ao37 t465.length co37] 27 (0, 0)) xk hb); have n6_ := Aside0.mk (blk_below (g := gb473) (o := .cells #[.slice Ao40 t468.length co40] 27 (0, 0)) xk hb); have n7_ := Aside0.mk (below_step xb hb); clear HO464; clear HO467; clear HO470; clear BK471; clear BK472; clear BK473; clear HB; have HO464 := n0_; have HO467 := n1_; have HO470 := n2_; have HO476 := n3_; have BK471 := n4_; have BK472 := n5_; have BK473 := n6_; have HB := n7_; clear n0_ n1_ n2_ n3_ n4_ n5_ n6_ n7_; (try clear hb); (try clear hb2); (try clear hk); (try clear hi); (try clear ho0)) | ((with_reducible refine gate_callee (f := 12) rfl ?_); refine goesL_ (some 35) rfl rfl Try.func12 (by kernel_rfl) rfl #[.slice A1 l1.length c1] rfl xg ?_; (with_reducible refine (cracknellaw14_model.calls kj3 _ _ l1 t477 _ ?side1 ?side2 A14.out).mono ?_); (case side1 => repeat (first | exact (Kd.C_below HR1.out HB.out) | (with_reducible refine Kd.C_alloc ?_ _) | (with_reducible refine Kd.C_drewN ?_ _) | (with_reducible refine Kd.C_drew ?_))); (case side2 => exact HC1.out); rintro e w43 ⟨v478, rfl, ho0, hb⟩; refine ⟨_, rfl, ?_⟩; have n0_ := Aside0.mk (Kd.V_elder' (by (with_reducible repeat (first | apply Kd.V_alloc | apply Kd.V_drewN | apply Kd.V_drew)); exact HO464.out) (Kd.R_base ho0) hb); have n1_ := Aside0.mk (Kd.V_elder' (by (with_reducible repeat (first | apply Kd.V_alloc | apply Kd.V_drewN | apply Kd.V_drew)); exact HO467.out) (Kd.R_base ho0) hb); have n2_ := Aside0.mk (Kd.V_elder' (by (with_reducible repeat (first | apply Kd.V_alloc | apply Kd.V_drewN | apply Kd.V_drew)); exact HO470.out) (Kd.R_base ho0) hb); have n3_ := Aside0.mk (Kd.R_elder' (by (with_reducible repeat (first | apply Kd.R_alloc | apply Kd.R_drewN | apply Kd.R_drew)); exact HO476.out) (Kd.R_base ho0) hb); have n4_ := Aside0.mk (Kd.R_lower (Kd.R_new' ho0 (Kd.R_lt (by (with_reducible repeat (first | apply Kd.R_alloc | apply Kd.R_drewN | apply Kd.R_drew)); exact HO476.out))) (below_size xb)); have n5_ := blkB BK471 hb; have n6_ := blkB BK472 hb; have n7_ := blkB BK473 hb; have n8_ := Aside0.mk (below_step xb hb); clear HO464; clear HO467; clear HO470; clear HO476; clear BK471; clear BK472; clear BK473; clear HB; have HO464 := n0_; have HO467 := n1_; have HO470 := n2_; have HO476 := n3_; have HO479 := n4_; have BK471 := n5_; have BK472 := n6_; have BK473 := n7_; have HB := n8_; clear n0_ n1_ n2_ n3_ n4_ n5_ n6_ n7_ n8_; (try clear hb); (try clear hb2); (try clear hk); (try clear hi); (try clear ho0); obtain ⟨Ao44, co44, eo44⟩ := Kd.R_slice HO476.out; subst eo44; obtain ⟨Ao45, co45, eo45⟩ := Kd.R_slice HO479.out; subst eo45) | ((with_reducible refine gate_callee (f := 20) rfl ?_); refine goesL_ (some 36) rfl rfl Try.func20 (by kernel_rfl) rfl #[.slice Ao44 t474.length co44, .slice Ao45 t477.length co45] rfl xg ?_; (with_reducible refine (cracknelref14_Merge.calls kj3 (fun k_ => some k_ = (.slice Ao44 t474.length co44 : Value).ownBlock) _ _ t474 _ _ t477 t480 _ ?side1 ?side2 ?side3 A15.out).mono ?_); (case side1 => exact Kd.R_V (Kd.R_tight rfl (Kd.R_types (Kd.R_types (Kd.R_types (HO476.out) BK471.out (by decide)) BK472.out (by decide)) BK473.out (by decide)))); (case side2 => repeat (first | exact (Kd.R_reads' HO479.out).2.2 | (with_reducible refine Kd.C_alloc ?_ _) | (with_reducible refine Kd.C_drewN ?_ _) | (with_reducible refine Kd.C_drew ?_))); (case side3 => exact (Kd.R_reads' HO479.out).2.1); rintro e w46 ⟨v481, rfl, ho0, hb⟩; refine ⟨_, rfl, ?_⟩; have n0_ := Aside0.mk (Kd.V_below (by (with_reducible repeat (first | apply Kd.V_alloc | apply Kd.V_drewN | apply Kd.V_drew)); exact HO464.out) hb); have n1_ := Aside0.mk (Kd.V_below (by (with_reducible repeat (first | apply Kd.V_alloc | apply Kd.V_drewN | apply Kd.V_drew)); exact HO467.out) hb); have n2_ := Aside0.mk (Kd.V_below (by (with_reducible repeat (first | apply Kd.V_alloc | apply Kd.V_drewN | apply Kd.V_drew)); exact HO470.out) hb); have n3_ := Aside0.mk (Kd.R_below (by (with_reducible repeat (first | apply Kd.R_alloc | apply Kd.R_drewN | apply Kd.R_drew)); exact HO476.out) hb); have n4_ := Aside0.mk (Kd.R_below (by (with_reducible repeat (first | apply Kd.R_alloc | apply Kd.R_drewN | apply Kd.R_drew)); exact HO479.out) hb); have n5_ := Aside0.mk (Kd.V_lower (Kd.V_mono (ok' := fun k_ => some k_ ≠ (.slice Ao45 t477.length co45 : Value).ownBlock ∧ k_ ≠ gb471 ∧ k_ ≠ gb472 ∧ k_ ≠ gb473) ho0 (fun k_ hk_ => ⟨Or.elim hk_ (fun hs_ => ((Kd.R_types (Kd.R_types (Kd.R_types (HO476.out) BK471.out (by decide)) BK472.out (by decide)) BK473.out (by decide)).1 k_ hs_.symm).1.1.1.2) (fun hn_ => (Kd.fresh' (Kd.R_lt (by (with_reducible repeat (first | apply Kd.R_alloc | apply Kd.R_drewN | apply Kd.R_drew)); exact HO479.out)) k_ hn_)), Or.elim hk_ (fun hs_ => ((Kd.R_types (Kd.R_types (Kd.R_types (HO476.out) BK471.out (by decide)) BK472.out (by decide)) BK473.out (by decide)).1 k_ hs_.symm).1.1.2) (fun hn_ => (Kd.freshB (g := gb471) (o := .cells #[.slice Ao33 t462.length co33] 27 (0, 0)) xk k_ hn_)), Or.elim hk_ (fun hs_ => ((Kd.R_types (Kd.R_types (Kd.R_types (HO476.out) BK471.out (by decide)) BK472.out (by decide)) BK473.out (by decide)).1 k_ hs_.symm).1.2) (fun hn_ => (Kd.freshB (g := gb472) (o := .cells #[.slice Ao37 t465.length co37] 27 (0, 0)) xk k_ hn_)), Or.elim hk_ (fun hs_ => ((Kd.R_types (Kd.R_types (Kd.R_types (HO476.out) BK471.out (by decide)) BK472.out (by decide)) BK473.out (by decide)).1 k_ hs_.symm).2) (fun hn_ => (Kd.freshB (g := gb473) (o := .cells #[.slice Ao40 t468.length co40] 27 (0, 0)) xk k_ hn_))⟩)) (below_size xb)); have n6_ := blkB BK471 hb; have n7_ := blkB BK472 hb; have n8_ := blkB BK473 hb; have n9_ := Aside0.mk (below_step xb hb); clear HO464; clear HO467; clear HO470; clear HO476; clear HO479; clear BK471; clear BK472; clear BK473; clear HB; have HO464 := n0_; have HO467 := n1_; have HO470 := n2_; have HO476 := n3_; have HO479 := n4_; have HO482 := n5_; have BK471 := n6_; have BK472 := n7_; have BK473 := n8_; have HB := n9_; clear n0_ n1_ n2_ n3_ n4_ n5_ n6_ n7_ n8_ n9_; (try clear hb); (try clear hb2); (try clear hk); (try clear hi); (try clear ho0)) | ((with_reducible refine gate_callee (f := 12) rfl ?_); refine goesL_ (some 38) rfl rfl Try.func12 (by kernel_rfl) rfl #[.slice A2 l2.length c2] rfl xg ?_; (with_reducible refine (cracknellaw14_model.calls kj3 _ _ l2 t483 _ ?side1 ?side2 A16.out).mono ?_); (case side1 => repeat (first | exact (Kd.C_below HR2.out HB.out) | (with_reducible refine Kd.C_alloc ?_ _) | (with_reducible refine Kd.C_drewN ?_ _) | (with_reducible refine Kd.C_drew ?_))); (case side2 => exact HC2.out); rintro e w47 ⟨v484, rfl, ho0, hb⟩; refine ⟨_, rfl, ?_⟩; have n0_ := Aside0.mk (Kd.V_elder' (by (with_reducible repeat (first | apply Kd.V_alloc | apply Kd.V_drewN | apply Kd.V_drew)); exact HO464.out) (Kd.R_base ho0) hb); have n1_ := Aside0.mk (Kd.V_elder' (by (with_reducible repeat (first | apply Kd.V_alloc | apply Kd.V_drewN | apply Kd.V_drew)); exact HO467.out) (Kd.R_base ho0) hb); have n2_ := Aside0.mk (Kd.V_elder' (by (with_reducible repeat (first | apply Kd.V_alloc | apply Kd.V_drewN | apply Kd.V_drew)); exact HO470.out) (Kd.R_base ho0) hb); have n3_ := Aside0.mk (Kd.R_elder' (by (with_reducible repeat (first | apply Kd.R_alloc | apply Kd.R_drewN | apply Kd.R_drew)); exact HO476.out) (Kd.R_base ho0) hb); have n4_ := Aside0.mk (Kd.R_elder' (by (with_reducible repeat (first | apply Kd.R_alloc | apply Kd.R_drewN | apply Kd.R_drew)); exact HO479.out) (Kd.R_base ho0) hb); have n5_ := Aside0.mk (Kd.V_elder' (by (with_reducible repeat (first | apply Kd.V_alloc | apply Kd.V_drewN | apply Kd.V_drew)); exact HO482.out) (Kd.R_base ho0) hb); have n6_ := Aside0.mk (Kd.R_lower (Kd.R_new' (Kd.R_new' ho0 (Kd.R_lt (by (with_reducible repeat (first | apply Kd.R_alloc | apply Kd.R_drewN | apply Kd.R_drew)); exact HO476.out))) (Kd.R_lt (by (with_reducible repeat (first | apply Kd.R_alloc | apply Kd.R_drewN | apply Kd.R_drew)); exact HO479.out))) (below_size xb)); have n7_ := blkB BK471 hb; have n8_ := blkB BK472 hb; have n9_ := blkB BK473 hb; have n10_ := Aside0.mk (below_step xb hb); clear HO464; clear HO467; clear HO470; clear HO476; clear HO479; clear HO482; clear BK471; clear BK472; clear BK473; clear HB; have HO464 := n0_; have HO467 := n1_; have HO470 := n2_; have HO476 := n3_; have HO479 := n4_; have HO482 := n5_; have HO485 := n6_; have BK471 := n7_; have BK472 := n8_; have BK473 := n9_; have HB := n10_; clear n0_ n1_ n2_ n3_ n4_ n5_ n6_ n7_ n8_ n9_ n10_; (try clear hb); (try clear hb2); (try clear hk); (try clear hi); (try clear ho0); obtain ⟨Ao48, co48, eo48⟩ := Kd.V_slice HO482.out; subst eo48; obtain ⟨Ao49, co49, eo49⟩ := Kd.R_slice HO485.out; subst eo49) | ((with_reducible refine gate_callee (f := 20) rfl ?_); refine goesL_ (some 39) rfl rfl Try.func20 (by kernel_rfl) rfl #[.slice Ao48 t480.length co48, .slice Ao49 t483.length co49] rfl xg ?_; (with_reducible refine (cracknelref14_Merge.calls kj3 (fun k_ => ((some k_ ≠ (.slice Ao45 t477.length co45 : Value).ownBlock ∧ (k_ ≠ gb471 ∧ (k_ ≠ gb472 ∧ k_ ≠ gb473))) ∧ some k_ ≠ (.slice Ao49 t483.length co49 : Value).ownBlock)) _ _ t480 _ _ t483 t486 _ ?side1 ?side2 ?side3 A17.out).mono ?_); (case side1 => exact HO482.out); (case side2 => repeat (first | exact (Kd.R_reads' HO485.out).2.2 | (with_reducible refine Kd.C_alloc ?_ _) | (with_reducible refine Kd.C_drewN ?_ _) | (with_reducible refine Kd.C_drew ?_))); (case side3 => exact (Kd.R_reads' HO485.out).2.1); rintro e w50 ⟨v487, rfl, ho0, hb⟩; refine ⟨_, rfl, ?_⟩; have n0_ := Aside0.mk (Kd.V_below (by (with_reducible repeat (first | apply Kd.V_alloc | apply Kd.V_drewN | apply Kd.V_drew)); exact HO464.out) hb); have n1_ := Aside0.mk (Kd.V_below (by (with_reducible repeat (first | apply Kd.V_alloc | apply Kd.V_drewN | apply Kd.V_drew)); exact HO467.out) hb); have n2_ := Aside0.mk (Kd.V_below (by (with_reducible repeat (first | apply Kd.V_alloc | apply Kd.V_drewN | apply Kd.V_drew)); exact HO470.out) hb); have n3_ := Aside0.mk (Kd.R_below (by (with_reducible repeat (first | apply Kd.R_alloc | apply Kd.R_drewN | apply Kd.R_drew)); exact HO476.out) hb); have n4_ := Aside0.mk (Kd.R_below (by (with_reducible repeat (first | apply Kd.R_alloc | apply Kd.R_drewN | apply Kd.R_drew)); exact HO479.out) hb); have n5_ := Aside0.mk (Kd.V_below (by (with_reducible repeat (first | apply Kd.V_alloc | apply Kd.V_drewN | apply Kd.V_drew)); exact HO482.out) hb); have n6_ := Aside0.mk (Kd.R_below (by (with_reducible repeat (first | apply Kd.R_alloc | apply Kd.R_drewN | apply Kd.R_drew)); exact HO485.out) hb); have n7_ := Aside0.mk (Kd.V_lower (Kd.V_mono (ok' := fun k_ => some k_ ≠ (.slice Ao45 t477.length co45 : Value).ownBlock ∧ some k_ ≠ (.slice Ao49 t483.length co49 : Value).ownBlock ∧ k_ ≠ gb471 ∧ k_ ≠ gb472 ∧ k_ ≠ gb473) ho0 (fun k_ hk_ => ⟨Or.elim hk_ (fun hs_ => hs_.1.1) (fun hn_ => (Kd.fresh' (Kd.R_lt (by (with_reducible repeat (first | apply Kd.R_alloc | apply Kd.R_drewN | apply Kd.R_drew)); exact HO479.out)) k_ hn_)), Or.elim hk_ (fun hs_ => hs_.2) (fun hn_ => (Kd.fresh' (Kd.R_lt (by (with_reducible repeat (first | apply Kd.R_alloc | apply Kd.R_drewN | apply Kd.R_drew)); exact HO485.out)) k_ hn_)), Or.elim hk_ (fun hs_ => hs_.1.2.1) (fun hn_ => (Kd.freshB (g := gb471) (o := .cells #[.slice Ao33 t462.length co33] 27 (0, 0)) xk k_ hn_)), Or.elim hk_ (fun hs_ => hs_.1.2.2.1) (fun hn_ => (Kd.freshB (g := gb472) (o := .cells #[.slice Ao37 t465.length co37] 27 (0, 0)) xk k_ hn_)), Or.elim hk_ (fun hs_ => hs_.1.2.2.2) (fun hn_ => (Kd.freshB (g := gb473) (o := .cells #[.slice Ao40 t468.length co40] 27 (0, 0)) xk k_ hn_))⟩)) (below_size xb)); have n8_ := blkB BK471 hb; have n9_ := blkB BK472 hb; have n10_ := blkB BK473 hb; have n11_ := Aside0.mk (below_step xb hb); clear HO464; clear HO467; clear HO470; clear HO476; clear HO479; clear HO482; clear HO485; clear BK471; clear BK472; clear BK473; clear HB; have HO464 := n0_; have HO467 := n1_; have HO470 := n2_; have HO476 := n3_; have HO479 := n4_; have HO482 := n5_; have HO485 := n6_; have HO488 := n7_; have BK471 := n8_; have BK472 := n9_; have BK473 := n10_; have HB := n11_; clear n0_ n1_ n2_ n3_ n4_ n5_ n6_ n7_ n8_ n9_ n10_ n11_; (try clear hb); (try clear hb2); (try clear hk); (try clear hi); (try clear ho0)))
            have n0_ := Aside0.mk (Kd.V_drew HO464.out)
            have n1_ := Aside0.mk (Kd.V_drew HO467.out)
            have n2_ := Aside0.mk (Kd.V_drew HO470.out)
            have n3_ := Aside0.mk (Kd.R_drew HO476.out)
            have n4_ := Aside0.mk (Kd.R_drew HO479.out)
            have n5_ := Aside0.mk (Kd.V_drew HO482.out)
            have n6_ := Aside0.mk (Kd.R_drew HO485.out)
            have n7_ := Aside0.mk (Kd.V_drew HO488.out)
            have n8_ := Aside0.mk (blk_drew BK471.out)
            have n9_ := Aside0.mk (blk_drew BK472.out)
            have n10_ := Aside0.mk (blk_drew BK473.out)
            have n11_ := Aside0.mk (below_drew1 HB.out)
            clear HO464
            clear HO467
            clear HO470
            clear HO476
            clear HO479
            clear HO482
            clear HO485
            clear HO488
            clear BK471
            clear BK472
            clear BK473
            clear HB
            have HO464 := n0_
            have HO467 := n1_
            have HO470 := n2_
            have HO476 := n3_
            have HO479 := n4_
            have HO482 := n5_
            have HO485 := n6_
            have HO488 := n7_
            have BK471 := n8_
            have BK472 := n9_
            have BK473 := n10_
            have HB := n11_
            clear n0_ n1_ n2_ n3_ n4_ n5_ n6_ n7_ n8_ n9_ n10_ n11_
            refine start_ (n := 24) (S := fun w' => w'.cell? ⟨gb471, 0, none⟩ = some (.slice Ao33 t462.length co33) ∧ w'.cell? ⟨gb472, 0, none⟩ = some (.slice Ao37 t465.length co37) ∧ w'.cell? ⟨gb473, 0, none⟩ = some (.slice Ao40 t468.length co40)) (ds := []) #[false, false, false, false, false, false, false, false, false, false, false, false, false, false, false, false, false, false, false, false, false, false, false, false] (by kernel_rfl) rfl rfl ⟨(blk_cell BK471.out 0).trans rfl, (blk_cell BK472.out 0).trans rfl, (blk_cell BK473.out 0).trans rfl⟩ (fun hHeld => ?_); refine with_tabW cracknellaw14_TableThree.tab6 cracknellaw14_TableThree.bits6 (fun HT_ HW_ => ?_)
            generalize w50.drew = w51 at HO464 HO467 HO470 HO476 HO479 HO482 HO485 HO488 BK471 BK472 BK473 HB hHeld ⊢
            refine one_ (i := 0) (N := some 40) #[true, false, false, false, false, false, false, false, false, false, false, false, false, false, false, false, false, false, false, false, false, false, false, false] rfl rfl (one_of HT_.out (by kernel_rfl)) (by decide) (fun K hK => ?_)
            refine goes_ Try.func9 (by kernel_rfl) rfl #[] (by rfl) rfl rfl xg ?_
            with_reducible refine (law14_alive.calls  true _ A18.out).mono ?_
            rintro e w52 ⟨rfl, hb⟩
            refine ⟨_, rfl, ?_⟩
            have n0_ := Aside0.mk (Kd.V_below (by (with_reducible repeat (first | apply Kd.V_alloc | apply Kd.V_drewN | apply Kd.V_drew)); exact HO464.out) hb)
            have n1_ := Aside0.mk (Kd.V_below (by (with_reducible repeat (first | apply Kd.V_alloc | apply Kd.V_drewN | apply Kd.V_drew)); exact HO467.out) hb)
            have n2_ := Aside0.mk (Kd.V_below (by (with_reducible repeat (first | apply Kd.V_alloc | apply Kd.V_drewN | apply Kd.V_drew)); exact HO470.out) hb)
            have n3_ := Aside0.mk (Kd.R_below (by (with_reducible repeat (first | apply Kd.R_alloc | apply Kd.R_drewN | apply Kd.R_drew)); exact HO476.out) hb)
            have n4_ := Aside0.mk (Kd.R_below (by (with_reducible repeat (first | apply Kd.R_alloc | apply Kd.R_drewN | apply Kd.R_drew)); exact HO479.out) hb)
            have n5_ := Aside0.mk (Kd.V_below (by (with_reducible repeat (first | apply Kd.V_alloc | apply Kd.V_drewN | apply Kd.V_drew)); exact HO482.out) hb)
            have n6_ := Aside0.mk (Kd.R_below (by (with_reducible repeat (first | apply Kd.R_alloc | apply Kd.R_drewN | apply Kd.R_drew)); exact HO485.out) hb)
            have n7_ := Aside0.mk (Kd.V_below (by (with_reducible repeat (first | apply Kd.V_alloc | apply Kd.V_drewN | apply Kd.V_drew)); exact HO488.out) hb)
            have n8_ := blkB BK471 hb
            have n9_ := blkB BK472 hb
            have n10_ := blkB BK473 hb
            have n11_ := Aside0.mk (below_step xb hb)
            clear HO464
            clear HO467
            clear HO470
            clear HO476
            clear HO479
            clear HO482
            clear HO485
            clear HO488
            clear BK471
            clear BK472
            clear BK473
            clear HB
            have HO464 := n0_
            have HO467 := n1_
            have HO470 := n2_
            have HO476 := n3_
            have HO479 := n4_
            have HO482 := n5_
            have HO485 := n6_
            have HO488 := n7_
            have BK471 := n8_
            have BK472 := n9_
            have BK473 := n10_
            have HB := n11_
            clear n0_ n1_ n2_ n3_ n4_ n5_ n6_ n7_ n8_ n9_ n10_ n11_
            (try clear hb)
            (try clear hb2)
            (try clear hk)
            (try clear hi)
            refine hK.out _ _ xc (fun hHeld => ?_)
            clear hK K
            refine norm_ (a' := ?_) ?_ ?_
            rotate_left
            · show Act.put _ (some 40) _ = _
              simp only [Act.put, List.setIfInBounds_toArray, List.set_cons_zero, List.set_cons_succ, i64_w, i32_w]
              rfl
            refine pure_ (i := 1) (N := some 41) (v := ?_) (a' := ?_) #[true, true, false, false, false, false, false, false, false, false, false, false, false, false, false, false, false, false, false, false, false, false, false, false] rfl rfl (any_of HT_.out (by kernel_rfl)) (fun _ _ _ h => h) (Or.inl ⟨by rfl, ?_⟩) ?_ ?_
            rotate_left
            · intro w'
              go_simp
              with_reducible rfl
            rotate_left
            · simp only [Act.put, List.setIfInBounds_toArray, List.set_cons_zero, List.set_cons_succ, i64_w, i32_w]
              rfl
            refine pure_ (i := 4) (N := some 44) (v := ?_) (a' := ?_) #[true, true, false, false, true, false, false, false, false, false, false, false, false, false, false, false, false, false, false, false, false, false, false, false] rfl rfl (any_of HT_.out (by kernel_rfl)) (fun _ _ _ h => h) (Or.inl ⟨by rfl, ?_⟩) ?_ ?_
            rotate_left
            · intro w'
              go_simp
              with_reducible rfl
            rotate_left
            · simp only [Act.put, List.setIfInBounds_toArray, List.set_cons_zero, List.set_cons_succ, i64_w, i32_w]
              rfl
            refine pure_ (i := 7) (N := some 47) (v := ?_) (a' := ?_) #[true, true, false, false, true, false, false, true, false, false, false, false, false, false, false, false, false, false, false, false, false, false, false, false] rfl rfl (any_of HT_.out (by kernel_rfl)) (fun _ _ _ h => h) (Or.inl ⟨by rfl, ?_⟩) ?_ ?_
            rotate_left
            · intro w'
              go_simp
              with_reducible rfl
            rotate_left
            · simp only [Act.put, List.setIfInBounds_toArray, List.set_cons_zero, List.set_cons_succ, i64_w, i32_w]
              rfl
            refine pure_ (i := 9) (N := some 49) (v := ?_) (a' := ?_) #[true, true, false, false, true, false, false, true, false, true, false, false, false, false, false, false, false, false, false, false, false, false, false, false] rfl rfl (any_of HT_.out (by kernel_rfl)) (fun _ _ _ h => h) (Or.inl ⟨by rfl, ?_⟩) ?_ ?_
            rotate_left
            · intro w'
              go_simp
              with_reducible rfl
            rotate_left
            · simp only [Act.put, List.setIfInBounds_toArray, List.set_cons_zero, List.set_cons_succ, i64_w, i32_w]
              rfl
            refine take_ (i := 2) (N := some 42) (v := ?_) (a' := ?_) #[true, true, true, false, true, false, false, true, false, true, false, false, false, false, false, false, false, false, false, false, false, false, false, false] rfl rfl (take_ofW HT_.out HW_.out (by kernel_rfl)) (fun _ _ _ h => h) (Or.inl ⟨by rfl, ?_⟩) hHeld ?_ ?_
            rotate_left
            · rintro w' ⟨s0, s1, s2⟩
              go_simp
              with_reducible rfl
            rotate_left
            · simp only [Act.put, List.setIfInBounds_toArray, List.set_cons_zero, List.set_cons_succ, i64_w, i32_w]
              rfl
            refine take_ (i := 3) (N := some 43) (v := ?_) (a' := ?_) #[true, true, true, true, true, false, false, true, false, true, false, false, false, false, false, false, false, false, false, false, false, false, false, false] rfl rfl (take_ofW HT_.out HW_.out (by kernel_rfl)) (fun _ _ _ h => h) (Or.inl ⟨by rfl, ?_⟩) hHeld ?_ ?_
            rotate_left
            · rintro w' ⟨s0, s1, s2⟩
              go_simp
              with_reducible rfl
            rotate_left
            · simp only [Act.put, List.setIfInBounds_toArray, List.set_cons_zero, List.set_cons_succ, i64_w, i32_w]
              rfl
            refine take_ (i := 6) (N := some 46) (v := ?_) (a' := ?_) #[true, true, true, true, true, false, true, true, false, true, false, false, false, false, false, false, false, false, false, false, false, false, false, false] rfl rfl (take_ofW HT_.out HW_.out (by kernel_rfl)) (fun _ _ _ h => h) (Or.inl ⟨by rfl, ?_⟩) hHeld ?_ ?_
            rotate_left
            · rintro w' ⟨s0, s1, s2⟩
              go_simp
              with_reducible rfl
            rotate_left
            · simp only [Act.put, List.setIfInBounds_toArray, List.set_cons_zero, List.set_cons_succ, i64_w, i32_w]
              rfl
            refine one_ (i := 5) (N := some 45) #[true, true, true, true, true, true, true, true, false, true, false, false, false, false, false, false, false, false, false, false, false, false, false, false] rfl rfl (one_of HT_.out (by kernel_rfl)) (by decide) (fun K hK => ?_)
            refine goes_ Try.func21 (by kernel_rfl) rfl #[.agg #[.slice Ao33 t462.length co33], .agg #[.slice Ao37 t465.length co37], .func (.func 22) #[] #[]] (by rfl) rfl rfl xg ?_
            with_reducible refine (cracknellaw14_Int_int_21_22.calls kj3 (fun k_ => ((((((True ∧ k_ ≠ gb471) ∧ k_ ≠ gb472) ∧ k_ ≠ gb473) ∧ some k_ ≠ (.slice Ao44 t474.length co44 : Value).ownBlock) ∧ some k_ ≠ (.slice Ao45 t477.length co45 : Value).ownBlock) ∧ some k_ ≠ (.slice Ao49 t483.length co49 : Value).ownBlock)) _ _ t462 (fun k_ => ((((((True ∧ k_ ≠ gb471) ∧ k_ ≠ gb472) ∧ k_ ≠ gb473) ∧ some k_ ≠ (.slice Ao44 t474.length co44 : Value).ownBlock) ∧ some k_ ≠ (.slice Ao45 t477.length co45 : Value).ownBlock) ∧ some k_ ≠ (.slice Ao49 t483.length co49 : Value).ownBlock)) _ _ t465 t490 _ ?side1 ?side2 A20.out).mono ?_
            (case side1 => exact HO464.out)
            (case side2 => exact HO467.out)
            rintro e w53 ⟨v491, rfl, ho0, hb⟩
            refine ⟨_, rfl, ?_⟩
            have n0_ := Aside0.mk (Kd.V_elder' (by (with_reducible repeat (first | apply Kd.V_alloc | apply Kd.V_drewN | apply Kd.V_drew)); exact HO464.out) (Kd.R_base ho0) hb)
            have n1_ := Aside0.mk (Kd.V_elder' (by (with_reducible repeat (first | apply Kd.V_alloc | apply Kd.V_drewN | apply Kd.V_drew)); exact HO467.out) (Kd.R_base ho0) hb)
            have n2_ := Aside0.mk (Kd.V_elder' (by (with_reducible repeat (first | apply Kd.V_alloc | apply Kd.V_drewN | apply Kd.V_drew)); exact HO470.out) (Kd.R_base ho0) hb)
            have n3_ := Aside0.mk (Kd.R_below (by (with_reducible repeat (first | apply Kd.R_alloc | apply Kd.R_drewN | apply Kd.R_drew)); exact HO476.out) hb)
            have n4_ := Aside0.mk (Kd.R_below (by (with_reducible repeat (first | apply Kd.R_alloc | apply Kd.R_drewN | apply Kd.R_drew)); exact HO479.out) hb)
            have n5_ := Aside0.mk (Kd.V_elder' (by (with_reducible repeat (first | apply Kd.V_alloc | apply Kd.V_drewN | apply Kd.V_drew)); exact HO482.out) (Kd.R_base ho0) hb)
            have n6_ := Aside0.mk (Kd.R_below (by (with_reducible repeat (first | apply Kd.R_alloc | apply Kd.R_drewN | apply Kd.R_drew)); exact HO485.out) hb)
            have n7_ := Aside0.mk (Kd.V_elder' (by (with_reducible repeat (first | apply Kd.V_alloc | apply Kd.V_drewN | apply Kd.V_drew)); exact HO488.out) (Kd.R_base ho0) hb)
            have n8_ := Aside0.mk (Kd.R_lower (Kd.R_mono (ok' := fun k_ => True) ho0 (fun _ hk_ => trivial)) (below_size xb))
            have n9_ := blkB BK471 hb
            have n10_ := blkB BK472 hb
            have n11_ := blkB BK473 hb
            have n12_ := Aside0.mk (below_step xb hb)
            clear HO464
            clear HO467
            clear HO470
            clear HO476
            clear HO479
            clear HO482
            clear HO485
            clear HO488
            clear BK471
            clear BK472
            clear BK473
            clear HB
            have HO464 := n0_
            have HO467 := n1_
            have HO470 := n2_
            have HO476 := n3_
            have HO479 := n4_
            have HO482 := n5_
            have HO485 := n6_
            have HO488 := n7_
            have HO492 := n8_
            have BK471 := n9_
            have BK472 := n10_
            have BK473 := n11_
            have HB := n12_
            clear n0_ n1_ n2_ n3_ n4_ n5_ n6_ n7_ n8_ n9_ n10_ n11_ n12_
            (try clear hb)
            (try clear hb2)
            (try clear hk)
            (try clear hi)
            (try clear ho0)
            obtain ⟨Ao54, co54, eo54⟩ := Kd.R_slice HO492.out
            (first | subst eo54 | (injection eo54 with f1_ f2_ f3_; have f4_ := f1_.symm; have f5_ := f3_.symm; clear f1_ f2_ f3_; subst f4_; subst f5_))
            refine hK.out _ _ xc (fun hHeld => ?_)
            clear hK K
            refine norm_ (a' := ?_) ?_ ?_
            rotate_left
            · show Act.put _ (some 45) _ = _
              simp only [Act.put, List.setIfInBounds_toArray, List.set_cons_zero, List.set_cons_succ, i64_w, i32_w]
              rfl
            refine one_ (i := 8) (N := some 48) #[true, true, true, true, true, true, true, true, true, true, false, false, false, false, false, false, false, false, false, false, false, false, false, false] rfl rfl (one_of HT_.out (by kernel_rfl)) (by decide) (fun K hK => ?_)
            refine goes_ Try.func21 (by kernel_rfl) rfl #[.agg #[.slice Ao54 t490.length co54], .agg #[.slice Ao40 t468.length co40], .func (.func 22) #[] #[]] (by rfl) rfl rfl xg ?_
            with_reducible refine (cracknellaw14_Int_int_21_22.calls kj3 (fun k_ => some k_ = (.slice Ao54 t490.length co54 : Value).ownBlock) _ _ t490 (fun k_ => (((((((True ∧ k_ ≠ gb471) ∧ k_ ≠ gb472) ∧ k_ ≠ gb473) ∧ some k_ ≠ (.slice Ao44 t474.length co44 : Value).ownBlock) ∧ some k_ ≠ (.slice Ao45 t477.length co45 : Value).ownBlock) ∧ some k_ ≠ (.slice Ao49 t483.length co49 : Value).ownBlock) ∧ some k_ ≠ (.slice Ao54 t490.length co54 : Value).ownBlock)) _ _ t468 t493 _ ?side1 ?side2 A21.out).mono ?_
            (case side1 => exact Kd.R_V (Kd.R_tight rfl (Kd.R_types (Kd.R_types (Kd.R_types (Kd.R_apart' (Kd.R_apart' (Kd.R_apart' (HO492.out) (Kd.R_typed HO476.out) (by decide)) (Kd.R_typed HO479.out) (by decide)) (Kd.R_typed HO485.out) (by decide)) BK471.out (by decide)) BK472.out (by decide)) BK473.out (by decide))))
            (case side2 => exact HO470.out)
            rintro e w55 ⟨v494, rfl, ho0, hb⟩
            refine ⟨_, rfl, ?_⟩
            have n0_ := Aside0.mk (Kd.V_elder' (by (with_reducible repeat (first | apply Kd.V_alloc | apply Kd.V_drewN | apply Kd.V_drew)); exact HO464.out) (Kd.R_base ho0) hb)
            have n1_ := Aside0.mk (Kd.V_elder' (by (with_reducible repeat (first | apply Kd.V_alloc | apply Kd.V_drewN | apply Kd.V_drew)); exact HO467.out) (Kd.R_base ho0) hb)
            have n2_ := Aside0.mk (Kd.V_elder' (by (with_reducible repeat (first | apply Kd.V_alloc | apply Kd.V_drewN | apply Kd.V_drew)); exact HO470.out) (Kd.R_base ho0) hb)
            have n3_ := Aside0.mk (Kd.R_below (by (with_reducible repeat (first | apply Kd.R_alloc | apply Kd.R_drewN | apply Kd.R_drew)); exact HO476.out) hb)
            have n4_ := Aside0.mk (Kd.R_below (by (with_reducible repeat (first | apply Kd.R_alloc | apply Kd.R_drewN | apply Kd.R_drew)); exact HO479.out) hb)
            have n5_ := Aside0.mk (Kd.V_elder' (by (with_reducible repeat (first | apply Kd.V_alloc | apply Kd.V_drewN | apply Kd.V_drew)); exact HO482.out) (Kd.R_base ho0) hb)
            have n6_ := Aside0.mk (Kd.R_below (by (with_reducible repeat (first | apply Kd.R_alloc | apply Kd.R_drewN | apply Kd.R_drew)); exact HO485.out) hb)
            have n7_ := Aside0.mk (Kd.V_elder' (by (with_reducible repeat (first | apply Kd.V_alloc | apply Kd.V_drewN | apply Kd.V_drew)); exact HO488.out) (Kd.R_base ho0) hb)
            have n8_ := Aside0.mk (Kd.R_elder' (by (with_reducible repeat (first | apply Kd.R_alloc | apply Kd.R_drewN | apply Kd.R_drew)); exact HO492.out) (Kd.R_base ho0) hb)
            have n9_ := Aside0.mk (Kd.R_lower (Kd.R_new' (Kd.R_mono (ok' := fun k_ => True) ho0 (fun _ hk_ => trivial)) (Kd.R_lt (by (with_reducible repeat (first | apply Kd.R_alloc | apply Kd.R_drewN | apply Kd.R_drew)); exact HO492.out))) (below_size xb))
            have n10_ := blkB BK471 hb
            have n11_ := blkB BK472 hb
            have n12_ := blkB BK473 hb
            have n13_ := Aside0.mk (below_step xb hb)
            clear HO464
            clear HO467
            clear HO470
            clear HO476
            clear HO479
            clear HO482
            clear HO485
            clear HO488
            clear HO492
            clear BK471
            clear BK472
            clear BK473
            clear HB
            have HO464 := n0_
            have HO467 := n1_
            have HO470 := n2_
            have HO476 := n3_
            have HO479 := n4_
            have HO482 := n5_
            have HO485 := n6_
            have HO488 := n7_
            have HO492 := n8_
            have HO495 := n9_
            have BK471 := n10_
            have BK472 := n11_
            have BK473 := n12_
            have HB := n13_
            clear n0_ n1_ n2_ n3_ n4_ n5_ n6_ n7_ n8_ n9_ n10_ n11_ n12_ n13_
            (try clear hb)
            (try clear hb2)
            (try clear hk)
            (try clear hi)
            (try clear ho0)
            obtain ⟨Ao56, co56, eo56⟩ := Kd.R_slice HO495.out
            (first | subst eo56 | (injection eo56 with f1_ f2_ f3_; have f4_ := f1_.symm; have f5_ := f3_.symm; clear f1_ f2_ f3_; subst f4_; subst f5_))
            obtain ⟨Ao57, co57, eo57⟩ := Kd.V_slice HO488.out
            (first | subst eo57 | (injection eo57 with f1_ f2_ f3_; have f4_ := f1_.symm; have f5_ := f3_.symm; clear f1_ f2_ f3_; subst f4_; subst f5_))
            refine hK.out _ _ xc (fun hHeld => ?_)
            clear hK K
            refine norm_ (a' := ?_) ?_ ?_
            rotate_left
            · show Act.put _ (some 48) _ = _
              simp only [Act.put, List.setIfInBounds_toArray, List.set_cons_zero, List.set_cons_succ, i64_w, i32_w]
              rfl
            refine one_ (i := 10) (N := some 50) #[true, true, true, true, true, true, true, true, true, true, true, false, false, false, false, false, false, false, false, false, false, false, false, false] rfl rfl (one_of HT_.out (by kernel_rfl)) (by decide) (fun K hK => ?_)
            refine goes_ Try.func10 (by kernel_rfl) rfl #[.agg #[.slice Ao56 t493.length co56], .slice Ao57 t486.length co57] (by rfl) rfl rfl xg ?_
            with_reducible refine (law14_same.calls _ _ t493 _ _ t486 true _ ?side1 ?side2 ?side3 ?side4 A22.out).mono ?_
            (case side1 => repeat (first | exact (Kd.R_reads' HO495.out).2.2 | (with_reducible refine Kd.C_alloc ?_ _) | (with_reducible refine Kd.C_drewN ?_ _) | (with_reducible refine Kd.C_drew ?_)))
            (case side2 => exact (Kd.R_reads' HO495.out).2.1)
            (case side3 => repeat (first | exact (Kd.V_reads' HO488.out).2.2 | (with_reducible refine Kd.C_alloc ?_ _) | (with_reducible refine Kd.C_drewN ?_ _) | (with_reducible refine Kd.C_drew ?_)))
            (case side4 => exact (Kd.V_reads' HO488.out).2.1)
            rintro e w58 ⟨rfl, hb⟩
            refine ⟨_, rfl, ?_⟩
            have n0_ := Aside0.mk (Kd.V_below (by (with_reducible repeat (first | apply Kd.V_alloc | apply Kd.V_drewN | apply Kd.V_drew)); exact HO464.out) hb)
            have n1_ := Aside0.mk (Kd.V_below (by (with_reducible repeat (first | apply Kd.V_alloc | apply Kd.V_drewN | apply Kd.V_drew)); exact HO467.out) hb)
            have n2_ := Aside0.mk (Kd.V_below (by (with_reducible repeat (first | apply Kd.V_alloc | apply Kd.V_drewN | apply Kd.V_drew)); exact HO470.out) hb)
            have n3_ := Aside0.mk (Kd.R_below (by (with_reducible repeat (first | apply Kd.R_alloc | apply Kd.R_drewN | apply Kd.R_drew)); exact HO476.out) hb)
            have n4_ := Aside0.mk (Kd.R_below (by (with_reducible repeat (first | apply Kd.R_alloc | apply Kd.R_drewN | apply Kd.R_drew)); exact HO479.out) hb)
            have n5_ := Aside0.mk (Kd.V_below (by (with_reducible repeat (first | apply Kd.V_alloc | apply Kd.V_drewN | apply Kd.V_drew)); exact HO482.out) hb)
            have n6_ := Aside0.mk (Kd.R_below (by (with_reducible repeat (first | apply Kd.R_alloc | apply Kd.R_drewN | apply Kd.R_drew)); exact HO485.out) hb)
            have n7_ := Aside0.mk (Kd.V_below (by (with_reducible repeat (first | apply Kd.V_alloc | apply Kd.V_drewN | apply Kd.V_drew)); exact HO488.out) hb)
            have n8_ := Aside0.mk (Kd.R_below (by (with_reducible repeat (first | apply Kd.R_alloc | apply Kd.R_drewN | apply Kd.R_drew)); exact HO492.out) hb)
            have n9_ := Aside0.mk (Kd.R_below (by (with_reducible repeat (first | apply Kd.R_alloc | apply Kd.R_drewN | apply Kd.R_drew)); exact HO495.out) hb)
            have n10_ := blkB BK471 hb
            have n11_ := blkB BK472 hb
            have n12_ := blkB BK473 hb
            have n13_ := Aside0.mk (below_step xb hb)
            clear HO464
            clear HO467
            clear HO470
            clear HO476
            clear HO479
            clear HO482
            clear HO485
            clear HO488
            clear HO492
            clear HO495
            clear BK471
            clear BK472
            clear BK473
            clear HB
            have HO464 := n0_
            have HO467 := n1_
            have HO470 := n2_
            have HO476 := n3_
            have HO479 := n4_
            have HO482 := n5_
            have HO485 := n6_
            have HO488 := n7_
            have HO492 := n8_
            have HO495 := n9_
            have BK471 := n10_
            have BK472 := n11_
            have BK473 := n12_
            have HB := n13_
            clear n0_ n1_ n2_ n3_ n4_ n5_ n6_ n7_ n8_ n9_ n10_ n11_ n12_ n13_
            (try clear hb)
            (try clear hb2)
            (try clear hk)
            (try clear hi)
            refine hK.out _ _ xc (fun hHeld => ?_)
            clear hK K
            refine norm_ (a' := ?_) ?_ ?_
            rotate_left
            · show Act.put _ (some 50) _ = _
              simp only [Act.put, List.setIfInBounds_toArray, List.set_cons_zero, List.set_cons_succ, i64_w, i32_w]
              rfl
            refine pure_ (i := 11) (N := some 51) (v := ?_) (a' := ?_) #[true, true, true, true, true, true, true, true, true, true, true, true, false, false, false, false, false, false, false, false, false, false, false, false] rfl rfl (any_of HT_.out (by kernel_rfl)) (fun _ _ _ h => h) (Or.inl ⟨by rfl, ?_⟩) ?_ ?_
            rotate_left
            · intro w'
              go_simp
              with_reducible rfl
            rotate_left
            · simp only [Act.put, List.setIfInBounds_toArray, List.set_cons_zero, List.set_cons_succ, i64_w, i32_w]
              rfl
            refine pure_ (i := 12) (N := some 52) (v := ?_) (a' := ?_) #[true, true, true, true, true, true, true, true, true, true, true, true, true, false, false, false, false, false, false, false, false, false, false, false] rfl rfl (any_of HT_.out (by kernel_rfl)) (fun _ _ _ h => h) (Or.inl ⟨by rfl, ?_⟩) ?_ ?_
            rotate_left
            · intro w'
              go_simp
              with_reducible rfl
            rotate_left
            · simp only [Act.put, List.setIfInBounds_toArray, List.set_cons_zero, List.set_cons_succ, i64_w, i32_w]
              rfl
            refine pure_ (i := 16) (N := some 56) (v := ?_) (a' := ?_) #[true, true, true, true, true, true, true, true, true, true, true, true, true, false, false, false, true, false, false, false, false, false, false, false] rfl rfl (any_of HT_.out (by kernel_rfl)) (fun _ _ _ h => h) (Or.inl ⟨by rfl, ?_⟩) ?_ ?_
            rotate_left
            · intro w'
              go_simp
              with_reducible rfl
            rotate_left
            · simp only [Act.put, List.setIfInBounds_toArray, List.set_cons_zero, List.set_cons_succ, i64_w, i32_w]
              rfl
            refine pure_ (i := 18) (N := some 58) (v := ?_) (a' := ?_) #[true, true, true, true, true, true, true, true, true, true, true, true, true, false, false, false, true, false, true, false, false, false, false, false] rfl rfl (any_of HT_.out (by kernel_rfl)) (fun _ _ _ h => h) (Or.inl ⟨by rfl, ?_⟩) ?_ ?_
            rotate_left
            · intro w'
              go_simp
              with_reducible rfl
            rotate_left
            · simp only [Act.put, List.setIfInBounds_toArray, List.set_cons_zero, List.set_cons_succ, i64_w, i32_w]
              rfl
            refine pure_ (i := 20) (N := some 60) (v := ?_) (a' := ?_) #[true, true, true, true, true, true, true, true, true, true, true, true, true, false, false, false, true, false, true, false, true, false, false, false] rfl rfl (any_of HT_.out (by kernel_rfl)) (fun _ _ _ h => h) (Or.inl ⟨by rfl, ?_⟩) ?_ ?_
            rotate_left
            · intro w'
              go_simp
              with_reducible rfl
            rotate_left
            · simp only [Act.put, List.setIfInBounds_toArray, List.set_cons_zero, List.set_cons_succ, i64_w, i32_w]
              rfl
            refine take_ (i := 13) (N := some 53) (v := ?_) (a' := ?_) #[true, true, true, true, true, true, true, true, true, true, true, true, true, true, false, false, true, false, true, false, true, false, false, false] rfl rfl (take_ofW HT_.out HW_.out (by kernel_rfl)) (fun _ _ _ h => h) (Or.inl ⟨by rfl, ?_⟩) hHeld ?_ ?_
            rotate_left
            · rintro w' ⟨s0, s1, s2⟩
              go_simp
              with_reducible rfl
            rotate_left
            · simp only [Act.put, List.setIfInBounds_toArray, List.set_cons_zero, List.set_cons_succ, i64_w, i32_w]
              rfl
            refine take_ (i := 14) (N := some 54) (v := ?_) (a' := ?_) #[true, true, true, true, true, true, true, true, true, true, true, true, true, true, true, false, true, false, true, false, true, false, false, false] rfl rfl (take_ofW HT_.out HW_.out (by kernel_rfl)) (fun _ _ _ h => h) (Or.inl ⟨by rfl, ?_⟩) hHeld ?_ ?_
            rotate_left
            · rintro w' ⟨s0, s1, s2⟩
              go_simp
              with_reducible rfl
            rotate_left
            · simp only [Act.put, List.setIfInBounds_toArray, List.set_cons_zero, List.set_cons_succ, i64_w, i32_w]
              rfl
            refine take_ (i := 15) (N := some 55) (v := ?_) (a' := ?_) #[true, true, true, true, true, true, true, true, true, true, true, true, true, true, true, true, true, false, true, false, true, false, false, false] rfl rfl (take_ofW HT_.out HW_.out (by kernel_rfl)) (fun _ _ _ h => h) (Or.inl ⟨by rfl, ?_⟩) hHeld ?_ ?_
            rotate_left
            · rintro w' ⟨s0, s1, s2⟩
              go_simp
              with_reducible rfl
            rotate_left
            · simp only [Act.put, List.setIfInBounds_toArray, List.set_cons_zero, List.set_cons_succ, i64_w, i32_w]
              rfl
            refine one_ (i := 17) (N := some 57) #[true, true, true, true, true, true, true, true, true, true, true, true, true, true, true, true, true, true, true, false, true, false, false, false] rfl rfl (one_of HT_.out (by kernel_rfl)) (by decide) (fun K hK => ?_)
            refine goes_ Try.func21 (by kernel_rfl) rfl #[.agg #[.slice Ao37 t465.length co37], .agg #[.slice Ao40 t468.length co40], .func (.func 22) #[] #[]] (by rfl) rfl rfl xg ?_
            with_reducible refine (cracknellaw14_Int_int_21_22.calls kj3 (fun k_ => ((((((((True ∧ k_ ≠ gb471) ∧ k_ ≠ gb472) ∧ k_ ≠ gb473) ∧ some k_ ≠ (.slice Ao44 t474.length co44 : Value).ownBlock) ∧ some k_ ≠ (.slice Ao45 t477.length co45 : Value).ownBlock) ∧ some k_ ≠ (.slice Ao49 t483.length co49 : Value).ownBlock) ∧ some k_ ≠ (.slice Ao54 t490.length co54 : Value).ownBlock) ∧ some k_ ≠ (.slice Ao56 t493.length co56 : Value).ownBlock)) _ _ t465 (fun k_ => ((((((((True ∧ k_ ≠ gb471) ∧ k_ ≠ gb472) ∧ k_ ≠ gb473) ∧ some k_ ≠ (.slice Ao44 t474.length co44 : Value).ownBlock) ∧ some k_ ≠ (.slice Ao45 t477.length co45 : Value).ownBlock) ∧ some k_ ≠ (.slice Ao49 t483.length co49 : Value).ownBlock) ∧ some k_ ≠ (.slice Ao54 t490.length co54 : Value).ownBlock) ∧ some k_ ≠ (.slice Ao56 t493.length co56 : Value).ownBlock)) _ _ t468 t497 _ ?side1 ?side2 A24.out).mono ?_
            (case side1 => exact HO467.out)
            (case side2 => exact HO470.out)
            rintro e w59 ⟨v498, rfl, ho0, hb⟩
            refine ⟨_, rfl, ?_⟩
            have n0_ := Aside0.mk (Kd.V_elder' (by (with_reducible repeat (first | apply Kd.V_alloc | apply Kd.V_drewN | apply Kd.V_drew)); exact HO464.out) (Kd.R_base ho0) hb)
            have n1_ := Aside0.mk (Kd.V_elder' (by (with_reducible repeat (first | apply Kd.V_alloc | apply Kd.V_drewN | apply Kd.V_drew)); exact HO467.out) (Kd.R_base ho0) hb)
            have n2_ := Aside0.mk (Kd.V_elder' (by (with_reducible repeat (first | apply Kd.V_alloc | apply Kd.V_drewN | apply Kd.V_drew)); exact HO470.out) (Kd.R_base ho0) hb)
            have n3_ := Aside0.mk (Kd.R_below (by (with_reducible repeat (first | apply Kd.R_alloc | apply Kd.R_drewN | apply Kd.R_drew)); exact HO476.out) hb)
            have n4_ := Aside0.mk (Kd.R_below (by (with_reducible repeat (first | apply Kd.R_alloc | apply Kd.R_drewN | apply Kd.R_drew)); exact HO479.out) hb)
            have n5_ := Aside0.mk (Kd.V_elder' (by (with_reducible repeat (first | apply Kd.V_alloc | apply Kd.V_drewN | apply Kd.V_drew)); exact HO482.out) (Kd.R_base ho0) hb)
            have n6_ := Aside0.mk (Kd.R_below (by (with_reducible repeat (first | apply Kd.R_alloc | apply Kd.R_drewN | apply Kd.R_drew)); exact HO485.out) hb)
            have n7_ := Aside0.mk (Kd.V_elder' (by (with_reducible repeat (first | apply Kd.V_alloc | apply Kd.V_drewN | apply Kd.V_drew)); exact HO488.out) (Kd.R_base ho0) hb)
            have n8_ := Aside0.mk (Kd.R_elder' (by (with_reducible repeat (first | apply Kd.R_alloc | apply Kd.R_drewN | apply Kd.R_drew)); exact HO492.out) (Kd.R_base ho0) hb)
            have n9_ := Aside0.mk (Kd.R_elder' (by (with_reducible repeat (first | apply Kd.R_alloc | apply Kd.R_drewN | apply Kd.R_drew)); exact HO495.out) (Kd.R_base ho0) hb)
            have n10_ := Aside0.mk (Kd.R_lower (Kd.R_new' (Kd.R_new' (Kd.R_mono (ok' := fun k_ => True) ho0 (fun _ hk_ => trivial)) (Kd.R_lt (by (with_reducible repeat (first | apply Kd.R_alloc | apply Kd.R_drewN | apply Kd.R_drew)); exact HO492.out))) (Kd.R_lt (by (with_reducible repeat (first | apply Kd.R_alloc | apply Kd.R_drewN | apply Kd.R_drew)); exact HO495.out))) (below_size xb))
            have n11_ := blkB BK471 hb
            have n12_ := blkB BK472 hb
            have n13_ := blkB BK473 hb
            have n14_ := Aside0.mk (below_step xb hb)
            clear HO464
            clear HO467
            clear HO470
            clear HO476
            clear HO479
            clear HO482
            clear HO485
            clear HO488
            clear HO492
            clear HO495
            clear BK471
            clear BK472
            clear BK473
            clear HB
            have HO464 := n0_
            have HO467 := n1_
            have HO470 := n2_
            have HO476 := n3_
            have HO479 := n4_
            have HO482 := n5_
            have HO485 := n6_
            have HO488 := n7_
            have HO492 := n8_
            have HO495 := n9_
            have HO499 := n10_
            have BK471 := n11_
            have BK472 := n12_
            have BK473 := n13_
            have HB := n14_
            clear n0_ n1_ n2_ n3_ n4_ n5_ n6_ n7_ n8_ n9_ n10_ n11_ n12_ n13_ n14_
            (try clear hb)
            (try clear hb2)
            (try clear hk)
            (try clear hi)
            (try clear ho0)
            obtain ⟨Ao60, co60, eo60⟩ := Kd.R_slice HO499.out
            (first | subst eo60 | (injection eo60 with f1_ f2_ f3_; have f4_ := f1_.symm; have f5_ := f3_.symm; clear f1_ f2_ f3_; subst f4_; subst f5_))
            refine hK.out _ _ xc (fun hHeld => ?_)
            clear hK K
            refine norm_ (a' := ?_) ?_ ?_
            rotate_left
            · show Act.put _ (some 57) _ = _
              simp only [Act.put, List.setIfInBounds_toArray, List.set_cons_zero, List.set_cons_succ, i64_w, i32_w]
              rfl
            refine one_ (i := 19) (N := some 59) #[true, true, true, true, true, true, true, true, true, true, true, true, true, true, true, true, true, true, true, true, true, false, false, false] rfl rfl (one_of HT_.out (by kernel_rfl)) (by decide) (fun K hK => ?_)
            refine goes_ Try.func21 (by kernel_rfl) rfl #[.agg #[.slice Ao33 t462.length co33], .agg #[.slice Ao60 t497.length co60], .func (.func 22) #[] #[]] (by rfl) rfl rfl xg ?_
            with_reducible refine (cracknellaw14_Int_int_21_22.calls kj3 (fun k_ => (((((((((True ∧ k_ ≠ gb471) ∧ k_ ≠ gb472) ∧ k_ ≠ gb473) ∧ some k_ ≠ (.slice Ao44 t474.length co44 : Value).ownBlock) ∧ some k_ ≠ (.slice Ao45 t477.length co45 : Value).ownBlock) ∧ some k_ ≠ (.slice Ao49 t483.length co49 : Value).ownBlock) ∧ some k_ ≠ (.slice Ao54 t490.length co54 : Value).ownBlock) ∧ some k_ ≠ (.slice Ao56 t493.length co56 : Value).ownBlock) ∧ some k_ ≠ (.slice Ao60 t497.length co60 : Value).ownBlock)) _ _ t462 (fun k_ => some k_ = (.slice Ao60 t497.length co60 : Value).ownBlock) _ _ t497 t500 _ ?side1 ?side2 A25.out).mono ?_
            (case side1 => exact HO464.out)
            (case side2 => exact Kd.R_V (Kd.R_tight rfl (Kd.R_types (Kd.R_types (Kd.R_types (Kd.R_apart' (Kd.R_apart' (Kd.R_apart' (HO499.out) (Kd.R_typed HO476.out) (by decide)) (Kd.R_typed HO479.out) (by decide)) (Kd.R_typed HO485.out) (by decide)) BK471.out (by decide)) BK472.out (by decide)) BK473.out (by decide))))
            rintro e w61 ⟨v501, rfl, ho0, hb⟩
            refine ⟨_, rfl, ?_⟩
            have n0_ := Aside0.mk (Kd.V_elder' (by (with_reducible repeat (first | apply Kd.V_alloc | apply Kd.V_drewN | apply Kd.V_drew)); exact HO464.out) (Kd.R_base ho0) hb)
            have n1_ := Aside0.mk (Kd.V_elder' (by (with_reducible repeat (first | apply Kd.V_alloc | apply Kd.V_drewN | apply Kd.V_drew)); exact HO467.out) (Kd.R_base ho0) hb)
            have n2_ := Aside0.mk (Kd.V_elder' (by (with_reducible repeat (first | apply Kd.V_alloc | apply Kd.V_drewN | apply Kd.V_drew)); exact HO470.out) (Kd.R_base ho0) hb)
            have n3_ := Aside0.mk (Kd.R_below (by (with_reducible repeat (first | apply Kd.R_alloc | apply Kd.R_drewN | apply Kd.R_drew)); exact HO476.out) hb)
            have n4_ := Aside0.mk (Kd.R_below (by (with_reducible repeat (first | apply Kd.R_alloc | apply Kd.R_drewN | apply Kd.R_drew)); exact HO479.out) hb)
            have n5_ := Aside0.mk (Kd.V_elder' (by (with_reducible repeat (first | apply Kd.V_alloc | apply Kd.V_drewN | apply Kd.V_drew)); exact HO482.out) (Kd.R_base ho0) hb)
            have n6_ := Aside0.mk (Kd.R_below (by (with_reducible repeat (first | apply Kd.R_alloc | apply Kd.R_drewN | apply Kd.R_drew)); exact HO485.out) hb)
            have n7_ := Aside0.mk (Kd.V_elder' (by (with_reducible repeat (first | apply Kd.V_alloc | apply Kd.V_drewN | apply Kd.V_drew)); exact HO488.out) (Kd.R_base ho0) hb)
            have n8_ := Aside0.mk (Kd.R_elder' (by (with_reducible repeat (first | apply Kd.R_alloc | apply Kd.R_drewN | apply Kd.R_drew)); exact HO492.out) (Kd.R_base ho0) hb)
            have n9_ := Aside0.mk (Kd.R_elder' (by (with_reducible repeat (first | apply Kd.R_alloc | apply Kd.R_drewN | apply Kd.R_drew)); exact HO495.out) (Kd.R_base ho0) hb)
            have n10_ := Aside0.mk (Kd.R_elder' (by (with_reducible repeat (first | apply Kd.R_alloc | apply Kd.R_drewN | apply Kd.R_drew)); exact HO499.out) (Kd.R_base ho0) hb)
            have n11_ := Aside0.mk (Kd.R_lower (Kd.R_new' (Kd.R_new' (Kd.R_new' (Kd.R_mono (ok' := fun k_ => True) ho0 (fun _ hk_ => trivial)) (Kd.R_lt (by (with_reducible repeat (first | apply Kd.R_alloc | apply Kd.R_drewN | apply Kd.R_drew)); exact HO492.out))) (Kd.R_lt (by (with_reducible repeat (first | apply Kd.R_alloc | apply Kd.R_drewN | apply Kd.R_drew)); exact HO495.out))) (Kd.R_lt (by (with_reducible repeat (first | apply Kd.R_alloc | apply Kd.R_drewN | apply Kd.R_drew)); exact HO499.out))) (below_size xb))
            have n12_ := blkB BK471 hb
            have n13_ := blkB BK472 hb
            have n14_ := blkB BK473 hb
            have n15_ := Aside0.mk (below_step xb hb)
            clear HO464
            clear HO467
            clear HO470
            clear HO476
            clear HO479
            clear HO482
            clear HO485
            clear HO488
            clear HO492
            clear HO495
            clear HO499
            clear BK471
            clear BK472
            clear BK473
            clear HB
            have HO464 := n0_
            have HO467 := n1_
            have HO470 := n2_
            have HO476 := n3_
            have HO479 := n4_
            have HO482 := n5_
            have HO485 := n6_
            have HO488 := n7_
            have HO492 := n8_
            have HO495 := n9_
            have HO499 := n10_
            have HO502 := n11_
            have BK471 := n12_
            have BK472 := n13_
            have BK473 := n14_
            have HB := n15_
            clear n0_ n1_ n2_ n3_ n4_ n5_ n6_ n7_ n8_ n9_ n10_ n11_ n12_ n13_ n14_ n15_
            (try clear hb)
            (try clear hb2)
            (try clear hk)
            (try clear hi)
            (try clear ho0)
            obtain ⟨Ao62, co62, eo62⟩ := Kd.R_slice HO502.out
            (first | subst eo62 | (injection eo62 with f1_ f2_ f3_; have f4_ := f1_.symm; have f5_ := f3_.symm; clear f1_ f2_ f3_; subst f4_; subst f5_))
            refine hK.out _ _ xc (fun hHeld => ?_)
            clear hK K
            refine norm_ (a' := ?_) ?_ ?_
            rotate_left
            · show Act.put _ (some 59) _ = _
              simp only [Act.put, List.setIfInBounds_toArray, List.set_cons_zero, List.set_cons_succ, i64_w, i32_w]
              rfl
            refine one_ (i := 21) (N := some 61) #[true, true, true, true, true, true, true, true, true, true, true, true, true, true, true, true, true, true, true, true, true, true, false, false] rfl rfl (one_of HT_.out (by kernel_rfl)) (by decide) (fun K hK => ?_)
            refine goes_ Try.func10 (by kernel_rfl) rfl #[.agg #[.slice Ao62 t500.length co62], .slice Ao57 t486.length co57] (by rfl) rfl rfl xg ?_
            with_reducible refine (law14_same.calls _ _ t500 _ _ t486 t503 _ ?side1 ?side2 ?side3 ?side4 A26.out).mono ?_
            (case side1 => repeat (first | exact (Kd.R_reads' HO502.out).2.2 | (with_reducible refine Kd.C_alloc ?_ _) | (with_reducible refine Kd.C_drewN ?_ _) | (with_reducible refine Kd.C_drew ?_)))
            (case side2 => exact (Kd.R_reads' HO502.out).2.1)
            (case side3 => repeat (first | exact (Kd.V_reads' HO488.out).2.2 | (with_reducible refine Kd.C_alloc ?_ _) | (with_reducible refine Kd.C_drewN ?_ _) | (with_reducible refine Kd.C_drew ?_)))
            (case side4 => exact (Kd.V_reads' HO488.out).2.1)
            rintro e w63 ⟨rfl, hb⟩
            refine ⟨_, rfl, ?_⟩
            have n0_ := Aside0.mk (Kd.V_below (by (with_reducible repeat (first | apply Kd.V_alloc | apply Kd.V_drewN | apply Kd.V_drew)); exact HO464.out) hb)
            have n1_ := Aside0.mk (Kd.V_below (by (with_reducible repeat (first | apply Kd.V_alloc | apply Kd.V_drewN | apply Kd.V_drew)); exact HO467.out) hb)
            have n2_ := Aside0.mk (Kd.V_below (by (with_reducible repeat (first | apply Kd.V_alloc | apply Kd.V_drewN | apply Kd.V_drew)); exact HO470.out) hb)
            have n3_ := Aside0.mk (Kd.R_below (by (with_reducible repeat (first | apply Kd.R_alloc | apply Kd.R_drewN | apply Kd.R_drew)); exact HO476.out) hb)
            have n4_ := Aside0.mk (Kd.R_below (by (with_reducible repeat (first | apply Kd.R_alloc | apply Kd.R_drewN | apply Kd.R_drew)); exact HO479.out) hb)
            have n5_ := Aside0.mk (Kd.V_below (by (with_reducible repeat (first | apply Kd.V_alloc | apply Kd.V_drewN | apply Kd.V_drew)); exact HO482.out) hb)
            have n6_ := Aside0.mk (Kd.R_below (by (with_reducible repeat (first | apply Kd.R_alloc | apply Kd.R_drewN | apply Kd.R_drew)); exact HO485.out) hb)
            have n7_ := Aside0.mk (Kd.V_below (by (with_reducible repeat (first | apply Kd.V_alloc | apply Kd.V_drewN | apply Kd.V_drew)); exact HO488.out) hb)
            have n8_ := Aside0.mk (Kd.R_below (by (with_reducible repeat (first | apply Kd.R_alloc | apply Kd.R_drewN | apply Kd.R_drew)); exact HO492.out) hb)
            have n9_ := Aside0.mk (Kd.R_below (by (with_reducible repeat (first | apply Kd.R_alloc | apply Kd.R_drewN | apply Kd.R_drew)); exact HO495.out) hb)
            have n10_ := Aside0.mk (Kd.R_below (by (with_reducible repeat (first | apply Kd.R_alloc | apply Kd.R_drewN | apply Kd.R_drew)); exact HO499.out) hb)
            have n11_ := Aside0.mk (Kd.R_below (by (with_reducible repeat (first | apply Kd.R_alloc | apply Kd.R_drewN | apply Kd.R_drew)); exact HO502.out) hb)
            have n12_ := blkB BK471 hb
            have n13_ := blkB BK472 hb
            have n14_ := blkB BK473 hb
            have n15_ := Aside0.mk (below_step xb hb)
            clear HO464
            clear HO467
            clear HO470
            clear HO476
            clear HO479
            clear HO482
            clear HO485
            clear HO488
            clear HO492
            clear HO495
            clear HO499
            clear HO502
            clear BK471
            clear BK472
            clear BK473
            clear HB
            have HO464 := n0_
            have HO467 := n1_
            have HO470 := n2_
            have HO476 := n3_
            have HO479 := n4_
            have HO482 := n5_
            have HO485 := n6_
            have HO488 := n7_
            have HO492 := n8_
            have HO495 := n9_
            have HO499 := n10_
            have HO502 := n11_
            have BK471 := n12_
            have BK472 := n13_
            have BK473 := n14_
            have HB := n15_
            clear n0_ n1_ n2_ n3_ n4_ n5_ n6_ n7_ n8_ n9_ n10_ n11_ n12_ n13_ n14_ n15_
            (try clear hb)
            (try clear hb2)
            (try clear hk)
            (try clear hi)
            refine hK.out _ _ xc (fun hHeld => ?_)
            clear hK K
            refine norm_ (a' := ?_) ?_ ?_
            rotate_left
            · show Act.put _ (some 61) _ = _
              simp only [Act.put, List.setIfInBounds_toArray, List.set_cons_zero, List.set_cons_succ, i64_w, i32_w]
              rfl
            refine pure_ (i := 22) (N := some 62) (v := ?_) (a' := ?_) #[true, true, true, true, true, true, true, true, true, true, true, true, true, true, true, true, true, true, true, true, true, true, true, false] rfl rfl (any_of HT_.out (by kernel_rfl)) (fun _ _ _ h => h) (Or.inl ⟨by rfl, ?_⟩) ?_ ?_
            rotate_left
            · intro w'
              go_simp
              with_reducible rfl
            rotate_left
            · simp only [Act.put, List.setIfInBounds_toArray, List.set_cons_zero, List.set_cons_succ, i64_w, i32_w]
              rfl
            refine pure_ (i := 23) (N := some 6) (v := ?_) (a' := ?_) #[true, true, true, true, true, true, true, true, true, true, true, true, true, true, true, true, true, true, true, true, true, true, true, true] rfl rfl (any_of HT_.out (by kernel_rfl)) (fun _ _ _ h => h) (Or.inl ⟨by rfl, ?_⟩) ?_ ?_
            rotate_left
            · intro w'
              go_simp
              with_reducible rfl
            rotate_left
            · simp only [Act.put, List.setIfInBounds_toArray, List.set_cons_zero, List.set_cons_succ, i64_w, i32_w]
              rfl
            refine done_ (done_of HT_.out (by kernel_rfl)) ?_
            try go_wp2
            go_ret
            exact ⟨by first | rfl | (simp [errW_none, errW_some] <;> rfl) | (simp [*, errW_none, errW_some] <;> rfl), by repeat (first | (with_reducible first | exact HB.out | apply below_alloc | apply pw_below_drewN | apply below_drew1 | refine below_set ?_ GE471.out | refine below_set ?_ GE472.out | refine below_set ?_ GE473.out) | exact HB.out)⟩
          · replace c23 := Bool.eq_false_iff.mpr c23
            subst c23
            have H1 : (some false) = some r := by rw [if_neg (show ¬ (false = true) by decide)] at H; exact H
            clear H
            have H := H1
            clear H1
            obtain rfl := Option.some.inj H
            exact absurd hT_.out (by decide)
        · replace c19 := Bool.eq_false_iff.mpr c19
          subst c19
          have H1 : (some false) = some r := by rw [if_neg (show ¬ (false = true) by decide)] at H; exact H
          clear H
          have H := H1
          clear H1
          obtain rfl := Option.some.inj H
          exact absurd hT_.out (by decide)

/-- THE ONE PURE STATEMENT of cracknellaw14_TableThree: yours. -/
def cracknellaw14_TableThree.Pure : Prop := ∀ (l0 : List (S43)) (l1 : List (S43)) (l2 : List (S43)), (∀ x ∈ l0, (Lit.int .i64 x.f0).wf = true ∧ (Lit.int .i64 x.f1).wf = true ∧ (Lit.int .i64 x.f2).wf = true) → (∀ x ∈ l1, (Lit.int .i64 x.f0).wf = true ∧ (Lit.int .i64 x.f1).wf = true ∧ (Lit.int .i64 x.f2).wf = true) → (∀ x ∈ l2, (Lit.int .i64 x.f0).wf = true ∧ (Lit.int .i64 x.f1).wf = true ∧ (Lit.int .i64 x.f2).wf = true) → ∃ k, cracknellaw14_TableThree.f k l0 l1 l2 = some true
theorem cracknellaw14_TableThree.walk (P : cracknellaw14_TableThree.Pure) (A0 : Option Addr) (c0 : Nat) (l0 : List (S43)) (A1 : Option Addr) (c1 : Nat) (l1 : List (S43)) (A2 : Option Addr) (c2 : Nat) (l2 : List (S43)) (w : World) (hr0 : Kd.C k43 w A0 l0.length l0) (hc0 : l0.length ≤ c0) (hw0 : ∀ x ∈ l0, (Lit.int .i64 x.f0).wf = true ∧ (Lit.int .i64 x.f1).wf = true ∧ (Lit.int .i64 x.f2).wf = true) (hr1 : Kd.C k43 w A1 l1.length l1) (hc1 : l1.length ≤ c1) (hw1 : ∀ x ∈ l1, (Lit.int .i64 x.f0).wf = true ∧ (Lit.int .i64 x.f1).wf = true ∧ (Lit.int .i64 x.f2).wf = true) (hr2 : Kd.C k43 w A2 l2.length l2) (hc2 : l2.length ≤ c2) (hw2 : ∀ x ∈ l2, (Lit.int .i64 x.f0).wf = true ∧ (Lit.int .i64 x.f1).wf = true ∧ (Lit.int .i64 x.f2).wf = true) :
    Calls Try.prog 7 #[.slice A0 l0.length c0, .slice A1 l1.length c1, .slice A2 l2.length c2] w fun e w' => e = .returned (.bool true) ∧ Below w.heap.size w w' := by
  obtain ⟨k, h⟩ := P l0 l1 l2 hw0 hw1 hw2
  refine (cracknellaw14_TableThree.calls k _ _ l0 _ _ l1 _ _ l2 true w hr0 hc0 hr1 hc1 hr2 hc2 ⟨rfl⟩ h).mono ?_
  rintro e w' ⟨rfl, hd⟩
  exact ⟨rfl, hd⟩

end Go.Proofs.Ytmpccjkdfdgedaa.Print
