/- Printed by a program of this claim's session (xprint.py): the machine's side: each Go function as a Lean function, and that a call of it comes to what that tells; the row of a statement. No condition. -/
import Derived.Test.YtmpccjkdfdgedaaPrint0
import Derived.Test.YtmpccjkdfdgedaaGsame
import Derived.Test.YtmpccjkdfdgedaaGalive14
import Derived.Test.YtmpccjkdfdgedaaPrint1
import Derived.Test.YtmpccjkdfdgedaaPrint2
import Derived.Test.YtmpccjkdfdgedaaPrint6
import Derived.Test.YtmpccjkdfdgedaaPrint7
namespace Go.Proofs.Ytmpccjkdfdgedaa.Print
open Go.RowKit Go.Proofs.YtmpccjkdfdgedaaW.PrintWords Go.Proofs.YtmpccjkdfdgedaaW.PrintLast Go.Proofs.YtmpccjkdfdgedaaW.PrintMore
attribute [local go_sem] max2_int min2_int max_two min_two max_three min_three max_four min_four   -- for this text's walks alone
set_option linter.unusedVariables false
set_option linter.unusedSimpArgs false

/-! ### cracknellaw14_TableMerges: function 6 -/
def cracknellaw14_TableMerges.j0 : Nat → List (S43) → List (S43) → Bool → Option (Bool)
  | 0, _, _, _ => none
  | k + 1, x0, x1, x16 => if x16 = true then ((law14_alive.f).bind fun t336 => (some t336)) else ((cracknellaw14_made.f k x0).bind fun t337 => ((cracknellaw14_made.f k x1).bind fun t340 => ((cracknellaw14_model.f k x0).bind fun t345 => ((cracknellaw14_model.f k x1).bind fun t348 => ((cracknelref14_Merge.f k t345 t348).bind fun t351 => ((law14_alive.f).bind fun t354 => (if t354 = true then ((cracknellaw14_Int_int_21_19.f k t337 t340).bind fun t355 => ((law14_same.f t355 t351).bind fun t358 => (if t358 = true then ((cracknellaw14_Int_int_21_19.f k t340 t337).bind fun t359 => ((law14_same.f t359 t351).bind fun t362 => (if t362 = true then ((cracknellaw14_Int_int_21_19.f k t337 t337).bind fun t363 => ((cracknellaw14_model.f k x0).bind fun t366 => ((law14_same.f t363 t366).bind fun t369 => (if t369 = true then ((cracknellaw14_model.f k x0).bind fun t370 => ((law14_same.f t337 t370).bind fun t373 => (if t373 = true then ((cracknellaw14_model.f k x1).bind fun t374 => ((law14_same.f t340 t374).bind fun t377 => (some t377))) else (some false)))) else (some false))))) else (some false)))) else (some false)))) else (some false))))))))
def cracknellaw14_TableMerges.f (k : Nat) (l0 : List (S43)) (l1 : List (S43)) : Option (Bool) := if (l0.length : Int) > 40 then (cracknellaw14_TableMerges.j0 k l0 l1 true) else (cracknellaw14_TableMerges.j0 k l0 l1 (decide ((l1.length : Int) > 40)))
theorem cracknellaw14_TableMerges.mono_l : ∀ k, (∀ y0 y1 y2, LeO (cracknellaw14_TableMerges.j0 k y0 y1 y2) (cracknellaw14_TableMerges.j0 (k + 1) y0 y1 y2))
  | 0 => fun _ _ _ r h => by simp [cracknellaw14_TableMerges.j0] at h
  | k + 1 => by
    have ih0 := cracknellaw14_TableMerges.mono_l k
    · intro y0 y1 y2
      unfold cracknellaw14_TableMerges.j0
      repeat' first
      | (with_reducible exact ih0 _ _ _)
      | (with_reducible exact cracknellaw14_Int_int_21_19.mono _ _ _)
      | (with_reducible exact cracknellaw14_made.mono _ _)
      | (with_reducible exact cracknellaw14_model.mono _ _)
      | (with_reducible exact cracknelref14_Merge.mono _ _ _)
      | (with_reducible exact LeO.refl _)
      | (with_reducible exact LeO.none _)
      | (with_reducible refine LeO.ite ?_ ?_)
      | (with_reducible refine LeO.bind ?_ (fun _ => ?_))
      | exact ih0 _ _ _
      | exact cracknellaw14_Int_int_21_19.mono _ _ _
      | exact cracknellaw14_made.mono _ _
      | exact cracknellaw14_model.mono _ _
      | exact cracknelref14_Merge.mono _ _ _
      | exact LeO.none _
      | refine LeO.ite ?_ ?_
      | refine LeO.bind ?_ (fun _ => ?_)
theorem cracknellaw14_TableMerges.mono : ∀ a0 a1 k, LeO (cracknellaw14_TableMerges.f k a0 a1) (cracknellaw14_TableMerges.f (k + 1) a0 a1) := by
  intro a0 a1 k
  have ih0 := cracknellaw14_TableMerges.mono_l k
  unfold cracknellaw14_TableMerges.f
  repeat' first
      | (with_reducible exact ih0 _ _ _)
      | (with_reducible exact cracknellaw14_Int_int_21_19.mono _ _ _)
      | (with_reducible exact cracknellaw14_made.mono _ _)
      | (with_reducible exact cracknellaw14_model.mono _ _)
      | (with_reducible exact cracknelref14_Merge.mono _ _ _)
      | (with_reducible exact LeO.refl _)
      | (with_reducible exact LeO.none _)
      | (with_reducible refine LeO.ite ?_ ?_)
      | (with_reducible refine LeO.bind ?_ (fun _ => ?_))
      | exact ih0 _ _ _
      | exact cracknellaw14_Int_int_21_19.mono _ _ _
      | exact cracknellaw14_made.mono _ _
      | exact cracknellaw14_model.mono _ _
      | exact cracknelref14_Merge.mono _ _ _
      | exact LeO.none _
      | refine LeO.ite ?_ ?_
      | refine LeO.bind ?_ (fun _ => ?_)
def cracknellaw14_TableMerges.T6 : Bool × List (List Nat × List Nat) := (true, [([], []), ([0, 0], [0]), ([1], [1]), ([1], [1]), ([1], [1]), ([2, 3, 4, 1, 1], [1, 2, 3, 4]), ([1], [1]), ([5, 6, 5, 1], [1, 5, 6]), ([1, 7], [1, 7]), ([8, 7], [8]), ([9], [9]), ([9], [9]), ([9], [9]), ([10, 11, 12, 9, 9], [9, 10, 11, 12]), ([9], [9]), ([13, 14, 13, 9], [9, 13, 14]), ([9, 15], [9, 15]), ([16, 15], [16]), ([17], [17]), ([17], [17]), ([17], [17]), ([18, 19, 20, 17, 17], [17, 18, 19, 20]), ([17], [17]), ([22, 21, 17], [17, 22]), ([21, 23, 23, 17], [17, 21, 23]), ([17, 24], [17, 24]), ([25, 24], [25]), ([26], [26]), ([26], [26]), ([28, 26, 26], [26, 28]), ([27, 29, 29, 26], [26, 27, 29]), ([26, 30], [26, 30]), ([31, 30], [31]), ([32], [32]), ([32], [32]), ([34, 32, 32], [32, 34]), ([33, 35, 35, 32], [32, 33, 35]), ([32, 36], [32, 36]), ([37, 36, 0, 1, 2, 3, 4, 5, 6, 7, 8, 9, 10, 11, 12, 13, 14, 15, 16, 17, 18, 19, 20, 21, 22, 23, 24, 25, 26, 27, 28, 29, 30, 31, 32, 33, 34, 35, 36, 37], [37])])
def cracknellaw14_TableMerges.B6 : List Nat := [0, 1, 3, 3, 3, 31, 3, 127, 255, 511, 1023, 1023, 1023, 8191, 1023, 32767, 65535, 131071, 262143, 262143, 262143, 2097151, 262143, 8388607, 16777215, 33554431, 67108863, 134217727, 134217727, 402653183, 1073741823, 2147483647, 4294967295, 8589934591, 8589934591, 25769803775, 68719476735, 137438953471, 274877906943]
theorem cracknellaw14_TableMerges.tab6 : rtab .any (opsOf Try.f6 6) = cracknellaw14_TableMerges.T6 := by kernel_rfl
theorem cracknellaw14_TableMerges.bits6 : waitsOk cracknellaw14_TableMerges.T6.2 cracknellaw14_TableMerges.B6 = true := by kernel_rfl
set_option maxHeartbeats 8000000 in
set_option maxRecDepth 100000 in
theorem cracknellaw14_TableMerges.calls (k : Nat) (A0 : Option Addr) (c0 : Nat) (l0 : List (S43)) (A1 : Option Addr) (c1 : Nat) (l1 : List (S43)) (r : Bool) (w : World) (hr0 : Kd.C k43 w A0 l0.length l0) (hc0 : l0.length ≤ c0) (hr1 : Kd.C k43 w A1 l1.length l1) (hc1 : l1.length ≤ c1) (hT_ : Aside0 (r = true)) (h : cracknellaw14_TableMerges.f k l0 l1 = some r) :
    Calls Try.prog 6 #[.slice A0 l0.length c0, .slice A1 l1.length c1] w fun e w' => e = .returned (.bool r) ∧ Below w.heap.size w w' := by
  have hu27 := Try.underlying27
  have HR0 := Aside0.mk hr0
  have HC0 := Aside0.mk hc0
  clear hr0 hc0
  have HR1 := Aside0.mk hr1
  have HC1 := Aside0.mk hc1
  clear hr1 hc1
  have HB := Aside0.mk (Below.refl w.heap.size w)
  have H : (if (l0.length : Int) > 40 then (cracknellaw14_TableMerges.j0 k l0 l1 true) else (cracknellaw14_TableMerges.j0 k l0 l1 (decide ((l1.length : Int) > 40)))) = some r := h
  clear h
  have HC3 := Aside0.mk H
  clear H
  go_enter Try.func6, Try.ntmps6
  go_upto_region 1 with (fail)
  go_cut [16] (fun v16 wc => ∃ (kq : Nat) (x16_2 : Bool), v16 = .bool x16_2 ∧ Aside0 (cracknellaw14_TableMerges.j0 kq l0 l1 x16_2 = some r) ∧ Aside0 (kq ≤ k) ∧ Aside0 (Below w.heap.size w wc))
  case first =>
    have H := HC3.out
    clear HC3
    by_cases c4 : (l0.length : Int) > 40
    · rw [if_pos c4] at H
      have c4b0 : decide (40 < (l0.length : Int)) = true := decide_eq_true c4
      have c4b1 : decide (40 < l0.length) = true := decide_eq_true (by omega)
      clear c4
      (first | rw [c4b0] | (simp only [i64_w, i32_w]; rw [c4b0]) | skip)
      have H' := Aside0.mk H
      clear H
      go_wp2
      go_meet
      case rel => exact ⟨_, (true), (by first | rfl | (simp; done) | (simp [*]; done)), H', ⟨by first | omega | exact Nat.le_refl _⟩, ⟨xb⟩⟩
    · rw [if_neg c4] at H
      have c4b0 : decide (40 < (l0.length : Int)) = false := decide_eq_false c4
      have c4b1 : decide (40 < l0.length) = false := decide_eq_false (by omega)
      clear c4
      (first | rw [c4b0] | (simp only [i64_w, i32_w]; rw [c4b0]) | skip)
      have H' := Aside0.mk H
      clear H
      go_wp2
      go_meet
      case rel => exact ⟨_, (decide ((l1.length : Int) > 40)), (by first | rfl | (simp; done) | (simp [*]; done)), H', ⟨by first | omega | exact Nat.le_refl _⟩, ⟨xb⟩⟩
  case rest =>
    clear HC3
    try clear c1
    try clear p2
    try clear c4
    try clear c4b0
    try clear c4b1
    obtain ⟨kq, x16_2, rfl, HA, HJ2, HB⟩ := hcut
    cases kq with
    | zero => exact absurd HA.out (by simp [cracknellaw14_TableMerges.j0])
    | succ kj2 =>
      have H := HA.out
      clear HA
      simp only [cracknellaw14_TableMerges.j0] at H
      by_cases c5 : x16_2 = true
      · subst c5
        have H1 : ((law14_alive.f).bind fun t336 => (some t336)) = some r := by rw [if_pos rfl] at H; exact H
        clear H
        have H := H1
        clear H1
        replace H := Option.bind_eq_some_iff.mp H
        obtain ⟨t336, A60, H⟩ := H
        replace H : (some t336) = some r := H
        have A6 := Aside0.mk A60
        clear A60
        obtain rfl := Option.some.inj H
        go_wp2_with (first | ((with_reducible refine gate_callee (f := 9) rfl ?_); refine goesL_ (some 17) rfl rfl Try.func9 (by kernel_rfl) rfl #[] rfl xg ?_; (with_reducible refine (law14_alive.calls  t336 _ A6.out).mono ?_); rintro e w7 ⟨rfl, hb⟩; refine ⟨_, rfl, ?_⟩; have n0_ := Aside0.mk (below_step xb hb); clear HB; have HB := n0_; clear n0_; (try clear hb); (try clear hb2); (try clear hk); (try clear hi)))
        go_ret
        exact ⟨by first | rfl | (simp [errW_none, errW_some] <;> rfl) | (simp [*, errW_none, errW_some] <;> rfl), by repeat (first | (with_reducible first | exact HB.out | apply below_alloc | apply pw_below_drewN | apply below_drew1) | exact HB.out)⟩
      · replace c5 := Bool.eq_false_iff.mpr c5
        subst c5
        have H1 : ((cracknellaw14_made.f kj2 l0).bind fun t337 => ((cracknellaw14_made.f kj2 l1).bind fun t340 => ((cracknellaw14_model.f kj2 l0).bind fun t345 => ((cracknellaw14_model.f kj2 l1).bind fun t348 => ((cracknelref14_Merge.f kj2 t345 t348).bind fun t351 => ((law14_alive.f).bind fun t354 => (if t354 = true then ((cracknellaw14_Int_int_21_19.f kj2 t337 t340).bind fun t355 => ((law14_same.f t355 t351).bind fun t358 => (if t358 = true then ((cracknellaw14_Int_int_21_19.f kj2 t340 t337).bind fun t359 => ((law14_same.f t359 t351).bind fun t362 => (if t362 = true then ((cracknellaw14_Int_int_21_19.f kj2 t337 t337).bind fun t363 => ((cracknellaw14_model.f kj2 l0).bind fun t366 => ((law14_same.f t363 t366).bind fun t369 => (if t369 = true then ((cracknellaw14_model.f kj2 l0).bind fun t370 => ((law14_same.f t337 t370).bind fun t373 => (if t373 = true then ((cracknellaw14_model.f kj2 l1).bind fun t374 => ((law14_same.f t340 t374).bind fun t377 => (some t377))) else (some false)))) else (some false))))) else (some false)))) else (some false)))) else (some false)))))))) = some r := by rw [if_neg (show ¬ (false = true) by decide)] at H; exact H
        clear H
        have H := H1
        clear H1
        replace H := Option.bind_eq_some_iff.mp H
        obtain ⟨t337, A80, H⟩ := H
        replace H : ((cracknellaw14_made.f kj2 l1).bind fun t340 => ((cracknellaw14_model.f kj2 l0).bind fun t345 => ((cracknellaw14_model.f kj2 l1).bind fun t348 => ((cracknelref14_Merge.f kj2 t345 t348).bind fun t351 => ((law14_alive.f).bind fun t354 => (if t354 = true then ((cracknellaw14_Int_int_21_19.f kj2 t337 t340).bind fun t355 => ((law14_same.f t355 t351).bind fun t358 => (if t358 = true then ((cracknellaw14_Int_int_21_19.f kj2 t340 t337).bind fun t359 => ((law14_same.f t359 t351).bind fun t362 => (if t362 = true then ((cracknellaw14_Int_int_21_19.f kj2 t337 t337).bind fun t363 => ((cracknellaw14_model.f kj2 l0).bind fun t366 => ((law14_same.f t363 t366).bind fun t369 => (if t369 = true then ((cracknellaw14_model.f kj2 l0).bind fun t370 => ((law14_same.f t337 t370).bind fun t373 => (if t373 = true then ((cracknellaw14_model.f kj2 l1).bind fun t374 => ((law14_same.f t340 t374).bind fun t377 => (some t377))) else (some false)))) else (some false))))) else (some false)))) else (some false)))) else (some false))))))) = some r := H
        have A8 := Aside0.mk A80
        clear A80
        replace H := Option.bind_eq_some_iff.mp H
        obtain ⟨t340, A90, H⟩ := H
        replace H : ((cracknellaw14_model.f kj2 l0).bind fun t345 => ((cracknellaw14_model.f kj2 l1).bind fun t348 => ((cracknelref14_Merge.f kj2 t345 t348).bind fun t351 => ((law14_alive.f).bind fun t354 => (if t354 = true then ((cracknellaw14_Int_int_21_19.f kj2 t337 t340).bind fun t355 => ((law14_same.f t355 t351).bind fun t358 => (if t358 = true then ((cracknellaw14_Int_int_21_19.f kj2 t340 t337).bind fun t359 => ((law14_same.f t359 t351).bind fun t362 => (if t362 = true then ((cracknellaw14_Int_int_21_19.f kj2 t337 t337).bind fun t363 => ((cracknellaw14_model.f kj2 l0).bind fun t366 => ((law14_same.f t363 t366).bind fun t369 => (if t369 = true then ((cracknellaw14_model.f kj2 l0).bind fun t370 => ((law14_same.f t337 t370).bind fun t373 => (if t373 = true then ((cracknellaw14_model.f kj2 l1).bind fun t374 => ((law14_same.f t340 t374).bind fun t377 => (some t377))) else (some false)))) else (some false))))) else (some false)))) else (some false)))) else (some false)))))) = some r := H
        have A9 := Aside0.mk A90
        clear A90
        replace H := Option.bind_eq_some_iff.mp H
        obtain ⟨t345, A100, H⟩ := H
        replace H : ((cracknellaw14_model.f kj2 l1).bind fun t348 => ((cracknelref14_Merge.f kj2 t345 t348).bind fun t351 => ((law14_alive.f).bind fun t354 => (if t354 = true then ((cracknellaw14_Int_int_21_19.f kj2 t337 t340).bind fun t355 => ((law14_same.f t355 t351).bind fun t358 => (if t358 = true then ((cracknellaw14_Int_int_21_19.f kj2 t340 t337).bind fun t359 => ((law14_same.f t359 t351).bind fun t362 => (if t362 = true then ((cracknellaw14_Int_int_21_19.f kj2 t337 t337).bind fun t363 => ((cracknellaw14_model.f kj2 l0).bind fun t366 => ((law14_same.f t363 t366).bind fun t369 => (if t369 = true then ((cracknellaw14_model.f kj2 l0).bind fun t370 => ((law14_same.f t337 t370).bind fun t373 => (if t373 = true then ((cracknellaw14_model.f kj2 l1).bind fun t374 => ((law14_same.f t340 t374).bind fun t377 => (some t377))) else (some false)))) else (some false))))) else (some false)))) else (some false)))) else (some false))))) = some r := H
        have A10 := Aside0.mk A100
        clear A100
        replace H := Option.bind_eq_some_iff.mp H
        obtain ⟨t348, A110, H⟩ := H
        replace H : ((cracknelref14_Merge.f kj2 t345 t348).bind fun t351 => ((law14_alive.f).bind fun t354 => (if t354 = true then ((cracknellaw14_Int_int_21_19.f kj2 t337 t340).bind fun t355 => ((law14_same.f t355 t351).bind fun t358 => (if t358 = true then ((cracknellaw14_Int_int_21_19.f kj2 t340 t337).bind fun t359 => ((law14_same.f t359 t351).bind fun t362 => (if t362 = true then ((cracknellaw14_Int_int_21_19.f kj2 t337 t337).bind fun t363 => ((cracknellaw14_model.f kj2 l0).bind fun t366 => ((law14_same.f t363 t366).bind fun t369 => (if t369 = true then ((cracknellaw14_model.f kj2 l0).bind fun t370 => ((law14_same.f t337 t370).bind fun t373 => (if t373 = true then ((cracknellaw14_model.f kj2 l1).bind fun t374 => ((law14_same.f t340 t374).bind fun t377 => (some t377))) else (some false)))) else (some false))))) else (some false)))) else (some false)))) else (some false)))) = some r := H
        have A11 := Aside0.mk A110
        clear A110
        replace H := Option.bind_eq_some_iff.mp H
        obtain ⟨t351, A120, H⟩ := H
        replace H : ((law14_alive.f).bind fun t354 => (if t354 = true then ((cracknellaw14_Int_int_21_19.f kj2 t337 t340).bind fun t355 => ((law14_same.f t355 t351).bind fun t358 => (if t358 = true then ((cracknellaw14_Int_int_21_19.f kj2 t340 t337).bind fun t359 => ((law14_same.f t359 t351).bind fun t362 => (if t362 = true then ((cracknellaw14_Int_int_21_19.f kj2 t337 t337).bind fun t363 => ((cracknellaw14_model.f kj2 l0).bind fun t366 => ((law14_same.f t363 t366).bind fun t369 => (if t369 = true then ((cracknellaw14_model.f kj2 l0).bind fun t370 => ((law14_same.f t337 t370).bind fun t373 => (if t373 = true then ((cracknellaw14_model.f kj2 l1).bind fun t374 => ((law14_same.f t340 t374).bind fun t377 => (some t377))) else (some false)))) else (some false))))) else (some false)))) else (some false)))) else (some false))) = some r := H
        have A12 := Aside0.mk A120
        clear A120
        replace H := Option.bind_eq_some_iff.mp H
        obtain ⟨t354, A130, H⟩ := H
        replace H : (if t354 = true then ((cracknellaw14_Int_int_21_19.f kj2 t337 t340).bind fun t355 => ((law14_same.f t355 t351).bind fun t358 => (if t358 = true then ((cracknellaw14_Int_int_21_19.f kj2 t340 t337).bind fun t359 => ((law14_same.f t359 t351).bind fun t362 => (if t362 = true then ((cracknellaw14_Int_int_21_19.f kj2 t337 t337).bind fun t363 => ((cracknellaw14_model.f kj2 l0).bind fun t366 => ((law14_same.f t363 t366).bind fun t369 => (if t369 = true then ((cracknellaw14_model.f kj2 l0).bind fun t370 => ((law14_same.f t337 t370).bind fun t373 => (if t373 = true then ((cracknellaw14_model.f kj2 l1).bind fun t374 => ((law14_same.f t340 t374).bind fun t377 => (some t377))) else (some false)))) else (some false))))) else (some false)))) else (some false)))) else (some false)) = some r := H
        have A13 := Aside0.mk A130
        clear A130
        by_cases c14 : t354 = true
        · subst c14
          have H1 : ((cracknellaw14_Int_int_21_19.f kj2 t337 t340).bind fun t355 => ((law14_same.f t355 t351).bind fun t358 => (if t358 = true then ((cracknellaw14_Int_int_21_19.f kj2 t340 t337).bind fun t359 => ((law14_same.f t359 t351).bind fun t362 => (if t362 = true then ((cracknellaw14_Int_int_21_19.f kj2 t337 t337).bind fun t363 => ((cracknellaw14_model.f kj2 l0).bind fun t366 => ((law14_same.f t363 t366).bind fun t369 => (if t369 = true then ((cracknellaw14_model.f kj2 l0).bind fun t370 => ((law14_same.f t337 t370).bind fun t373 => (if t373 = true then ((cracknellaw14_model.f kj2 l1).bind fun t374 => ((law14_same.f t340 t374).bind fun t377 => (some t377))) else (some false)))) else (some false))))) else (some false)))) else (some false)))) = some r := by rw [if_pos rfl] at H; exact H
          clear H
          have H := H1
          clear H1
          replace H := Option.bind_eq_some_iff.mp H
          obtain ⟨t355, A150, H⟩ := H
          replace H : ((law14_same.f t355 t351).bind fun t358 => (if t358 = true then ((cracknellaw14_Int_int_21_19.f kj2 t340 t337).bind fun t359 => ((law14_same.f t359 t351).bind fun t362 => (if t362 = true then ((cracknellaw14_Int_int_21_19.f kj2 t337 t337).bind fun t363 => ((cracknellaw14_model.f kj2 l0).bind fun t366 => ((law14_same.f t363 t366).bind fun t369 => (if t369 = true then ((cracknellaw14_model.f kj2 l0).bind fun t370 => ((law14_same.f t337 t370).bind fun t373 => (if t373 = true then ((cracknellaw14_model.f kj2 l1).bind fun t374 => ((law14_same.f t340 t374).bind fun t377 => (some t377))) else (some false)))) else (some false))))) else (some false)))) else (some false))) = some r := H
          have A15 := Aside0.mk A150
          clear A150
          replace H := Option.bind_eq_some_iff.mp H
          obtain ⟨t358, A160, H⟩ := H
          replace H : (if t358 = true then ((cracknellaw14_Int_int_21_19.f kj2 t340 t337).bind fun t359 => ((law14_same.f t359 t351).bind fun t362 => (if t362 = true then ((cracknellaw14_Int_int_21_19.f kj2 t337 t337).bind fun t363 => ((cracknellaw14_model.f kj2 l0).bind fun t366 => ((law14_same.f t363 t366).bind fun t369 => (if t369 = true then ((cracknellaw14_model.f kj2 l0).bind fun t370 => ((law14_same.f t337 t370).bind fun t373 => (if t373 = true then ((cracknellaw14_model.f kj2 l1).bind fun t374 => ((law14_same.f t340 t374).bind fun t377 => (some t377))) else (some false)))) else (some false))))) else (some false)))) else (some false)) = some r := H
          have A16 := Aside0.mk A160
          clear A160
          by_cases c17 : t358 = true
          · subst c17
            have H1 : ((cracknellaw14_Int_int_21_19.f kj2 t340 t337).bind fun t359 => ((law14_same.f t359 t351).bind fun t362 => (if t362 = true then ((cracknellaw14_Int_int_21_19.f kj2 t337 t337).bind fun t363 => ((cracknellaw14_model.f kj2 l0).bind fun t366 => ((law14_same.f t363 t366).bind fun t369 => (if t369 = true then ((cracknellaw14_model.f kj2 l0).bind fun t370 => ((law14_same.f t337 t370).bind fun t373 => (if t373 = true then ((cracknellaw14_model.f kj2 l1).bind fun t374 => ((law14_same.f t340 t374).bind fun t377 => (some t377))) else (some false)))) else (some false))))) else (some false)))) = some r := by rw [if_pos rfl] at H; exact H
            clear H
            have H := H1
            clear H1
            replace H := Option.bind_eq_some_iff.mp H
            obtain ⟨t359, A180, H⟩ := H
            replace H : ((law14_same.f t359 t351).bind fun t362 => (if t362 = true then ((cracknellaw14_Int_int_21_19.f kj2 t337 t337).bind fun t363 => ((cracknellaw14_model.f kj2 l0).bind fun t366 => ((law14_same.f t363 t366).bind fun t369 => (if t369 = true then ((cracknellaw14_model.f kj2 l0).bind fun t370 => ((law14_same.f t337 t370).bind fun t373 => (if t373 = true then ((cracknellaw14_model.f kj2 l1).bind fun t374 => ((law14_same.f t340 t374).bind fun t377 => (some t377))) else (some false)))) else (some false))))) else (some false))) = some r := H
            have A18 := Aside0.mk A180
            clear A180
            replace H := Option.bind_eq_some_iff.mp H
            obtain ⟨t362, A190, H⟩ := H
            replace H : (if t362 = true then ((cracknellaw14_Int_int_21_19.f kj2 t337 t337).bind fun t363 => ((cracknellaw14_model.f kj2 l0).bind fun t366 => ((law14_same.f t363 t366).bind fun t369 => (if t369 = true then ((cracknellaw14_model.f kj2 l0).bind fun t370 => ((law14_same.f t337 t370).bind fun t373 => (if t373 = true then ((cracknellaw14_model.f kj2 l1).bind fun t374 => ((law14_same.f t340 t374).bind fun t377 => (some t377))) else (some false)))) else (some false))))) else (some false)) = some r := H
            have A19 := Aside0.mk A190
            clear A190
            by_cases c20 : t362 = true
            · subst c20
              have H1 : ((cracknellaw14_Int_int_21_19.f kj2 t337 t337).bind fun t363 => ((cracknellaw14_model.f kj2 l0).bind fun t366 => ((law14_same.f t363 t366).bind fun t369 => (if t369 = true then ((cracknellaw14_model.f kj2 l0).bind fun t370 => ((law14_same.f t337 t370).bind fun t373 => (if t373 = true then ((cracknellaw14_model.f kj2 l1).bind fun t374 => ((law14_same.f t340 t374).bind fun t377 => (some t377))) else (some false)))) else (some false))))) = some r := by rw [if_pos rfl] at H; exact H
              clear H
              have H := H1
              clear H1
              replace H := Option.bind_eq_some_iff.mp H
              obtain ⟨t363, A210, H⟩ := H
              replace H : ((cracknellaw14_model.f kj2 l0).bind fun t366 => ((law14_same.f t363 t366).bind fun t369 => (if t369 = true then ((cracknellaw14_model.f kj2 l0).bind fun t370 => ((law14_same.f t337 t370).bind fun t373 => (if t373 = true then ((cracknellaw14_model.f kj2 l1).bind fun t374 => ((law14_same.f t340 t374).bind fun t377 => (some t377))) else (some false)))) else (some false)))) = some r := H
              have A21 := Aside0.mk A210
              clear A210
              replace H := Option.bind_eq_some_iff.mp H
              obtain ⟨t366, A220, H⟩ := H
              replace H : ((law14_same.f t363 t366).bind fun t369 => (if t369 = true then ((cracknellaw14_model.f kj2 l0).bind fun t370 => ((law14_same.f t337 t370).bind fun t373 => (if t373 = true then ((cracknellaw14_model.f kj2 l1).bind fun t374 => ((law14_same.f t340 t374).bind fun t377 => (some t377))) else (some false)))) else (some false))) = some r := H
              have A22 := Aside0.mk A220
              clear A220
              replace H := Option.bind_eq_some_iff.mp H
              obtain ⟨t369, A230, H⟩ := H
              replace H : (if t369 = true then ((cracknellaw14_model.f kj2 l0).bind fun t370 => ((law14_same.f t337 t370).bind fun t373 => (if t373 = true then ((cracknellaw14_model.f kj2 l1).bind fun t374 => ((law14_same.f t340 t374).bind fun t377 => (some t377))) else (some false)))) else (some false)) = some r := H
              have A23 := Aside0.mk A230
              clear A230
              by_cases c24 : t369 = true
              · subst c24
                have H1 : ((cracknellaw14_model.f kj2 l0).bind fun t370 => ((law14_same.f t337 t370).bind fun t373 => (if t373 = true then ((cracknellaw14_model.f kj2 l1).bind fun t374 => ((law14_same.f t340 t374).bind fun t377 => (some t377))) else (some false)))) = some r := by rw [if_pos rfl] at H; exact H
                clear H
                have H := H1
                clear H1
                replace H := Option.bind_eq_some_iff.mp H
                obtain ⟨t370, A250, H⟩ := H
                replace H : ((law14_same.f t337 t370).bind fun t373 => (if t373 = true then ((cracknellaw14_model.f kj2 l1).bind fun t374 => ((law14_same.f t340 t374).bind fun t377 => (some t377))) else (some false))) = some r := H
                have A25 := Aside0.mk A250
                clear A250
                replace H := Option.bind_eq_some_iff.mp H
                obtain ⟨t373, A260, H⟩ := H
                replace H : (if t373 = true then ((cracknellaw14_model.f kj2 l1).bind fun t374 => ((law14_same.f t340 t374).bind fun t377 => (some t377))) else (some false)) = some r := H
                have A26 := Aside0.mk A260
                clear A260
                by_cases c27 : t373 = true
                · subst c27
                  have H1 : ((cracknellaw14_model.f kj2 l1).bind fun t374 => ((law14_same.f t340 t374).bind fun t377 => (some t377))) = some r := by rw [if_pos rfl] at H; exact H
                  clear H
                  have H := H1
                  clear H1
                  replace H := Option.bind_eq_some_iff.mp H
                  obtain ⟨t374, A280, H⟩ := H
                  replace H : ((law14_same.f t340 t374).bind fun t377 => (some t377)) = some r := H
                  have A28 := Aside0.mk A280
                  clear A280
                  replace H := Option.bind_eq_some_iff.mp H
                  obtain ⟨t377, A290, H⟩ := H
                  replace H : (some t377) = some r := H
                  have A29 := Aside0.mk A290
                  clear A290
                  obtain rfl := Option.some.inj H
                  try go_wp2_with (first | ((with_reducible refine gate_callee (f := 11) rfl ?_); refine goesL_ (some 19) rfl rfl Try.func11 (by kernel_rfl) rfl #[.slice A0 l0.length c0] rfl xg ?_; (with_reducible refine (cracknellaw14_made.calls kj2 _ _ l0 t337 _ ?side1 ?side2 A8.out).mono ?_); (case side1 => repeat (first | exact (Kd.C_below HR0.out HB.out) | (with_reducible refine Kd.C_alloc ?_ _) | (with_reducible refine Kd.C_drewN ?_ _) | (with_reducible refine Kd.C_drew ?_))); (case side2 => exact HC0.out); rintro e w30 ⟨v338, rfl, ho0, hb⟩; refine ⟨_, rfl, ?_⟩; have n0_ := Aside0.mk (Kd.V_lower (Kd.V_mono (ok' := fun k_ => True) ho0 (fun k_ hk_ => trivial)) (below_size xb)); have n1_ := Aside0.mk (below_step xb hb); clear HB; have HO339 := n0_; have HB := n1_; clear n0_ n1_; (try clear hb); (try clear hb2); (try clear hk); (try clear hi); (try clear ho0)) | ((with_reducible refine gate_callee (f := 11) rfl ?_); refine goesL_ (some 21) rfl rfl Try.func11 (by kernel_rfl) rfl #[.slice A1 l1.length c1] rfl xg ?_; (with_reducible refine (cracknellaw14_made.calls kj2 _ _ l1 t340 _ ?side1 ?side2 A9.out).mono ?_); (case side1 => repeat (first | exact (Kd.C_below HR1.out HB.out) | (with_reducible refine Kd.C_alloc ?_ _) | (with_reducible refine Kd.C_drewN ?_ _) | (with_reducible refine Kd.C_drew ?_))); (case side2 => exact HC1.out); rintro e w31 ⟨v341, rfl, ho0, hb⟩; refine ⟨_, rfl, ?_⟩; have n0_ := Aside0.mk (Kd.V_below (by (with_reducible repeat (first | apply Kd.V_alloc | apply Kd.V_drewN | apply Kd.V_drew)); exact HO339.out) hb); have n1_ := Aside0.mk (Kd.V_lower (Kd.V_mono (ok' := fun k_ => True) ho0 (fun k_ hk_ => trivial)) (below_size xb)); have n2_ := Aside0.mk (below_step xb hb); clear HO339; clear HB; have HO339 := n0_; have HO342 := n1_; have HB := n2_; clear n0_ n1_ n2_; (try clear hb); (try clear hb2); (try clear hk); (try clear hi); (try clear ho0)) | ((with_reducible refine gate_dst (N := 6) rfl ?_); (try (refine gate_guard (by rfl) ?_; dsimp only)); refine box_event ?hg (N := 6) ?hd (cs := #[.slice none 0 0]) (t := 27) ?hr ?_; (case hd => rfl); (case hg => rfl); (case hr => first | (go_simp; done) | (go_simp; rfl)); intro gb343 hg w32 hbox hb; have n0_ := Aside0.mk (Kd.V_below (Kd.V_elderB (by (with_reducible repeat (first | apply Kd.V_alloc | apply Kd.V_drewN | apply Kd.V_drew)); exact HO339.out) gb343 (Nat.le_of_eq hg.symm)) hb); have n1_ := Aside0.mk (Kd.V_below (Kd.V_elderB (by (with_reducible repeat (first | apply Kd.V_alloc | apply Kd.V_drewN | apply Kd.V_drew)); exact HO342.out) gb343 (Nat.le_of_eq hg.symm)) hb); have n2_ := Aside0.mk (below_step xb hb); have n3_ := Aside0.mk (hbox); have n4_ := Aside0.mk ((by rw [hg]; exact (below_size xb) : w.heap.size ≤ gb343)); have n5_ := Aside0.mk ((by rw [hg]; exact (below_size xb) : w.heap.size ≤ gb343)); clear HO339; clear HO342; clear HB; have HO339 := n0_; have HO342 := n1_; have HB := n2_; have BK343 := n3_; have GW343 := n4_; have GE343 := n5_; clear n0_ n1_ n2_ n3_ n4_ n5_; clear hb hbox hg) | ((with_reducible refine gate_dst (N := 7) rfl ?_); (try (refine gate_guard (by rfl) ?_; dsimp only)); refine box_event ?hg (N := 7) ?hd (cs := #[.slice none 0 0]) (t := 27) ?hr ?_; (case hd => rfl); (case hg => rfl); (case hr => first | (go_simp; done) | (go_simp; rfl)); intro gb344 hg w33 hbox hb; have n0_ := Aside0.mk (Kd.V_below (Kd.V_elderB (by (with_reducible repeat (first | apply Kd.V_alloc | apply Kd.V_drewN | apply Kd.V_drew)); exact HO339.out) gb344 (Nat.le_of_eq hg.symm)) hb); have n1_ := Aside0.mk (Kd.V_below (Kd.V_elderB (by (with_reducible repeat (first | apply Kd.V_alloc | apply Kd.V_drewN | apply Kd.V_drew)); exact HO342.out) gb344 (Nat.le_of_eq hg.symm)) hb); have n2_ := blkB BK343 hb; have n3_ := Aside0.mk (below_step xb hb); have n4_ := Aside0.mk (hbox); have n5_ := Aside0.mk ((by rw [hg]; exact (below_size xb) : w.heap.size ≤ gb344)); have n6_ := Aside0.mk ((by rw [hg]; exact (below_size xb) : w.heap.size ≤ gb344)); have n7_ := Aside0.mk ((by rw [hg]; exact Nat.ne_of_lt (blkL BK343) : gb343 ≠ gb344)); have n8_ := Aside0.mk ((by rw [hg]; exact Nat.ne_of_gt (blkL BK343) : gb344 ≠ gb343)); clear HO339; clear HO342; clear BK343; clear HB; have HO339 := n0_; have HO342 := n1_; have BK343 := n2_; have HB := n3_; have BK344 := n4_; have GW344 := n5_; have GE344 := n6_; have NB343_344 := n7_; have NB344_343 := n8_; clear n0_ n1_ n2_ n3_ n4_ n5_ n6_ n7_ n8_; clear hb hbox hg; obtain ⟨Ao34, co34, eo34⟩ := Kd.V_slice HO339.out; subst eo34; have hnb35 := NB343_344.out; have hnc35 := NB344_343.out; have hcz36_0 : w33.cell? ⟨gb343, 0, none⟩ = some (.slice none 0 0) := (blk_cell BK343.out 0).trans rfl; have hfz36_0 := blk_frozen BK343.out 0; obtain ⟨Ao37, co37, eo37⟩ := Kd.V_slice HO342.out; subst eo37; have hcz38_0 : w33.cell? ⟨gb344, 0, none⟩ = some (.slice none 0 0) := (blk_cell BK344.out 0).trans rfl; have hfz38_0 := blk_frozen BK344.out 0) | ((with_reducible refine gate_callee (f := 12) rfl ?_); refine goesL_ (some 23) rfl rfl Try.func12 (by kernel_rfl) rfl #[.slice A0 l0.length c0] rfl xg ?_; (with_reducible refine (cracknellaw14_model.calls kj2 _ _ l0 t345 _ ?side1 ?side2 A10.out).mono ?_); (case side1 => exact Kd.C_below HR0.out xb); (case side2 => exact HC0.out); rintro e w39 ⟨v346, rfl, ho0, hb⟩; refine ⟨_, rfl, ?_⟩; have n0_ := Aside0.mk (Kd.V_elder' (by (with_reducible repeat (first | apply Kd.V_alloc | apply Kd.V_drewN | apply Kd.V_drew)); exact (Kd.V_mono (Kd.V_mono (Kd.V_far (p := ⟨gb344, 0, none⟩) (Kd.V_far (p := ⟨gb343, 0, none⟩) (Kd.V_mono (Kd.V_mono HO339.out (fun k_ hk => (⟨hk, hk.1.2⟩ : _ ∧ k_ ≠ gb343))) (fun k_ hk => (⟨hk, hk.1.2⟩ : _ ∧ k_ ≠ gb344))) (fun _ hk => hk.1.2) (.slice Ao34 t337.length co34)) (fun _ hk => hk.2) (.slice Ao37 t340.length co37)) (fun _ h_ => h_.1)) (fun _ h_ => h_.1))) (Kd.R_base ho0) hb); have n1_ := Aside0.mk (Kd.V_elder' (by (with_reducible repeat (first | apply Kd.V_alloc | apply Kd.V_drewN | apply Kd.V_drew)); exact (Kd.V_mono (Kd.V_mono (Kd.V_far (p := ⟨gb344, 0, none⟩) (Kd.V_far (p := ⟨gb343, 0, none⟩) (Kd.V_mono (Kd.V_mono HO342.out (fun k_ hk => (⟨hk, hk.1.2⟩ : _ ∧ k_ ≠ gb343))) (fun k_ hk => (⟨hk, hk.1.2⟩ : _ ∧ k_ ≠ gb344))) (fun _ hk => hk.1.2) (.slice Ao34 t337.length co34)) (fun _ hk => hk.2) (.slice Ao37 t340.length co37)) (fun _ h_ => h_.1)) (fun _ h_ => h_.1))) (Kd.R_base ho0) hb); have n2_ := Aside0.mk (Kd.R_lower ho0 (below_size xb)); have n3_ := Aside0.mk (blk_below (g := gb343) (o := .cells #[.slice Ao34 t337.length co34] 27 (0, 0)) xk hb); have n4_ := Aside0.mk (blk_below (g := gb344) (o := .cells #[.slice Ao37 t340.length co37] 27 (0, 0)) xk hb); have n5_ := Aside0.mk (below_step xb hb); clear HO339; clear HO342; clear BK343; clear BK344; clear HB; have HO339 := n0_; have HO342 := n1_; have HO347 := n2_; have BK343 := n3_; have BK344 := n4_; have HB := n5_; clear n0_ n1_ n2_ n3_ n4_ n5_; (try clear hb); (try clear hb2); (try clear hk); (try clear hi); (try clear ho0)) | ((with_reducible refine gate_callee (f := 12) rfl ?_); refine goesL_ (some 25) rfl rfl Try.func12 (by kernel_rfl) rfl #[.slice A1 l1.length c1] rfl xg ?_; (with_reducible refine (cracknellaw14_model.calls kj2 _ _ l1 t348 _ ?side1 ?side2 A11.out).mono ?_); (case side1 => repeat (first | exact (Kd.C_below HR1.out HB.out) | (with_reducible refine Kd.C_alloc ?_ _) | (with_reducible refine Kd.C_drewN ?_ _) | (with_reducible refine Kd.C_drew ?_))); (case side2 => exact HC1.out); rintro e w40 ⟨v349, rfl, ho0, hb⟩; refine ⟨_, rfl, ?_⟩; have n0_ := Aside0.mk (Kd.V_elder' (by (with_reducible repeat (first | apply Kd.V_alloc | apply Kd.V_drewN | apply Kd.V_drew)); exact HO339.out) (Kd.R_base ho0) hb); have n1_ := Aside0.mk (Kd.V_elder' (by (with_reducible repeat (first | apply Kd.V_alloc | apply Kd.V_drewN | apply Kd.V_drew)); exact HO342.out) (Kd.R_base ho0) hb); have n2_ := Aside0.mk (Kd.R_elder' (by (with_reducible repeat (first | apply Kd.R_alloc | apply Kd.R_drewN | apply Kd.R_drew)); exact HO347.out) (Kd.R_base ho0) hb); have n3_ := Aside0.mk (Kd.R_lower (Kd.R_new' ho0 (Kd.R_lt (by (with_reducible repeat (first | apply Kd.R_alloc | apply Kd.R_drewN | apply Kd.R_drew)); exact HO347.out))) (below_size xb)); have n4_ := blkB BK343 hb; have n5_ := blkB BK344 hb; have n6_ := Aside0.mk (below_step xb hb); clear HO339; clear HO342; clear HO347; clear BK343; clear BK344; clear HB; have HO339 := n0_; have HO342 := n1_; have HO347 := n2_; have HO350 := n3_; have BK343 := n4_; have BK344 := n5_; have HB := n6_; clear n0_ n1_ n2_ n3_ n4_ n5_ n6_; (try clear hb); (try clear hb2); (try clear hk); (try clear hi); (try clear ho0); obtain ⟨Ao41, co41, eo41⟩ := Kd.R_slice HO347.out; subst eo41; obtain ⟨Ao42, co42, eo42⟩ := Kd.R_slice HO350.out; subst eo42) | ((with_reducible refine gate_callee (f := 20) rfl ?_); refine goesL_ (some 26) rfl rfl Try.func20 (by kernel_rfl) rfl #[.slice Ao41 t345.length co41, .slice Ao42 t348.length co42] rfl xg ?_; (with_reducible refine (cracknelref14_Merge.calls kj2 (fun k_ => some k_ = (.slice Ao41 t345.length co41 : Value).ownBlock) _ _ t345 _ _ t348 t351 _ ?side1 ?side2 ?side3 A12.out).mono ?_); (case side1 => exact Kd.R_V (Kd.R_tight rfl (Kd.R_types (Kd.R_types (HO347.out) BK343.out (by decide)) BK344.out (by decide)))); (case side2 => repeat (first | exact (Kd.R_reads' HO350.out).2.2 | (with_reducible refine Kd.C_alloc ?_ _) | (with_reducible refine Kd.C_drewN ?_ _) | (with_reducible refine Kd.C_drew ?_))); (case side3 => exact (Kd.R_reads' HO350.out).2.1); rintro e w43 ⟨v352, rfl, ho0, hb⟩; refine ⟨_, rfl, ?_⟩; have n0_ := Aside0.mk (Kd.V_below (by (with_reducible repeat (first | apply Kd.V_alloc | apply Kd.V_drewN | apply Kd.V_drew)); exact HO339.out) hb); have n1_ := Aside0.mk (Kd.V_below (by (with_reducible repeat (first | apply Kd.V_alloc | apply Kd.V_drewN | apply Kd.V_drew)); exact HO342.out) hb); have n2_ := Aside0.mk (Kd.R_below (by (with_reducible repeat (first | apply Kd.R_alloc | apply Kd.R_drewN | apply Kd.R_drew)); exact HO347.out) hb); have n3_ := Aside0.mk (Kd.R_below (by (with_reducible repeat (first | apply Kd.R_alloc | apply Kd.R_drewN | apply Kd.R_drew)); exact HO350.out) hb); have n4_ := Aside0.mk (Kd.V_lower (Kd.V_mono (ok' := fun k_ => some k_ ≠ (.slice Ao42 t348.length co42 : Value).ownBlock ∧ k_ ≠ gb343 ∧ k_ ≠ gb344) ho0 (fun k_ hk_ => ⟨Or.elim hk_ (fun hs_ => ((Kd.R_types (Kd.R_types (HO347.out) BK343.out (by decide)) BK344.out (by decide)).1 k_ hs_.symm).1.1.2) (fun hn_ => (Kd.fresh' (Kd.R_lt (by (with_reducible repeat (first | apply Kd.R_alloc | apply Kd.R_drewN | apply Kd.R_drew)); exact HO350.out)) k_ hn_)), Or.elim hk_ (fun hs_ => ((Kd.R_types (Kd.R_types (HO347.out) BK343.out (by decide)) BK344.out (by decide)).1 k_ hs_.symm).1.2) (fun hn_ => (Kd.freshB (g := gb343) (o := .cells #[.slice Ao34 t337.length co34] 27 (0, 0)) xk k_ hn_)), Or.elim hk_ (fun hs_ => ((Kd.R_types (Kd.R_types (HO347.out) BK343.out (by decide)) BK344.out (by decide)).1 k_ hs_.symm).2) (fun hn_ => (Kd.freshB (g := gb344) (o := .cells #[.slice Ao37 t340.length co37] 27 (0, 0)) xk k_ hn_))⟩)) (below_size xb)); have n5_ := blkB BK343 hb; have n6_ := blkB BK344 hb; have n7_ := Aside0.mk (below_step xb hb); clear HO339; clear HO342; clear HO347; clear HO350; clear BK343; clear BK344; clear HB; have HO339 := n0_; have HO342 := n1_; have HO347 := n2_; have HO350 := n3_; have HO353 := n4_; have BK343 := n5_; have BK344 := n6_; have HB := n7_; clear n0_ n1_ n2_ n3_ n4_ n5_ n6_ n7_; (try clear hb); (try clear hb2); (try clear hk); (try clear hi); (try clear ho0)))
                  have n0_ := Aside0.mk (Kd.V_drew HO339.out)
                  have n1_ := Aside0.mk (Kd.V_drew HO342.out)
                  have n2_ := Aside0.mk (Kd.R_drew HO347.out)
                  have n3_ := Aside0.mk (Kd.R_drew HO350.out)
                  have n4_ := Aside0.mk (Kd.V_drew HO353.out)
                  have n5_ := Aside0.mk (blk_drew BK343.out)
                  have n6_ := Aside0.mk (blk_drew BK344.out)
                  have n7_ := Aside0.mk (below_drew1 HB.out)
                  clear HO339
                  clear HO342
                  clear HO347
                  clear HO350
                  clear HO353
                  clear BK343
                  clear BK344
                  clear HB
                  have HO339 := n0_
                  have HO342 := n1_
                  have HO347 := n2_
                  have HO350 := n3_
                  have HO353 := n4_
                  have BK343 := n5_
                  have BK344 := n6_
                  have HB := n7_
                  clear n0_ n1_ n2_ n3_ n4_ n5_ n6_ n7_
                  refine start_ (n := 39) (S := fun w' => w'.cell? ⟨gb343, 0, none⟩ = some (.slice Ao34 t337.length co34) ∧ w'.cell? ⟨gb344, 0, none⟩ = some (.slice Ao37 t340.length co37)) (ds := []) #[false, false, false, false, false, false, false, false, false, false, false, false, false, false, false, false, false, false, false, false, false, false, false, false, false, false, false, false, false, false, false, false, false, false, false, false, false, false, false] (by kernel_rfl) rfl rfl ⟨(blk_cell BK343.out 0).trans rfl, (blk_cell BK344.out 0).trans rfl⟩ (fun hHeld => ?_); refine with_tabW cracknellaw14_TableMerges.tab6 cracknellaw14_TableMerges.bits6 (fun HT_ HW_ => ?_)
                  generalize w43.drew = w44 at HO339 HO342 HO347 HO350 HO353 BK343 BK344 HB hHeld ⊢
                  refine one_ (i := 0) (N := some 27) #[true, false, false, false, false, false, false, false, false, false, false, false, false, false, false, false, false, false, false, false, false, false, false, false, false, false, false, false, false, false, false, false, false, false, false, false, false, false, false] rfl rfl (one_of HT_.out (by kernel_rfl)) (by decide) (fun K hK => ?_)
                  refine goes_ Try.func9 (by kernel_rfl) rfl #[] (by rfl) rfl rfl xg ?_
                  with_reducible refine (law14_alive.calls  true _ A13.out).mono ?_
                  rintro e w45 ⟨rfl, hb⟩
                  refine ⟨_, rfl, ?_⟩
                  have n0_ := Aside0.mk (Kd.V_below (by (with_reducible repeat (first | apply Kd.V_alloc | apply Kd.V_drewN | apply Kd.V_drew)); exact HO339.out) hb)
                  have n1_ := Aside0.mk (Kd.V_below (by (with_reducible repeat (first | apply Kd.V_alloc | apply Kd.V_drewN | apply Kd.V_drew)); exact HO342.out) hb)
                  have n2_ := Aside0.mk (Kd.R_below (by (with_reducible repeat (first | apply Kd.R_alloc | apply Kd.R_drewN | apply Kd.R_drew)); exact HO347.out) hb)
                  have n3_ := Aside0.mk (Kd.R_below (by (with_reducible repeat (first | apply Kd.R_alloc | apply Kd.R_drewN | apply Kd.R_drew)); exact HO350.out) hb)
                  have n4_ := Aside0.mk (Kd.V_below (by (with_reducible repeat (first | apply Kd.V_alloc | apply Kd.V_drewN | apply Kd.V_drew)); exact HO353.out) hb)
                  have n5_ := blkB BK343 hb
                  have n6_ := blkB BK344 hb
                  have n7_ := Aside0.mk (below_step xb hb)
                  clear HO339
                  clear HO342
                  clear HO347
                  clear HO350
                  clear HO353
                  clear BK343
                  clear BK344
                  clear HB
                  have HO339 := n0_
                  have HO342 := n1_
                  have HO347 := n2_
                  have HO350 := n3_
                  have HO353 := n4_
                  have BK343 := n5_
                  have BK344 := n6_
                  have HB := n7_
                  clear n0_ n1_ n2_ n3_ n4_ n5_ n6_ n7_
                  (try clear hb)
                  (try clear hb2)
                  (try clear hk)
                  (try clear hi)
                  refine hK.out _ _ xc (fun hHeld => ?_)
                  clear hK K
                  refine norm_ (a' := ?_) ?_ ?_
                  rotate_left
                  · show Act.put _ (some 27) _ = _
                    simp only [Act.put, List.setIfInBounds_toArray, List.set_cons_zero, List.set_cons_succ, i64_w, i32_w]
                    rfl
                  refine pure_ (i := 1) (N := some 28) (v := ?_) (a' := ?_) #[true, true, false, false, false, false, false, false, false, false, false, false, false, false, false, false, false, false, false, false, false, false, false, false, false, false, false, false, false, false, false, false, false, false, false, false, false, false, false] rfl rfl (any_of HT_.out (by kernel_rfl)) (fun _ _ _ h => h) (Or.inl ⟨by rfl, ?_⟩) ?_ ?_
                  rotate_left
                  · intro w'
                    go_simp
                    with_reducible rfl
                  rotate_left
                  · simp only [Act.put, List.setIfInBounds_toArray, List.set_cons_zero, List.set_cons_succ, i64_w, i32_w]
                    rfl
                  refine pure_ (i := 4) (N := some 31) (v := ?_) (a' := ?_) #[true, true, false, false, true, false, false, false, false, false, false, false, false, false, false, false, false, false, false, false, false, false, false, false, false, false, false, false, false, false, false, false, false, false, false, false, false, false, false] rfl rfl (any_of HT_.out (by kernel_rfl)) (fun _ _ _ h => h) (Or.inl ⟨by rfl, ?_⟩) ?_ ?_
                  rotate_left
                  · intro w'
                    go_simp
                    with_reducible rfl
                  rotate_left
                  · simp only [Act.put, List.setIfInBounds_toArray, List.set_cons_zero, List.set_cons_succ, i64_w, i32_w]
                    rfl
                  refine pure_ (i := 6) (N := some 33) (v := ?_) (a' := ?_) #[true, true, false, false, true, false, true, false, false, false, false, false, false, false, false, false, false, false, false, false, false, false, false, false, false, false, false, false, false, false, false, false, false, false, false, false, false, false, false] rfl rfl (any_of HT_.out (by kernel_rfl)) (fun _ _ _ h => h) (Or.inl ⟨by rfl, ?_⟩) ?_ ?_
                  rotate_left
                  · intro w'
                    go_simp
                    with_reducible rfl
                  rotate_left
                  · simp only [Act.put, List.setIfInBounds_toArray, List.set_cons_zero, List.set_cons_succ, i64_w, i32_w]
                    rfl
                  refine take_ (i := 2) (N := some 29) (v := ?_) (a' := ?_) #[true, true, true, false, true, false, true, false, false, false, false, false, false, false, false, false, false, false, false, false, false, false, false, false, false, false, false, false, false, false, false, false, false, false, false, false, false, false, false] rfl rfl (take_ofW HT_.out HW_.out (by kernel_rfl)) (fun _ _ _ h => h) (Or.inl ⟨by rfl, ?_⟩) hHeld ?_ ?_
                  rotate_left
                  · rintro w' ⟨s0, s1⟩
                    go_simp
                    with_reducible rfl
                  rotate_left
                  · simp only [Act.put, List.setIfInBounds_toArray, List.set_cons_zero, List.set_cons_succ, i64_w, i32_w]
                    rfl
                  refine take_ (i := 3) (N := some 30) (v := ?_) (a' := ?_) #[true, true, true, true, true, false, true, false, false, false, false, false, false, false, false, false, false, false, false, false, false, false, false, false, false, false, false, false, false, false, false, false, false, false, false, false, false, false, false] rfl rfl (take_ofW HT_.out HW_.out (by kernel_rfl)) (fun _ _ _ h => h) (Or.inl ⟨by rfl, ?_⟩) hHeld ?_ ?_
                  rotate_left
                  · rintro w' ⟨s0, s1⟩
                    go_simp
                    with_reducible rfl
                  rotate_left
                  · simp only [Act.put, List.setIfInBounds_toArray, List.set_cons_zero, List.set_cons_succ, i64_w, i32_w]
                    rfl
                  refine one_ (i := 5) (N := some 32) #[true, true, true, true, true, true, true, false, false, false, false, false, false, false, false, false, false, false, false, false, false, false, false, false, false, false, false, false, false, false, false, false, false, false, false, false, false, false, false] rfl rfl (one_of HT_.out (by kernel_rfl)) (by decide) (fun K hK => ?_)
                  refine goes_ Try.func21 (by kernel_rfl) rfl #[.agg #[.slice Ao34 t337.length co34], .agg #[.slice Ao37 t340.length co37], .func (.func 19) #[] #[]] (by rfl) rfl rfl xg ?_
                  with_reducible refine (cracknellaw14_Int_int_21_19.calls kj2 (fun k_ => ((((True ∧ k_ ≠ gb343) ∧ k_ ≠ gb344) ∧ some k_ ≠ (.slice Ao41 t345.length co41 : Value).ownBlock) ∧ some k_ ≠ (.slice Ao42 t348.length co42 : Value).ownBlock)) _ _ t337 (fun k_ => ((((True ∧ k_ ≠ gb343) ∧ k_ ≠ gb344) ∧ some k_ ≠ (.slice Ao41 t345.length co41 : Value).ownBlock) ∧ some k_ ≠ (.slice Ao42 t348.length co42 : Value).ownBlock)) _ _ t340 t355 _ ?side1 ?side2 A15.out).mono ?_
                  (case side1 => exact HO339.out)
                  (case side2 => exact HO342.out)
                  rintro e w46 ⟨v356, rfl, ho0, hb⟩
                  refine ⟨_, rfl, ?_⟩
                  have n0_ := Aside0.mk (Kd.V_elder' (by (with_reducible repeat (first | apply Kd.V_alloc | apply Kd.V_drewN | apply Kd.V_drew)); exact HO339.out) (Kd.R_base ho0) hb)
                  have n1_ := Aside0.mk (Kd.V_elder' (by (with_reducible repeat (first | apply Kd.V_alloc | apply Kd.V_drewN | apply Kd.V_drew)); exact HO342.out) (Kd.R_base ho0) hb)
                  have n2_ := Aside0.mk (Kd.R_below (by (with_reducible repeat (first | apply Kd.R_alloc | apply Kd.R_drewN | apply Kd.R_drew)); exact HO347.out) hb)
                  have n3_ := Aside0.mk (Kd.R_below (by (with_reducible repeat (first | apply Kd.R_alloc | apply Kd.R_drewN | apply Kd.R_drew)); exact HO350.out) hb)
                  have n4_ := Aside0.mk (Kd.V_elder' (by (with_reducible repeat (first | apply Kd.V_alloc | apply Kd.V_drewN | apply Kd.V_drew)); exact HO353.out) (Kd.R_base ho0) hb)
                  have n5_ := Aside0.mk (Kd.R_lower (Kd.R_mono (ok' := fun k_ => True) ho0 (fun _ hk_ => trivial)) (below_size xb))
                  have n6_ := blkB BK343 hb
                  have n7_ := blkB BK344 hb
                  have n8_ := Aside0.mk (below_step xb hb)
                  clear HO339
                  clear HO342
                  clear HO347
                  clear HO350
                  clear HO353
                  clear BK343
                  clear BK344
                  clear HB
                  have HO339 := n0_
                  have HO342 := n1_
                  have HO347 := n2_
                  have HO350 := n3_
                  have HO353 := n4_
                  have HO357 := n5_
                  have BK343 := n6_
                  have BK344 := n7_
                  have HB := n8_
                  clear n0_ n1_ n2_ n3_ n4_ n5_ n6_ n7_ n8_
                  (try clear hb)
                  (try clear hb2)
                  (try clear hk)
                  (try clear hi)
                  (try clear ho0)
                  obtain ⟨Ao47, co47, eo47⟩ := Kd.R_slice HO357.out
                  (first | subst eo47 | (injection eo47 with f1_ f2_ f3_; have f4_ := f1_.symm; have f5_ := f3_.symm; clear f1_ f2_ f3_; subst f4_; subst f5_))
                  obtain ⟨Ao48, co48, eo48⟩ := Kd.V_slice HO353.out
                  (first | subst eo48 | (injection eo48 with f1_ f2_ f3_; have f4_ := f1_.symm; have f5_ := f3_.symm; clear f1_ f2_ f3_; subst f4_; subst f5_))
                  refine hK.out _ _ xc (fun hHeld => ?_)
                  clear hK K
                  refine norm_ (a' := ?_) ?_ ?_
                  rotate_left
                  · show Act.put _ (some 32) _ = _
                    simp only [Act.put, List.setIfInBounds_toArray, List.set_cons_zero, List.set_cons_succ, i64_w, i32_w]
                    rfl
                  refine one_ (i := 7) (N := some 34) #[true, true, true, true, true, true, true, true, false, false, false, false, false, false, false, false, false, false, false, false, false, false, false, false, false, false, false, false, false, false, false, false, false, false, false, false, false, false, false] rfl rfl (one_of HT_.out (by kernel_rfl)) (by decide) (fun K hK => ?_)
                  refine goes_ Try.func10 (by kernel_rfl) rfl #[.agg #[.slice Ao47 t355.length co47], .slice Ao48 t351.length co48] (by rfl) rfl rfl xg ?_
                  with_reducible refine (law14_same.calls _ _ t355 _ _ t351 true _ ?side1 ?side2 ?side3 ?side4 A16.out).mono ?_
                  (case side1 => repeat (first | exact (Kd.R_reads' HO357.out).2.2 | (with_reducible refine Kd.C_alloc ?_ _) | (with_reducible refine Kd.C_drewN ?_ _) | (with_reducible refine Kd.C_drew ?_)))
                  (case side2 => exact (Kd.R_reads' HO357.out).2.1)
                  (case side3 => repeat (first | exact (Kd.V_reads' HO353.out).2.2 | (with_reducible refine Kd.C_alloc ?_ _) | (with_reducible refine Kd.C_drewN ?_ _) | (with_reducible refine Kd.C_drew ?_)))
                  (case side4 => exact (Kd.V_reads' HO353.out).2.1)
                  rintro e w49 ⟨rfl, hb⟩
                  refine ⟨_, rfl, ?_⟩
                  have n0_ := Aside0.mk (Kd.V_below (by (with_reducible repeat (first | apply Kd.V_alloc | apply Kd.V_drewN | apply Kd.V_drew)); exact HO339.out) hb)
                  have n1_ := Aside0.mk (Kd.V_below (by (with_reducible repeat (first | apply Kd.V_alloc | apply Kd.V_drewN | apply Kd.V_drew)); exact HO342.out) hb)
                  have n2_ := Aside0.mk (Kd.R_below (by (with_reducible repeat (first | apply Kd.R_alloc | apply Kd.R_drewN | apply Kd.R_drew)); exact HO347.out) hb)
                  have n3_ := Aside0.mk (Kd.R_below (by (with_reducible repeat (first | apply Kd.R_alloc | apply Kd.R_drewN | apply Kd.R_drew)); exact HO350.out) hb)
                  have n4_ := Aside0.mk (Kd.V_below (by (with_reducible repeat (first | apply Kd.V_alloc | apply Kd.V_drewN | apply Kd.V_drew)); exact HO353.out) hb)
                  have n5_ := Aside0.mk (Kd.R_below (by (with_reducible repeat (first | apply Kd.R_alloc | apply Kd.R_drewN | apply Kd.R_drew)); exact HO357.out) hb)
                  have n6_ := blkB BK343 hb
                  have n7_ := blkB BK344 hb
                  have n8_ := Aside0.mk (below_step xb hb)
                  clear HO339
                  clear HO342
                  clear HO347
                  clear HO350
                  clear HO353
                  clear HO357
                  clear BK343
                  clear BK344
                  clear HB
                  have HO339 := n0_
                  have HO342 := n1_
                  have HO347 := n2_
                  have HO350 := n3_
                  have HO353 := n4_
                  have HO357 := n5_
                  have BK343 := n6_
                  have BK344 := n7_
                  have HB := n8_
                  clear n0_ n1_ n2_ n3_ n4_ n5_ n6_ n7_ n8_
                  (try clear hb)
                  (try clear hb2)
                  (try clear hk)
                  (try clear hi)
                  refine hK.out _ _ xc (fun hHeld => ?_)
                  clear hK K
                  refine norm_ (a' := ?_) ?_ ?_
                  rotate_left
                  · show Act.put _ (some 34) _ = _
                    simp only [Act.put, List.setIfInBounds_toArray, List.set_cons_zero, List.set_cons_succ, i64_w, i32_w]
                    rfl
                  refine pure_ (i := 8) (N := some 35) (v := ?_) (a' := ?_) #[true, true, true, true, true, true, true, true, true, false, false, false, false, false, false, false, false, false, false, false, false, false, false, false, false, false, false, false, false, false, false, false, false, false, false, false, false, false, false] rfl rfl (any_of HT_.out (by kernel_rfl)) (fun _ _ _ h => h) (Or.inl ⟨by rfl, ?_⟩) ?_ ?_
                  rotate_left
                  · intro w'
                    go_simp
                    with_reducible rfl
                  rotate_left
                  · simp only [Act.put, List.setIfInBounds_toArray, List.set_cons_zero, List.set_cons_succ, i64_w, i32_w]
                    rfl
                  refine pure_ (i := 9) (N := some 36) (v := ?_) (a' := ?_) #[true, true, true, true, true, true, true, true, true, true, false, false, false, false, false, false, false, false, false, false, false, false, false, false, false, false, false, false, false, false, false, false, false, false, false, false, false, false, false] rfl rfl (any_of HT_.out (by kernel_rfl)) (fun _ _ _ h => h) (Or.inl ⟨by rfl, ?_⟩) ?_ ?_
                  rotate_left
                  · intro w'
                    go_simp
                    with_reducible rfl
                  rotate_left
                  · simp only [Act.put, List.setIfInBounds_toArray, List.set_cons_zero, List.set_cons_succ, i64_w, i32_w]
                    rfl
                  refine pure_ (i := 12) (N := some 39) (v := ?_) (a' := ?_) #[true, true, true, true, true, true, true, true, true, true, false, false, true, false, false, false, false, false, false, false, false, false, false, false, false, false, false, false, false, false, false, false, false, false, false, false, false, false, false] rfl rfl (any_of HT_.out (by kernel_rfl)) (fun _ _ _ h => h) (Or.inl ⟨by rfl, ?_⟩) ?_ ?_
                  rotate_left
                  · intro w'
                    go_simp
                    with_reducible rfl
                  rotate_left
                  · simp only [Act.put, List.setIfInBounds_toArray, List.set_cons_zero, List.set_cons_succ, i64_w, i32_w]
                    rfl
                  refine pure_ (i := 14) (N := some 41) (v := ?_) (a' := ?_) #[true, true, true, true, true, true, true, true, true, true, false, false, true, false, true, false, false, false, false, false, false, false, false, false, false, false, false, false, false, false, false, false, false, false, false, false, false, false, false] rfl rfl (any_of HT_.out (by kernel_rfl)) (fun _ _ _ h => h) (Or.inl ⟨by rfl, ?_⟩) ?_ ?_
                  rotate_left
                  · intro w'
                    go_simp
                    with_reducible rfl
                  rotate_left
                  · simp only [Act.put, List.setIfInBounds_toArray, List.set_cons_zero, List.set_cons_succ, i64_w, i32_w]
                    rfl
                  refine take_ (i := 10) (N := some 37) (v := ?_) (a' := ?_) #[true, true, true, true, true, true, true, true, true, true, true, false, true, false, true, false, false, false, false, false, false, false, false, false, false, false, false, false, false, false, false, false, false, false, false, false, false, false, false] rfl rfl (take_ofW HT_.out HW_.out (by kernel_rfl)) (fun _ _ _ h => h) (Or.inl ⟨by rfl, ?_⟩) hHeld ?_ ?_
                  rotate_left
                  · rintro w' ⟨s0, s1⟩
                    go_simp
                    with_reducible rfl
                  rotate_left
                  · simp only [Act.put, List.setIfInBounds_toArray, List.set_cons_zero, List.set_cons_succ, i64_w, i32_w]
                    rfl
                  refine take_ (i := 11) (N := some 38) (v := ?_) (a' := ?_) #[true, true, true, true, true, true, true, true, true, true, true, true, true, false, true, false, false, false, false, false, false, false, false, false, false, false, false, false, false, false, false, false, false, false, false, false, false, false, false] rfl rfl (take_ofW HT_.out HW_.out (by kernel_rfl)) (fun _ _ _ h => h) (Or.inl ⟨by rfl, ?_⟩) hHeld ?_ ?_
                  rotate_left
                  · rintro w' ⟨s0, s1⟩
                    go_simp
                    with_reducible rfl
                  rotate_left
                  · simp only [Act.put, List.setIfInBounds_toArray, List.set_cons_zero, List.set_cons_succ, i64_w, i32_w]
                    rfl
                  refine one_ (i := 13) (N := some 40) #[true, true, true, true, true, true, true, true, true, true, true, true, true, true, true, false, false, false, false, false, false, false, false, false, false, false, false, false, false, false, false, false, false, false, false, false, false, false, false] rfl rfl (one_of HT_.out (by kernel_rfl)) (by decide) (fun K hK => ?_)
                  refine goes_ Try.func21 (by kernel_rfl) rfl #[.agg #[.slice Ao37 t340.length co37], .agg #[.slice Ao34 t337.length co34], .func (.func 19) #[] #[]] (by rfl) rfl rfl xg ?_
                  with_reducible refine (cracknellaw14_Int_int_21_19.calls kj2 (fun k_ => (((((True ∧ k_ ≠ gb343) ∧ k_ ≠ gb344) ∧ some k_ ≠ (.slice Ao41 t345.length co41 : Value).ownBlock) ∧ some k_ ≠ (.slice Ao42 t348.length co42 : Value).ownBlock) ∧ some k_ ≠ (.slice Ao47 t355.length co47 : Value).ownBlock)) _ _ t340 (fun k_ => (((((True ∧ k_ ≠ gb343) ∧ k_ ≠ gb344) ∧ some k_ ≠ (.slice Ao41 t345.length co41 : Value).ownBlock) ∧ some k_ ≠ (.slice Ao42 t348.length co42 : Value).ownBlock) ∧ some k_ ≠ (.slice Ao47 t355.length co47 : Value).ownBlock)) _ _ t337 t359 _ ?side1 ?side2 A18.out).mono ?_
                  (case side1 => exact HO342.out)
                  (case side2 => exact HO339.out)
                  rintro e w50 ⟨v360, rfl, ho0, hb⟩
                  refine ⟨_, rfl, ?_⟩
                  have n0_ := Aside0.mk (Kd.V_elder' (by (with_reducible repeat (first | apply Kd.V_alloc | apply Kd.V_drewN | apply Kd.V_drew)); exact HO339.out) (Kd.R_base ho0) hb)
                  have n1_ := Aside0.mk (Kd.V_elder' (by (with_reducible repeat (first | apply Kd.V_alloc | apply Kd.V_drewN | apply Kd.V_drew)); exact HO342.out) (Kd.R_base ho0) hb)
                  have n2_ := Aside0.mk (Kd.R_below (by (with_reducible repeat (first | apply Kd.R_alloc | apply Kd.R_drewN | apply Kd.R_drew)); exact HO347.out) hb)
                  have n3_ := Aside0.mk (Kd.R_below (by (with_reducible repeat (first | apply Kd.R_alloc | apply Kd.R_drewN | apply Kd.R_drew)); exact HO350.out) hb)
                  have n4_ := Aside0.mk (Kd.V_elder' (by (with_reducible repeat (first | apply Kd.V_alloc | apply Kd.V_drewN | apply Kd.V_drew)); exact HO353.out) (Kd.R_base ho0) hb)
                  have n5_ := Aside0.mk (Kd.R_elder' (by (with_reducible repeat (first | apply Kd.R_alloc | apply Kd.R_drewN | apply Kd.R_drew)); exact HO357.out) (Kd.R_base ho0) hb)
                  have n6_ := Aside0.mk (Kd.R_lower (Kd.R_new' (Kd.R_mono (ok' := fun k_ => True) ho0 (fun _ hk_ => trivial)) (Kd.R_lt (by (with_reducible repeat (first | apply Kd.R_alloc | apply Kd.R_drewN | apply Kd.R_drew)); exact HO357.out))) (below_size xb))
                  have n7_ := blkB BK343 hb
                  have n8_ := blkB BK344 hb
                  have n9_ := Aside0.mk (below_step xb hb)
                  clear HO339
                  clear HO342
                  clear HO347
                  clear HO350
                  clear HO353
                  clear HO357
                  clear BK343
                  clear BK344
                  clear HB
                  have HO339 := n0_
                  have HO342 := n1_
                  have HO347 := n2_
                  have HO350 := n3_
                  have HO353 := n4_
                  have HO357 := n5_
                  have HO361 := n6_
                  have BK343 := n7_
                  have BK344 := n8_
                  have HB := n9_
                  clear n0_ n1_ n2_ n3_ n4_ n5_ n6_ n7_ n8_ n9_
                  (try clear hb)
                  (try clear hb2)
                  (try clear hk)
                  (try clear hi)
                  (try clear ho0)
                  obtain ⟨Ao51, co51, eo51⟩ := Kd.R_slice HO361.out
                  (first | subst eo51 | (injection eo51 with f1_ f2_ f3_; have f4_ := f1_.symm; have f5_ := f3_.symm; clear f1_ f2_ f3_; subst f4_; subst f5_))
                  refine hK.out _ _ xc (fun hHeld => ?_)
                  clear hK K
                  refine norm_ (a' := ?_) ?_ ?_
                  rotate_left
                  · show Act.put _ (some 40) _ = _
                    simp only [Act.put, List.setIfInBounds_toArray, List.set_cons_zero, List.set_cons_succ, i64_w, i32_w]
                    rfl
                  refine one_ (i := 15) (N := some 42) #[true, true, true, true, true, true, true, true, true, true, true, true, true, true, true, true, false, false, false, false, false, false, false, false, false, false, false, false, false, false, false, false, false, false, false, false, false, false, false] rfl rfl (one_of HT_.out (by kernel_rfl)) (by decide) (fun K hK => ?_)
                  refine goes_ Try.func10 (by kernel_rfl) rfl #[.agg #[.slice Ao51 t359.length co51], .slice Ao48 t351.length co48] (by rfl) rfl rfl xg ?_
                  with_reducible refine (law14_same.calls _ _ t359 _ _ t351 true _ ?side1 ?side2 ?side3 ?side4 A19.out).mono ?_
                  (case side1 => repeat (first | exact (Kd.R_reads' HO361.out).2.2 | (with_reducible refine Kd.C_alloc ?_ _) | (with_reducible refine Kd.C_drewN ?_ _) | (with_reducible refine Kd.C_drew ?_)))
                  (case side2 => exact (Kd.R_reads' HO361.out).2.1)
                  (case side3 => repeat (first | exact (Kd.V_reads' HO353.out).2.2 | (with_reducible refine Kd.C_alloc ?_ _) | (with_reducible refine Kd.C_drewN ?_ _) | (with_reducible refine Kd.C_drew ?_)))
                  (case side4 => exact (Kd.V_reads' HO353.out).2.1)
                  rintro e w52 ⟨rfl, hb⟩
                  refine ⟨_, rfl, ?_⟩
                  have n0_ := Aside0.mk (Kd.V_below (by (with_reducible repeat (first | apply Kd.V_alloc | apply Kd.V_drewN | apply Kd.V_drew)); exact HO339.out) hb)
                  have n1_ := Aside0.mk (Kd.V_below (by (with_reducible repeat (first | apply Kd.V_alloc | apply Kd.V_drewN | apply Kd.V_drew)); exact HO342.out) hb)
                  have n2_ := Aside0.mk (Kd.R_below (by (with_reducible repeat (first | apply Kd.R_alloc | apply Kd.R_drewN | apply Kd.R_drew)); exact HO347.out) hb)
                  have n3_ := Aside0.mk (Kd.R_below (by (with_reducible repeat (first | apply Kd.R_alloc | apply Kd.R_drewN | apply Kd.R_drew)); exact HO350.out) hb)
                  have n4_ := Aside0.mk (Kd.V_below (by (with_reducible repeat (first | apply Kd.V_alloc | apply Kd.V_drewN | apply Kd.V_drew)); exact HO353.out) hb)
                  have n5_ := Aside0.mk (Kd.R_below (by (with_reducible repeat (first | apply Kd.R_alloc | apply Kd.R_drewN | apply Kd.R_drew)); exact HO357.out) hb)
                  have n6_ := Aside0.mk (Kd.R_below (by (with_reducible repeat (first | apply Kd.R_alloc | apply Kd.R_drewN | apply Kd.R_drew)); exact HO361.out) hb)
                  have n7_ := blkB BK343 hb
                  have n8_ := blkB BK344 hb
                  have n9_ := Aside0.mk (below_step xb hb)
                  clear HO339
                  clear HO342
                  clear HO347
                  clear HO350
                  clear HO353
                  clear HO357
                  clear HO361
                  clear BK343
                  clear BK344
                  clear HB
                  have HO339 := n0_
                  have HO342 := n1_
                  have HO347 := n2_
                  have HO350 := n3_
                  have HO353 := n4_
                  have HO357 := n5_
                  have HO361 := n6_
                  have BK343 := n7_
                  have BK344 := n8_
                  have HB := n9_
                  clear n0_ n1_ n2_ n3_ n4_ n5_ n6_ n7_ n8_ n9_
                  (try clear hb)
                  (try clear hb2)
                  (try clear hk)
                  (try clear hi)
                  refine hK.out _ _ xc (fun hHeld => ?_)
                  clear hK K
                  refine norm_ (a' := ?_) ?_ ?_
                  rotate_left
                  · show Act.put _ (some 42) _ = _
                    simp only [Act.put, List.setIfInBounds_toArray, List.set_cons_zero, List.set_cons_succ, i64_w, i32_w]
                    rfl
                  refine pure_ (i := 16) (N := some 43) (v := ?_) (a' := ?_) #[true, true, true, true, true, true, true, true, true, true, true, true, true, true, true, true, true, false, false, false, false, false, false, false, false, false, false, false, false, false, false, false, false, false, false, false, false, false, false] rfl rfl (any_of HT_.out (by kernel_rfl)) (fun _ _ _ h => h) (Or.inl ⟨by rfl, ?_⟩) ?_ ?_
                  rotate_left
                  · intro w'
                    go_simp
                    with_reducible rfl
                  rotate_left
                  · simp only [Act.put, List.setIfInBounds_toArray, List.set_cons_zero, List.set_cons_succ, i64_w, i32_w]
                    rfl
                  refine pure_ (i := 17) (N := some 44) (v := ?_) (a' := ?_) #[true, true, true, true, true, true, true, true, true, true, true, true, true, true, true, true, true, true, false, false, false, false, false, false, false, false, false, false, false, false, false, false, false, false, false, false, false, false, false] rfl rfl (any_of HT_.out (by kernel_rfl)) (fun _ _ _ h => h) (Or.inl ⟨by rfl, ?_⟩) ?_ ?_
                  rotate_left
                  · intro w'
                    go_simp
                    with_reducible rfl
                  rotate_left
                  · simp only [Act.put, List.setIfInBounds_toArray, List.set_cons_zero, List.set_cons_succ, i64_w, i32_w]
                    rfl
                  refine pure_ (i := 20) (N := some 47) (v := ?_) (a' := ?_) #[true, true, true, true, true, true, true, true, true, true, true, true, true, true, true, true, true, true, false, false, true, false, false, false, false, false, false, false, false, false, false, false, false, false, false, false, false, false, false] rfl rfl (any_of HT_.out (by kernel_rfl)) (fun _ _ _ h => h) (Or.inl ⟨by rfl, ?_⟩) ?_ ?_
                  rotate_left
                  · intro w'
                    go_simp
                    with_reducible rfl
                  rotate_left
                  · simp only [Act.put, List.setIfInBounds_toArray, List.set_cons_zero, List.set_cons_succ, i64_w, i32_w]
                    rfl
                  refine pure_ (i := 22) (N := some 49) (v := ?_) (a' := ?_) #[true, true, true, true, true, true, true, true, true, true, true, true, true, true, true, true, true, true, false, false, true, false, true, false, false, false, false, false, false, false, false, false, false, false, false, false, false, false, false] rfl rfl (any_of HT_.out (by kernel_rfl)) (fun _ _ _ h => h) (Or.inl ⟨by rfl, ?_⟩) ?_ ?_
                  rotate_left
                  · intro w'
                    go_simp
                    with_reducible rfl
                  rotate_left
                  · simp only [Act.put, List.setIfInBounds_toArray, List.set_cons_zero, List.set_cons_succ, i64_w, i32_w]
                    rfl
                  refine take_ (i := 18) (N := some 45) (v := ?_) (a' := ?_) #[true, true, true, true, true, true, true, true, true, true, true, true, true, true, true, true, true, true, true, false, true, false, true, false, false, false, false, false, false, false, false, false, false, false, false, false, false, false, false] rfl rfl (take_ofW HT_.out HW_.out (by kernel_rfl)) (fun _ _ _ h => h) (Or.inl ⟨by rfl, ?_⟩) hHeld ?_ ?_
                  rotate_left
                  · rintro w' ⟨s0, s1⟩
                    go_simp
                    with_reducible rfl
                  rotate_left
                  · simp only [Act.put, List.setIfInBounds_toArray, List.set_cons_zero, List.set_cons_succ, i64_w, i32_w]
                    rfl
                  refine take_ (i := 19) (N := some 46) (v := ?_) (a' := ?_) #[true, true, true, true, true, true, true, true, true, true, true, true, true, true, true, true, true, true, true, true, true, false, true, false, false, false, false, false, false, false, false, false, false, false, false, false, false, false, false] rfl rfl (take_ofW HT_.out HW_.out (by kernel_rfl)) (fun _ _ _ h => h) (Or.inl ⟨by rfl, ?_⟩) hHeld ?_ ?_
                  rotate_left
                  · rintro w' ⟨s0, s1⟩
                    go_simp
                    with_reducible rfl
                  rotate_left
                  · simp only [Act.put, List.setIfInBounds_toArray, List.set_cons_zero, List.set_cons_succ, i64_w, i32_w]
                    rfl
                  refine one_ (i := 21) (N := some 48) #[true, true, true, true, true, true, true, true, true, true, true, true, true, true, true, true, true, true, true, true, true, true, true, false, false, false, false, false, false, false, false, false, false, false, false, false, false, false, false] rfl rfl (one_of HT_.out (by kernel_rfl)) (by decide) (fun K hK => ?_)
                  refine goes_ Try.func21 (by kernel_rfl) rfl #[.agg #[.slice Ao34 t337.length co34], .agg #[.slice Ao34 t337.length co34], .func (.func 19) #[] #[]] (by rfl) rfl rfl xg ?_
                  with_reducible refine (cracknellaw14_Int_int_21_19.calls kj2 (fun k_ => ((((((True ∧ k_ ≠ gb343) ∧ k_ ≠ gb344) ∧ some k_ ≠ (.slice Ao41 t345.length co41 : Value).ownBlock) ∧ some k_ ≠ (.slice Ao42 t348.length co42 : Value).ownBlock) ∧ some k_ ≠ (.slice Ao47 t355.length co47 : Value).ownBlock) ∧ some k_ ≠ (.slice Ao51 t359.length co51 : Value).ownBlock)) _ _ t337 (fun k_ => ((((((True ∧ k_ ≠ gb343) ∧ k_ ≠ gb344) ∧ some k_ ≠ (.slice Ao41 t345.length co41 : Value).ownBlock) ∧ some k_ ≠ (.slice Ao42 t348.length co42 : Value).ownBlock) ∧ some k_ ≠ (.slice Ao47 t355.length co47 : Value).ownBlock) ∧ some k_ ≠ (.slice Ao51 t359.length co51 : Value).ownBlock)) _ _ t337 t363 _ ?side1 ?side2 A21.out).mono ?_
                  (case side1 => exact HO339.out)
                  (case side2 => exact HO339.out)
                  rintro e w53 ⟨v364, rfl, ho0, hb⟩
                  refine ⟨_, rfl, ?_⟩
                  have n0_ := Aside0.mk (Kd.V_elder' (by (with_reducible repeat (first | apply Kd.V_alloc | apply Kd.V_drewN | apply Kd.V_drew)); exact HO339.out) (Kd.R_base ho0) hb)
                  have n1_ := Aside0.mk (Kd.V_elder' (by (with_reducible repeat (first | apply Kd.V_alloc | apply Kd.V_drewN | apply Kd.V_drew)); exact HO342.out) (Kd.R_base ho0) hb)
                  have n2_ := Aside0.mk (Kd.R_below (by (with_reducible repeat (first | apply Kd.R_alloc | apply Kd.R_drewN | apply Kd.R_drew)); exact HO347.out) hb)
                  have n3_ := Aside0.mk (Kd.R_below (by (with_reducible repeat (first | apply Kd.R_alloc | apply Kd.R_drewN | apply Kd.R_drew)); exact HO350.out) hb)
                  have n4_ := Aside0.mk (Kd.V_elder' (by (with_reducible repeat (first | apply Kd.V_alloc | apply Kd.V_drewN | apply Kd.V_drew)); exact HO353.out) (Kd.R_base ho0) hb)
                  have n5_ := Aside0.mk (Kd.R_elder' (by (with_reducible repeat (first | apply Kd.R_alloc | apply Kd.R_drewN | apply Kd.R_drew)); exact HO357.out) (Kd.R_base ho0) hb)
                  have n6_ := Aside0.mk (Kd.R_elder' (by (with_reducible repeat (first | apply Kd.R_alloc | apply Kd.R_drewN | apply Kd.R_drew)); exact HO361.out) (Kd.R_base ho0) hb)
                  have n7_ := Aside0.mk (Kd.R_lower (Kd.R_new' (Kd.R_new' (Kd.R_mono (ok' := fun k_ => True) ho0 (fun _ hk_ => trivial)) (Kd.R_lt (by (with_reducible repeat (first | apply Kd.R_alloc | apply Kd.R_drewN | apply Kd.R_drew)); exact HO357.out))) (Kd.R_lt (by (with_reducible repeat (first | apply Kd.R_alloc | apply Kd.R_drewN | apply Kd.R_drew)); exact HO361.out))) (below_size xb))
                  have n8_ := blkB BK343 hb
                  have n9_ := blkB BK344 hb
                  have n10_ := Aside0.mk (below_step xb hb)
                  clear HO339
                  clear HO342
                  clear HO347
                  clear HO350
                  clear HO353
                  clear HO357
                  clear HO361
                  clear BK343
                  clear BK344
                  clear HB
                  have HO339 := n0_
                  have HO342 := n1_
                  have HO347 := n2_
                  have HO350 := n3_
                  have HO353 := n4_
                  have HO357 := n5_
                  have HO361 := n6_
                  have HO365 := n7_
                  have BK343 := n8_
                  have BK344 := n9_
                  have HB := n10_
                  clear n0_ n1_ n2_ n3_ n4_ n5_ n6_ n7_ n8_ n9_ n10_
                  (try clear hb)
                  (try clear hb2)
                  (try clear hk)
                  (try clear hi)
                  (try clear ho0)
                  refine hK.out _ _ xc (fun hHeld => ?_)
                  clear hK K
                  refine norm_ (a' := ?_) ?_ ?_
                  rotate_left
                  · show Act.put _ (some 48) _ = _
                    simp only [Act.put, List.setIfInBounds_toArray, List.set_cons_zero, List.set_cons_succ, i64_w, i32_w]
                    rfl
                  refine one_ (i := 23) (N := some 50) #[true, true, true, true, true, true, true, true, true, true, true, true, true, true, true, true, true, true, true, true, true, true, true, true, false, false, false, false, false, false, false, false, false, false, false, false, false, false, false] rfl rfl (one_of HT_.out (by kernel_rfl)) (by decide) (fun K hK => ?_)
                  refine goes_ Try.func12 (by kernel_rfl) rfl #[.slice A0 l0.length c0] (by rfl) rfl rfl xg ?_
                  with_reducible refine (cracknellaw14_model.calls kj2 _ _ l0 t366 _ ?side1 ?side2 A22.out).mono ?_
                  (case side1 => repeat (first | exact (Kd.C_below HR0.out HB.out) | (with_reducible refine Kd.C_alloc ?_ _) | (with_reducible refine Kd.C_drewN ?_ _) | (with_reducible refine Kd.C_drew ?_)))
                  (case side2 => exact HC0.out)
                  rintro e w54 ⟨v367, rfl, ho0, hb⟩
                  refine ⟨_, rfl, ?_⟩
                  have n0_ := Aside0.mk (Kd.V_elder' (by (with_reducible repeat (first | apply Kd.V_alloc | apply Kd.V_drewN | apply Kd.V_drew)); exact HO339.out) (Kd.R_base ho0) hb)
                  have n1_ := Aside0.mk (Kd.V_elder' (by (with_reducible repeat (first | apply Kd.V_alloc | apply Kd.V_drewN | apply Kd.V_drew)); exact HO342.out) (Kd.R_base ho0) hb)
                  have n2_ := Aside0.mk (Kd.R_elder' (by (with_reducible repeat (first | apply Kd.R_alloc | apply Kd.R_drewN | apply Kd.R_drew)); exact HO347.out) (Kd.R_base ho0) hb)
                  have n3_ := Aside0.mk (Kd.R_elder' (by (with_reducible repeat (first | apply Kd.R_alloc | apply Kd.R_drewN | apply Kd.R_drew)); exact HO350.out) (Kd.R_base ho0) hb)
                  have n4_ := Aside0.mk (Kd.V_elder' (by (with_reducible repeat (first | apply Kd.V_alloc | apply Kd.V_drewN | apply Kd.V_drew)); exact HO353.out) (Kd.R_base ho0) hb)
                  have n5_ := Aside0.mk (Kd.R_below (by (with_reducible repeat (first | apply Kd.R_alloc | apply Kd.R_drewN | apply Kd.R_drew)); exact HO357.out) hb)
                  have n6_ := Aside0.mk (Kd.R_below (by (with_reducible repeat (first | apply Kd.R_alloc | apply Kd.R_drewN | apply Kd.R_drew)); exact HO361.out) hb)
                  have n7_ := Aside0.mk (Kd.R_below (by (with_reducible repeat (first | apply Kd.R_alloc | apply Kd.R_drewN | apply Kd.R_drew)); exact HO365.out) hb)
                  have n8_ := Aside0.mk (Kd.R_lower (Kd.R_new' (Kd.R_new' ho0 (Kd.R_lt (by (with_reducible repeat (first | apply Kd.R_alloc | apply Kd.R_drewN | apply Kd.R_drew)); exact HO347.out))) (Kd.R_lt (by (with_reducible repeat (first | apply Kd.R_alloc | apply Kd.R_drewN | apply Kd.R_drew)); exact HO350.out))) (below_size xb))
                  have n9_ := blkB BK343 hb
                  have n10_ := blkB BK344 hb
                  have n11_ := Aside0.mk (below_step xb hb)
                  clear HO339
                  clear HO342
                  clear HO347
                  clear HO350
                  clear HO353
                  clear HO357
                  clear HO361
                  clear HO365
                  clear BK343
                  clear BK344
                  clear HB
                  have HO339 := n0_
                  have HO342 := n1_
                  have HO347 := n2_
                  have HO350 := n3_
                  have HO353 := n4_
                  have HO357 := n5_
                  have HO361 := n6_
                  have HO365 := n7_
                  have HO368 := n8_
                  have BK343 := n9_
                  have BK344 := n10_
                  have HB := n11_
                  clear n0_ n1_ n2_ n3_ n4_ n5_ n6_ n7_ n8_ n9_ n10_ n11_
                  (try clear hb)
                  (try clear hb2)
                  (try clear hk)
                  (try clear hi)
                  (try clear ho0)
                  obtain ⟨Ao55, co55, eo55⟩ := Kd.R_slice HO365.out
                  (first | subst eo55 | (injection eo55 with f1_ f2_ f3_; have f4_ := f1_.symm; have f5_ := f3_.symm; clear f1_ f2_ f3_; subst f4_; subst f5_))
                  obtain ⟨Ao56, co56, eo56⟩ := Kd.R_slice HO368.out
                  (first | subst eo56 | (injection eo56 with f1_ f2_ f3_; have f4_ := f1_.symm; have f5_ := f3_.symm; clear f1_ f2_ f3_; subst f4_; subst f5_))
                  refine hK.out _ _ xc (fun hHeld => ?_)
                  clear hK K
                  refine norm_ (a' := ?_) ?_ ?_
                  rotate_left
                  · show Act.put _ (some 50) _ = _
                    simp only [Act.put, List.setIfInBounds_toArray, List.set_cons_zero, List.set_cons_succ, i64_w, i32_w]
                    rfl
                  refine one_ (i := 24) (N := some 51) #[true, true, true, true, true, true, true, true, true, true, true, true, true, true, true, true, true, true, true, true, true, true, true, true, true, false, false, false, false, false, false, false, false, false, false, false, false, false, false] rfl rfl (one_of HT_.out (by kernel_rfl)) (by decide) (fun K hK => ?_)
                  refine goes_ Try.func10 (by kernel_rfl) rfl #[.agg #[.slice Ao55 t363.length co55], .slice Ao56 t366.length co56] (by rfl) rfl rfl xg ?_
                  with_reducible refine (law14_same.calls _ _ t363 _ _ t366 true _ ?side1 ?side2 ?side3 ?side4 A23.out).mono ?_
                  (case side1 => repeat (first | exact (Kd.R_reads' HO365.out).2.2 | (with_reducible refine Kd.C_alloc ?_ _) | (with_reducible refine Kd.C_drewN ?_ _) | (with_reducible refine Kd.C_drew ?_)))
                  (case side2 => exact (Kd.R_reads' HO365.out).2.1)
                  (case side3 => repeat (first | exact (Kd.R_reads' HO368.out).2.2 | (with_reducible refine Kd.C_alloc ?_ _) | (with_reducible refine Kd.C_drewN ?_ _) | (with_reducible refine Kd.C_drew ?_)))
                  (case side4 => exact (Kd.R_reads' HO368.out).2.1)
                  rintro e w57 ⟨rfl, hb⟩
                  refine ⟨_, rfl, ?_⟩
                  have n0_ := Aside0.mk (Kd.V_below (by (with_reducible repeat (first | apply Kd.V_alloc | apply Kd.V_drewN | apply Kd.V_drew)); exact HO339.out) hb)
                  have n1_ := Aside0.mk (Kd.V_below (by (with_reducible repeat (first | apply Kd.V_alloc | apply Kd.V_drewN | apply Kd.V_drew)); exact HO342.out) hb)
                  have n2_ := Aside0.mk (Kd.R_below (by (with_reducible repeat (first | apply Kd.R_alloc | apply Kd.R_drewN | apply Kd.R_drew)); exact HO347.out) hb)
                  have n3_ := Aside0.mk (Kd.R_below (by (with_reducible repeat (first | apply Kd.R_alloc | apply Kd.R_drewN | apply Kd.R_drew)); exact HO350.out) hb)
                  have n4_ := Aside0.mk (Kd.V_below (by (with_reducible repeat (first | apply Kd.V_alloc | apply Kd.V_drewN | apply Kd.V_drew)); exact HO353.out) hb)
                  have n5_ := Aside0.mk (Kd.R_below (by (with_reducible repeat (first | apply Kd.R_alloc | apply Kd.R_drewN | apply Kd.R_drew)); exact HO357.out) hb)
                  have n6_ := Aside0.mk (Kd.R_below (by (with_reducible repeat (first | apply Kd.R_alloc | apply Kd.R_drewN | apply Kd.R_drew)); exact HO361.out) hb)
                  have n7_ := Aside0.mk (Kd.R_below (by (with_reducible repeat (first | apply Kd.R_alloc | apply Kd.R_drewN | apply Kd.R_drew)); exact HO365.out) hb)
                  have n8_ := Aside0.mk (Kd.R_below (by (with_reducible repeat (first | apply Kd.R_alloc | apply Kd.R_drewN | apply Kd.R_drew)); exact HO368.out) hb)
                  have n9_ := blkB BK343 hb
                  have n10_ := blkB BK344 hb
                  have n11_ := Aside0.mk (below_step xb hb)
                  clear HO339
                  clear HO342
                  clear HO347
                  clear HO350
                  clear HO353
                  clear HO357
                  clear HO361
                  clear HO365
                  clear HO368
                  clear BK343
                  clear BK344
                  clear HB
                  have HO339 := n0_
                  have HO342 := n1_
                  have HO347 := n2_
                  have HO350 := n3_
                  have HO353 := n4_
                  have HO357 := n5_
                  have HO361 := n6_
                  have HO365 := n7_
                  have HO368 := n8_
                  have BK343 := n9_
                  have BK344 := n10_
                  have HB := n11_
                  clear n0_ n1_ n2_ n3_ n4_ n5_ n6_ n7_ n8_ n9_ n10_ n11_
                  (try clear hb)
                  (try clear hb2)
                  (try clear hk)
                  (try clear hi)
                  refine hK.out _ _ xc (fun hHeld => ?_)
                  clear hK K
                  refine norm_ (a' := ?_) ?_ ?_
                  rotate_left
                  · show Act.put _ (some 51) _ = _
                    simp only [Act.put, List.setIfInBounds_toArray, List.set_cons_zero, List.set_cons_succ, i64_w, i32_w]
                    rfl
                  refine pure_ (i := 25) (N := some 52) (v := ?_) (a' := ?_) #[true, true, true, true, true, true, true, true, true, true, true, true, true, true, true, true, true, true, true, true, true, true, true, true, true, true, false, false, false, false, false, false, false, false, false, false, false, false, false] rfl rfl (any_of HT_.out (by kernel_rfl)) (fun _ _ _ h => h) (Or.inl ⟨by rfl, ?_⟩) ?_ ?_
                  rotate_left
                  · intro w'
                    go_simp
                    with_reducible rfl
                  rotate_left
                  · simp only [Act.put, List.setIfInBounds_toArray, List.set_cons_zero, List.set_cons_succ, i64_w, i32_w]
                    rfl
                  refine pure_ (i := 26) (N := some 53) (v := ?_) (a' := ?_) #[true, true, true, true, true, true, true, true, true, true, true, true, true, true, true, true, true, true, true, true, true, true, true, true, true, true, true, false, false, false, false, false, false, false, false, false, false, false, false] rfl rfl (any_of HT_.out (by kernel_rfl)) (fun _ _ _ h => h) (Or.inl ⟨by rfl, ?_⟩) ?_ ?_
                  rotate_left
                  · intro w'
                    go_simp
                    with_reducible rfl
                  rotate_left
                  · simp only [Act.put, List.setIfInBounds_toArray, List.set_cons_zero, List.set_cons_succ, i64_w, i32_w]
                    rfl
                  refine pure_ (i := 28) (N := some 55) (v := ?_) (a' := ?_) #[true, true, true, true, true, true, true, true, true, true, true, true, true, true, true, true, true, true, true, true, true, true, true, true, true, true, true, false, true, false, false, false, false, false, false, false, false, false, false] rfl rfl (any_of HT_.out (by kernel_rfl)) (fun _ _ _ h => h) (Or.inl ⟨by rfl, ?_⟩) ?_ ?_
                  rotate_left
                  · intro w'
                    go_simp
                    with_reducible rfl
                  rotate_left
                  · simp only [Act.put, List.setIfInBounds_toArray, List.set_cons_zero, List.set_cons_succ, i64_w, i32_w]
                    rfl
                  refine take_ (i := 27) (N := some 54) (v := ?_) (a' := ?_) #[true, true, true, true, true, true, true, true, true, true, true, true, true, true, true, true, true, true, true, true, true, true, true, true, true, true, true, true, true, false, false, false, false, false, false, false, false, false, false] rfl rfl (take_ofW HT_.out HW_.out (by kernel_rfl)) (fun _ _ _ h => h) (Or.inl ⟨by rfl, ?_⟩) hHeld ?_ ?_
                  rotate_left
                  · rintro w' ⟨s0, s1⟩
                    go_simp
                    with_reducible rfl
                  rotate_left
                  · simp only [Act.put, List.setIfInBounds_toArray, List.set_cons_zero, List.set_cons_succ, i64_w, i32_w]
                    rfl
                  refine one_ (i := 29) (N := some 56) #[true, true, true, true, true, true, true, true, true, true, true, true, true, true, true, true, true, true, true, true, true, true, true, true, true, true, true, true, true, true, false, false, false, false, false, false, false, false, false] rfl rfl (one_of HT_.out (by kernel_rfl)) (by decide) (fun K hK => ?_)
                  refine goes_ Try.func12 (by kernel_rfl) rfl #[.slice A0 l0.length c0] (by rfl) rfl rfl xg ?_
                  with_reducible refine (cracknellaw14_model.calls kj2 _ _ l0 t370 _ ?side1 ?side2 A25.out).mono ?_
                  (case side1 => repeat (first | exact (Kd.C_below HR0.out HB.out) | (with_reducible refine Kd.C_alloc ?_ _) | (with_reducible refine Kd.C_drewN ?_ _) | (with_reducible refine Kd.C_drew ?_)))
                  (case side2 => exact HC0.out)
                  rintro e w58 ⟨v371, rfl, ho0, hb⟩
                  refine ⟨_, rfl, ?_⟩
                  have n0_ := Aside0.mk (Kd.V_elder' (by (with_reducible repeat (first | apply Kd.V_alloc | apply Kd.V_drewN | apply Kd.V_drew)); exact HO339.out) (Kd.R_base ho0) hb)
                  have n1_ := Aside0.mk (Kd.V_elder' (by (with_reducible repeat (first | apply Kd.V_alloc | apply Kd.V_drewN | apply Kd.V_drew)); exact HO342.out) (Kd.R_base ho0) hb)
                  have n2_ := Aside0.mk (Kd.R_elder' (by (with_reducible repeat (first | apply Kd.R_alloc | apply Kd.R_drewN | apply Kd.R_drew)); exact HO347.out) (Kd.R_base ho0) hb)
                  have n3_ := Aside0.mk (Kd.R_elder' (by (with_reducible repeat (first | apply Kd.R_alloc | apply Kd.R_drewN | apply Kd.R_drew)); exact HO350.out) (Kd.R_base ho0) hb)
                  have n4_ := Aside0.mk (Kd.V_elder' (by (with_reducible repeat (first | apply Kd.V_alloc | apply Kd.V_drewN | apply Kd.V_drew)); exact HO353.out) (Kd.R_base ho0) hb)
                  have n5_ := Aside0.mk (Kd.R_below (by (with_reducible repeat (first | apply Kd.R_alloc | apply Kd.R_drewN | apply Kd.R_drew)); exact HO357.out) hb)
                  have n6_ := Aside0.mk (Kd.R_below (by (with_reducible repeat (first | apply Kd.R_alloc | apply Kd.R_drewN | apply Kd.R_drew)); exact HO361.out) hb)
                  have n7_ := Aside0.mk (Kd.R_below (by (with_reducible repeat (first | apply Kd.R_alloc | apply Kd.R_drewN | apply Kd.R_drew)); exact HO365.out) hb)
                  have n8_ := Aside0.mk (Kd.R_elder' (by (with_reducible repeat (first | apply Kd.R_alloc | apply Kd.R_drewN | apply Kd.R_drew)); exact HO368.out) (Kd.R_base ho0) hb)
                  have n9_ := Aside0.mk (Kd.R_lower (Kd.R_new' (Kd.R_new' (Kd.R_new' ho0 (Kd.R_lt (by (with_reducible repeat (first | apply Kd.R_alloc | apply Kd.R_drewN | apply Kd.R_drew)); exact HO347.out))) (Kd.R_lt (by (with_reducible repeat (first | apply Kd.R_alloc | apply Kd.R_drewN | apply Kd.R_drew)); exact HO350.out))) (Kd.R_lt (by (with_reducible repeat (first | apply Kd.R_alloc | apply Kd.R_drewN | apply Kd.R_drew)); exact HO368.out))) (below_size xb))
                  have n10_ := blkB BK343 hb
                  have n11_ := blkB BK344 hb
                  have n12_ := Aside0.mk (below_step xb hb)
                  clear HO339
                  clear HO342
                  clear HO347
                  clear HO350
                  clear HO353
                  clear HO357
                  clear HO361
                  clear HO365
                  clear HO368
                  clear BK343
                  clear BK344
                  clear HB
                  have HO339 := n0_
                  have HO342 := n1_
                  have HO347 := n2_
                  have HO350 := n3_
                  have HO353 := n4_
                  have HO357 := n5_
                  have HO361 := n6_
                  have HO365 := n7_
                  have HO368 := n8_
                  have HO372 := n9_
                  have BK343 := n10_
                  have BK344 := n11_
                  have HB := n12_
                  clear n0_ n1_ n2_ n3_ n4_ n5_ n6_ n7_ n8_ n9_ n10_ n11_ n12_
                  (try clear hb)
                  (try clear hb2)
                  (try clear hk)
                  (try clear hi)
                  (try clear ho0)
                  obtain ⟨Ao59, co59, eo59⟩ := Kd.R_slice HO372.out
                  (first | subst eo59 | (injection eo59 with f1_ f2_ f3_; have f4_ := f1_.symm; have f5_ := f3_.symm; clear f1_ f2_ f3_; subst f4_; subst f5_))
                  refine hK.out _ _ xc (fun hHeld => ?_)
                  clear hK K
                  refine norm_ (a' := ?_) ?_ ?_
                  rotate_left
                  · show Act.put _ (some 56) _ = _
                    simp only [Act.put, List.setIfInBounds_toArray, List.set_cons_zero, List.set_cons_succ, i64_w, i32_w]
                    rfl
                  refine one_ (i := 30) (N := some 57) #[true, true, true, true, true, true, true, true, true, true, true, true, true, true, true, true, true, true, true, true, true, true, true, true, true, true, true, true, true, true, true, false, false, false, false, false, false, false, false] rfl rfl (one_of HT_.out (by kernel_rfl)) (by decide) (fun K hK => ?_)
                  refine goes_ Try.func10 (by kernel_rfl) rfl #[.agg #[.slice Ao34 t337.length co34], .slice Ao59 t370.length co59] (by rfl) rfl rfl xg ?_
                  with_reducible refine (law14_same.calls _ _ t337 _ _ t370 true _ ?side1 ?side2 ?side3 ?side4 A26.out).mono ?_
                  (case side1 => repeat (first | exact (Kd.V_reads' HO339.out).2.2 | (with_reducible refine Kd.C_alloc ?_ _) | (with_reducible refine Kd.C_drewN ?_ _) | (with_reducible refine Kd.C_drew ?_)))
                  (case side2 => exact (Kd.V_reads' HO339.out).2.1)
                  (case side3 => repeat (first | exact (Kd.R_reads' HO372.out).2.2 | (with_reducible refine Kd.C_alloc ?_ _) | (with_reducible refine Kd.C_drewN ?_ _) | (with_reducible refine Kd.C_drew ?_)))
                  (case side4 => exact (Kd.R_reads' HO372.out).2.1)
                  rintro e w60 ⟨rfl, hb⟩
                  refine ⟨_, rfl, ?_⟩
                  have n0_ := Aside0.mk (Kd.V_below (by (with_reducible repeat (first | apply Kd.V_alloc | apply Kd.V_drewN | apply Kd.V_drew)); exact HO339.out) hb)
                  have n1_ := Aside0.mk (Kd.V_below (by (with_reducible repeat (first | apply Kd.V_alloc | apply Kd.V_drewN | apply Kd.V_drew)); exact HO342.out) hb)
                  have n2_ := Aside0.mk (Kd.R_below (by (with_reducible repeat (first | apply Kd.R_alloc | apply Kd.R_drewN | apply Kd.R_drew)); exact HO347.out) hb)
                  have n3_ := Aside0.mk (Kd.R_below (by (with_reducible repeat (first | apply Kd.R_alloc | apply Kd.R_drewN | apply Kd.R_drew)); exact HO350.out) hb)
                  have n4_ := Aside0.mk (Kd.V_below (by (with_reducible repeat (first | apply Kd.V_alloc | apply Kd.V_drewN | apply Kd.V_drew)); exact HO353.out) hb)
                  have n5_ := Aside0.mk (Kd.R_below (by (with_reducible repeat (first | apply Kd.R_alloc | apply Kd.R_drewN | apply Kd.R_drew)); exact HO357.out) hb)
                  have n6_ := Aside0.mk (Kd.R_below (by (with_reducible repeat (first | apply Kd.R_alloc | apply Kd.R_drewN | apply Kd.R_drew)); exact HO361.out) hb)
                  have n7_ := Aside0.mk (Kd.R_below (by (with_reducible repeat (first | apply Kd.R_alloc | apply Kd.R_drewN | apply Kd.R_drew)); exact HO365.out) hb)
                  have n8_ := Aside0.mk (Kd.R_below (by (with_reducible repeat (first | apply Kd.R_alloc | apply Kd.R_drewN | apply Kd.R_drew)); exact HO368.out) hb)
                  have n9_ := Aside0.mk (Kd.R_below (by (with_reducible repeat (first | apply Kd.R_alloc | apply Kd.R_drewN | apply Kd.R_drew)); exact HO372.out) hb)
                  have n10_ := blkB BK343 hb
                  have n11_ := blkB BK344 hb
                  have n12_ := Aside0.mk (below_step xb hb)
                  clear HO339
                  clear HO342
                  clear HO347
                  clear HO350
                  clear HO353
                  clear HO357
                  clear HO361
                  clear HO365
                  clear HO368
                  clear HO372
                  clear BK343
                  clear BK344
                  clear HB
                  have HO339 := n0_
                  have HO342 := n1_
                  have HO347 := n2_
                  have HO350 := n3_
                  have HO353 := n4_
                  have HO357 := n5_
                  have HO361 := n6_
                  have HO365 := n7_
                  have HO368 := n8_
                  have HO372 := n9_
                  have BK343 := n10_
                  have BK344 := n11_
                  have HB := n12_
                  clear n0_ n1_ n2_ n3_ n4_ n5_ n6_ n7_ n8_ n9_ n10_ n11_ n12_
                  (try clear hb)
                  (try clear hb2)
                  (try clear hk)
                  (try clear hi)
                  refine hK.out _ _ xc (fun hHeld => ?_)
                  clear hK K
                  refine norm_ (a' := ?_) ?_ ?_
                  rotate_left
                  · show Act.put _ (some 57) _ = _
                    simp only [Act.put, List.setIfInBounds_toArray, List.set_cons_zero, List.set_cons_succ, i64_w, i32_w]
                    rfl
                  refine pure_ (i := 31) (N := some 58) (v := ?_) (a' := ?_) #[true, true, true, true, true, true, true, true, true, true, true, true, true, true, true, true, true, true, true, true, true, true, true, true, true, true, true, true, true, true, true, true, false, false, false, false, false, false, false] rfl rfl (any_of HT_.out (by kernel_rfl)) (fun _ _ _ h => h) (Or.inl ⟨by rfl, ?_⟩) ?_ ?_
                  rotate_left
                  · intro w'
                    go_simp
                    with_reducible rfl
                  rotate_left
                  · simp only [Act.put, List.setIfInBounds_toArray, List.set_cons_zero, List.set_cons_succ, i64_w, i32_w]
                    rfl
                  refine pure_ (i := 32) (N := some 59) (v := ?_) (a' := ?_) #[true, true, true, true, true, true, true, true, true, true, true, true, true, true, true, true, true, true, true, true, true, true, true, true, true, true, true, true, true, true, true, true, true, false, false, false, false, false, false] rfl rfl (any_of HT_.out (by kernel_rfl)) (fun _ _ _ h => h) (Or.inl ⟨by rfl, ?_⟩) ?_ ?_
                  rotate_left
                  · intro w'
                    go_simp
                    with_reducible rfl
                  rotate_left
                  · simp only [Act.put, List.setIfInBounds_toArray, List.set_cons_zero, List.set_cons_succ, i64_w, i32_w]
                    rfl
                  refine pure_ (i := 34) (N := some 61) (v := ?_) (a' := ?_) #[true, true, true, true, true, true, true, true, true, true, true, true, true, true, true, true, true, true, true, true, true, true, true, true, true, true, true, true, true, true, true, true, true, false, true, false, false, false, false] rfl rfl (any_of HT_.out (by kernel_rfl)) (fun _ _ _ h => h) (Or.inl ⟨by rfl, ?_⟩) ?_ ?_
                  rotate_left
                  · intro w'
                    go_simp
                    with_reducible rfl
                  rotate_left
                  · simp only [Act.put, List.setIfInBounds_toArray, List.set_cons_zero, List.set_cons_succ, i64_w, i32_w]
                    rfl
                  refine take_ (i := 33) (N := some 60) (v := ?_) (a' := ?_) #[true, true, true, true, true, true, true, true, true, true, true, true, true, true, true, true, true, true, true, true, true, true, true, true, true, true, true, true, true, true, true, true, true, true, true, false, false, false, false] rfl rfl (take_ofW HT_.out HW_.out (by kernel_rfl)) (fun _ _ _ h => h) (Or.inl ⟨by rfl, ?_⟩) hHeld ?_ ?_
                  rotate_left
                  · rintro w' ⟨s0, s1⟩
                    go_simp
                    with_reducible rfl
                  rotate_left
                  · simp only [Act.put, List.setIfInBounds_toArray, List.set_cons_zero, List.set_cons_succ, i64_w, i32_w]
                    rfl
                  refine one_ (i := 35) (N := some 62) #[true, true, true, true, true, true, true, true, true, true, true, true, true, true, true, true, true, true, true, true, true, true, true, true, true, true, true, true, true, true, true, true, true, true, true, true, false, false, false] rfl rfl (one_of HT_.out (by kernel_rfl)) (by decide) (fun K hK => ?_)
                  refine goes_ Try.func12 (by kernel_rfl) rfl #[.slice A1 l1.length c1] (by rfl) rfl rfl xg ?_
                  with_reducible refine (cracknellaw14_model.calls kj2 _ _ l1 t374 _ ?side1 ?side2 A28.out).mono ?_
                  (case side1 => repeat (first | exact (Kd.C_below HR1.out HB.out) | (with_reducible refine Kd.C_alloc ?_ _) | (with_reducible refine Kd.C_drewN ?_ _) | (with_reducible refine Kd.C_drew ?_)))
                  (case side2 => exact HC1.out)
                  rintro e w61 ⟨v375, rfl, ho0, hb⟩
                  refine ⟨_, rfl, ?_⟩
                  have n0_ := Aside0.mk (Kd.V_elder' (by (with_reducible repeat (first | apply Kd.V_alloc | apply Kd.V_drewN | apply Kd.V_drew)); exact HO339.out) (Kd.R_base ho0) hb)
                  have n1_ := Aside0.mk (Kd.V_elder' (by (with_reducible repeat (first | apply Kd.V_alloc | apply Kd.V_drewN | apply Kd.V_drew)); exact HO342.out) (Kd.R_base ho0) hb)
                  have n2_ := Aside0.mk (Kd.R_elder' (by (with_reducible repeat (first | apply Kd.R_alloc | apply Kd.R_drewN | apply Kd.R_drew)); exact HO347.out) (Kd.R_base ho0) hb)
                  have n3_ := Aside0.mk (Kd.R_elder' (by (with_reducible repeat (first | apply Kd.R_alloc | apply Kd.R_drewN | apply Kd.R_drew)); exact HO350.out) (Kd.R_base ho0) hb)
                  have n4_ := Aside0.mk (Kd.V_elder' (by (with_reducible repeat (first | apply Kd.V_alloc | apply Kd.V_drewN | apply Kd.V_drew)); exact HO353.out) (Kd.R_base ho0) hb)
                  have n5_ := Aside0.mk (Kd.R_below (by (with_reducible repeat (first | apply Kd.R_alloc | apply Kd.R_drewN | apply Kd.R_drew)); exact HO357.out) hb)
                  have n6_ := Aside0.mk (Kd.R_below (by (with_reducible repeat (first | apply Kd.R_alloc | apply Kd.R_drewN | apply Kd.R_drew)); exact HO361.out) hb)
                  have n7_ := Aside0.mk (Kd.R_below (by (with_reducible repeat (first | apply Kd.R_alloc | apply Kd.R_drewN | apply Kd.R_drew)); exact HO365.out) hb)
                  have n8_ := Aside0.mk (Kd.R_elder' (by (with_reducible repeat (first | apply Kd.R_alloc | apply Kd.R_drewN | apply Kd.R_drew)); exact HO368.out) (Kd.R_base ho0) hb)
                  have n9_ := Aside0.mk (Kd.R_elder' (by (with_reducible repeat (first | apply Kd.R_alloc | apply Kd.R_drewN | apply Kd.R_drew)); exact HO372.out) (Kd.R_base ho0) hb)
                  have n10_ := Aside0.mk (Kd.R_lower (Kd.R_new' (Kd.R_new' (Kd.R_new' (Kd.R_new' ho0 (Kd.R_lt (by (with_reducible repeat (first | apply Kd.R_alloc | apply Kd.R_drewN | apply Kd.R_drew)); exact HO347.out))) (Kd.R_lt (by (with_reducible repeat (first | apply Kd.R_alloc | apply Kd.R_drewN | apply Kd.R_drew)); exact HO350.out))) (Kd.R_lt (by (with_reducible repeat (first | apply Kd.R_alloc | apply Kd.R_drewN | apply Kd.R_drew)); exact HO368.out))) (Kd.R_lt (by (with_reducible repeat (first | apply Kd.R_alloc | apply Kd.R_drewN | apply Kd.R_drew)); exact HO372.out))) (below_size xb))
                  have n11_ := blkB BK343 hb
                  have n12_ := blkB BK344 hb
                  have n13_ := Aside0.mk (below_step xb hb)
                  clear HO339
                  clear HO342
                  clear HO347
                  clear HO350
                  clear HO353
                  clear HO357
                  clear HO361
                  clear HO365
                  clear HO368
                  clear HO372
                  clear BK343
                  clear BK344
                  clear HB
                  have HO339 := n0_
                  have HO342 := n1_
                  have HO347 := n2_
                  have HO350 := n3_
                  have HO353 := n4_
                  have HO357 := n5_
                  have HO361 := n6_
                  have HO365 := n7_
                  have HO368 := n8_
                  have HO372 := n9_
                  have HO376 := n10_
                  have BK343 := n11_
                  have BK344 := n12_
                  have HB := n13_
                  clear n0_ n1_ n2_ n3_ n4_ n5_ n6_ n7_ n8_ n9_ n10_ n11_ n12_ n13_
                  (try clear hb)
                  (try clear hb2)
                  (try clear hk)
                  (try clear hi)
                  (try clear ho0)
                  obtain ⟨Ao62, co62, eo62⟩ := Kd.R_slice HO376.out
                  (first | subst eo62 | (injection eo62 with f1_ f2_ f3_; have f4_ := f1_.symm; have f5_ := f3_.symm; clear f1_ f2_ f3_; subst f4_; subst f5_))
                  refine hK.out _ _ xc (fun hHeld => ?_)
                  clear hK K
                  refine norm_ (a' := ?_) ?_ ?_
                  rotate_left
                  · show Act.put _ (some 62) _ = _
                    simp only [Act.put, List.setIfInBounds_toArray, List.set_cons_zero, List.set_cons_succ, i64_w, i32_w]
                    rfl
                  refine one_ (i := 36) (N := some 63) #[true, true, true, true, true, true, true, true, true, true, true, true, true, true, true, true, true, true, true, true, true, true, true, true, true, true, true, true, true, true, true, true, true, true, true, true, true, false, false] rfl rfl (one_of HT_.out (by kernel_rfl)) (by decide) (fun K hK => ?_)
                  refine goes_ Try.func10 (by kernel_rfl) rfl #[.agg #[.slice Ao37 t340.length co37], .slice Ao62 t374.length co62] (by rfl) rfl rfl xg ?_
                  with_reducible refine (law14_same.calls _ _ t340 _ _ t374 t377 _ ?side1 ?side2 ?side3 ?side4 A29.out).mono ?_
                  (case side1 => repeat (first | exact (Kd.V_reads' HO342.out).2.2 | (with_reducible refine Kd.C_alloc ?_ _) | (with_reducible refine Kd.C_drewN ?_ _) | (with_reducible refine Kd.C_drew ?_)))
                  (case side2 => exact (Kd.V_reads' HO342.out).2.1)
                  (case side3 => repeat (first | exact (Kd.R_reads' HO376.out).2.2 | (with_reducible refine Kd.C_alloc ?_ _) | (with_reducible refine Kd.C_drewN ?_ _) | (with_reducible refine Kd.C_drew ?_)))
                  (case side4 => exact (Kd.R_reads' HO376.out).2.1)
                  rintro e w63 ⟨rfl, hb⟩
                  refine ⟨_, rfl, ?_⟩
                  have n0_ := Aside0.mk (Kd.V_below (by (with_reducible repeat (first | apply Kd.V_alloc | apply Kd.V_drewN | apply Kd.V_drew)); exact HO339.out) hb)
                  have n1_ := Aside0.mk (Kd.V_below (by (with_reducible repeat (first | apply Kd.V_alloc | apply Kd.V_drewN | apply Kd.V_drew)); exact HO342.out) hb)
                  have n2_ := Aside0.mk (Kd.R_below (by (with_reducible repeat (first | apply Kd.R_alloc | apply Kd.R_drewN | apply Kd.R_drew)); exact HO347.out) hb)
                  have n3_ := Aside0.mk (Kd.R_below (by (with_reducible repeat (first | apply Kd.R_alloc | apply Kd.R_drewN | apply Kd.R_drew)); exact HO350.out) hb)
                  have n4_ := Aside0.mk (Kd.V_below (by (with_reducible repeat (first | apply Kd.V_alloc | apply Kd.V_drewN | apply Kd.V_drew)); exact HO353.out) hb)
                  have n5_ := Aside0.mk (Kd.R_below (by (with_reducible repeat (first | apply Kd.R_alloc | apply Kd.R_drewN | apply Kd.R_drew)); exact HO357.out) hb)
                  have n6_ := Aside0.mk (Kd.R_below (by (with_reducible repeat (first | apply Kd.R_alloc | apply Kd.R_drewN | apply Kd.R_drew)); exact HO361.out) hb)
                  have n7_ := Aside0.mk (Kd.R_below (by (with_reducible repeat (first | apply Kd.R_alloc | apply Kd.R_drewN | apply Kd.R_drew)); exact HO365.out) hb)
                  have n8_ := Aside0.mk (Kd.R_below (by (with_reducible repeat (first | apply Kd.R_alloc | apply Kd.R_drewN | apply Kd.R_drew)); exact HO368.out) hb)
                  have n9_ := Aside0.mk (Kd.R_below (by (with_reducible repeat (first | apply Kd.R_alloc | apply Kd.R_drewN | apply Kd.R_drew)); exact HO372.out) hb)
                  have n10_ := Aside0.mk (Kd.R_below (by (with_reducible repeat (first | apply Kd.R_alloc | apply Kd.R_drewN | apply Kd.R_drew)); exact HO376.out) hb)
                  have n11_ := blkB BK343 hb
                  have n12_ := blkB BK344 hb
                  have n13_ := Aside0.mk (below_step xb hb)
                  clear HO339
                  clear HO342
                  clear HO347
                  clear HO350
                  clear HO353
                  clear HO357
                  clear HO361
                  clear HO365
                  clear HO368
                  clear HO372
                  clear HO376
                  clear BK343
                  clear BK344
                  clear HB
                  have HO339 := n0_
                  have HO342 := n1_
                  have HO347 := n2_
                  have HO350 := n3_
                  have HO353 := n4_
                  have HO357 := n5_
                  have HO361 := n6_
                  have HO365 := n7_
                  have HO368 := n8_
                  have HO372 := n9_
                  have HO376 := n10_
                  have BK343 := n11_
                  have BK344 := n12_
                  have HB := n13_
                  clear n0_ n1_ n2_ n3_ n4_ n5_ n6_ n7_ n8_ n9_ n10_ n11_ n12_ n13_
                  (try clear hb)
                  (try clear hb2)
                  (try clear hk)
                  (try clear hi)
                  refine hK.out _ _ xc (fun hHeld => ?_)
                  clear hK K
                  refine norm_ (a' := ?_) ?_ ?_
                  rotate_left
                  · show Act.put _ (some 63) _ = _
                    simp only [Act.put, List.setIfInBounds_toArray, List.set_cons_zero, List.set_cons_succ, i64_w, i32_w]
                    rfl
                  refine pure_ (i := 37) (N := some 64) (v := ?_) (a' := ?_) #[true, true, true, true, true, true, true, true, true, true, true, true, true, true, true, true, true, true, true, true, true, true, true, true, true, true, true, true, true, true, true, true, true, true, true, true, true, true, false] rfl rfl (any_of HT_.out (by kernel_rfl)) (fun _ _ _ h => h) (Or.inl ⟨by rfl, ?_⟩) ?_ ?_
                  rotate_left
                  · intro w'
                    go_simp
                    with_reducible rfl
                  rotate_left
                  · simp only [Act.put, List.setIfInBounds_toArray, List.set_cons_zero, List.set_cons_succ, i64_w, i32_w]
                    rfl
                  refine pure_ (i := 38) (N := some 4) (v := ?_) (a' := ?_) #[true, true, true, true, true, true, true, true, true, true, true, true, true, true, true, true, true, true, true, true, true, true, true, true, true, true, true, true, true, true, true, true, true, true, true, true, true, true, true] rfl rfl (any_of HT_.out (by kernel_rfl)) (fun _ _ _ h => h) (Or.inl ⟨by rfl, ?_⟩) ?_ ?_
                  rotate_left
                  · intro w'
                    go_simp
                    with_reducible rfl
                  rotate_left
                  · simp only [Act.put, List.setIfInBounds_toArray, List.set_cons_zero, List.set_cons_succ, i64_w, i32_w]
                    rfl
                  refine done_ (done_of HT_.out (by kernel_rfl)) ?_
                  try go_wp2
                  go_ret
                  exact ⟨by first | rfl | (simp [errW_none, errW_some] <;> rfl) | (simp [*, errW_none, errW_some] <;> rfl), by repeat (first | (with_reducible first | exact HB.out | apply below_alloc | apply pw_below_drewN | apply below_drew1 | refine below_set ?_ GE343.out | refine below_set ?_ GE344.out) | exact HB.out)⟩
                · replace c27 := Bool.eq_false_iff.mpr c27
                  subst c27
                  have H1 : (some false) = some r := by rw [if_neg (show ¬ (false = true) by decide)] at H; exact H
                  clear H
                  have H := H1
                  clear H1
                  obtain rfl := Option.some.inj H
                  exact absurd hT_.out (by decide)
              · replace c24 := Bool.eq_false_iff.mpr c24
                subst c24
                have H1 : (some false) = some r := by rw [if_neg (show ¬ (false = true) by decide)] at H; exact H
                clear H
                have H := H1
                clear H1
                obtain rfl := Option.some.inj H
                exact absurd hT_.out (by decide)
            · replace c20 := Bool.eq_false_iff.mpr c20
              subst c20
              have H1 : (some false) = some r := by rw [if_neg (show ¬ (false = true) by decide)] at H; exact H
              clear H
              have H := H1
              clear H1
              obtain rfl := Option.some.inj H
              exact absurd hT_.out (by decide)
          · replace c17 := Bool.eq_false_iff.mpr c17
            subst c17
            have H1 : (some false) = some r := by rw [if_neg (show ¬ (false = true) by decide)] at H; exact H
            clear H
            have H := H1
            clear H1
            obtain rfl := Option.some.inj H
            exact absurd hT_.out (by decide)
        · replace c14 := Bool.eq_false_iff.mpr c14
          subst c14
          have H1 : (some false) = some r := by rw [if_neg (show ¬ (false = true) by decide)] at H; exact H
          clear H
          have H := H1
          clear H1
          obtain rfl := Option.some.inj H
          exact absurd hT_.out (by decide)

/-- THE ONE PURE STATEMENT of cracknellaw14_TableMerges: yours. -/
def cracknellaw14_TableMerges.Pure : Prop := ∀ (l0 : List (S43)) (l1 : List (S43)), (∀ x ∈ l0, (Lit.int .i64 x.f0).wf = true ∧ (Lit.int .i64 x.f1).wf = true ∧ (Lit.int .i64 x.f2).wf = true) → (∀ x ∈ l1, (Lit.int .i64 x.f0).wf = true ∧ (Lit.int .i64 x.f1).wf = true ∧ (Lit.int .i64 x.f2).wf = true) → ∃ k, cracknellaw14_TableMerges.f k l0 l1 = some true
theorem cracknellaw14_TableMerges.walk (P : cracknellaw14_TableMerges.Pure) (A0 : Option Addr) (c0 : Nat) (l0 : List (S43)) (A1 : Option Addr) (c1 : Nat) (l1 : List (S43)) (w : World) (hr0 : Kd.C k43 w A0 l0.length l0) (hc0 : l0.length ≤ c0) (hw0 : ∀ x ∈ l0, (Lit.int .i64 x.f0).wf = true ∧ (Lit.int .i64 x.f1).wf = true ∧ (Lit.int .i64 x.f2).wf = true) (hr1 : Kd.C k43 w A1 l1.length l1) (hc1 : l1.length ≤ c1) (hw1 : ∀ x ∈ l1, (Lit.int .i64 x.f0).wf = true ∧ (Lit.int .i64 x.f1).wf = true ∧ (Lit.int .i64 x.f2).wf = true) :
    Calls Try.prog 6 #[.slice A0 l0.length c0, .slice A1 l1.length c1] w fun e w' => e = .returned (.bool true) ∧ Below w.heap.size w w' := by
  obtain ⟨k, h⟩ := P l0 l1 hw0 hw1
  refine (cracknellaw14_TableMerges.calls k _ _ l0 _ _ l1 true w hr0 hc0 hr1 hc1 ⟨rfl⟩ h).mono ?_
  rintro e w' ⟨rfl, hd⟩
  exact ⟨rfl, hd⟩

end Go.Proofs.Ytmpccjkdfdgedaa.Print
