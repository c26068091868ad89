/- Printed by a program of this claim's session (xprint.py): the machine's side: each Go function as a Lean function, and that a call of it comes to what that tells; the row of a statement. No condition. -/
import Derived.Test.YtccmackhhppbdaaDoorPrint0
import Derived.Test.YtccmackhhppbdaaDoorPrint3
import Derived.Test.YtccmackhhppbdaaDoorPrint13
import Derived.Test.YtccmackhhppbdaaDoorPrint20
namespace Go.Proofs.YtccmackhhppbdaaDoor.Print
open Go.RowKit Go.Proofs.YtccmackhhppbdaaDoorW.PrintWords Go.Proofs.YtccmackhhppbdaaDoorW.PrintLast Go.Proofs.YtccmackhhppbdaaDoorW.PrintMore
attribute [local go_sem] max2_int min2_int max_two min_two max_three min_three max_four min_four   -- for this text's walks alone
set_option linter.unusedVariables false
set_option linter.unusedSimpArgs false

/-! ### cracknellaw18_ProjWords: function 3 -/
def cracknellaw18_ProjWords.f (k : Nat) (a0 : Int) (a1 : ByteArray) : Option (Bool) := (proj_Word.f a0).bind fun t503 => ((proj_Format.f k a1).bind fun t504 => ((cracknellaw18_alive.f k).bind fun t505 => (if t505 = true then ((cracknelref18_Word.f a0).bind fun t506 => (if t503.toList = t506.toList then ((cracknelref18_Format.f k a1).bind fun t507 => (if t504 = t507 then (if t503.toList = ([] : List UInt8) then (if t504 = 0 then (some true) else ((proj_Word.f t504).bind fun t508 => (some (t508.toList == a1.toList)))) else ((proj_Format.f k t503).bind fun t509 => (if t509 = a0 then (if t504 = 0 then (some true) else ((proj_Word.f t504).bind fun t510 => (some (t510.toList == a1.toList)))) else (some false)))) else (some false))) else (some false))) else (some false))))
theorem cracknellaw18_ProjWords.mono : ∀ a0 a1 k, LeO (cracknellaw18_ProjWords.f k a0 a1) (cracknellaw18_ProjWords.f (k + 1) a0 a1) := by
  intro a0 a1 k
  unfold cracknellaw18_ProjWords.f
  repeat' first
      | (with_reducible exact cracknellaw18_alive.mono _)
      | (with_reducible exact cracknelref18_Format.mono _ _)
      | (with_reducible exact proj_Format.mono _ _)
      | (with_reducible exact LeO.refl _)
      | (with_reducible exact LeO.none _)
      | (with_reducible refine LeO.ite ?_ ?_)
      | (with_reducible refine LeO.bind ?_ (fun _ => ?_))
      | exact cracknellaw18_alive.mono _
      | exact cracknelref18_Format.mono _ _
      | exact proj_Format.mono _ _
      | exact LeO.none _
      | refine LeO.ite ?_ ?_
      | refine LeO.bind ?_ (fun _ => ?_)
set_option maxHeartbeats 8000000 in
set_option maxRecDepth 100000 in
theorem cracknellaw18_ProjWords.calls (k : Nat) (a0 : Int) (a1 : ByteArray) (r : Bool) (w : World) (hG : Aside0 (LaidG w)) (hT_ : Aside0 (r = true)) (h : cracknellaw18_ProjWords.f k a0 a1 = some r) :
    Calls Tryd.prog 3 #[.int .i64 a0, .string a1] w fun e w' => e = .returned (.bool r) ∧ Below w.heap.size w w' := by
  have HB := Aside0.mk (Below.refl w.heap.size w)
  have H : ((proj_Word.f a0).bind fun t503 => ((proj_Format.f k a1).bind fun t504 => ((cracknellaw18_alive.f k).bind fun t505 => (if t505 = true then ((cracknelref18_Word.f a0).bind fun t506 => (if t503.toList = t506.toList then ((cracknelref18_Format.f k a1).bind fun t507 => (if t504 = t507 then (if t503.toList = ([] : List UInt8) then (if t504 = 0 then (some true) else ((proj_Word.f t504).bind fun t508 => (some (t508.toList == a1.toList)))) else ((proj_Format.f k t503).bind fun t509 => (if t509 = a0 then (if t504 = 0 then (some true) else ((proj_Word.f t504).bind fun t510 => (some (t510.toList == a1.toList)))) else (some false)))) else (some false))) else (some false))) else (some false))))) = some r := h
  clear h
  replace H := Option.bind_eq_some_iff.mp H
  obtain ⟨t503, A30, H⟩ := H
  replace H : ((proj_Format.f k a1).bind fun t504 => ((cracknellaw18_alive.f k).bind fun t505 => (if t505 = true then ((cracknelref18_Word.f a0).bind fun t506 => (if t503.toList = t506.toList then ((cracknelref18_Format.f k a1).bind fun t507 => (if t504 = t507 then (if t503.toList = ([] : List UInt8) then (if t504 = 0 then (some true) else ((proj_Word.f t504).bind fun t508 => (some (t508.toList == a1.toList)))) else ((proj_Format.f k t503).bind fun t509 => (if t509 = a0 then (if t504 = 0 then (some true) else ((proj_Word.f t504).bind fun t510 => (some (t510.toList == a1.toList)))) else (some false)))) else (some false))) else (some false))) else (some false)))) = some r := H
  have A3 := Aside0.mk A30
  clear A30
  replace H := Option.bind_eq_some_iff.mp H
  obtain ⟨t504, A40, H⟩ := H
  replace H : ((cracknellaw18_alive.f k).bind fun t505 => (if t505 = true then ((cracknelref18_Word.f a0).bind fun t506 => (if t503.toList = t506.toList then ((cracknelref18_Format.f k a1).bind fun t507 => (if t504 = t507 then (if t503.toList = ([] : List UInt8) then (if t504 = 0 then (some true) else ((proj_Word.f t504).bind fun t508 => (some (t508.toList == a1.toList)))) else ((proj_Format.f k t503).bind fun t509 => (if t509 = a0 then (if t504 = 0 then (some true) else ((proj_Word.f t504).bind fun t510 => (some (t510.toList == a1.toList)))) else (some false)))) else (some false))) else (some false))) else (some false))) = some r := H
  have A4 := Aside0.mk A40
  clear A40
  replace H := Option.bind_eq_some_iff.mp H
  obtain ⟨t505, A50, H⟩ := H
  replace H : (if t505 = true then ((cracknelref18_Word.f a0).bind fun t506 => (if t503.toList = t506.toList then ((cracknelref18_Format.f k a1).bind fun t507 => (if t504 = t507 then (if t503.toList = ([] : List UInt8) then (if t504 = 0 then (some true) else ((proj_Word.f t504).bind fun t508 => (some (t508.toList == a1.toList)))) else ((proj_Format.f k t503).bind fun t509 => (if t509 = a0 then (if t504 = 0 then (some true) else ((proj_Word.f t504).bind fun t510 => (some (t510.toList == a1.toList)))) else (some false)))) else (some false))) else (some false))) else (some false)) = some r := H
  have A5 := Aside0.mk A50
  clear A50
  by_cases c6 : t505 = true
  · subst c6
    have H1 : ((cracknelref18_Word.f a0).bind fun t506 => (if t503.toList = t506.toList then ((cracknelref18_Format.f k a1).bind fun t507 => (if t504 = t507 then (if t503.toList = ([] : List UInt8) then (if t504 = 0 then (some true) else ((proj_Word.f t504).bind fun t508 => (some (t508.toList == a1.toList)))) else ((proj_Format.f k t503).bind fun t509 => (if t509 = a0 then (if t504 = 0 then (some true) else ((proj_Word.f t504).bind fun t510 => (some (t510.toList == a1.toList)))) else (some false)))) else (some false))) else (some false))) = some r := by rw [if_pos rfl] at H; exact H
    clear H
    have H := H1
    clear H1
    replace H := Option.bind_eq_some_iff.mp H
    obtain ⟨t506, A70, H⟩ := H
    replace H : (if t503.toList = t506.toList then ((cracknelref18_Format.f k a1).bind fun t507 => (if t504 = t507 then (if t503.toList = ([] : List UInt8) then (if t504 = 0 then (some true) else ((proj_Word.f t504).bind fun t508 => (some (t508.toList == a1.toList)))) else ((proj_Format.f k t503).bind fun t509 => (if t509 = a0 then (if t504 = 0 then (some true) else ((proj_Word.f t504).bind fun t510 => (some (t510.toList == a1.toList)))) else (some false)))) else (some false))) else (some false)) = some r := H
    have A7 := Aside0.mk A70
    clear A70
    by_cases c8 : t503.toList = t506.toList
    · rw [if_pos c8] at H
      have c8b0 : (t503.toList == t506.toList) = true := beq_iff_eq.mpr c8
      have c8b1 : (t503.toList != t506.toList) = false := bne_eq_false_iff_eq.mpr c8
      clear c8
      replace H := Option.bind_eq_some_iff.mp H
      obtain ⟨t507, A90, H⟩ := H
      replace H : (if t504 = t507 then (if t503.toList = ([] : List UInt8) then (if t504 = 0 then (some true) else ((proj_Word.f t504).bind fun t508 => (some (t508.toList == a1.toList)))) else ((proj_Format.f k t503).bind fun t509 => (if t509 = a0 then (if t504 = 0 then (some true) else ((proj_Word.f t504).bind fun t510 => (some (t510.toList == a1.toList)))) else (some false)))) else (some false)) = some r := H
      have A9 := Aside0.mk A90
      clear A90
      by_cases c10 : t504 = t507
      · rw [if_pos c10] at H
        have c10b0 : (t504 == t507) = true := beq_iff_eq.mpr c10
        have c10b1 : (t504 != t507) = false := bne_eq_false_iff_eq.mpr c10
        clear c10
        by_cases c11 : t503.toList = ([] : List UInt8)
        · rw [if_pos c11] at H
          have c11b0 : (t503.toList == ([] : List UInt8)) = true := beq_iff_eq.mpr c11
          have c11b1 : (t503.toList != ([] : List UInt8)) = false := bne_eq_false_iff_eq.mpr c11
          clear c11
          by_cases c12 : t504 = 0
          · rw [if_pos c12] at H
            have c12b0 : (t504 == 0) = true := beq_iff_eq.mpr c12
            have c12b1 : (t504 != 0) = false := bne_eq_false_iff_eq.mpr c12
            clear c12
            obtain rfl := Option.some.inj H
            go_enter Tryd.func3, Tryd.ntmps3
            go_wp2_with (first | ((with_reducible refine gate_callee (f := 8) rfl ?_); refine goesL_ (some 8) rfl rfl Tryd.func8 (by kernel_rfl) rfl #[.int .i64 a0] rfl xg ?_; (with_reducible refine (proj_Word.calls a0 t503 _ A3.out).mono ?_); rintro e w13 ⟨rfl, hb⟩; refine ⟨_, rfl, ?_⟩; have n0_ := Aside0.mk (below_step xb hb); clear HB; have HB := n0_; clear n0_; (try clear hb); (try clear hb2); (try clear hk); (try clear hi)) | ((with_reducible refine gate_callee (f := 9) rfl ?_); refine goesL_ (some 10) rfl rfl Tryd.func9 (by kernel_rfl) rfl #[.string a1] rfl xg ?_; (with_reducible refine (proj_Format.calls k a1 t504 _ A4.out).mono ?_); rintro e w14 ⟨rfl, hb⟩; refine ⟨_, rfl, ?_⟩; have n0_ := Aside0.mk (below_step xb hb); clear HB; have HB := n0_; clear n0_; (try clear hb); (try clear hb2); (try clear hk); (try clear hi)) | ((with_reducible refine gate_callee (f := 10) rfl ?_); refine goesL_ (some 11) rfl rfl Tryd.func10 (by kernel_rfl) rfl #[] rfl xg ?_; (with_reducible refine (cracknellaw18_alive.calls k  true _ (Aside0.mk (by first | exact hG.out | ((with_reducible repeat (first | apply LaidG.drewN | apply LaidG.drew | apply LaidG.alloc)); exact hG.out) | exact LaidG.below hG.out xb)) ⟨by first | rfl | assumption | exact hT_.out⟩ A5.out).mono ?_); rintro e w15 ⟨rfl, hb⟩; refine ⟨_, rfl, ?_⟩; have n0_ := Aside0.mk (below_step xb hb); clear HB; have HB := n0_; clear n0_; (try clear hb); (try clear hb2); (try clear hk); (try clear hi)) | (go_at_call 11; (with_reducible refine (cracknelref18_Word.calls a0 t506 _ A7.out).mono ?_); rintro e w16 ⟨rfl, hb⟩; have n0_ := Aside0.mk (below_step xb hb); clear HB; have HB := n0_; clear n0_; (try clear hb); (try clear hb2); (try clear hk); (try clear hi)) | (go_at_call 12; (with_reducible refine (cracknelref18_Format.calls k a1 t507 _ A9.out).mono ?_); rintro e w17 ⟨rfl, hb⟩; have n0_ := Aside0.mk (below_step xb hb); clear HB; have HB := n0_; clear n0_; (try clear hb); (try clear hb2); (try clear hk); (try clear hi)))
            go_ret
            exact ⟨by first | rfl | (simp [errW_none, errW_some] <;> rfl) | (simp [*, errW_none, errW_some] <;> rfl), by repeat (first | (with_reducible first | exact HB.out | apply below_alloc | apply pw_below_drewN | apply below_drew1) | exact HB.out)⟩
          · rw [if_neg c12] at H
            have c12b0 : (t504 == 0) = false := beq_eq_false_iff_ne.mpr c12
            have c12b1 : (t504 != 0) = true := bne_iff_ne.mpr c12
            replace H := Option.bind_eq_some_iff.mp H
            obtain ⟨t508, A180, H⟩ := H
            replace H : (some (t508.toList == a1.toList)) = some r := H
            have A18 := Aside0.mk A180
            clear A180
            obtain rfl := Option.some.inj H
            go_enter Tryd.func3, Tryd.ntmps3
            go_wp2_with (first | ((with_reducible refine gate_callee (f := 8) rfl ?_); refine goesL_ (some 8) rfl rfl Tryd.func8 (by kernel_rfl) rfl #[.int .i64 a0] rfl xg ?_; (with_reducible refine (proj_Word.calls a0 t503 _ A3.out).mono ?_); rintro e w19 ⟨rfl, hb⟩; refine ⟨_, rfl, ?_⟩; have n0_ := Aside0.mk (below_step xb hb); clear HB; have HB := n0_; clear n0_; (try clear hb); (try clear hb2); (try clear hk); (try clear hi)) | ((with_reducible refine gate_callee (f := 9) rfl ?_); refine goesL_ (some 10) rfl rfl Tryd.func9 (by kernel_rfl) rfl #[.string a1] rfl xg ?_; (with_reducible refine (proj_Format.calls k a1 t504 _ A4.out).mono ?_); rintro e w20 ⟨rfl, hb⟩; refine ⟨_, rfl, ?_⟩; have n0_ := Aside0.mk (below_step xb hb); clear HB; have HB := n0_; clear n0_; (try clear hb); (try clear hb2); (try clear hk); (try clear hi)) | ((with_reducible refine gate_callee (f := 10) rfl ?_); refine goesL_ (some 11) rfl rfl Tryd.func10 (by kernel_rfl) rfl #[] rfl xg ?_; (with_reducible refine (cracknellaw18_alive.calls k  true _ (Aside0.mk (by first | exact hG.out | ((with_reducible repeat (first | apply LaidG.drewN | apply LaidG.drew | apply LaidG.alloc)); exact hG.out) | exact LaidG.below hG.out xb)) ⟨by first | rfl | assumption | exact hT_.out⟩ A5.out).mono ?_); rintro e w21 ⟨rfl, hb⟩; refine ⟨_, rfl, ?_⟩; have n0_ := Aside0.mk (below_step xb hb); clear HB; have HB := n0_; clear n0_; (try clear hb); (try clear hb2); (try clear hk); (try clear hi)) | (go_at_call 11; (with_reducible refine (cracknelref18_Word.calls a0 t506 _ A7.out).mono ?_); rintro e w22 ⟨rfl, hb⟩; have n0_ := Aside0.mk (below_step xb hb); clear HB; have HB := n0_; clear n0_; (try clear hb); (try clear hb2); (try clear hk); (try clear hi)) | (go_at_call 12; (with_reducible refine (cracknelref18_Format.calls k a1 t507 _ A9.out).mono ?_); rintro e w23 ⟨rfl, hb⟩; have n0_ := Aside0.mk (below_step xb hb); clear HB; have HB := n0_; clear n0_; (try clear hb); (try clear hb2); (try clear hk); (try clear hi)) | (go_at_call 8; (with_reducible refine (proj_Word.calls t504 t508 _ A18.out).mono ?_); rintro e w24 ⟨rfl, hb⟩; have n0_ := Aside0.mk (below_step xb hb); clear HB; have HB := n0_; clear n0_; (try clear hb); (try clear hb2); (try clear hk); (try clear hi)))
            go_ret
            exact ⟨by first | rfl | (simp [errW_none, errW_some] <;> rfl) | (simp [*, errW_none, errW_some] <;> rfl), by repeat (first | (with_reducible first | exact HB.out | apply below_alloc | apply pw_below_drewN | apply below_drew1) | exact HB.out)⟩
        · rw [if_neg c11] at H
          have c11b0 : (t503.toList == ([] : List UInt8)) = false := beq_eq_false_iff_ne.mpr c11
          have c11b1 : (t503.toList != ([] : List UInt8)) = true := bne_iff_ne.mpr c11
          replace H := Option.bind_eq_some_iff.mp H
          obtain ⟨t509, A250, H⟩ := H
          replace H : (if t509 = a0 then (if t504 = 0 then (some true) else ((proj_Word.f t504).bind fun t510 => (some (t510.toList == a1.toList)))) else (some false)) = some r := H
          have A25 := Aside0.mk A250
          clear A250
          by_cases c26 : t509 = a0
          · rw [if_pos c26] at H
            have c26b0 : (t509 == a0) = true := beq_iff_eq.mpr c26
            have c26b1 : (t509 != a0) = false := bne_eq_false_iff_eq.mpr c26
            clear c26
            by_cases c27 : t504 = 0
            · rw [if_pos c27] at H
              have c27b0 : (t504 == 0) = true := beq_iff_eq.mpr c27
              have c27b1 : (t504 != 0) = false := bne_eq_false_iff_eq.mpr c27
              clear c27
              obtain rfl := Option.some.inj H
              go_enter Tryd.func3, Tryd.ntmps3
              go_wp2_with (first | ((with_reducible refine gate_callee (f := 8) rfl ?_); refine goesL_ (some 8) rfl rfl Tryd.func8 (by kernel_rfl) rfl #[.int .i64 a0] rfl xg ?_; (with_reducible refine (proj_Word.calls a0 t503 _ A3.out).mono ?_); rintro e w28 ⟨rfl, hb⟩; refine ⟨_, rfl, ?_⟩; have n0_ := Aside0.mk (below_step xb hb); clear HB; have HB := n0_; clear n0_; (try clear hb); (try clear hb2); (try clear hk); (try clear hi)) | ((with_reducible refine gate_callee (f := 9) rfl ?_); refine goesL_ (some 10) rfl rfl Tryd.func9 (by kernel_rfl) rfl #[.string a1] rfl xg ?_; (with_reducible refine (proj_Format.calls k a1 t504 _ A4.out).mono ?_); rintro e w29 ⟨rfl, hb⟩; refine ⟨_, rfl, ?_⟩; have n0_ := Aside0.mk (below_step xb hb); clear HB; have HB := n0_; clear n0_; (try clear hb); (try clear hb2); (try clear hk); (try clear hi)) | ((with_reducible refine gate_callee (f := 10) rfl ?_); refine goesL_ (some 11) rfl rfl Tryd.func10 (by kernel_rfl) rfl #[] rfl xg ?_; (with_reducible refine (cracknellaw18_alive.calls k  true _ (Aside0.mk (by first | exact hG.out | ((with_reducible repeat (first | apply LaidG.drewN | apply LaidG.drew | apply LaidG.alloc)); exact hG.out) | exact LaidG.below hG.out xb)) ⟨by first | rfl | assumption | exact hT_.out⟩ A5.out).mono ?_); rintro e w30 ⟨rfl, hb⟩; refine ⟨_, rfl, ?_⟩; have n0_ := Aside0.mk (below_step xb hb); clear HB; have HB := n0_; clear n0_; (try clear hb); (try clear hb2); (try clear hk); (try clear hi)) | (go_at_call 11; (with_reducible refine (cracknelref18_Word.calls a0 t506 _ A7.out).mono ?_); rintro e w31 ⟨rfl, hb⟩; have n0_ := Aside0.mk (below_step xb hb); clear HB; have HB := n0_; clear n0_; (try clear hb); (try clear hb2); (try clear hk); (try clear hi)) | (go_at_call 12; (with_reducible refine (cracknelref18_Format.calls k a1 t507 _ A9.out).mono ?_); rintro e w32 ⟨rfl, hb⟩; have n0_ := Aside0.mk (below_step xb hb); clear HB; have HB := n0_; clear n0_; (try clear hb); (try clear hb2); (try clear hk); (try clear hi)) | (go_at_call 9; (with_reducible refine (proj_Format.calls k t503 t509 _ A25.out).mono ?_); rintro e w33 ⟨rfl, hb⟩; have n0_ := Aside0.mk (below_step xb hb); clear HB; have HB := n0_; clear n0_; (try clear hb); (try clear hb2); (try clear hk); (try clear hi)))
              go_ret
              exact ⟨by first | rfl | (simp [errW_none, errW_some] <;> rfl) | (simp [*, errW_none, errW_some] <;> rfl), by repeat (first | (with_reducible first | exact HB.out | apply below_alloc | apply pw_below_drewN | apply below_drew1) | exact HB.out)⟩
            · rw [if_neg c27] at H
              have c27b0 : (t504 == 0) = false := beq_eq_false_iff_ne.mpr c27
              have c27b1 : (t504 != 0) = true := bne_iff_ne.mpr c27
              replace H := Option.bind_eq_some_iff.mp H
              obtain ⟨t510, A340, H⟩ := H
              replace H : (some (t510.toList == a1.toList)) = some r := H
              have A34 := Aside0.mk A340
              clear A340
              obtain rfl := Option.some.inj H
              go_enter Tryd.func3, Tryd.ntmps3
              go_wp2_with (first | ((with_reducible refine gate_callee (f := 8) rfl ?_); refine goesL_ (some 8) rfl rfl Tryd.func8 (by kernel_rfl) rfl #[.int .i64 a0] rfl xg ?_; (with_reducible refine (proj_Word.calls a0 t503 _ A3.out).mono ?_); rintro e w35 ⟨rfl, hb⟩; refine ⟨_, rfl, ?_⟩; have n0_ := Aside0.mk (below_step xb hb); clear HB; have HB := n0_; clear n0_; (try clear hb); (try clear hb2); (try clear hk); (try clear hi)) | ((with_reducible refine gate_callee (f := 9) rfl ?_); refine goesL_ (some 10) rfl rfl Tryd.func9 (by kernel_rfl) rfl #[.string a1] rfl xg ?_; (with_reducible refine (proj_Format.calls k a1 t504 _ A4.out).mono ?_); rintro e w36 ⟨rfl, hb⟩; refine ⟨_, rfl, ?_⟩; have n0_ := Aside0.mk (below_step xb hb); clear HB; have HB := n0_; clear n0_; (try clear hb); (try clear hb2); (try clear hk); (try clear hi)) | ((with_reducible refine gate_callee (f := 10) rfl ?_); refine goesL_ (some 11) rfl rfl Tryd.func10 (by kernel_rfl) rfl #[] rfl xg ?_; (with_reducible refine (cracknellaw18_alive.calls k  true _ (Aside0.mk (by first | exact hG.out | ((with_reducible repeat (first | apply LaidG.drewN | apply LaidG.drew | apply LaidG.alloc)); exact hG.out) | exact LaidG.below hG.out xb)) ⟨by first | rfl | assumption | exact hT_.out⟩ A5.out).mono ?_); rintro e w37 ⟨rfl, hb⟩; refine ⟨_, rfl, ?_⟩; have n0_ := Aside0.mk (below_step xb hb); clear HB; have HB := n0_; clear n0_; (try clear hb); (try clear hb2); (try clear hk); (try clear hi)) | (go_at_call 11; (with_reducible refine (cracknelref18_Word.calls a0 t506 _ A7.out).mono ?_); rintro e w38 ⟨rfl, hb⟩; have n0_ := Aside0.mk (below_step xb hb); clear HB; have HB := n0_; clear n0_; (try clear hb); (try clear hb2); (try clear hk); (try clear hi)) | (go_at_call 12; (with_reducible refine (cracknelref18_Format.calls k a1 t507 _ A9.out).mono ?_); rintro e w39 ⟨rfl, hb⟩; have n0_ := Aside0.mk (below_step xb hb); clear HB; have HB := n0_; clear n0_; (try clear hb); (try clear hb2); (try clear hk); (try clear hi)) | (go_at_call 9; (with_reducible refine (proj_Format.calls k t503 t509 _ A25.out).mono ?_); rintro e w40 ⟨rfl, hb⟩; have n0_ := Aside0.mk (below_step xb hb); clear HB; have HB := n0_; clear n0_; (try clear hb); (try clear hb2); (try clear hk); (try clear hi)) | (go_at_call 8; (with_reducible refine (proj_Word.calls t504 t510 _ A34.out).mono ?_); rintro e w41 ⟨rfl, hb⟩; have n0_ := Aside0.mk (below_step xb hb); clear HB; have HB := n0_; clear n0_; (try clear hb); (try clear hb2); (try clear hk); (try clear hi)))
              go_ret
              exact ⟨by first | rfl | (simp [errW_none, errW_some] <;> rfl) | (simp [*, errW_none, errW_some] <;> rfl), by repeat (first | (with_reducible first | exact HB.out | apply below_alloc | apply pw_below_drewN | apply below_drew1) | exact HB.out)⟩
          · rw [if_neg c26] at H
            have c26b0 : (t509 == a0) = false := beq_eq_false_iff_ne.mpr c26
            have c26b1 : (t509 != a0) = true := bne_iff_ne.mpr c26
            obtain rfl := Option.some.inj H
            exact absurd hT_.out (by decide)
      · rw [if_neg c10] at H
        have c10b0 : (t504 == t507) = false := beq_eq_false_iff_ne.mpr c10
        have c10b1 : (t504 != t507) = true := bne_iff_ne.mpr c10
        obtain rfl := Option.some.inj H
        exact absurd hT_.out (by decide)
    · rw [if_neg c8] at H
      have c8b0 : (t503.toList == t506.toList) = false := beq_eq_false_iff_ne.mpr c8
      have c8b1 : (t503.toList != t506.toList) = true := bne_iff_ne.mpr c8
      obtain rfl := Option.some.inj H
      exact absurd hT_.out (by decide)
  · replace c6 := Bool.eq_false_iff.mpr c6
    subst c6
    have H1 : (some false) = some r := by rw [if_neg (show ¬ (false = true) by decide)] at H; exact H
    clear H
    have H := H1
    clear H1
    obtain rfl := Option.some.inj H
    exact absurd hT_.out (by decide)

/-- THE ONE PURE STATEMENT of cracknellaw18_ProjWords: yours. -/
def cracknellaw18_ProjWords.Pure : Prop := ∀ (a0 : Int) (a1 : ByteArray), (Lit.int .i64 a0).wf = true → a1.size ≤ 140737488351232 → ∃ k, cracknellaw18_ProjWords.f k a0 a1 = some true
theorem cracknellaw18_ProjWords.walk (P : cracknellaw18_ProjWords.Pure) (a0 : Int) (a1 : ByteArray) (w : World) (w0 : (Lit.int .i64 a0).wf = true) (w1 : a1.size ≤ 140737488351232) (hG : Aside0 (LaidG w)) :
    Calls Tryd.prog 3 #[.int .i64 a0, .string a1] w fun e w' => e = .returned (.bool true) ∧ Below w.heap.size w w' := by
  obtain ⟨k, h⟩ := P a0 a1 w0 w1
  refine (cracknellaw18_ProjWords.calls k a0 a1 true w hG ⟨rfl⟩ h).mono ?_
  rintro e w' ⟨rfl, hd⟩
  exact ⟨rfl, hd⟩

end Go.Proofs.YtccmackhhppbdaaDoor.Print
