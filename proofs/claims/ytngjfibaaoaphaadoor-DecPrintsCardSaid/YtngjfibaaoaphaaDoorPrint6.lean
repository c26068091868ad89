/- Printed by a program of this claim's session (xprint.py): the machine's side: each Go function as a Lean function, and that a call of it comes to what that tells; the row of a statement. No condition. -/
import Derived.Test.YtngjfibaaoaphaaDoorPrint0
import Derived.Test.YtngjfibaaoaphaaDoorPrint1
namespace Go.Proofs.YtngjfibaaoaphaaDoor.Print
open Go.RowKit Go.Proofs.YtngjfibaaoaphaaDoorW.PrintWords Go.Proofs.YtngjfibaaoaphaaDoorW.PrintLast Go.Proofs.YtngjfibaaoaphaaDoorW.PrintMore
attribute [local go_sem] max2_int min2_int max_two min_two max_three min_three max_four min_four   -- for this text's walks alone
set_option linter.unusedVariables false
set_option linter.unusedSimpArgs false

/-! ### cracknellaw02_DecPrints: function 3 -/
def cracknellaw02_DecPrints.f (k : Nat) (a0 : Int) : Option (Bool) := (dec_Print.f a0).bind fun t140 => ((dec_Read.f t140).bind fun bt141 => ((cracknellaw02_alive.f k).bind fun t143 => (if t143 = true then ((cracknelref02_Print.f k a0).bind fun t144 => (if t140.toList = t144.toList then (if bt141.2 = true then (some (bt141.1 == a0)) else (some false)) else (some false))) else (some false))))
theorem cracknellaw02_DecPrints.mono : ∀ a0 k, LeO (cracknellaw02_DecPrints.f k a0) (cracknellaw02_DecPrints.f (k + 1) a0) := by
  intro a0 k
  unfold cracknellaw02_DecPrints.f
  repeat' first
      | (with_reducible exact cracknellaw02_alive.mono _)
      | (with_reducible exact cracknelref02_Print.mono _ _)
      | (with_reducible exact LeO.refl _)
      | (with_reducible exact LeO.none _)
      | (with_reducible refine LeO.ite ?_ ?_)
      | (with_reducible refine LeO.bind ?_ (fun _ => ?_))
      | exact cracknellaw02_alive.mono _
      | exact cracknelref02_Print.mono _ _
      | exact LeO.none _
      | refine LeO.ite ?_ ?_
      | refine LeO.bind ?_ (fun _ => ?_)
set_option maxHeartbeats 8000000 in
set_option maxRecDepth 100000 in
theorem cracknellaw02_DecPrints.calls (k : Nat) (a0 : Int) (r : Bool) (w : World) (hG : Aside0 (LaidG w)) (h : cracknellaw02_DecPrints.f k a0 = some r) :
    Calls Tryd.prog 3 #[.int .i64 a0] w fun e w' => e = .returned (.bool r) ∧ Below w.heap.size w w' := by
  have HB := Aside0.mk (Below.refl w.heap.size w)
  have H : ((dec_Print.f a0).bind fun t140 => ((dec_Read.f t140).bind fun bt141 => ((cracknellaw02_alive.f k).bind fun t143 => (if t143 = true then ((cracknelref02_Print.f k a0).bind fun t144 => (if t140.toList = t144.toList then (if bt141.2 = true then (some (bt141.1 == a0)) else (some false)) else (some false))) else (some false))))) = some r := h
  clear h
  replace H := Option.bind_eq_some_iff.mp H
  obtain ⟨t140, A20, H⟩ := H
  replace H : ((dec_Read.f t140).bind fun bt141 => ((cracknellaw02_alive.f k).bind fun t143 => (if t143 = true then ((cracknelref02_Print.f k a0).bind fun t144 => (if t140.toList = t144.toList then (if bt141.2 = true then (some (bt141.1 == a0)) else (some false)) else (some false))) else (some false)))) = some r := H
  have A2 := Aside0.mk A20
  clear A20
  replace H := Option.bind_eq_some_iff.mp H
  obtain ⟨⟨t141, t142⟩, A30, H⟩ := H
  replace H : ((cracknellaw02_alive.f k).bind fun t143 => (if t143 = true then ((cracknelref02_Print.f k a0).bind fun t144 => (if t140.toList = t144.toList then (if t142 = true then (some (t141 == a0)) else (some false)) else (some false))) else (some false))) = some r := H
  have A3 := Aside0.mk A30
  clear A30
  replace H := Option.bind_eq_some_iff.mp H
  obtain ⟨t143, A40, H⟩ := H
  replace H : (if t143 = true then ((cracknelref02_Print.f k a0).bind fun t144 => (if t140.toList = t144.toList then (if t142 = true then (some (t141 == a0)) else (some false)) else (some false))) else (some false)) = some r := H
  have A4 := Aside0.mk A40
  clear A40
  by_cases c5 : t143 = true
  · subst c5
    have H1 : ((cracknelref02_Print.f k a0).bind fun t144 => (if t140.toList = t144.toList then (if t142 = true then (some (t141 == a0)) else (some false)) else (some false))) = some r := by rw [if_pos rfl] at H; exact H
    clear H
    have H := H1
    clear H1
    replace H := Option.bind_eq_some_iff.mp H
    obtain ⟨t144, A60, H⟩ := H
    replace H : (if t140.toList = t144.toList then (if t142 = true then (some (t141 == a0)) else (some false)) else (some false)) = some r := H
    have A6 := Aside0.mk A60
    clear A60
    by_cases c7 : t140.toList = t144.toList
    · rw [if_pos c7] at H
      have c7b0 : (t140.toList == t144.toList) = true := beq_iff_eq.mpr c7
      have c7b1 : (t140.toList != t144.toList) = false := bne_eq_false_iff_eq.mpr c7
      clear c7
      by_cases c8 : t142 = true
      · subst c8
        have H1 : (some (t141 == a0)) = some r := by rw [if_pos rfl] at H; exact H
        clear H
        have H := H1
        clear H1
        obtain rfl := Option.some.inj H
        go_enter Tryd.func3, Tryd.ntmps3
        go_wp2_with (first | ((with_reducible refine gate_callee (f := 9) rfl ?_); refine goesL_ (some 7) rfl rfl Tryd.func9 (by kernel_rfl) rfl #[.int .i64 a0] rfl (by (try simp only [List.map_toArray, List.map_cons, List.map_nil]); first | done | rfl | (simp only [List.length_drop, List.length_take]; rfl) | ((try simp [Act.eval]) <;> (try simp only [xw_u64, xw_u32, xw_u8, wrap64, wrap32]) <;> omega)) ?_; (with_reducible refine (dec_Print.calls a0 t140 _ (Aside0.mk (by first | exact hG.out | ((with_reducible repeat (first | apply LaidG.drewN | apply LaidG.drew | apply LaidG.alloc)); exact hG.out) | exact LaidG.below hG.out (by repeat (first | (with_reducible first | exact HB.out | apply below_alloc | apply pw_below_drewN | apply below_drew1) | exact HB.out)))) A2.out).mono ?_); rintro e w9 ⟨rfl, hb⟩; refine ⟨_, rfl, ?_⟩; have n0_ := Aside0.mk (below_step (by repeat (first | (with_reducible first | exact HB.out | apply below_alloc | apply pw_below_drewN | apply below_drew1) | exact HB.out)) hb); clear HB; have HB := n0_; clear n0_; (try clear hb); (try clear hb2); (try clear hk); (try clear hi)) | ((with_reducible refine gate_callee (f := 10) rfl ?_); refine goesL_ (some 10) rfl rfl Tryd.func10 (by kernel_rfl) rfl #[.string t140] rfl (by (try simp only [List.map_toArray, List.map_cons, List.map_nil]); first | done | rfl | (simp only [List.length_drop, List.length_take]; rfl) | ((try simp [Act.eval]) <;> (try simp only [xw_u64, xw_u32, xw_u8, wrap64, wrap32]) <;> omega)) ?_; (with_reducible refine (dec_Read.calls t140 t141 true _ (Aside0.mk (by first | exact hG.out | ((with_reducible repeat (first | apply LaidG.drewN | apply LaidG.drew | apply LaidG.alloc)); exact hG.out) | exact LaidG.below hG.out (by repeat (first | (with_reducible first | exact HB.out | apply below_alloc | apply pw_below_drewN | apply below_drew1) | exact HB.out)))) A3.out).mono ?_); rintro e w10 ⟨rfl, hb⟩; refine ⟨_, rfl, ?_⟩; have n0_ := Aside0.mk (below_step (by repeat (first | (with_reducible first | exact HB.out | apply below_alloc | apply pw_below_drewN | apply below_drew1) | exact HB.out)) hb); clear HB; have HB := n0_; clear n0_; (try clear hb); (try clear hb2); (try clear hk); (try clear hi)) | ((with_reducible refine gate_callee (f := 11) rfl ?_); refine goesL_ (some 13) rfl rfl Tryd.func11 (by kernel_rfl) rfl #[] rfl (by (try simp only [List.map_toArray, List.map_cons, List.map_nil]); first | done | rfl | (simp only [List.length_drop, List.length_take]; rfl) | ((try simp [Act.eval]) <;> (try simp only [xw_u64, xw_u32, xw_u8, wrap64, wrap32]) <;> omega)) ?_; (with_reducible refine (cracknellaw02_alive.calls k  true _ (Aside0.mk (by first | exact hG.out | ((with_reducible repeat (first | apply LaidG.drewN | apply LaidG.drew | apply LaidG.alloc)); exact hG.out) | exact LaidG.below hG.out (by repeat (first | (with_reducible first | exact HB.out | apply below_alloc | apply pw_below_drewN | apply below_drew1) | exact HB.out)))) A4.out).mono ?_); rintro e w11 ⟨rfl, hb⟩; refine ⟨_, rfl, ?_⟩; have n0_ := Aside0.mk (below_step (by repeat (first | (with_reducible first | exact HB.out | apply below_alloc | apply pw_below_drewN | apply below_drew1) | exact HB.out)) hb); clear HB; have HB := n0_; clear n0_; (try clear hb); (try clear hb2); (try clear hk); (try clear hi)) | (go_at_call 12; (with_reducible refine (cracknelref02_Print.calls k a0 t144 _ A6.out).mono ?_); rintro e w12 ⟨rfl, hb⟩; have n0_ := Aside0.mk (below_step (by repeat (first | (with_reducible first | exact HB.out | apply below_alloc | apply pw_below_drewN | apply below_drew1) | exact HB.out)) hb); clear HB; have HB := n0_; clear n0_; (try clear hb); (try clear hb2); (try clear hk); (try clear hi)))
        go_ret
        exact ⟨by first | rfl | (simp [errW_none, errW_some] <;> rfl) | (simp [*, errW_none, errW_some] <;> rfl), by repeat (first | (with_reducible first | exact HB.out | apply below_alloc | apply pw_below_drewN | apply below_drew1) | exact HB.out)⟩
      · replace c8 := Bool.eq_false_iff.mpr c8
        subst c8
        have H1 : (some false) = some r := by rw [if_neg (show ¬ (false = true) by decide)] at H; exact H
        clear H
        have H := H1
        clear H1
        obtain rfl := Option.some.inj H
        go_enter Tryd.func3, Tryd.ntmps3
        go_wp2_with (first | ((with_reducible refine gate_callee (f := 9) rfl ?_); refine goesL_ (some 7) rfl rfl Tryd.func9 (by kernel_rfl) rfl #[.int .i64 a0] rfl (by (try simp only [List.map_toArray, List.map_cons, List.map_nil]); first | done | rfl | (simp only [List.length_drop, List.length_take]; rfl) | ((try simp [Act.eval]) <;> (try simp only [xw_u64, xw_u32, xw_u8, wrap64, wrap32]) <;> omega)) ?_; (with_reducible refine (dec_Print.calls a0 t140 _ (Aside0.mk (by first | exact hG.out | ((with_reducible repeat (first | apply LaidG.drewN | apply LaidG.drew | apply LaidG.alloc)); exact hG.out) | exact LaidG.below hG.out (by repeat (first | (with_reducible first | exact HB.out | apply below_alloc | apply pw_below_drewN | apply below_drew1) | exact HB.out)))) A2.out).mono ?_); rintro e w13 ⟨rfl, hb⟩; refine ⟨_, rfl, ?_⟩; have n0_ := Aside0.mk (below_step (by repeat (first | (with_reducible first | exact HB.out | apply below_alloc | apply pw_below_drewN | apply below_drew1) | exact HB.out)) hb); clear HB; have HB := n0_; clear n0_; (try clear hb); (try clear hb2); (try clear hk); (try clear hi)) | ((with_reducible refine gate_callee (f := 10) rfl ?_); refine goesL_ (some 10) rfl rfl Tryd.func10 (by kernel_rfl) rfl #[.string t140] rfl (by (try simp only [List.map_toArray, List.map_cons, List.map_nil]); first | done | rfl | (simp only [List.length_drop, List.length_take]; rfl) | ((try simp [Act.eval]) <;> (try simp only [xw_u64, xw_u32, xw_u8, wrap64, wrap32]) <;> omega)) ?_; (with_reducible refine (dec_Read.calls t140 t141 false _ (Aside0.mk (by first | exact hG.out | ((with_reducible repeat (first | apply LaidG.drewN | apply LaidG.drew | apply LaidG.alloc)); exact hG.out) | exact LaidG.below hG.out (by repeat (first | (with_reducible first | exact HB.out | apply below_alloc | apply pw_below_drewN | apply below_drew1) | exact HB.out)))) A3.out).mono ?_); rintro e w14 ⟨rfl, hb⟩; refine ⟨_, rfl, ?_⟩; have n0_ := Aside0.mk (below_step (by repeat (first | (with_reducible first | exact HB.out | apply below_alloc | apply pw_below_drewN | apply below_drew1) | exact HB.out)) hb); clear HB; have HB := n0_; clear n0_; (try clear hb); (try clear hb2); (try clear hk); (try clear hi)) | ((with_reducible refine gate_callee (f := 11) rfl ?_); refine goesL_ (some 13) rfl rfl Tryd.func11 (by kernel_rfl) rfl #[] rfl (by (try simp only [List.map_toArray, List.map_cons, List.map_nil]); first | done | rfl | (simp only [List.length_drop, List.length_take]; rfl) | ((try simp [Act.eval]) <;> (try simp only [xw_u64, xw_u32, xw_u8, wrap64, wrap32]) <;> omega)) ?_; (with_reducible refine (cracknellaw02_alive.calls k  true _ (Aside0.mk (by first | exact hG.out | ((with_reducible repeat (first | apply LaidG.drewN | apply LaidG.drew | apply LaidG.alloc)); exact hG.out) | exact LaidG.below hG.out (by repeat (first | (with_reducible first | exact HB.out | apply below_alloc | apply pw_below_drewN | apply below_drew1) | exact HB.out)))) A4.out).mono ?_); rintro e w15 ⟨rfl, hb⟩; refine ⟨_, rfl, ?_⟩; have n0_ := Aside0.mk (below_step (by repeat (first | (with_reducible first | exact HB.out | apply below_alloc | apply pw_below_drewN | apply below_drew1) | exact HB.out)) hb); clear HB; have HB := n0_; clear n0_; (try clear hb); (try clear hb2); (try clear hk); (try clear hi)) | (go_at_call 12; (with_reducible refine (cracknelref02_Print.calls k a0 t144 _ A6.out).mono ?_); rintro e w16 ⟨rfl, hb⟩; have n0_ := Aside0.mk (below_step (by repeat (first | (with_reducible first | exact HB.out | apply below_alloc | apply pw_below_drewN | apply below_drew1) | exact HB.out)) hb); clear HB; have HB := n0_; clear n0_; (try clear hb); (try clear hb2); (try clear hk); (try clear hi)))
        go_ret
        exact ⟨by first | rfl | (simp [errW_none, errW_some] <;> rfl) | (simp [*, errW_none, errW_some] <;> rfl), by repeat (first | (with_reducible first | exact HB.out | apply below_alloc | apply pw_below_drewN | apply below_drew1) | exact HB.out)⟩
    · rw [if_neg c7] at H
      have c7b0 : (t140.toList == t144.toList) = false := beq_eq_false_iff_ne.mpr c7
      have c7b1 : (t140.toList != t144.toList) = true := bne_iff_ne.mpr c7
      obtain rfl := Option.some.inj H
      go_enter Tryd.func3, Tryd.ntmps3
      go_wp2_with (first | ((with_reducible refine gate_callee (f := 9) rfl ?_); refine goesL_ (some 7) rfl rfl Tryd.func9 (by kernel_rfl) rfl #[.int .i64 a0] rfl (by (try simp only [List.map_toArray, List.map_cons, List.map_nil]); first | done | rfl | (simp only [List.length_drop, List.length_take]; rfl) | ((try simp [Act.eval]) <;> (try simp only [xw_u64, xw_u32, xw_u8, wrap64, wrap32]) <;> omega)) ?_; (with_reducible refine (dec_Print.calls a0 t140 _ (Aside0.mk (by first | exact hG.out | ((with_reducible repeat (first | apply LaidG.drewN | apply LaidG.drew | apply LaidG.alloc)); exact hG.out) | exact LaidG.below hG.out (by repeat (first | (with_reducible first | exact HB.out | apply below_alloc | apply pw_below_drewN | apply below_drew1) | exact HB.out)))) A2.out).mono ?_); rintro e w17 ⟨rfl, hb⟩; refine ⟨_, rfl, ?_⟩; have n0_ := Aside0.mk (below_step (by repeat (first | (with_reducible first | exact HB.out | apply below_alloc | apply pw_below_drewN | apply below_drew1) | exact HB.out)) hb); clear HB; have HB := n0_; clear n0_; (try clear hb); (try clear hb2); (try clear hk); (try clear hi)) | ((with_reducible refine gate_callee (f := 10) rfl ?_); refine goesL_ (some 10) rfl rfl Tryd.func10 (by kernel_rfl) rfl #[.string t140] rfl (by (try simp only [List.map_toArray, List.map_cons, List.map_nil]); first | done | rfl | (simp only [List.length_drop, List.length_take]; rfl) | ((try simp [Act.eval]) <;> (try simp only [xw_u64, xw_u32, xw_u8, wrap64, wrap32]) <;> omega)) ?_; (with_reducible refine (dec_Read.calls t140 t141 t142 _ (Aside0.mk (by first | exact hG.out | ((with_reducible repeat (first | apply LaidG.drewN | apply LaidG.drew | apply LaidG.alloc)); exact hG.out) | exact LaidG.below hG.out (by repeat (first | (with_reducible first | exact HB.out | apply below_alloc | apply pw_below_drewN | apply below_drew1) | exact HB.out)))) A3.out).mono ?_); rintro e w18 ⟨rfl, hb⟩; refine ⟨_, rfl, ?_⟩; have n0_ := Aside0.mk (below_step (by repeat (first | (with_reducible first | exact HB.out | apply below_alloc | apply pw_below_drewN | apply below_drew1) | exact HB.out)) hb); clear HB; have HB := n0_; clear n0_; (try clear hb); (try clear hb2); (try clear hk); (try clear hi)) | ((with_reducible refine gate_callee (f := 11) rfl ?_); refine goesL_ (some 13) rfl rfl Tryd.func11 (by kernel_rfl) rfl #[] rfl (by (try simp only [List.map_toArray, List.map_cons, List.map_nil]); first | done | rfl | (simp only [List.length_drop, List.length_take]; rfl) | ((try simp [Act.eval]) <;> (try simp only [xw_u64, xw_u32, xw_u8, wrap64, wrap32]) <;> omega)) ?_; (with_reducible refine (cracknellaw02_alive.calls k  true _ (Aside0.mk (by first | exact hG.out | ((with_reducible repeat (first | apply LaidG.drewN | apply LaidG.drew | apply LaidG.alloc)); exact hG.out) | exact LaidG.below hG.out (by repeat (first | (with_reducible first | exact HB.out | apply below_alloc | apply pw_below_drewN | apply below_drew1) | exact HB.out)))) A4.out).mono ?_); rintro e w19 ⟨rfl, hb⟩; refine ⟨_, rfl, ?_⟩; have n0_ := Aside0.mk (below_step (by repeat (first | (with_reducible first | exact HB.out | apply below_alloc | apply pw_below_drewN | apply below_drew1) | exact HB.out)) hb); clear HB; have HB := n0_; clear n0_; (try clear hb); (try clear hb2); (try clear hk); (try clear hi)) | (go_at_call 12; (with_reducible refine (cracknelref02_Print.calls k a0 t144 _ A6.out).mono ?_); rintro e w20 ⟨rfl, hb⟩; have n0_ := Aside0.mk (below_step (by repeat (first | (with_reducible first | exact HB.out | apply below_alloc | apply pw_below_drewN | apply below_drew1) | exact HB.out)) hb); clear HB; have HB := n0_; clear n0_; (try clear hb); (try clear hb2); (try clear hk); (try clear hi)))
      go_ret
      exact ⟨by first | rfl | (simp [errW_none, errW_some] <;> rfl) | (simp [*, errW_none, errW_some] <;> rfl), by repeat (first | (with_reducible first | exact HB.out | apply below_alloc | apply pw_below_drewN | apply below_drew1) | exact HB.out)⟩
  · replace c5 := Bool.eq_false_iff.mpr c5
    subst c5
    have H1 : (some false) = some r := by rw [if_neg (show ¬ (false = true) by decide)] at H; exact H
    clear H
    have H := H1
    clear H1
    obtain rfl := Option.some.inj H
    go_enter Tryd.func3, Tryd.ntmps3
    go_wp2_with (first | ((with_reducible refine gate_callee (f := 9) rfl ?_); refine goesL_ (some 7) rfl rfl Tryd.func9 (by kernel_rfl) rfl #[.int .i64 a0] rfl (by (try simp only [List.map_toArray, List.map_cons, List.map_nil]); first | done | rfl | (simp only [List.length_drop, List.length_take]; rfl) | ((try simp [Act.eval]) <;> (try simp only [xw_u64, xw_u32, xw_u8, wrap64, wrap32]) <;> omega)) ?_; (with_reducible refine (dec_Print.calls a0 t140 _ (Aside0.mk (by first | exact hG.out | ((with_reducible repeat (first | apply LaidG.drewN | apply LaidG.drew | apply LaidG.alloc)); exact hG.out) | exact LaidG.below hG.out (by repeat (first | (with_reducible first | exact HB.out | apply below_alloc | apply pw_below_drewN | apply below_drew1) | exact HB.out)))) A2.out).mono ?_); rintro e w21 ⟨rfl, hb⟩; refine ⟨_, rfl, ?_⟩; have n0_ := Aside0.mk (below_step (by repeat (first | (with_reducible first | exact HB.out | apply below_alloc | apply pw_below_drewN | apply below_drew1) | exact HB.out)) hb); clear HB; have HB := n0_; clear n0_; (try clear hb); (try clear hb2); (try clear hk); (try clear hi)) | ((with_reducible refine gate_callee (f := 10) rfl ?_); refine goesL_ (some 10) rfl rfl Tryd.func10 (by kernel_rfl) rfl #[.string t140] rfl (by (try simp only [List.map_toArray, List.map_cons, List.map_nil]); first | done | rfl | (simp only [List.length_drop, List.length_take]; rfl) | ((try simp [Act.eval]) <;> (try simp only [xw_u64, xw_u32, xw_u8, wrap64, wrap32]) <;> omega)) ?_; (with_reducible refine (dec_Read.calls t140 t141 t142 _ (Aside0.mk (by first | exact hG.out | ((with_reducible repeat (first | apply LaidG.drewN | apply LaidG.drew | apply LaidG.alloc)); exact hG.out) | exact LaidG.below hG.out (by repeat (first | (with_reducible first | exact HB.out | apply below_alloc | apply pw_below_drewN | apply below_drew1) | exact HB.out)))) A3.out).mono ?_); rintro e w22 ⟨rfl, hb⟩; refine ⟨_, rfl, ?_⟩; have n0_ := Aside0.mk (below_step (by repeat (first | (with_reducible first | exact HB.out | apply below_alloc | apply pw_below_drewN | apply below_drew1) | exact HB.out)) hb); clear HB; have HB := n0_; clear n0_; (try clear hb); (try clear hb2); (try clear hk); (try clear hi)) | ((with_reducible refine gate_callee (f := 11) rfl ?_); refine goesL_ (some 13) rfl rfl Tryd.func11 (by kernel_rfl) rfl #[] rfl (by (try simp only [List.map_toArray, List.map_cons, List.map_nil]); first | done | rfl | (simp only [List.length_drop, List.length_take]; rfl) | ((try simp [Act.eval]) <;> (try simp only [xw_u64, xw_u32, xw_u8, wrap64, wrap32]) <;> omega)) ?_; (with_reducible refine (cracknellaw02_alive.calls k  false _ (Aside0.mk (by first | exact hG.out | ((with_reducible repeat (first | apply LaidG.drewN | apply LaidG.drew | apply LaidG.alloc)); exact hG.out) | exact LaidG.below hG.out (by repeat (first | (with_reducible first | exact HB.out | apply below_alloc | apply pw_below_drewN | apply below_drew1) | exact HB.out)))) A4.out).mono ?_); rintro e w23 ⟨rfl, hb⟩; refine ⟨_, rfl, ?_⟩; have n0_ := Aside0.mk (below_step (by repeat (first | (with_reducible first | exact HB.out | apply below_alloc | apply pw_below_drewN | apply below_drew1) | exact HB.out)) hb); clear HB; have HB := n0_; clear n0_; (try clear hb); (try clear hb2); (try clear hk); (try clear hi)))
    go_ret
    exact ⟨by first | rfl | (simp [errW_none, errW_some] <;> rfl) | (simp [*, errW_none, errW_some] <;> rfl), by repeat (first | (with_reducible first | exact HB.out | apply below_alloc | apply pw_below_drewN | apply below_drew1) | exact HB.out)⟩

/-- THE ONE PURE STATEMENT of cracknellaw02_DecPrints: yours. -/
def cracknellaw02_DecPrints.Pure : Prop := ∀ (a0 : Int), (Lit.int .i64 a0).wf = true → ∃ k, cracknellaw02_DecPrints.f k a0 = some true
theorem cracknellaw02_DecPrints.walk (P : cracknellaw02_DecPrints.Pure) (a0 : Int) (w : World) (w0 : (Lit.int .i64 a0).wf = true) (hG : Aside0 (LaidG w)) :
    Calls Tryd.prog 3 #[.int .i64 a0] w fun e w' => e = .returned (.bool true) ∧ Below w.heap.size w w' := by
  obtain ⟨k, h⟩ := P a0 w0
  refine (cracknellaw02_DecPrints.calls k a0 true w hG h).mono ?_
  rintro e w' ⟨rfl, hd⟩
  exact ⟨rfl, hd⟩

end Go.Proofs.YtngjfibaaoaphaaDoor.Print
