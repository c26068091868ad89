/- Printed by a program of this claim's session (xprint.py): the machine's side: each Go function as a Lean function, and that a call of it comes to what that tells; the row of a statement. No condition. -/
import Derived.Test.YtcblmcehbjlmfaaDoorPrint0
import Derived.Test.YtcblmcehbjlmfaaDoorPrint1
namespace Go.Proofs.YtcblmcehbjlmfaaDoor.Print
open Go.RowKit Go.Proofs.YtcblmcehbjlmfaaDoorW.PrintWords Go.Proofs.YtcblmcehbjlmfaaDoorW.PrintLast Go.Proofs.YtcblmcehbjlmfaaDoorW.PrintMore
attribute [local go_sem] max2_int min2_int max_two min_two max_three min_three max_four min_four   -- for this text's walks alone
set_option linter.unusedVariables false
set_option linter.unusedSimpArgs false

/-! ### host_Ip: function 13 -/
def host_Ip.l0 : Nat → List ByteArray → List ByteArray → Int → Int → Option (Bool)
  | 0, _, _, _, _ => none
  | k + 1, x3, x10, x11, x12 => if x12 < x11 then (if 0 ≤ x12 then (if x12 < (x10.length : Int) then ((dec_Read.f (rdOf ByteArray.empty x10 x12)).bind fun bt125 => (if bt125.2 = true then (if bt125.1 < 0 then (some false) else (if bt125.1 > 255 then (some false) else (host_Ip.l0 k x3 x10 x11 (wrap64 (x12 + 1))))) else (some false))) else (none)) else (none)) else (some ((x3.length : Int) == 4))
def host_Ip.f (k : Nat) (a0 : ByteArray) : Option (Bool) := (strings_Split.f a0 (⟨#[46]⟩ : ByteArray)).bind fun t121 => (host_Ip.l0 k t121 t121 (t121.length : Int) 0)
theorem host_Ip.mono_l : ∀ k, (∀ y0 y1 y2 y3, LeO (host_Ip.l0 k y0 y1 y2 y3) (host_Ip.l0 (k + 1) y0 y1 y2 y3))
  | 0 => fun _ _ _ _ r h => by simp [host_Ip.l0] at h
  | k + 1 => by
    have ih0 := host_Ip.mono_l k
    · intro y0 y1 y2 y3
      unfold host_Ip.l0
      repeat' first
      | (with_reducible exact ih0 _ _ _ _)
      | (with_reducible exact LeO.refl _)
      | (with_reducible exact LeO.none _)
      | (with_reducible refine LeO.ite ?_ ?_)
      | (with_reducible refine LeO.bind ?_ (fun _ => ?_))
      | exact ih0 _ _ _ _
      | exact LeO.none _
      | refine LeO.ite ?_ ?_
      | refine LeO.bind ?_ (fun _ => ?_)
theorem host_Ip.mono : ∀ a0 k, LeO (host_Ip.f k a0) (host_Ip.f (k + 1) a0) := by
  intro a0 k
  have ih0 := host_Ip.mono_l k
  unfold host_Ip.f
  repeat' first
      | (with_reducible exact ih0 _ _ _ _)
      | (with_reducible exact LeO.refl _)
      | (with_reducible exact LeO.none _)
      | (with_reducible refine LeO.ite ?_ ?_)
      | (with_reducible refine LeO.bind ?_ (fun _ => ?_))
      | exact ih0 _ _ _ _
      | exact LeO.none _
      | refine LeO.ite ?_ ?_
      | refine LeO.bind ?_ (fun _ => ?_)
set_option maxHeartbeats 8000000 in
set_option maxRecDepth 100000 in
theorem host_Ip.calls (k : Nat) (a0 : ByteArray) (r : Bool) (w : World) (hG : Aside0 (LaidG w)) (h : host_Ip.f k a0 = some r) :
    Calls Tryd.prog 13 #[.string a0] w fun e w' => e = .returned (.bool r) ∧ Below w.heap.size w w' := by
  have HB := Aside0.mk (Below.refl w.heap.size w)
  have H : ((strings_Split.f a0 (⟨#[46]⟩ : ByteArray)).bind fun t121 => (host_Ip.l0 k t121 t121 (t121.length : Int) 0)) = some r := h
  clear h
  replace H := Option.bind_eq_some_iff.mp H
  obtain ⟨t121, A20, H⟩ := H
  replace H : (host_Ip.l0 k t121 t121 (t121.length : Int) 0) = some r := H
  have A2 := Aside0.mk A20
  clear A20
  have H' := Aside0.mk H
  clear H
  go_enter Tryd.func13, Tryd.ntmps13
  go_wp2_with (first | ((with_reducible refine gate_callee (f := 22) rfl ?_); refine goesL_ (some 9) rfl rfl Tryd.func22 (by kernel_rfl) rfl #[.string a0, .string (⟨#[46]⟩ : ByteArray)] rfl (by (try simp only [List.map_toArray, List.map_cons, List.map_nil]); first | done | rfl | (simp only [List.length_drop, List.length_take]; rfl) | ((try simp [Act.eval]) <;> (try simp only [xw_u64, xw_u32, xw_u8, wrap64, wrap32]) <;> omega)) ?_; (with_reducible refine (strings_Split.calls a0 (⟨#[46]⟩ : ByteArray) t121 _ (Aside0.mk (by first | exact hG.out | ((with_reducible repeat (first | apply LaidG.drewN | apply LaidG.drew | apply LaidG.alloc)); exact hG.out) | exact LaidG.below hG.out (by repeat (first | (with_reducible first | exact HB.out | apply below_alloc | apply pw_below_drewN | apply below_drew1) | exact HB.out)))) A2.out).mono ?_); rintro e w3 ⟨v122, rfl, ho0, hb⟩; refine ⟨_, rfl, ?_⟩; have n0_ := Aside0.mk (Kd.R_lower ho0 (below_size (by repeat (first | (with_reducible first | exact HB.out | apply below_alloc | apply pw_below_drewN | apply below_drew1) | exact HB.out)))); have n1_ := Aside0.mk (below_step (by repeat (first | (with_reducible first | exact HB.out | apply below_alloc | apply pw_below_drewN | apply below_drew1) | exact HB.out)) hb); clear HB; have HO123 := n0_; have HB := n1_; clear n0_ n1_; (try clear hb); (try clear hb2); (try clear hk); (try clear hi); (try clear ho0); obtain ⟨Ao4, co4, eo4⟩ := Kd.R_slice HO123.out; subst eo4))
  go_loopg [12] k (fun kq v12 w' => ∃ (x12_1 : Int), v12 = .int .i64 x12_1 ∧ Aside0 (host_Ip.l0 kq t121 t121 (t121.length : Int) x12_1 = some r) ∧ Aside0 (kq ≤ k) ∧ Aside0 (Kd.R Kd.string 9 w' w.heap.size (fun _ => True) (.slice Ao4 t121.length co4) t121) ∧ Aside0 (Kd.R Kd.string 9 w' w.heap.size (fun _ => True) (.slice Ao4 t121.length co4) t121) ∧ Aside0 (Below w.heap.size w w'))
  case atStart => exact ⟨(0), (by first | rfl | (simp; done) | (simp [*]; done)), H', ⟨Nat.le_refl _⟩, ⟨by (with_reducible repeat (first | apply Kd.R_alloc | apply Kd.R_drewN | apply Kd.R_drew)); exact HO123.out⟩, ⟨by (with_reducible repeat (first | apply Kd.R_alloc | apply Kd.R_drewN | apply Kd.R_drew)); exact HO123.out⟩, ⟨by repeat (first | (with_reducible first | exact HB.out | apply below_alloc | apply pw_below_drewN | apply below_drew1) | exact HB.out)⟩⟩
  case round =>
    clear H'
    try clear c1
    try clear c2
    try clear p2
    try clear p3
    obtain ⟨x12_1, rfl, HA, HK1, HO_3, HO_10, HB⟩ := hrel
    cases gk with
    | zero => exact absurd HA.out (by simp [host_Ip.l0])
    | succ k1 =>
      have H := HA.out
      clear HA
      simp only [host_Ip.l0] at H
      by_cases c5 : x12_1 < (t121.length : Int)
      · rw [if_pos c5] at H
        have c5b0 : decide (x12_1 < (t121.length : Int)) = true := decide_eq_true c5
        clear c5
        by_cases c6 : 0 ≤ x12_1
        · rw [if_pos c6] at H
          have c6b0 : decide (0 ≤ x12_1) = true := decide_eq_true c6
          clear c6
          by_cases c7 : x12_1 < (t121.length : Int)
          · rw [if_pos c7] at H
            have c7b0 : decide (x12_1 < (t121.length : Int)) = true := decide_eq_true c7
            clear c7
            replace H := Option.bind_eq_some_iff.mp H
            obtain ⟨⟨t125, t126⟩, A80, H⟩ := H
            replace H : (if t126 = true then (if t125 < 0 then (some false) else (if t125 > 255 then (some false) else (host_Ip.l0 k1 t121 t121 (t121.length : Int) (wrap64 (x12_1 + 1))))) else (some false)) = some r := H
            have A8 := Aside0.mk A80
            clear A80
            by_cases c9 : t126 = true
            · subst c9
              have H1 : (if t125 < 0 then (some false) else (if t125 > 255 then (some false) else (host_Ip.l0 k1 t121 t121 (t121.length : Int) (wrap64 (x12_1 + 1))))) = some r := by rw [if_pos rfl] at H; exact H
              clear H
              have H := H1
              clear H1
              by_cases c10 : t125 < 0
              · rw [if_pos c10] at H
                have c10b0 : decide (t125 < 0) = true := decide_eq_true c10
                clear c10
                obtain rfl := Option.some.inj H
                have p124 : 0 ≤ (x12_1 : Int) := of_decide_eq_true (by first | (with_reducible assumption) | assumption)
                have q124 : x12_1 < (t121.length : Int) := of_decide_eq_true (by first | (with_reducible assumption) | assumption)
                obtain ⟨ad124, e124, hx124_0⟩ := Kd.at_string (Kd.R_reads' HO_10.out).2.2 x12_1 p124 q124
                cases e124
                replace p124 := eq_true p124
                replace q124 := eq_true q124
                go_wp2_with (first | ((with_reducible refine gate_callee (f := 25) rfl ?_); refine goesL_ (some 18) rfl rfl Tryd.func25 (by kernel_rfl) rfl #[.string (rdOf ByteArray.empty t121 x12_1)] rfl (by (try simp only [List.map_toArray, List.map_cons, List.map_nil]); first | done | rfl | (simp only [List.length_drop, List.length_take]; rfl) | ((try simp [Act.eval]) <;> (try simp only [xw_u64, xw_u32, xw_u8, wrap64, wrap32]) <;> omega)) ?_; (with_reducible refine (dec_Read.calls (rdOf ByteArray.empty t121 x12_1) t125 true _ (Aside0.mk (by first | exact hG.out | ((with_reducible repeat (first | apply LaidG.drewN | apply LaidG.drew | apply LaidG.alloc)); exact hG.out) | exact LaidG.below hG.out (by repeat (first | (with_reducible first | exact HB.out | apply below_alloc | apply pw_below_drewN | apply below_drew1) | exact HB.out)))) A8.out).mono ?_); rintro e w11 ⟨rfl, hb⟩; refine ⟨_, rfl, ?_⟩; have n0_ := Aside0.mk (Kd.R_below (by (with_reducible repeat (first | apply Kd.R_alloc | apply Kd.R_drewN | apply Kd.R_drew)); exact HO_3.out) hb); have n1_ := Aside0.mk (Kd.R_below (by (with_reducible repeat (first | apply Kd.R_alloc | apply Kd.R_drewN | apply Kd.R_drew)); exact HO_10.out) hb); have n2_ := Aside0.mk (below_step (by repeat (first | (with_reducible first | exact HB.out | apply below_alloc | apply pw_below_drewN | apply below_drew1) | exact HB.out)) hb); clear HO_3; clear HO_10; clear HB; have HO_3 := n0_; have HO_10 := n1_; have HB := n2_; clear n0_ n1_ n2_; (try clear hb); (try clear hb2); (try clear hk); (try clear hi)))
                go_ret
                exact ⟨by first | rfl | (simp [errW_none, errW_some] <;> rfl) | (simp [*, errW_none, errW_some] <;> rfl), by repeat (first | (with_reducible first | exact HB.out | apply below_alloc | apply pw_below_drewN | apply below_drew1) | exact HB.out)⟩
              · rw [if_neg c10] at H
                have c10b0 : decide (t125 < 0) = false := decide_eq_false c10
                clear c10
                by_cases c12 : t125 > 255
                · rw [if_pos c12] at H
                  have c12b0 : decide (255 < t125) = true := decide_eq_true c12
                  clear c12
                  obtain rfl := Option.some.inj H
                  have p124 : 0 ≤ (x12_1 : Int) := of_decide_eq_true (by first | (with_reducible assumption) | assumption)
                  have q124 : x12_1 < (t121.length : Int) := of_decide_eq_true (by first | (with_reducible assumption) | assumption)
                  obtain ⟨ad124, e124, hx124_0⟩ := Kd.at_string (Kd.R_reads' HO_10.out).2.2 x12_1 p124 q124
                  cases e124
                  replace p124 := eq_true p124
                  replace q124 := eq_true q124
                  go_wp2_with (first | ((with_reducible refine gate_callee (f := 25) rfl ?_); refine goesL_ (some 18) rfl rfl Tryd.func25 (by kernel_rfl) rfl #[.string (rdOf ByteArray.empty t121 x12_1)] rfl (by (try simp only [List.map_toArray, List.map_cons, List.map_nil]); first | done | rfl | (simp only [List.length_drop, List.length_take]; rfl) | ((try simp [Act.eval]) <;> (try simp only [xw_u64, xw_u32, xw_u8, wrap64, wrap32]) <;> omega)) ?_; (with_reducible refine (dec_Read.calls (rdOf ByteArray.empty t121 x12_1) t125 true _ (Aside0.mk (by first | exact hG.out | ((with_reducible repeat (first | apply LaidG.drewN | apply LaidG.drew | apply LaidG.alloc)); exact hG.out) | exact LaidG.below hG.out (by repeat (first | (with_reducible first | exact HB.out | apply below_alloc | apply pw_below_drewN | apply below_drew1) | exact HB.out)))) A8.out).mono ?_); rintro e w13 ⟨rfl, hb⟩; refine ⟨_, rfl, ?_⟩; have n0_ := Aside0.mk (Kd.R_below (by (with_reducible repeat (first | apply Kd.R_alloc | apply Kd.R_drewN | apply Kd.R_drew)); exact HO_3.out) hb); have n1_ := Aside0.mk (Kd.R_below (by (with_reducible repeat (first | apply Kd.R_alloc | apply Kd.R_drewN | apply Kd.R_drew)); exact HO_10.out) hb); have n2_ := Aside0.mk (below_step (by repeat (first | (with_reducible first | exact HB.out | apply below_alloc | apply pw_below_drewN | apply below_drew1) | exact HB.out)) hb); clear HO_3; clear HO_10; clear HB; have HO_3 := n0_; have HO_10 := n1_; have HB := n2_; clear n0_ n1_ n2_; (try clear hb); (try clear hb2); (try clear hk); (try clear hi)))
                  go_ret
                  exact ⟨by first | rfl | (simp [errW_none, errW_some] <;> rfl) | (simp [*, errW_none, errW_some] <;> rfl), by repeat (first | (with_reducible first | exact HB.out | apply below_alloc | apply pw_below_drewN | apply below_drew1) | exact HB.out)⟩
                · rw [if_neg c12] at H
                  have c12b0 : decide (255 < t125) = false := decide_eq_false c12
                  clear c12
                  have H' := Aside0.mk H
                  clear H
                  have p124 : 0 ≤ (x12_1 : Int) := of_decide_eq_true (by first | (with_reducible assumption) | assumption)
                  have q124 : x12_1 < (t121.length : Int) := of_decide_eq_true (by first | (with_reducible assumption) | assumption)
                  obtain ⟨ad124, e124, hx124_0⟩ := Kd.at_string (Kd.R_reads' HO_10.out).2.2 x12_1 p124 q124
                  cases e124
                  replace p124 := eq_true p124
                  replace q124 := eq_true q124
                  go_wp2_with (first | ((with_reducible refine gate_callee (f := 25) rfl ?_); refine goesL_ (some 18) rfl rfl Tryd.func25 (by kernel_rfl) rfl #[.string (rdOf ByteArray.empty t121 x12_1)] rfl (by (try simp only [List.map_toArray, List.map_cons, List.map_nil]); first | done | rfl | (simp only [List.length_drop, List.length_take]; rfl) | ((try simp [Act.eval]) <;> (try simp only [xw_u64, xw_u32, xw_u8, wrap64, wrap32]) <;> omega)) ?_; (with_reducible refine (dec_Read.calls (rdOf ByteArray.empty t121 x12_1) t125 true _ (Aside0.mk (by first | exact hG.out | ((with_reducible repeat (first | apply LaidG.drewN | apply LaidG.drew | apply LaidG.alloc)); exact hG.out) | exact LaidG.below hG.out (by repeat (first | (with_reducible first | exact HB.out | apply below_alloc | apply pw_below_drewN | apply below_drew1) | exact HB.out)))) A8.out).mono ?_); rintro e w14 ⟨rfl, hb⟩; refine ⟨_, rfl, ?_⟩; have n0_ := Aside0.mk (Kd.R_below (by (with_reducible repeat (first | apply Kd.R_alloc | apply Kd.R_drewN | apply Kd.R_drew)); exact HO_3.out) hb); have n1_ := Aside0.mk (Kd.R_below (by (with_reducible repeat (first | apply Kd.R_alloc | apply Kd.R_drewN | apply Kd.R_drew)); exact HO_10.out) hb); have n2_ := Aside0.mk (below_step (by repeat (first | (with_reducible first | exact HB.out | apply below_alloc | apply pw_below_drewN | apply below_drew1) | exact HB.out)) hb); clear HO_3; clear HO_10; clear HB; have HO_3 := n0_; have HO_10 := n1_; have HB := n2_; clear n0_ n1_ n2_; (try clear hb); (try clear hb2); (try clear hk); (try clear hi)))
                  go_roundg k1
                  case measure => have := HK1.out; omega
                  case rel => exact ⟨(wrap64 (x12_1 + 1)), (by first | rfl | (simp; done) | (simp [*]; done)), H', ⟨by have := HK1.out; omega⟩, ⟨by (with_reducible repeat (first | apply Kd.R_alloc | apply Kd.R_drewN | apply Kd.R_drew)); exact HO_3.out⟩, ⟨by (with_reducible repeat (first | apply Kd.R_alloc | apply Kd.R_drewN | apply Kd.R_drew)); exact HO_10.out⟩, ⟨by repeat (first | (with_reducible first | exact HB.out | apply below_alloc | apply pw_below_drewN | apply below_drew1) | exact HB.out)⟩⟩
            · replace c9 := Bool.eq_false_iff.mpr c9
              subst c9
              have H1 : (some false) = some r := by rw [if_neg (show ¬ (false = true) by decide)] at H; exact H
              clear H
              have H := H1
              clear H1
              obtain rfl := Option.some.inj H
              have p124 : 0 ≤ (x12_1 : Int) := of_decide_eq_true (by first | (with_reducible assumption) | assumption)
              have q124 : x12_1 < (t121.length : Int) := of_decide_eq_true (by first | (with_reducible assumption) | assumption)
              obtain ⟨ad124, e124, hx124_0⟩ := Kd.at_string (Kd.R_reads' HO_10.out).2.2 x12_1 p124 q124
              cases e124
              replace p124 := eq_true p124
              replace q124 := eq_true q124
              go_wp2_with (first | ((with_reducible refine gate_callee (f := 25) rfl ?_); refine goesL_ (some 18) rfl rfl Tryd.func25 (by kernel_rfl) rfl #[.string (rdOf ByteArray.empty t121 x12_1)] rfl (by (try simp only [List.map_toArray, List.map_cons, List.map_nil]); first | done | rfl | (simp only [List.length_drop, List.length_take]; rfl) | ((try simp [Act.eval]) <;> (try simp only [xw_u64, xw_u32, xw_u8, wrap64, wrap32]) <;> omega)) ?_; (with_reducible refine (dec_Read.calls (rdOf ByteArray.empty t121 x12_1) t125 false _ (Aside0.mk (by first | exact hG.out | ((with_reducible repeat (first | apply LaidG.drewN | apply LaidG.drew | apply LaidG.alloc)); exact hG.out) | exact LaidG.below hG.out (by repeat (first | (with_reducible first | exact HB.out | apply below_alloc | apply pw_below_drewN | apply below_drew1) | exact HB.out)))) A8.out).mono ?_); rintro e w15 ⟨rfl, hb⟩; refine ⟨_, rfl, ?_⟩; have n0_ := Aside0.mk (Kd.R_below (by (with_reducible repeat (first | apply Kd.R_alloc | apply Kd.R_drewN | apply Kd.R_drew)); exact HO_3.out) hb); have n1_ := Aside0.mk (Kd.R_below (by (with_reducible repeat (first | apply Kd.R_alloc | apply Kd.R_drewN | apply Kd.R_drew)); exact HO_10.out) hb); have n2_ := Aside0.mk (below_step (by repeat (first | (with_reducible first | exact HB.out | apply below_alloc | apply pw_below_drewN | apply below_drew1) | exact HB.out)) hb); clear HO_3; clear HO_10; clear HB; have HO_3 := n0_; have HO_10 := n1_; have HB := n2_; clear n0_ n1_ n2_; (try clear hb); (try clear hb2); (try clear hk); (try clear hi)))
              go_ret
              exact ⟨by first | rfl | (simp [errW_none, errW_some] <;> rfl) | (simp [*, errW_none, errW_some] <;> rfl), by repeat (first | (with_reducible first | exact HB.out | apply below_alloc | apply pw_below_drewN | apply below_drew1) | exact HB.out)⟩
          · rw [if_neg c7] at H
            exact absurd H (by simp)
        · rw [if_neg c6] at H
          exact absurd H (by simp)
      · rw [if_neg c5] at H
        have c5b0 : decide (x12_1 < (t121.length : Int)) = false := decide_eq_false c5
        clear c5
        obtain rfl := Option.some.inj H
        go_wp2
        go_ret
        exact ⟨by first | rfl | (simp [errW_none, errW_some] <;> rfl) | (simp [*, errW_none, errW_some] <;> rfl), by repeat (first | (with_reducible first | exact HB.out | apply below_alloc | apply pw_below_drewN | apply below_drew1) | exact HB.out)⟩

/-! ### stringslite_HasSuffix: function 35 -/
def stringslite_HasSuffix.f (a0 : ByteArray) (a1 : ByteArray) : Option (Bool) := if (a0.size : Int) ≥ (a1.size : Int) then (if 0 ≤ (wrap64 ((a0.size : Int) - (a1.size : Int))) then (if (wrap64 ((a0.size : Int) - (a1.size : Int))) ≤ (a0.size : Int) then (some ((a0.extract ((wrap64 ((a0.size : Int) - (a1.size : Int))) : Int).toNat a0.size).toList == a1.toList)) else (none)) else (none)) else (some false)
set_option maxHeartbeats 8000000 in
set_option maxRecDepth 100000 in
theorem stringslite_HasSuffix.calls (a0 : ByteArray) (a1 : ByteArray) (r : Bool) (w : World) (h : stringslite_HasSuffix.f a0 a1 = some r) :
    Calls Tryd.prog 35 #[.string a0, .string a1] w fun e w' => e = .returned (.bool r) ∧ Drawn0 w w' := by
  have H : (if (a0.size : Int) ≥ (a1.size : Int) then (if 0 ≤ (wrap64 ((a0.size : Int) - (a1.size : Int))) then (if (wrap64 ((a0.size : Int) - (a1.size : Int))) ≤ (a0.size : Int) then (some ((a0.extract ((wrap64 ((a0.size : Int) - (a1.size : Int))) : Int).toNat a0.size).toList == a1.toList)) else (none)) else (none)) else (some false)) = some r := h
  clear h
  by_cases c3 : (a0.size : Int) ≥ (a1.size : Int)
  · rw [if_pos c3] at H
    have c3b0 : decide ((a1.size : Int) ≤ (a0.size : Int)) = true := decide_eq_true c3
    have c3b1 : decide (a1.size ≤ a0.size) = true := decide_eq_true (Int.ofNat_le.mp c3)
    clear c3
    obtain ⟨ji4, hji4⟩ : ∃ j_ : Int, (wrap64 ((a0.size : Int) - (a1.size : Int))) = j_ := ⟨_, rfl⟩
    replace H : (if 0 ≤ (ji4) then (if (ji4) ≤ (a0.size : Int) then (some ((a0.extract ((ji4) : Int).toNat a0.size).toList == a1.toList)) else (none)) else (none)) = some r := by first | (rw [hji4] at H; exact H) | (simp only [hji4] at H ⊢; exact H)
    have hji4w : (IntKind.i64.wrap ((a0.size : Int) - (a1.size : Int))) = ji4 := (i64_w _).trans hji4
    by_cases c5 : 0 ≤ (ji4)
    · rw [if_pos c5] at H
      have c5b0 := eq_true c5
      have c5b1 : decide (0 ≤ (ji4)) = true := decide_eq_true c5
      clear c5
      by_cases c6 : (ji4) ≤ (a0.size : Int)
      · rw [if_pos c6] at H
        have c6b0 := eq_true c6
        have c6b1 : decide ((ji4) ≤ (a0.size : Int)) = true := decide_eq_true c6
        clear c6
        obtain rfl := Option.some.inj H
        go_enter Tryd.func35, Tryd.ntmps35
        go_wp2
        go_ret
        exact ⟨by first | rfl | (simp; done) | (simp only [← hji4] <;> (first | rfl | simp)) | (simp [*]; done), by repeat (first | exact Drawn0.refl _ | apply Drawn0.step)⟩
      · rw [if_neg c6] at H
        exact absurd H (by simp)
    · rw [if_neg c5] at H
      exact absurd H (by simp)
  · rw [if_neg c3] at H
    have c3b0 : decide ((a1.size : Int) ≤ (a0.size : Int)) = false := decide_eq_false c3
    have c3b1 : decide (a1.size ≤ a0.size) = false := decide_eq_false (fun h => c3 (Int.ofNat_le.mpr h))
    clear c3
    obtain rfl := Option.some.inj H
    go_enter Tryd.func35, Tryd.ntmps35
    go_wp2
    go_ret
    exact ⟨by first | rfl | (simp; done) | (simp [*]; done), by repeat (first | exact Drawn0.refl _ | apply Drawn0.step)⟩

/-! ### strings_HasSuffix: function 27 -/
def strings_HasSuffix.f (a0 : ByteArray) (a1 : ByteArray) : Option (Bool) := (stringslite_HasSuffix.f a0 a1).bind fun t127 => (some t127)
set_option maxHeartbeats 8000000 in
set_option maxRecDepth 100000 in
theorem strings_HasSuffix.calls (a0 : ByteArray) (a1 : ByteArray) (r : Bool) (w : World) (h : strings_HasSuffix.f a0 a1 = some r) :
    Calls Tryd.prog 27 #[.string a0, .string a1] w fun e w' => e = .returned (.bool r) ∧ Drawn0 w w' := by
  have H : ((stringslite_HasSuffix.f a0 a1).bind fun t127 => (some t127)) = some r := h
  clear h
  replace H := Option.bind_eq_some_iff.mp H
  obtain ⟨t127, A30, H⟩ := H
  replace H : (some t127) = some r := H
  have A3 := Aside0.mk A30
  clear A30
  obtain rfl := Option.some.inj H
  go_enter Tryd.func27, Tryd.ntmps27
  go_wp2_with (first | ((with_reducible refine gate_callee (f := 35) rfl ?_); refine goesL_ (some 7) rfl rfl Tryd.func35 (by kernel_rfl) rfl #[.string a0, .string a1] rfl (by (try simp only [List.map_toArray, List.map_cons, List.map_nil]); first | done | rfl | (simp only [List.length_drop, List.length_take]; rfl) | ((try simp [Act.eval]) <;> (try simp only [xw_u64, xw_u32, xw_u8, wrap64, wrap32]) <;> omega)) ?_; (with_reducible refine (stringslite_HasSuffix.calls a0 a1 t127 _ A3.out).mono ?_); rintro e w' ⟨rfl, ⟨nd, rfl⟩⟩; refine ⟨_, rfl, ?_⟩))
  go_ret
  exact ⟨by first | rfl | (simp; done) | (simp [*]; done), by repeat (first | exact Drawn0.refl _ | apply Drawn0.step)⟩

/-! ### host_Match: function 15 -/
def host_Match.f (k : Nat) (a0 : ByteArray) (a1 : ByteArray) : Option (Bool) := if a0.toList = a1.toList then (some true) else (if 1 + a1.size ≤ 9223372036854775807 then ((strings_HasSuffix.f a0 ((⟨#[46]⟩ : ByteArray) ++ a1)).bind fun t128 => (if t128 = true then ((host_Ip.f k a0).bind fun t129 => (some (!t129))) else (some false))) else (none))
theorem host_Match.mono : ∀ a0 a1 k, LeO (host_Match.f k a0 a1) (host_Match.f (k + 1) a0 a1) := by
  intro a0 a1 k
  unfold host_Match.f
  repeat' first
      | (with_reducible exact host_Ip.mono _ _)
      | (with_reducible exact LeO.refl _)
      | (with_reducible exact LeO.none _)
      | (with_reducible refine LeO.ite ?_ ?_)
      | (with_reducible refine LeO.bind ?_ (fun _ => ?_))
      | exact host_Ip.mono _ _
      | exact LeO.none _
      | refine LeO.ite ?_ ?_
      | refine LeO.bind ?_ (fun _ => ?_)
set_option maxHeartbeats 8000000 in
set_option maxRecDepth 100000 in
theorem host_Match.calls (k : Nat) (a0 : ByteArray) (a1 : ByteArray) (r : Bool) (w : World) (hG : Aside0 (LaidG w)) (h : host_Match.f k a0 a1 = some r) :
    Calls Tryd.prog 15 #[.string a0, .string a1] w fun e w' => e = .returned (.bool r) ∧ Below w.heap.size w w' := by
  have HB := Aside0.mk (Below.refl w.heap.size w)
  have H : (if a0.toList = a1.toList then (some true) else (if 1 + a1.size ≤ 9223372036854775807 then ((strings_HasSuffix.f a0 ((⟨#[46]⟩ : ByteArray) ++ a1)).bind fun t128 => (if t128 = true then ((host_Ip.f k a0).bind fun t129 => (some (!t129))) else (some false))) else (none))) = some r := h
  clear h
  by_cases c3 : a0.toList = a1.toList
  · rw [if_pos c3] at H
    have c3b0 : (a0.toList == a1.toList) = true := beq_iff_eq.mpr c3
    have c3b1 : (a0.toList != a1.toList) = false := bne_eq_false_iff_eq.mpr c3
    clear c3
    obtain rfl := Option.some.inj H
    go_enter Tryd.func15, Tryd.ntmps15
    go_wp2
    go_ret
    exact ⟨by first | rfl | (simp [errW_none, errW_some] <;> rfl) | (simp [*, errW_none, errW_some] <;> rfl), by repeat (first | (with_reducible first | exact HB.out | apply below_alloc | apply pw_below_drewN | apply below_drew1) | exact HB.out)⟩
  · rw [if_neg c3] at H
    have c3b0 : (a0.toList == a1.toList) = false := beq_eq_false_iff_ne.mpr c3
    have c3b1 : (a0.toList != a1.toList) = true := bne_iff_ne.mpr c3
    by_cases c4 : 1 + a1.size ≤ 9223372036854775807
    · rw [if_pos c4] at H
      have c4b0 := eq_true c4
      have c4b1 : decide (1 + a1.size ≤ 9223372036854775807) = true := decide_eq_true c4
      try have c4b2 : (9223372036854775807 < 1 + a1.size) = False := eq_false (Nat.not_lt.2 c4)
      replace H := Option.bind_eq_some_iff.mp H
      obtain ⟨t128, A50, H⟩ := H
      replace H : (if t128 = true then ((host_Ip.f k a0).bind fun t129 => (some (!t129))) else (some false)) = some r := H
      have A5 := Aside0.mk A50
      clear A50
      by_cases c6 : t128 = true
      · subst c6
        have H1 : ((host_Ip.f k a0).bind fun t129 => (some (!t129))) = some r := by rw [if_pos rfl] at H; exact H
        clear H
        have H := H1
        clear H1
        replace H := Option.bind_eq_some_iff.mp H
        obtain ⟨t129, A70, H⟩ := H
        replace H : (some (!t129)) = some r := H
        have A7 := Aside0.mk A70
        clear A70
        obtain rfl := Option.some.inj H
        go_enter Tryd.func15, Tryd.ntmps15
        go_wp2_with (first | (go_at_call 27; (with_reducible refine (strings_HasSuffix.calls a0 ((⟨#[46]⟩ : ByteArray) ++ a1) true _ A5.out).mono ?_); rintro e w' ⟨rfl, ⟨nd, rfl⟩⟩) | (go_at_call 13; (with_reducible refine (host_Ip.calls k a0 t129 _ (Aside0.mk (by first | exact hG.out | ((with_reducible repeat (first | apply LaidG.drewN | apply LaidG.drew | apply LaidG.alloc)); exact hG.out) | exact LaidG.below hG.out (by repeat (first | (with_reducible first | exact HB.out | apply below_alloc | apply pw_below_drewN | apply below_drew1) | exact HB.out)))) A7.out).mono ?_); rintro e w8 ⟨rfl, hb⟩; have n0_ := Aside0.mk (below_step (by repeat (first | (with_reducible first | exact HB.out | apply below_alloc | apply pw_below_drewN | apply below_drew1) | exact HB.out)) hb); clear HB; have HB := n0_; clear n0_; (try clear hb); (try clear hb2); (try clear hk); (try clear hi)))
        go_ret
        exact ⟨by first | rfl | (simp [errW_none, errW_some] <;> rfl) | (simp [*, errW_none, errW_some] <;> rfl), by repeat (first | (with_reducible first | exact HB.out | apply below_alloc | apply pw_below_drewN | apply below_drew1) | exact HB.out)⟩
      · replace c6 := Bool.eq_false_iff.mpr c6
        subst c6
        have H1 : (some false) = some r := by rw [if_neg (show ¬ (false = true) by decide)] at H; exact H
        clear H
        have H := H1
        clear H1
        obtain rfl := Option.some.inj H
        go_enter Tryd.func15, Tryd.ntmps15
        go_wp2_with (first | (go_at_call 27; (with_reducible refine (strings_HasSuffix.calls a0 ((⟨#[46]⟩ : ByteArray) ++ a1) false _ A5.out).mono ?_); rintro e w' ⟨rfl, ⟨nd, rfl⟩⟩))
        go_ret
        exact ⟨by first | rfl | (simp [errW_none, errW_some] <;> rfl) | (simp [*, errW_none, errW_some] <;> rfl), by repeat (first | (with_reducible first | exact HB.out | apply below_alloc | apply pw_below_drewN | apply below_drew1) | exact HB.out)⟩
    · rw [if_neg c4] at H
      exact absurd H (by simp)

/-! ### host_Parents: function 17 -/
def host_Parents.l0 : Nat → ByteArray → List ByteArray → Int → Int → Option (List ByteArray)
  | 0, _, _, _, _ => none
  | k + 1, x0, x3, x8, x9 => if x9 < x8 then (if 0 ≤ x9 then (if x9 < (x0.size : Int) then (if (bt x0 x9) = 46 then ((host_Ip.f k x0).bind fun t133 => (if t133 = true then (host_Parents.l0 k x0 x3 x8 (wrap64 (x9 + 1))) else (if 0 ≤ (wrap64 (x9 + 1)) then (if (wrap64 (x9 + 1)) ≤ (x0.size : Int) then (if x3.length < 8796093022208 then (host_Parents.l0 k x0 (x3 ++ [x0.extract ((wrap64 (x9 + 1)) : Int).toNat x0.size]) x8 (wrap64 (x9 + 1))) else (none)) else (none)) else (none)))) else (host_Parents.l0 k x0 x3 x8 (wrap64 (x9 + 1)))) else (none)) else (none)) else (some x3)
def host_Parents.f (k : Nat) (a0 : ByteArray) : Option (List ByteArray) := host_Parents.l0 k a0 (([a0] : List ByteArray)) (a0.size : Int) 0
theorem host_Parents.mono_l : ∀ k, (∀ y0 y1 y2 y3, LeO (host_Parents.l0 k y0 y1 y2 y3) (host_Parents.l0 (k + 1) y0 y1 y2 y3))
  | 0 => fun _ _ _ _ r h => by simp [host_Parents.l0] at h
  | k + 1 => by
    have ih0 := host_Parents.mono_l k
    · intro y0 y1 y2 y3
      unfold host_Parents.l0
      repeat' first
      | (with_reducible exact ih0 _ _ _ _)
      | (with_reducible exact host_Ip.mono _ _)
      | (with_reducible exact LeO.refl _)
      | (with_reducible exact LeO.none _)
      | (with_reducible refine LeO.ite ?_ ?_)
      | (with_reducible refine LeO.bind ?_ (fun _ => ?_))
      | exact ih0 _ _ _ _
      | exact host_Ip.mono _ _
      | exact LeO.none _
      | refine LeO.ite ?_ ?_
      | refine LeO.bind ?_ (fun _ => ?_)
theorem host_Parents.mono : ∀ a0 k, LeO (host_Parents.f k a0) (host_Parents.f (k + 1) a0) := by
  intro a0 k
  have ih0 := host_Parents.mono_l k
  unfold host_Parents.f
  repeat' first
      | (with_reducible exact ih0 _ _ _ _)
      | (with_reducible exact host_Ip.mono _ _)
      | (with_reducible exact LeO.refl _)
      | (with_reducible exact LeO.none _)
      | (with_reducible refine LeO.ite ?_ ?_)
      | (with_reducible refine LeO.bind ?_ (fun _ => ?_))
      | exact ih0 _ _ _ _
      | exact host_Ip.mono _ _
      | exact LeO.none _
      | refine LeO.ite ?_ ?_
      | refine LeO.bind ?_ (fun _ => ?_)
set_option maxHeartbeats 8000000 in
set_option maxRecDepth 100000 in
theorem host_Parents.calls (k : Nat) (a0 : ByteArray) (r : List ByteArray) (w : World) (hG : Aside0 (LaidG w)) (h : host_Parents.f k a0 = some r) :
    Calls Tryd.prog 17 #[.string a0] w fun e w' => ∃ v0_ : Value, e = .returned (v0_) ∧ Kd.R Kd.string 9 w' w.heap.size (fun _ => True) v0_ r ∧ Below w.heap.size w w' := by
  have HB := Aside0.mk (Below.refl w.heap.size w)
  have H : (host_Parents.l0 k a0 (([a0] : List ByteArray)) (a0.size : Int) 0) = some r := h
  clear h
  obtain ⟨y130, hy130⟩ : ∃ y_ : List ByteArray, y_ = (([a0] : List ByteArray)) := ⟨_, rfl⟩
  replace H : (host_Parents.l0 k a0 y130 (a0.size : Int) 0) = some r := by first | (rw [hy130]; with_reducible exact H) | (have H2_ := (Option.bind_some _ _).symm.trans H; rw [hy130]; with_reducible exact H2_) | (have H2_ := (Option.bind_some _ _).symm.trans H; with_reducible exact H2_) | with_reducible exact H | (rw [hy130]; exact H) | exact H
  have Ny130 := Aside0.mk hy130
  clear hy130
  have H' := Aside0.mk H
  clear H
  go_enter Tryd.func17, Tryd.ntmps17
  go_wp2_with (first | ((with_reducible refine gate_dst (N := 6) rfl ?_); refine Kd.R_lit Kd.string _ 9 ?hg (N := 6) ?hd (xs := ([a0] : List ByteArray)) (inner := [.string a0]) (ok := fun _ => True) (okp := fun _ => True) ?hr ?hp (fun _ hk => hk) trivial (Below.refl _ _) (Nat.le_refl _) (by simp) ?_; (case hd => rfl); (case hg => rfl); (case hr => first | (go_simp; done) | (go_simp; rfl)); (case hp => exact (Reps.one (show Kd.M Kd.string _ _ _ a0 [.string a0] from rfl) (Reps.none _ _))); intro v131 w2 ho3 hb hg_ hnew_; clear hg_ hnew_; (first | rw [← Ny130.out] at ho3 | (simp only [Int.reduceToNat] at ho3; rw [← Ny130.out] at ho3)); have n0_ := Aside0.mk (Kd.R_lower ho3 (below_size (by repeat (first | (with_reducible first | exact HB.out | apply below_alloc | apply pw_below_drewN | apply below_drew1) | exact HB.out)))); have n1_ := Aside0.mk (below_step (by repeat (first | (with_reducible first | exact HB.out | apply below_alloc | apply pw_below_drewN | apply below_drew1) | exact HB.out)) hb); clear HB; have HO132 := n0_; have HB := n1_; clear n0_ n1_; clear hb ho3))
  go_loopg [3, 9] k (fun kq v3 v9 w' => ∃ (x3_1 : List ByteArray) (x9_1 : Int), v9 = .int .i64 x9_1 ∧ Aside0 (host_Parents.l0 kq a0 x3_1 (a0.size : Int) x9_1 = some r) ∧ Aside0 (kq ≤ k) ∧ Aside0 (Kd.R Kd.string 9 w' w.heap.size (fun _ => True) v3 x3_1) ∧ Aside0 (Below w.heap.size w w'))
  case atStart => exact ⟨(y130), (0), (by first | rfl | (simp; done) | (simp [*]; done)), H', ⟨Nat.le_refl _⟩, ⟨by (with_reducible repeat (first | apply Kd.R_alloc | apply Kd.R_drewN | apply Kd.R_drew)); exact HO132.out⟩, ⟨by repeat (first | (with_reducible first | exact HB.out | apply below_alloc | apply pw_below_drewN | apply below_drew1) | exact HB.out)⟩⟩
  case round =>
    clear H'
    try clear c1
    try clear p2
    obtain ⟨x3_1, x9_1, rfl, HA, HK1, HO_3, HB⟩ := hrel
    cases gk with
    | zero => exact absurd HA.out (by simp [host_Parents.l0])
    | succ k1 =>
      have H := HA.out
      clear HA
      simp only [host_Parents.l0] at H
      by_cases c4 : x9_1 < (a0.size : Int)
      · rw [if_pos c4] at H
        have c4b0 : decide (x9_1 < (a0.size : Int)) = true := decide_eq_true c4
        clear c4
        by_cases c5 : 0 ≤ x9_1
        · rw [if_pos c5] at H
          have c5b0 : decide (0 ≤ x9_1) = true := decide_eq_true c5
          clear c5
          by_cases c6 : x9_1 < (a0.size : Int)
          · rw [if_pos c6] at H
            have c6b0 : decide (x9_1 < (a0.size : Int)) = true := decide_eq_true c6
            clear c6
            by_cases c8 : (bt a0 x9_1) = 46
            · rw [if_pos c8] at H
              have c8b0 : ((bt a0 x9_1) == 46) = true := beq_iff_eq.mpr c8
              have c8b1 : ((bt a0 x9_1) != 46) = false := bne_eq_false_iff_eq.mpr c8
              clear c8
              replace H := Option.bind_eq_some_iff.mp H
              obtain ⟨t133, A90, H⟩ := H
              replace H : (if t133 = true then (host_Parents.l0 k1 a0 x3_1 (a0.size : Int) (wrap64 (x9_1 + 1))) else (if 0 ≤ (wrap64 (x9_1 + 1)) then (if (wrap64 (x9_1 + 1)) ≤ (a0.size : Int) then (if x3_1.length < 8796093022208 then (host_Parents.l0 k1 a0 (x3_1 ++ [a0.extract ((wrap64 (x9_1 + 1)) : Int).toNat a0.size]) (a0.size : Int) (wrap64 (x9_1 + 1))) else (none)) else (none)) else (none))) = some r := H
              have A9 := Aside0.mk A90
              clear A90
              by_cases c10 : t133 = true
              · subst c10
                have H1 : (host_Parents.l0 k1 a0 x3_1 (a0.size : Int) (wrap64 (x9_1 + 1))) = some r := by rw [if_pos rfl] at H; exact H
                clear H
                have H := H1
                clear H1
                have H' := Aside0.mk H
                clear H
                have p7 : 0 ≤ (x9_1 : Int) := of_decide_eq_true (by first | (with_reducible assumption) | assumption)
                have q7 : x9_1 < (a0.size : Int) := of_decide_eq_true (by first | (with_reducible assumption) | assumption)
                have hx7 := bt_at a0 x9_1
                replace p7 := eq_true p7
                replace q7 := eq_true q7
                go_wp2_with (first | (go_at_call 13; (with_reducible refine (host_Ip.calls k1 a0 true _ (Aside0.mk (by first | exact hG.out | ((with_reducible repeat (first | apply LaidG.drewN | apply LaidG.drew | apply LaidG.alloc)); exact hG.out) | exact LaidG.below hG.out (by repeat (first | (with_reducible first | exact HB.out | apply below_alloc | apply pw_below_drewN | apply below_drew1) | exact HB.out)))) A9.out).mono ?_); rintro e w11 ⟨rfl, hb⟩; have n0_ := Aside0.mk (Kd.R_below (by (with_reducible repeat (first | apply Kd.R_alloc | apply Kd.R_drewN | apply Kd.R_drew)); exact HO_3.out) hb); have n1_ := Aside0.mk (below_step (by repeat (first | (with_reducible first | exact HB.out | apply below_alloc | apply pw_below_drewN | apply below_drew1) | exact HB.out)) hb); clear HO_3; clear HB; have HO_3 := n0_; have HB := n1_; clear n0_ n1_; (try clear hb); (try clear hb2); (try clear hk); (try clear hi)))
                go_roundg k1
                case measure => have := HK1.out; omega
                case rel => exact ⟨(x3_1), (wrap64 (x9_1 + 1)), (by first | rfl | (simp; done) | (simp [*]; done)), H', ⟨by have := HK1.out; omega⟩, ⟨by (with_reducible repeat (first | apply Kd.R_alloc | apply Kd.R_drewN | apply Kd.R_drew)); exact HO_3.out⟩, ⟨by repeat (first | (with_reducible first | exact HB.out | apply below_alloc | apply pw_below_drewN | apply below_drew1) | exact HB.out)⟩⟩
              · replace c10 := Bool.eq_false_iff.mpr c10
                subst c10
                have H1 : (if 0 ≤ (wrap64 (x9_1 + 1)) then (if (wrap64 (x9_1 + 1)) ≤ (a0.size : Int) then (if x3_1.length < 8796093022208 then (host_Parents.l0 k1 a0 (x3_1 ++ [a0.extract ((wrap64 (x9_1 + 1)) : Int).toNat a0.size]) (a0.size : Int) (wrap64 (x9_1 + 1))) else (none)) else (none)) else (none)) = some r := by rw [if_neg (show ¬ (false = true) by decide)] at H; exact H
                clear H
                have H := H1
                clear H1
                obtain ⟨ji12, hji12⟩ : ∃ j_ : Int, (wrap64 (x9_1 + 1)) = j_ := ⟨_, rfl⟩
                replace H : (if 0 ≤ (ji12) then (if (ji12) ≤ (a0.size : Int) then (if x3_1.length < 8796093022208 then (host_Parents.l0 k1 a0 (x3_1 ++ [a0.extract ((ji12) : Int).toNat a0.size]) (a0.size : Int) ji12) else (none)) else (none)) else (none)) = some r := by first | (rw [hji12] at H; exact H) | (simp only [hji12] at H ⊢; exact H)
                (try rw [hji12] at A9)
                have hji12w : (IntKind.i64.wrap (x9_1 + 1)) = ji12 := (i64_w _).trans hji12
                by_cases c13 : 0 ≤ (ji12)
                · rw [if_pos c13] at H
                  have c13b0 := eq_true c13
                  have c13b1 : decide (0 ≤ (ji12)) = true := decide_eq_true c13
                  clear c13
                  by_cases c14 : (ji12) ≤ (a0.size : Int)
                  · rw [if_pos c14] at H
                    have c14b0 := eq_true c14
                    have c14b1 : decide ((ji12) ≤ (a0.size : Int)) = true := decide_eq_true c14
                    clear c14
                    by_cases c15 : x3_1.length < 8796093022208
                    · rw [if_pos c15] at H
                      have LMc15 := Aside0.mk c15
                      clear c15
                      obtain ⟨y134, hy134⟩ : ∃ y_ : List ByteArray, y_ = (x3_1 ++ [a0.extract ((ji12) : Int).toNat a0.size]) := ⟨_, rfl⟩
                      replace H : (host_Parents.l0 k1 a0 y134 (a0.size : Int) ji12) = some r := by first | (rw [hy134]; with_reducible exact H) | (have H2_ := (Option.bind_some _ _).symm.trans H; rw [hy134]; with_reducible exact H2_) | (have H2_ := (Option.bind_some _ _).symm.trans H; with_reducible exact H2_) | with_reducible exact H | (rw [hy134]; exact H) | exact H
                      have Ny134 := Aside0.mk hy134
                      clear hy134
                      have H' := Aside0.mk H
                      clear H
                      have p7 : 0 ≤ (x9_1 : Int) := of_decide_eq_true (by first | (with_reducible assumption) | assumption)
                      have q7 : x9_1 < (a0.size : Int) := of_decide_eq_true (by first | (with_reducible assumption) | assumption)
                      have hx7 := bt_at a0 x9_1
                      replace p7 := eq_true p7
                      replace q7 := eq_true q7
                      go_wp2_with (first | (go_at_call 13; (with_reducible refine (host_Ip.calls k1 a0 false _ (Aside0.mk (by first | exact hG.out | ((with_reducible repeat (first | apply LaidG.drewN | apply LaidG.drew | apply LaidG.alloc)); exact hG.out) | exact LaidG.below hG.out (by repeat (first | (with_reducible first | exact HB.out | apply below_alloc | apply pw_below_drewN | apply below_drew1) | exact HB.out)))) A9.out).mono ?_); rintro e w16 ⟨rfl, hb⟩; have n0_ := Aside0.mk (Kd.R_below (by (with_reducible repeat (first | apply Kd.R_alloc | apply Kd.R_drewN | apply Kd.R_drew)); exact HO_3.out) hb); have n1_ := Aside0.mk (below_step (by repeat (first | (with_reducible first | exact HB.out | apply below_alloc | apply pw_below_drewN | apply below_drew1) | exact HB.out)) hb); clear HO_3; clear HB; have HO_3 := n0_; have HB := n1_; clear n0_ n1_; (try clear hb); (try clear hb2); (try clear hk); (try clear hi)) | ((with_reducible refine gate_builtin (b := .append) (xs := #[.tmp 21, .tmp 26]) rfl ?_); at_builtin; refine Kd.R_append Kd.string (w0 := w) w.heap.size rfl (.tmp 21) (.tmp 26) 28 9 (.string ⟨#[]⟩) 16 rfl Tryd.underlying28 info9 rfl (by decide) (by omega) u3 x3_1 (a0.extract ((ji12) : Int).toNat a0.size) [.string (a0.extract ((ji12) : Int).toNat a0.size)] (fun _ => True) (fun _ => False) rfl rfl ?aP (fun _ hk => hk.elim) ?aF ?aO ?aB ?aS ?aL ?_; (case aP => exact rfl); (case aB => exact (by repeat (first | (with_reducible first | exact HB.out | apply below_alloc | apply pw_below_drewN | apply below_drew1) | exact HB.out))); (case aF => exact (fun _ _ => trivial)); (case aO => exact (by (with_reducible repeat (first | apply Kd.R_alloc | apply Kd.R_drewN | apply Kd.R_drew)); exact HO_3.out)); (case aS => exact (below_size (by repeat (first | (with_reducible first | exact HB.out | apply below_alloc | apply pw_below_drewN | apply below_drew1) | exact HB.out)))); (case aL => have := LMc15.out; omega); intro v135 w17 ho hb hg hat; rw [← Ny134.out] at ho; have n0_ := Aside0.mk (hb); have n1_ := Aside0.mk (ho); clear HB; clear HO_3; have HB := n0_; have HO136 := n1_; clear n0_ n1_; clear ho hb hg hat))
                      go_roundg k1
                      case measure => have := HK1.out; omega
                      case rel => exact ⟨(y134), (ji12), (by first | rfl | (simp; done) | (simp only [← hji12] <;> (first | rfl | simp)) | (simp [*]; done)), H', ⟨by have := HK1.out; omega⟩, ⟨by (with_reducible repeat (first | apply Kd.R_alloc | apply Kd.R_drewN | apply Kd.R_drew)); exact HO136.out⟩, ⟨by repeat (first | (with_reducible first | exact HB.out | apply below_alloc | apply pw_below_drewN | apply below_drew1) | exact HB.out)⟩⟩
                    · rw [if_neg c15] at H
                      exact absurd H (by simp)
                  · rw [if_neg c14] at H
                    exact absurd H (by simp)
                · rw [if_neg c13] at H
                  exact absurd H (by simp)
            · rw [if_neg c8] at H
              have c8b0 : ((bt a0 x9_1) == 46) = false := beq_eq_false_iff_ne.mpr c8
              have c8b1 : ((bt a0 x9_1) != 46) = true := bne_iff_ne.mpr c8
              have H' := Aside0.mk H
              clear H
              have p7 : 0 ≤ (x9_1 : Int) := of_decide_eq_true (by first | (with_reducible assumption) | assumption)
              have q7 : x9_1 < (a0.size : Int) := of_decide_eq_true (by first | (with_reducible assumption) | assumption)
              have hx7 := bt_at a0 x9_1
              replace p7 := eq_true p7
              replace q7 := eq_true q7
              go_wp2
              go_roundg k1
              case measure => have := HK1.out; omega
              case rel => exact ⟨(x3_1), (wrap64 (x9_1 + 1)), (by first | rfl | (simp; done) | (simp [*]; done)), H', ⟨by have := HK1.out; omega⟩, ⟨by (with_reducible repeat (first | apply Kd.R_alloc | apply Kd.R_drewN | apply Kd.R_drew)); exact HO_3.out⟩, ⟨by repeat (first | (with_reducible first | exact HB.out | apply below_alloc | apply pw_below_drewN | apply below_drew1) | exact HB.out)⟩⟩
          · rw [if_neg c6] at H
            exact absurd H (by simp)
        · rw [if_neg c5] at H
          exact absurd H (by simp)
      · rw [if_neg c4] at H
        have c4b0 : decide (x9_1 < (a0.size : Int)) = false := decide_eq_false c4
        clear c4
        obtain rfl := Option.some.inj H
        go_wp2
        go_ret
        exact ⟨_, by first | rfl | (simp [errW_none, errW_some] <;> rfl) | (simp [*, errW_none, errW_some] <;> rfl), by (with_reducible repeat (first | apply Kd.R_alloc | apply Kd.R_drewN | apply Kd.R_drew)); exact HO_3.out, by repeat (first | (with_reducible first | exact HB.out | apply below_alloc | apply pw_below_drewN | apply below_drew1) | exact HB.out)⟩

/-! ### cracknellaw11_alive: function 12 -/
def cracknellaw11_alive.f (k : Nat)  : Option (Bool) := (host_Canon.f k (⟨#[65, 46, 69, 120, 97, 109, 112, 108, 101]⟩ : ByteArray)).bind fun bt137 => ((host_Canon.f k (⟨#[97, 46, 46, 98]⟩ : ByteArray)).bind fun bt139 => ((host_Parents.f k (⟨#[97, 46, 98, 46, 99]⟩ : ByteArray)).bind fun t141 => (if bt137.1.toList = ([97, 46, 101, 120, 97, 109, 112, 108, 101] : List UInt8) then (if bt137.2 = true then (if bt139.2 = true then (some false) else ((host_Ip.f k (⟨#[49, 46, 50, 46, 51, 46, 52]⟩ : ByteArray)).bind fun t144 => (if t144 = true then ((host_Ip.f k (⟨#[49, 46, 50, 46, 51, 46, 48, 52]⟩ : ByteArray)).bind fun t145 => (if t145 = true then (some false) else ((host_Match.f k (⟨#[97, 46, 98, 46, 99]⟩ : ByteArray) (⟨#[98, 46, 99]⟩ : ByteArray)).bind fun t146 => (if t146 = true then ((host_Match.f k (⟨#[97, 98, 46, 99]⟩ : ByteArray) (⟨#[98, 46, 99]⟩ : ByteArray)).bind fun t147 => (if t147 = true then (some false) else ((host_Match.f k (⟨#[49, 46, 50, 46, 51, 46, 52]⟩ : ByteArray) (⟨#[51, 46, 52]⟩ : ByteArray)).bind fun t148 => (if t148 = true then (some false) else (if (t141.length : Int) = 3 then (if 1 < (t141.length : Int) then (if (rdOf ByteArray.empty t141 1).toList = ([98, 46, 99] : List UInt8) then ((host_Parents.f k (⟨#[49, 46, 50, 46, 51, 46, 52]⟩ : ByteArray)).bind fun t150 => (some ((t150.length : Int) == 1))) else (some false)) else (none)) else (some false)))))) else (some false))))) else (some false)))) else (some false)) else (some false))))
theorem cracknellaw11_alive.mono : ∀ k, LeO (cracknellaw11_alive.f k ) (cracknellaw11_alive.f (k + 1) ) := by
  intro  k
  unfold cracknellaw11_alive.f
  repeat' first
      | (with_reducible exact host_Canon.mono _ _)
      | (with_reducible exact host_Ip.mono _ _)
      | (with_reducible exact host_Match.mono _ _ _)
      | (with_reducible exact host_Parents.mono _ _)
      | (with_reducible exact LeO.refl _)
      | (with_reducible exact LeO.none _)
      | (with_reducible refine LeO.ite ?_ ?_)
      | (with_reducible refine LeO.bind ?_ (fun _ => ?_))
      | exact host_Canon.mono _ _
      | exact host_Ip.mono _ _
      | exact host_Match.mono _ _ _
      | exact host_Parents.mono _ _
      | exact LeO.none _
      | refine LeO.ite ?_ ?_
      | refine LeO.bind ?_ (fun _ => ?_)
set_option maxHeartbeats 8000000 in
set_option maxRecDepth 100000 in
theorem cracknellaw11_alive.calls (k : Nat)  (r : Bool) (w : World) (hG : Aside0 (LaidG w)) (h : cracknellaw11_alive.f k  = some r) :
    Calls Tryd.prog 12 #[] w fun e w' => e = .returned (.bool r) ∧ Below w.heap.size w w' := by
  have HB := Aside0.mk (Below.refl w.heap.size w)
  have H : ((host_Canon.f k (⟨#[65, 46, 69, 120, 97, 109, 112, 108, 101]⟩ : ByteArray)).bind fun bt137 => ((host_Canon.f k (⟨#[97, 46, 46, 98]⟩ : ByteArray)).bind fun bt139 => ((host_Parents.f k (⟨#[97, 46, 98, 46, 99]⟩ : ByteArray)).bind fun t141 => (if bt137.1.toList = ([97, 46, 101, 120, 97, 109, 112, 108, 101] : List UInt8) then (if bt137.2 = true then (if bt139.2 = true then (some false) else ((host_Ip.f k (⟨#[49, 46, 50, 46, 51, 46, 52]⟩ : ByteArray)).bind fun t144 => (if t144 = true then ((host_Ip.f k (⟨#[49, 46, 50, 46, 51, 46, 48, 52]⟩ : ByteArray)).bind fun t145 => (if t145 = true then (some false) else ((host_Match.f k (⟨#[97, 46, 98, 46, 99]⟩ : ByteArray) (⟨#[98, 46, 99]⟩ : ByteArray)).bind fun t146 => (if t146 = true then ((host_Match.f k (⟨#[97, 98, 46, 99]⟩ : ByteArray) (⟨#[98, 46, 99]⟩ : ByteArray)).bind fun t147 => (if t147 = true then (some false) else ((host_Match.f k (⟨#[49, 46, 50, 46, 51, 46, 52]⟩ : ByteArray) (⟨#[51, 46, 52]⟩ : ByteArray)).bind fun t148 => (if t148 = true then (some false) else (if (t141.length : Int) = 3 then (if 1 < (t141.length : Int) then (if (rdOf ByteArray.empty t141 1).toList = ([98, 46, 99] : List UInt8) then ((host_Parents.f k (⟨#[49, 46, 50, 46, 51, 46, 52]⟩ : ByteArray)).bind fun t150 => (some ((t150.length : Int) == 1))) else (some false)) else (none)) else (some false)))))) else (some false))))) else (some false)))) else (some false)) else (some false))))) = some r := h
  clear h
  replace H := Option.bind_eq_some_iff.mp H
  obtain ⟨⟨t137, t138⟩, A10, H⟩ := H
  replace H : ((host_Canon.f k (⟨#[97, 46, 46, 98]⟩ : ByteArray)).bind fun bt139 => ((host_Parents.f k (⟨#[97, 46, 98, 46, 99]⟩ : ByteArray)).bind fun t141 => (if t137.toList = ([97, 46, 101, 120, 97, 109, 112, 108, 101] : List UInt8) then (if t138 = true then (if bt139.2 = true then (some false) else ((host_Ip.f k (⟨#[49, 46, 50, 46, 51, 46, 52]⟩ : ByteArray)).bind fun t144 => (if t144 = true then ((host_Ip.f k (⟨#[49, 46, 50, 46, 51, 46, 48, 52]⟩ : ByteArray)).bind fun t145 => (if t145 = true then (some false) else ((host_Match.f k (⟨#[97, 46, 98, 46, 99]⟩ : ByteArray) (⟨#[98, 46, 99]⟩ : ByteArray)).bind fun t146 => (if t146 = true then ((host_Match.f k (⟨#[97, 98, 46, 99]⟩ : ByteArray) (⟨#[98, 46, 99]⟩ : ByteArray)).bind fun t147 => (if t147 = true then (some false) else ((host_Match.f k (⟨#[49, 46, 50, 46, 51, 46, 52]⟩ : ByteArray) (⟨#[51, 46, 52]⟩ : ByteArray)).bind fun t148 => (if t148 = true then (some false) else (if (t141.length : Int) = 3 then (if 1 < (t141.length : Int) then (if (rdOf ByteArray.empty t141 1).toList = ([98, 46, 99] : List UInt8) then ((host_Parents.f k (⟨#[49, 46, 50, 46, 51, 46, 52]⟩ : ByteArray)).bind fun t150 => (some ((t150.length : Int) == 1))) else (some false)) else (none)) else (some false)))))) else (some false))))) else (some false)))) else (some false)) else (some false)))) = some r := H
  have A1 := Aside0.mk A10
  clear A10
  replace H := Option.bind_eq_some_iff.mp H
  obtain ⟨⟨t139, t140⟩, A20, H⟩ := H
  replace H : ((host_Parents.f k (⟨#[97, 46, 98, 46, 99]⟩ : ByteArray)).bind fun t141 => (if t137.toList = ([97, 46, 101, 120, 97, 109, 112, 108, 101] : List UInt8) then (if t138 = true then (if t140 = true then (some false) else ((host_Ip.f k (⟨#[49, 46, 50, 46, 51, 46, 52]⟩ : ByteArray)).bind fun t144 => (if t144 = true then ((host_Ip.f k (⟨#[49, 46, 50, 46, 51, 46, 48, 52]⟩ : ByteArray)).bind fun t145 => (if t145 = true then (some false) else ((host_Match.f k (⟨#[97, 46, 98, 46, 99]⟩ : ByteArray) (⟨#[98, 46, 99]⟩ : ByteArray)).bind fun t146 => (if t146 = true then ((host_Match.f k (⟨#[97, 98, 46, 99]⟩ : ByteArray) (⟨#[98, 46, 99]⟩ : ByteArray)).bind fun t147 => (if t147 = true then (some false) else ((host_Match.f k (⟨#[49, 46, 50, 46, 51, 46, 52]⟩ : ByteArray) (⟨#[51, 46, 52]⟩ : ByteArray)).bind fun t148 => (if t148 = true then (some false) else (if (t141.length : Int) = 3 then (if 1 < (t141.length : Int) then (if (rdOf ByteArray.empty t141 1).toList = ([98, 46, 99] : List UInt8) then ((host_Parents.f k (⟨#[49, 46, 50, 46, 51, 46, 52]⟩ : ByteArray)).bind fun t150 => (some ((t150.length : Int) == 1))) else (some false)) else (none)) else (some false)))))) else (some false))))) else (some false)))) else (some false)) else (some false))) = some r := H
  have A2 := Aside0.mk A20
  clear A20
  replace H := Option.bind_eq_some_iff.mp H
  obtain ⟨t141, A30, H⟩ := H
  replace H : (if t137.toList = ([97, 46, 101, 120, 97, 109, 112, 108, 101] : List UInt8) then (if t138 = true then (if t140 = true then (some false) else ((host_Ip.f k (⟨#[49, 46, 50, 46, 51, 46, 52]⟩ : ByteArray)).bind fun t144 => (if t144 = true then ((host_Ip.f k (⟨#[49, 46, 50, 46, 51, 46, 48, 52]⟩ : ByteArray)).bind fun t145 => (if t145 = true then (some false) else ((host_Match.f k (⟨#[97, 46, 98, 46, 99]⟩ : ByteArray) (⟨#[98, 46, 99]⟩ : ByteArray)).bind fun t146 => (if t146 = true then ((host_Match.f k (⟨#[97, 98, 46, 99]⟩ : ByteArray) (⟨#[98, 46, 99]⟩ : ByteArray)).bind fun t147 => (if t147 = true then (some false) else ((host_Match.f k (⟨#[49, 46, 50, 46, 51, 46, 52]⟩ : ByteArray) (⟨#[51, 46, 52]⟩ : ByteArray)).bind fun t148 => (if t148 = true then (some false) else (if (t141.length : Int) = 3 then (if 1 < (t141.length : Int) then (if (rdOf ByteArray.empty t141 1).toList = ([98, 46, 99] : List UInt8) then ((host_Parents.f k (⟨#[49, 46, 50, 46, 51, 46, 52]⟩ : ByteArray)).bind fun t150 => (some ((t150.length : Int) == 1))) else (some false)) else (none)) else (some false)))))) else (some false))))) else (some false)))) else (some false)) else (some false)) = some r := H
  have A3 := Aside0.mk A30
  clear A30
  by_cases c4 : t137.toList = ([97, 46, 101, 120, 97, 109, 112, 108, 101] : List UInt8)
  · rw [if_pos c4] at H
    have c4b0 : (t137.toList == ([97, 46, 101, 120, 97, 109, 112, 108, 101] : List UInt8)) = true := beq_iff_eq.mpr c4
    have c4b1 : (t137.toList != ([97, 46, 101, 120, 97, 109, 112, 108, 101] : List UInt8)) = false := bne_eq_false_iff_eq.mpr c4
    clear c4
    by_cases c5 : t138 = true
    · subst c5
      have H1 : (if t140 = true then (some false) else ((host_Ip.f k (⟨#[49, 46, 50, 46, 51, 46, 52]⟩ : ByteArray)).bind fun t144 => (if t144 = true then ((host_Ip.f k (⟨#[49, 46, 50, 46, 51, 46, 48, 52]⟩ : ByteArray)).bind fun t145 => (if t145 = true then (some false) else ((host_Match.f k (⟨#[97, 46, 98, 46, 99]⟩ : ByteArray) (⟨#[98, 46, 99]⟩ : ByteArray)).bind fun t146 => (if t146 = true then ((host_Match.f k (⟨#[97, 98, 46, 99]⟩ : ByteArray) (⟨#[98, 46, 99]⟩ : ByteArray)).bind fun t147 => (if t147 = true then (some false) else ((host_Match.f k (⟨#[49, 46, 50, 46, 51, 46, 52]⟩ : ByteArray) (⟨#[51, 46, 52]⟩ : ByteArray)).bind fun t148 => (if t148 = true then (some false) else (if (t141.length : Int) = 3 then (if 1 < (t141.length : Int) then (if (rdOf ByteArray.empty t141 1).toList = ([98, 46, 99] : List UInt8) then ((host_Parents.f k (⟨#[49, 46, 50, 46, 51, 46, 52]⟩ : ByteArray)).bind fun t150 => (some ((t150.length : Int) == 1))) else (some false)) else (none)) else (some false)))))) else (some false))))) else (some false)))) = some r := by rw [if_pos rfl] at H; exact H
      clear H
      have H := H1
      clear H1
      by_cases c6 : t140 = true
      · subst c6
        have H1 : (some false) = some r := by rw [if_pos rfl] at H; exact H
        clear H
        have H := H1
        clear H1
        obtain rfl := Option.some.inj H
        go_enter Tryd.func12, Tryd.ntmps12
        go_wp2_with (first | ((with_reducible refine gate_callee (f := 9) rfl ?_); refine goesL_ (some 7) rfl rfl Tryd.func9 (by kernel_rfl) rfl #[.string (⟨#[65, 46, 69, 120, 97, 109, 112, 108, 101]⟩ : ByteArray)] rfl (by (try simp only [List.map_toArray, List.map_cons, List.map_nil]); first | done | rfl | (simp only [List.length_drop, List.length_take]; rfl) | ((try simp [Act.eval]) <;> (try simp only [xw_u64, xw_u32, xw_u8, wrap64, wrap32]) <;> omega)) ?_; (with_reducible refine (host_Canon.calls k (⟨#[65, 46, 69, 120, 97, 109, 112, 108, 101]⟩ : ByteArray) t137 true _ (Aside0.mk (by first | exact hG.out | ((with_reducible repeat (first | apply LaidG.drewN | apply LaidG.drew | apply LaidG.alloc)); exact hG.out) | exact LaidG.below hG.out (by repeat (first | (with_reducible first | exact HB.out | apply below_alloc | apply pw_below_drewN | apply below_drew1) | exact HB.out)))) A1.out).mono ?_); rintro e w7 ⟨rfl, hb⟩; refine ⟨_, rfl, ?_⟩; have n0_ := Aside0.mk (below_step (by repeat (first | (with_reducible first | exact HB.out | apply below_alloc | apply pw_below_drewN | apply below_drew1) | exact HB.out)) hb); clear HB; have HB := n0_; clear n0_; (try clear hb); (try clear hb2); (try clear hk); (try clear hi)) | ((with_reducible refine gate_callee (f := 9) rfl ?_); refine goesL_ (some 11) rfl rfl Tryd.func9 (by kernel_rfl) rfl #[.string (⟨#[97, 46, 46, 98]⟩ : ByteArray)] rfl (by (try simp only [List.map_toArray, List.map_cons, List.map_nil]); first | done | rfl | (simp only [List.length_drop, List.length_take]; rfl) | ((try simp [Act.eval]) <;> (try simp only [xw_u64, xw_u32, xw_u8, wrap64, wrap32]) <;> omega)) ?_; (with_reducible refine (host_Canon.calls k (⟨#[97, 46, 46, 98]⟩ : ByteArray) t139 true _ (Aside0.mk (by first | exact hG.out | ((with_reducible repeat (first | apply LaidG.drewN | apply LaidG.drew | apply LaidG.alloc)); exact hG.out) | exact LaidG.below hG.out (by repeat (first | (with_reducible first | exact HB.out | apply below_alloc | apply pw_below_drewN | apply below_drew1) | exact HB.out)))) A2.out).mono ?_); rintro e w8 ⟨rfl, hb⟩; refine ⟨_, rfl, ?_⟩; have n0_ := Aside0.mk (below_step (by repeat (first | (with_reducible first | exact HB.out | apply below_alloc | apply pw_below_drewN | apply below_drew1) | exact HB.out)) hb); clear HB; have HB := n0_; clear n0_; (try clear hb); (try clear hb2); (try clear hk); (try clear hi)) | ((with_reducible refine gate_callee (f := 17) rfl ?_); refine goesL_ (some 14) rfl rfl Tryd.func17 (by kernel_rfl) rfl #[.string (⟨#[97, 46, 98, 46, 99]⟩ : ByteArray)] rfl (by (try simp only [List.map_toArray, List.map_cons, List.map_nil]); first | done | rfl | (simp only [List.length_drop, List.length_take]; rfl) | ((try simp [Act.eval]) <;> (try simp only [xw_u64, xw_u32, xw_u8, wrap64, wrap32]) <;> omega)) ?_; (with_reducible refine (host_Parents.calls k (⟨#[97, 46, 98, 46, 99]⟩ : ByteArray) t141 _ (Aside0.mk (by first | exact hG.out | ((with_reducible repeat (first | apply LaidG.drewN | apply LaidG.drew | apply LaidG.alloc)); exact hG.out) | exact LaidG.below hG.out (by repeat (first | (with_reducible first | exact HB.out | apply below_alloc | apply pw_below_drewN | apply below_drew1) | exact HB.out)))) A3.out).mono ?_); rintro e w9 ⟨v142, rfl, ho0, hb⟩; refine ⟨_, rfl, ?_⟩; have n0_ := Aside0.mk (Kd.R_lower ho0 (below_size (by repeat (first | (with_reducible first | exact HB.out | apply below_alloc | apply pw_below_drewN | apply below_drew1) | exact HB.out)))); have n1_ := Aside0.mk (below_step (by repeat (first | (with_reducible first | exact HB.out | apply below_alloc | apply pw_below_drewN | apply below_drew1) | exact HB.out)) hb); clear HB; have HO143 := n0_; have HB := n1_; clear n0_ n1_; (try clear hb); (try clear hb2); (try clear hk); (try clear hi); (try clear ho0)))
        go_ret
        exact ⟨by first | rfl | (simp [errW_none, errW_some] <;> rfl) | (simp [*, errW_none, errW_some] <;> rfl), by repeat (first | (with_reducible first | exact HB.out | apply below_alloc | apply pw_below_drewN | apply below_drew1) | exact HB.out)⟩
      · replace c6 := Bool.eq_false_iff.mpr c6
        subst c6
        have H1 : ((host_Ip.f k (⟨#[49, 46, 50, 46, 51, 46, 52]⟩ : ByteArray)).bind fun t144 => (if t144 = true then ((host_Ip.f k (⟨#[49, 46, 50, 46, 51, 46, 48, 52]⟩ : ByteArray)).bind fun t145 => (if t145 = true then (some false) else ((host_Match.f k (⟨#[97, 46, 98, 46, 99]⟩ : ByteArray) (⟨#[98, 46, 99]⟩ : ByteArray)).bind fun t146 => (if t146 = true then ((host_Match.f k (⟨#[97, 98, 46, 99]⟩ : ByteArray) (⟨#[98, 46, 99]⟩ : ByteArray)).bind fun t147 => (if t147 = true then (some false) else ((host_Match.f k (⟨#[49, 46, 50, 46, 51, 46, 52]⟩ : ByteArray) (⟨#[51, 46, 52]⟩ : ByteArray)).bind fun t148 => (if t148 = true then (some false) else (if (t141.length : Int) = 3 then (if 1 < (t141.length : Int) then (if (rdOf ByteArray.empty t141 1).toList = ([98, 46, 99] : List UInt8) then ((host_Parents.f k (⟨#[49, 46, 50, 46, 51, 46, 52]⟩ : ByteArray)).bind fun t150 => (some ((t150.length : Int) == 1))) else (some false)) else (none)) else (some false)))))) else (some false))))) else (some false))) = some r := by rw [if_neg (show ¬ (false = true) by decide)] at H; exact H
        clear H
        have H := H1
        clear H1
        replace H := Option.bind_eq_some_iff.mp H
        obtain ⟨t144, A100, H⟩ := H
        replace H : (if t144 = true then ((host_Ip.f k (⟨#[49, 46, 50, 46, 51, 46, 48, 52]⟩ : ByteArray)).bind fun t145 => (if t145 = true then (some false) else ((host_Match.f k (⟨#[97, 46, 98, 46, 99]⟩ : ByteArray) (⟨#[98, 46, 99]⟩ : ByteArray)).bind fun t146 => (if t146 = true then ((host_Match.f k (⟨#[97, 98, 46, 99]⟩ : ByteArray) (⟨#[98, 46, 99]⟩ : ByteArray)).bind fun t147 => (if t147 = true then (some false) else ((host_Match.f k (⟨#[49, 46, 50, 46, 51, 46, 52]⟩ : ByteArray) (⟨#[51, 46, 52]⟩ : ByteArray)).bind fun t148 => (if t148 = true then (some false) else (if (t141.length : Int) = 3 then (if 1 < (t141.length : Int) then (if (rdOf ByteArray.empty t141 1).toList = ([98, 46, 99] : List UInt8) then ((host_Parents.f k (⟨#[49, 46, 50, 46, 51, 46, 52]⟩ : ByteArray)).bind fun t150 => (some ((t150.length : Int) == 1))) else (some false)) else (none)) else (some false)))))) else (some false))))) else (some false)) = some r := H
        have A10 := Aside0.mk A100
        clear A100
        by_cases c11 : t144 = true
        · subst c11
          have H1 : ((host_Ip.f k (⟨#[49, 46, 50, 46, 51, 46, 48, 52]⟩ : ByteArray)).bind fun t145 => (if t145 = true then (some false) else ((host_Match.f k (⟨#[97, 46, 98, 46, 99]⟩ : ByteArray) (⟨#[98, 46, 99]⟩ : ByteArray)).bind fun t146 => (if t146 = true then ((host_Match.f k (⟨#[97, 98, 46, 99]⟩ : ByteArray) (⟨#[98, 46, 99]⟩ : ByteArray)).bind fun t147 => (if t147 = true then (some false) else ((host_Match.f k (⟨#[49, 46, 50, 46, 51, 46, 52]⟩ : ByteArray) (⟨#[51, 46, 52]⟩ : ByteArray)).bind fun t148 => (if t148 = true then (some false) else (if (t141.length : Int) = 3 then (if 1 < (t141.length : Int) then (if (rdOf ByteArray.empty t141 1).toList = ([98, 46, 99] : List UInt8) then ((host_Parents.f k (⟨#[49, 46, 50, 46, 51, 46, 52]⟩ : ByteArray)).bind fun t150 => (some ((t150.length : Int) == 1))) else (some false)) else (none)) else (some false)))))) else (some false))))) = some r := by rw [if_pos rfl] at H; exact H
          clear H
          have H := H1
          clear H1
          replace H := Option.bind_eq_some_iff.mp H
          obtain ⟨t145, A120, H⟩ := H
          replace H : (if t145 = true then (some false) else ((host_Match.f k (⟨#[97, 46, 98, 46, 99]⟩ : ByteArray) (⟨#[98, 46, 99]⟩ : ByteArray)).bind fun t146 => (if t146 = true then ((host_Match.f k (⟨#[97, 98, 46, 99]⟩ : ByteArray) (⟨#[98, 46, 99]⟩ : ByteArray)).bind fun t147 => (if t147 = true then (some false) else ((host_Match.f k (⟨#[49, 46, 50, 46, 51, 46, 52]⟩ : ByteArray) (⟨#[51, 46, 52]⟩ : ByteArray)).bind fun t148 => (if t148 = true then (some false) else (if (t141.length : Int) = 3 then (if 1 < (t141.length : Int) then (if (rdOf ByteArray.empty t141 1).toList = ([98, 46, 99] : List UInt8) then ((host_Parents.f k (⟨#[49, 46, 50, 46, 51, 46, 52]⟩ : ByteArray)).bind fun t150 => (some ((t150.length : Int) == 1))) else (some false)) else (none)) else (some false)))))) else (some false)))) = some r := H
          have A12 := Aside0.mk A120
          clear A120
          by_cases c13 : t145 = true
          · subst c13
            have H1 : (some false) = some r := by rw [if_pos rfl] at H; exact H
            clear H
            have H := H1
            clear H1
            obtain rfl := Option.some.inj H
            go_enter Tryd.func12, Tryd.ntmps12
            go_wp2_with (first | ((with_reducible refine gate_callee (f := 9) rfl ?_); refine goesL_ (some 7) rfl rfl Tryd.func9 (by kernel_rfl) rfl #[.string (⟨#[65, 46, 69, 120, 97, 109, 112, 108, 101]⟩ : ByteArray)] rfl (by (try simp only [List.map_toArray, List.map_cons, List.map_nil]); first | done | rfl | (simp only [List.length_drop, List.length_take]; rfl) | ((try simp [Act.eval]) <;> (try simp only [xw_u64, xw_u32, xw_u8, wrap64, wrap32]) <;> omega)) ?_; (with_reducible refine (host_Canon.calls k (⟨#[65, 46, 69, 120, 97, 109, 112, 108, 101]⟩ : ByteArray) t137 true _ (Aside0.mk (by first | exact hG.out | ((with_reducible repeat (first | apply LaidG.drewN | apply LaidG.drew | apply LaidG.alloc)); exact hG.out) | exact LaidG.below hG.out (by repeat (first | (with_reducible first | exact HB.out | apply below_alloc | apply pw_below_drewN | apply below_drew1) | exact HB.out)))) A1.out).mono ?_); rintro e w14 ⟨rfl, hb⟩; refine ⟨_, rfl, ?_⟩; have n0_ := Aside0.mk (below_step (by repeat (first | (with_reducible first | exact HB.out | apply below_alloc | apply pw_below_drewN | apply below_drew1) | exact HB.out)) hb); clear HB; have HB := n0_; clear n0_; (try clear hb); (try clear hb2); (try clear hk); (try clear hi)) | ((with_reducible refine gate_callee (f := 9) rfl ?_); refine goesL_ (some 11) rfl rfl Tryd.func9 (by kernel_rfl) rfl #[.string (⟨#[97, 46, 46, 98]⟩ : ByteArray)] rfl (by (try simp only [List.map_toArray, List.map_cons, List.map_nil]); first | done | rfl | (simp only [List.length_drop, List.length_take]; rfl) | ((try simp [Act.eval]) <;> (try simp only [xw_u64, xw_u32, xw_u8, wrap64, wrap32]) <;> omega)) ?_; (with_reducible refine (host_Canon.calls k (⟨#[97, 46, 46, 98]⟩ : ByteArray) t139 false _ (Aside0.mk (by first | exact hG.out | ((with_reducible repeat (first | apply LaidG.drewN | apply LaidG.drew | apply LaidG.alloc)); exact hG.out) | exact LaidG.below hG.out (by repeat (first | (with_reducible first | exact HB.out | apply below_alloc | apply pw_below_drewN | apply below_drew1) | exact HB.out)))) A2.out).mono ?_); rintro e w15 ⟨rfl, hb⟩; refine ⟨_, rfl, ?_⟩; have n0_ := Aside0.mk (below_step (by repeat (first | (with_reducible first | exact HB.out | apply below_alloc | apply pw_below_drewN | apply below_drew1) | exact HB.out)) hb); clear HB; have HB := n0_; clear n0_; (try clear hb); (try clear hb2); (try clear hk); (try clear hi)) | ((with_reducible refine gate_callee (f := 17) rfl ?_); refine goesL_ (some 14) rfl rfl Tryd.func17 (by kernel_rfl) rfl #[.string (⟨#[97, 46, 98, 46, 99]⟩ : ByteArray)] rfl (by (try simp only [List.map_toArray, List.map_cons, List.map_nil]); first | done | rfl | (simp only [List.length_drop, List.length_take]; rfl) | ((try simp [Act.eval]) <;> (try simp only [xw_u64, xw_u32, xw_u8, wrap64, wrap32]) <;> omega)) ?_; (with_reducible refine (host_Parents.calls k (⟨#[97, 46, 98, 46, 99]⟩ : ByteArray) t141 _ (Aside0.mk (by first | exact hG.out | ((with_reducible repeat (first | apply LaidG.drewN | apply LaidG.drew | apply LaidG.alloc)); exact hG.out) | exact LaidG.below hG.out (by repeat (first | (with_reducible first | exact HB.out | apply below_alloc | apply pw_below_drewN | apply below_drew1) | exact HB.out)))) A3.out).mono ?_); rintro e w16 ⟨v142, rfl, ho0, hb⟩; refine ⟨_, rfl, ?_⟩; have n0_ := Aside0.mk (Kd.R_lower ho0 (below_size (by repeat (first | (with_reducible first | exact HB.out | apply below_alloc | apply pw_below_drewN | apply below_drew1) | exact HB.out)))); have n1_ := Aside0.mk (below_step (by repeat (first | (with_reducible first | exact HB.out | apply below_alloc | apply pw_below_drewN | apply below_drew1) | exact HB.out)) hb); clear HB; have HO143 := n0_; have HB := n1_; clear n0_ n1_; (try clear hb); (try clear hb2); (try clear hk); (try clear hi); (try clear ho0)) | (go_at_call 13; (with_reducible refine (host_Ip.calls k (⟨#[49, 46, 50, 46, 51, 46, 52]⟩ : ByteArray) true _ (Aside0.mk (by first | exact hG.out | ((with_reducible repeat (first | apply LaidG.drewN | apply LaidG.drew | apply LaidG.alloc)); exact hG.out) | exact LaidG.below hG.out (by repeat (first | (with_reducible first | exact HB.out | apply below_alloc | apply pw_below_drewN | apply below_drew1) | exact HB.out)))) A10.out).mono ?_); rintro e w17 ⟨rfl, hb⟩; have n0_ := Aside0.mk (Kd.R_below (by (with_reducible repeat (first | apply Kd.R_alloc | apply Kd.R_drewN | apply Kd.R_drew)); exact HO143.out) hb); have n1_ := Aside0.mk (below_step (by repeat (first | (with_reducible first | exact HB.out | apply below_alloc | apply pw_below_drewN | apply below_drew1) | exact HB.out)) hb); clear HO143; clear HB; have HO143 := n0_; have HB := n1_; clear n0_ n1_; (try clear hb); (try clear hb2); (try clear hk); (try clear hi)) | (go_at_call 13; (with_reducible refine (host_Ip.calls k (⟨#[49, 46, 50, 46, 51, 46, 48, 52]⟩ : ByteArray) true _ (Aside0.mk (by first | exact hG.out | ((with_reducible repeat (first | apply LaidG.drewN | apply LaidG.drew | apply LaidG.alloc)); exact hG.out) | exact LaidG.below hG.out (by repeat (first | (with_reducible first | exact HB.out | apply below_alloc | apply pw_below_drewN | apply below_drew1) | exact HB.out)))) A12.out).mono ?_); rintro e w18 ⟨rfl, hb⟩; have n0_ := Aside0.mk (Kd.R_below (by (with_reducible repeat (first | apply Kd.R_alloc | apply Kd.R_drewN | apply Kd.R_drew)); exact HO143.out) hb); have n1_ := Aside0.mk (below_step (by repeat (first | (with_reducible first | exact HB.out | apply below_alloc | apply pw_below_drewN | apply below_drew1) | exact HB.out)) hb); clear HO143; clear HB; have HO143 := n0_; have HB := n1_; clear n0_ n1_; (try clear hb); (try clear hb2); (try clear hk); (try clear hi)))
            go_ret
            exact ⟨by first | rfl | (simp [errW_none, errW_some] <;> rfl) | (simp [*, errW_none, errW_some] <;> rfl), by repeat (first | (with_reducible first | exact HB.out | apply below_alloc | apply pw_below_drewN | apply below_drew1) | exact HB.out)⟩
          · replace c13 := Bool.eq_false_iff.mpr c13
            subst c13
            have H1 : ((host_Match.f k (⟨#[97, 46, 98, 46, 99]⟩ : ByteArray) (⟨#[98, 46, 99]⟩ : ByteArray)).bind fun t146 => (if t146 = true then ((host_Match.f k (⟨#[97, 98, 46, 99]⟩ : ByteArray) (⟨#[98, 46, 99]⟩ : ByteArray)).bind fun t147 => (if t147 = true then (some false) else ((host_Match.f k (⟨#[49, 46, 50, 46, 51, 46, 52]⟩ : ByteArray) (⟨#[51, 46, 52]⟩ : ByteArray)).bind fun t148 => (if t148 = true then (some false) else (if (t141.length : Int) = 3 then (if 1 < (t141.length : Int) then (if (rdOf ByteArray.empty t141 1).toList = ([98, 46, 99] : List UInt8) then ((host_Parents.f k (⟨#[49, 46, 50, 46, 51, 46, 52]⟩ : ByteArray)).bind fun t150 => (some ((t150.length : Int) == 1))) else (some false)) else (none)) else (some false)))))) else (some false))) = some r := by rw [if_neg (show ¬ (false = true) by decide)] at H; exact H
            clear H
            have H := H1
            clear H1
            replace H := Option.bind_eq_some_iff.mp H
            obtain ⟨t146, A190, H⟩ := H
            replace H : (if t146 = true then ((host_Match.f k (⟨#[97, 98, 46, 99]⟩ : ByteArray) (⟨#[98, 46, 99]⟩ : ByteArray)).bind fun t147 => (if t147 = true then (some false) else ((host_Match.f k (⟨#[49, 46, 50, 46, 51, 46, 52]⟩ : ByteArray) (⟨#[51, 46, 52]⟩ : ByteArray)).bind fun t148 => (if t148 = true then (some false) else (if (t141.length : Int) = 3 then (if 1 < (t141.length : Int) then (if (rdOf ByteArray.empty t141 1).toList = ([98, 46, 99] : List UInt8) then ((host_Parents.f k (⟨#[49, 46, 50, 46, 51, 46, 52]⟩ : ByteArray)).bind fun t150 => (some ((t150.length : Int) == 1))) else (some false)) else (none)) else (some false)))))) else (some false)) = some r := H
            have A19 := Aside0.mk A190
            clear A190
            by_cases c20 : t146 = true
            · subst c20
              have H1 : ((host_Match.f k (⟨#[97, 98, 46, 99]⟩ : ByteArray) (⟨#[98, 46, 99]⟩ : ByteArray)).bind fun t147 => (if t147 = true then (some false) else ((host_Match.f k (⟨#[49, 46, 50, 46, 51, 46, 52]⟩ : ByteArray) (⟨#[51, 46, 52]⟩ : ByteArray)).bind fun t148 => (if t148 = true then (some false) else (if (t141.length : Int) = 3 then (if 1 < (t141.length : Int) then (if (rdOf ByteArray.empty t141 1).toList = ([98, 46, 99] : List UInt8) then ((host_Parents.f k (⟨#[49, 46, 50, 46, 51, 46, 52]⟩ : ByteArray)).bind fun t150 => (some ((t150.length : Int) == 1))) else (some false)) else (none)) else (some false)))))) = some r := by rw [if_pos rfl] at H; exact H
              clear H
              have H := H1
              clear H1
              replace H := Option.bind_eq_some_iff.mp H
              obtain ⟨t147, A210, H⟩ := H
              replace H : (if t147 = true then (some false) else ((host_Match.f k (⟨#[49, 46, 50, 46, 51, 46, 52]⟩ : ByteArray) (⟨#[51, 46, 52]⟩ : ByteArray)).bind fun t148 => (if t148 = true then (some false) else (if (t141.length : Int) = 3 then (if 1 < (t141.length : Int) then (if (rdOf ByteArray.empty t141 1).toList = ([98, 46, 99] : List UInt8) then ((host_Parents.f k (⟨#[49, 46, 50, 46, 51, 46, 52]⟩ : ByteArray)).bind fun t150 => (some ((t150.length : Int) == 1))) else (some false)) else (none)) else (some false))))) = some r := H
              have A21 := Aside0.mk A210
              clear A210
              by_cases c22 : t147 = true
              · subst c22
                have H1 : (some false) = some r := by rw [if_pos rfl] at H; exact H
                clear H
                have H := H1
                clear H1
                obtain rfl := Option.some.inj H
                go_enter Tryd.func12, Tryd.ntmps12
                go_wp2_with (first | ((with_reducible refine gate_callee (f := 9) rfl ?_); refine goesL_ (some 7) rfl rfl Tryd.func9 (by kernel_rfl) rfl #[.string (⟨#[65, 46, 69, 120, 97, 109, 112, 108, 101]⟩ : ByteArray)] rfl (by (try simp only [List.map_toArray, List.map_cons, List.map_nil]); first | done | rfl | (simp only [List.length_drop, List.length_take]; rfl) | ((try simp [Act.eval]) <;> (try simp only [xw_u64, xw_u32, xw_u8, wrap64, wrap32]) <;> omega)) ?_; (with_reducible refine (host_Canon.calls k (⟨#[65, 46, 69, 120, 97, 109, 112, 108, 101]⟩ : ByteArray) t137 true _ (Aside0.mk (by first | exact hG.out | ((with_reducible repeat (first | apply LaidG.drewN | apply LaidG.drew | apply LaidG.alloc)); exact hG.out) | exact LaidG.below hG.out (by repeat (first | (with_reducible first | exact HB.out | apply below_alloc | apply pw_below_drewN | apply below_drew1) | exact HB.out)))) A1.out).mono ?_); rintro e w23 ⟨rfl, hb⟩; refine ⟨_, rfl, ?_⟩; have n0_ := Aside0.mk (below_step (by repeat (first | (with_reducible first | exact HB.out | apply below_alloc | apply pw_below_drewN | apply below_drew1) | exact HB.out)) hb); clear HB; have HB := n0_; clear n0_; (try clear hb); (try clear hb2); (try clear hk); (try clear hi)) | ((with_reducible refine gate_callee (f := 9) rfl ?_); refine goesL_ (some 11) rfl rfl Tryd.func9 (by kernel_rfl) rfl #[.string (⟨#[97, 46, 46, 98]⟩ : ByteArray)] rfl (by (try simp only [List.map_toArray, List.map_cons, List.map_nil]); first | done | rfl | (simp only [List.length_drop, List.length_take]; rfl) | ((try simp [Act.eval]) <;> (try simp only [xw_u64, xw_u32, xw_u8, wrap64, wrap32]) <;> omega)) ?_; (with_reducible refine (host_Canon.calls k (⟨#[97, 46, 46, 98]⟩ : ByteArray) t139 false _ (Aside0.mk (by first | exact hG.out | ((with_reducible repeat (first | apply LaidG.drewN | apply LaidG.drew | apply LaidG.alloc)); exact hG.out) | exact LaidG.below hG.out (by repeat (first | (with_reducible first | exact HB.out | apply below_alloc | apply pw_below_drewN | apply below_drew1) | exact HB.out)))) A2.out).mono ?_); rintro e w24 ⟨rfl, hb⟩; refine ⟨_, rfl, ?_⟩; have n0_ := Aside0.mk (below_step (by repeat (first | (with_reducible first | exact HB.out | apply below_alloc | apply pw_below_drewN | apply below_drew1) | exact HB.out)) hb); clear HB; have HB := n0_; clear n0_; (try clear hb); (try clear hb2); (try clear hk); (try clear hi)) | ((with_reducible refine gate_callee (f := 17) rfl ?_); refine goesL_ (some 14) rfl rfl Tryd.func17 (by kernel_rfl) rfl #[.string (⟨#[97, 46, 98, 46, 99]⟩ : ByteArray)] rfl (by (try simp only [List.map_toArray, List.map_cons, List.map_nil]); first | done | rfl | (simp only [List.length_drop, List.length_take]; rfl) | ((try simp [Act.eval]) <;> (try simp only [xw_u64, xw_u32, xw_u8, wrap64, wrap32]) <;> omega)) ?_; (with_reducible refine (host_Parents.calls k (⟨#[97, 46, 98, 46, 99]⟩ : ByteArray) t141 _ (Aside0.mk (by first | exact hG.out | ((with_reducible repeat (first | apply LaidG.drewN | apply LaidG.drew | apply LaidG.alloc)); exact hG.out) | exact LaidG.below hG.out (by repeat (first | (with_reducible first | exact HB.out | apply below_alloc | apply pw_below_drewN | apply below_drew1) | exact HB.out)))) A3.out).mono ?_); rintro e w25 ⟨v142, rfl, ho0, hb⟩; refine ⟨_, rfl, ?_⟩; have n0_ := Aside0.mk (Kd.R_lower ho0 (below_size (by repeat (first | (with_reducible first | exact HB.out | apply below_alloc | apply pw_below_drewN | apply below_drew1) | exact HB.out)))); have n1_ := Aside0.mk (below_step (by repeat (first | (with_reducible first | exact HB.out | apply below_alloc | apply pw_below_drewN | apply below_drew1) | exact HB.out)) hb); clear HB; have HO143 := n0_; have HB := n1_; clear n0_ n1_; (try clear hb); (try clear hb2); (try clear hk); (try clear hi); (try clear ho0)) | (go_at_call 13; (with_reducible refine (host_Ip.calls k (⟨#[49, 46, 50, 46, 51, 46, 52]⟩ : ByteArray) true _ (Aside0.mk (by first | exact hG.out | ((with_reducible repeat (first | apply LaidG.drewN | apply LaidG.drew | apply LaidG.alloc)); exact hG.out) | exact LaidG.below hG.out (by repeat (first | (with_reducible first | exact HB.out | apply below_alloc | apply pw_below_drewN | apply below_drew1) | exact HB.out)))) A10.out).mono ?_); rintro e w26 ⟨rfl, hb⟩; have n0_ := Aside0.mk (Kd.R_below (by (with_reducible repeat (first | apply Kd.R_alloc | apply Kd.R_drewN | apply Kd.R_drew)); exact HO143.out) hb); have n1_ := Aside0.mk (below_step (by repeat (first | (with_reducible first | exact HB.out | apply below_alloc | apply pw_below_drewN | apply below_drew1) | exact HB.out)) hb); clear HO143; clear HB; have HO143 := n0_; have HB := n1_; clear n0_ n1_; (try clear hb); (try clear hb2); (try clear hk); (try clear hi)) | (go_at_call 13; (with_reducible refine (host_Ip.calls k (⟨#[49, 46, 50, 46, 51, 46, 48, 52]⟩ : ByteArray) false _ (Aside0.mk (by first | exact hG.out | ((with_reducible repeat (first | apply LaidG.drewN | apply LaidG.drew | apply LaidG.alloc)); exact hG.out) | exact LaidG.below hG.out (by repeat (first | (with_reducible first | exact HB.out | apply below_alloc | apply pw_below_drewN | apply below_drew1) | exact HB.out)))) A12.out).mono ?_); rintro e w27 ⟨rfl, hb⟩; have n0_ := Aside0.mk (Kd.R_below (by (with_reducible repeat (first | apply Kd.R_alloc | apply Kd.R_drewN | apply Kd.R_drew)); exact HO143.out) hb); have n1_ := Aside0.mk (below_step (by repeat (first | (with_reducible first | exact HB.out | apply below_alloc | apply pw_below_drewN | apply below_drew1) | exact HB.out)) hb); clear HO143; clear HB; have HO143 := n0_; have HB := n1_; clear n0_ n1_; (try clear hb); (try clear hb2); (try clear hk); (try clear hi)) | (go_at_call 15; (with_reducible refine (host_Match.calls k (⟨#[97, 46, 98, 46, 99]⟩ : ByteArray) (⟨#[98, 46, 99]⟩ : ByteArray) true _ (Aside0.mk (by first | exact hG.out | ((with_reducible repeat (first | apply LaidG.drewN | apply LaidG.drew | apply LaidG.alloc)); exact hG.out) | exact LaidG.below hG.out (by repeat (first | (with_reducible first | exact HB.out | apply below_alloc | apply pw_below_drewN | apply below_drew1) | exact HB.out)))) A19.out).mono ?_); rintro e w28 ⟨rfl, hb⟩; have n0_ := Aside0.mk (Kd.R_below (by (with_reducible repeat (first | apply Kd.R_alloc | apply Kd.R_drewN | apply Kd.R_drew)); exact HO143.out) hb); have n1_ := Aside0.mk (below_step (by repeat (first | (with_reducible first | exact HB.out | apply below_alloc | apply pw_below_drewN | apply below_drew1) | exact HB.out)) hb); clear HO143; clear HB; have HO143 := n0_; have HB := n1_; clear n0_ n1_; (try clear hb); (try clear hb2); (try clear hk); (try clear hi)) | (go_at_call 15; (with_reducible refine (host_Match.calls k (⟨#[97, 98, 46, 99]⟩ : ByteArray) (⟨#[98, 46, 99]⟩ : ByteArray) true _ (Aside0.mk (by first | exact hG.out | ((with_reducible repeat (first | apply LaidG.drewN | apply LaidG.drew | apply LaidG.alloc)); exact hG.out) | exact LaidG.below hG.out (by repeat (first | (with_reducible first | exact HB.out | apply below_alloc | apply pw_below_drewN | apply below_drew1) | exact HB.out)))) A21.out).mono ?_); rintro e w29 ⟨rfl, hb⟩; have n0_ := Aside0.mk (Kd.R_below (by (with_reducible repeat (first | apply Kd.R_alloc | apply Kd.R_drewN | apply Kd.R_drew)); exact HO143.out) hb); have n1_ := Aside0.mk (below_step (by repeat (first | (with_reducible first | exact HB.out | apply below_alloc | apply pw_below_drewN | apply below_drew1) | exact HB.out)) hb); clear HO143; clear HB; have HO143 := n0_; have HB := n1_; clear n0_ n1_; (try clear hb); (try clear hb2); (try clear hk); (try clear hi)))
                go_ret
                exact ⟨by first | rfl | (simp [errW_none, errW_some] <;> rfl) | (simp [*, errW_none, errW_some] <;> rfl), by repeat (first | (with_reducible first | exact HB.out | apply below_alloc | apply pw_below_drewN | apply below_drew1) | exact HB.out)⟩
              · replace c22 := Bool.eq_false_iff.mpr c22
                subst c22
                have H1 : ((host_Match.f k (⟨#[49, 46, 50, 46, 51, 46, 52]⟩ : ByteArray) (⟨#[51, 46, 52]⟩ : ByteArray)).bind fun t148 => (if t148 = true then (some false) else (if (t141.length : Int) = 3 then (if 1 < (t141.length : Int) then (if (rdOf ByteArray.empty t141 1).toList = ([98, 46, 99] : List UInt8) then ((host_Parents.f k (⟨#[49, 46, 50, 46, 51, 46, 52]⟩ : ByteArray)).bind fun t150 => (some ((t150.length : Int) == 1))) else (some false)) else (none)) else (some false)))) = some r := by rw [if_neg (show ¬ (false = true) by decide)] at H; exact H
                clear H
                have H := H1
                clear H1
                replace H := Option.bind_eq_some_iff.mp H
                obtain ⟨t148, A300, H⟩ := H
                replace H : (if t148 = true then (some false) else (if (t141.length : Int) = 3 then (if 1 < (t141.length : Int) then (if (rdOf ByteArray.empty t141 1).toList = ([98, 46, 99] : List UInt8) then ((host_Parents.f k (⟨#[49, 46, 50, 46, 51, 46, 52]⟩ : ByteArray)).bind fun t150 => (some ((t150.length : Int) == 1))) else (some false)) else (none)) else (some false))) = some r := H
                have A30 := Aside0.mk A300
                clear A300
                by_cases c31 : t148 = true
                · subst c31
                  have H1 : (some false) = some r := by rw [if_pos rfl] at H; exact H
                  clear H
                  have H := H1
                  clear H1
                  obtain rfl := Option.some.inj H
                  go_enter Tryd.func12, Tryd.ntmps12
                  go_wp2_with (first | ((with_reducible refine gate_callee (f := 9) rfl ?_); refine goesL_ (some 7) rfl rfl Tryd.func9 (by kernel_rfl) rfl #[.string (⟨#[65, 46, 69, 120, 97, 109, 112, 108, 101]⟩ : ByteArray)] rfl (by (try simp only [List.map_toArray, List.map_cons, List.map_nil]); first | done | rfl | (simp only [List.length_drop, List.length_take]; rfl) | ((try simp [Act.eval]) <;> (try simp only [xw_u64, xw_u32, xw_u8, wrap64, wrap32]) <;> omega)) ?_; (with_reducible refine (host_Canon.calls k (⟨#[65, 46, 69, 120, 97, 109, 112, 108, 101]⟩ : ByteArray) t137 true _ (Aside0.mk (by first | exact hG.out | ((with_reducible repeat (first | apply LaidG.drewN | apply LaidG.drew | apply LaidG.alloc)); exact hG.out) | exact LaidG.below hG.out (by repeat (first | (with_reducible first | exact HB.out | apply below_alloc | apply pw_below_drewN | apply below_drew1) | exact HB.out)))) A1.out).mono ?_); rintro e w32 ⟨rfl, hb⟩; refine ⟨_, rfl, ?_⟩; have n0_ := Aside0.mk (below_step (by repeat (first | (with_reducible first | exact HB.out | apply below_alloc | apply pw_below_drewN | apply below_drew1) | exact HB.out)) hb); clear HB; have HB := n0_; clear n0_; (try clear hb); (try clear hb2); (try clear hk); (try clear hi)) | ((with_reducible refine gate_callee (f := 9) rfl ?_); refine goesL_ (some 11) rfl rfl Tryd.func9 (by kernel_rfl) rfl #[.string (⟨#[97, 46, 46, 98]⟩ : ByteArray)] rfl (by (try simp only [List.map_toArray, List.map_cons, List.map_nil]); first | done | rfl | (simp only [List.length_drop, List.length_take]; rfl) | ((try simp [Act.eval]) <;> (try simp only [xw_u64, xw_u32, xw_u8, wrap64, wrap32]) <;> omega)) ?_; (with_reducible refine (host_Canon.calls k (⟨#[97, 46, 46, 98]⟩ : ByteArray) t139 false _ (Aside0.mk (by first | exact hG.out | ((with_reducible repeat (first | apply LaidG.drewN | apply LaidG.drew | apply LaidG.alloc)); exact hG.out) | exact LaidG.below hG.out (by repeat (first | (with_reducible first | exact HB.out | apply below_alloc | apply pw_below_drewN | apply below_drew1) | exact HB.out)))) A2.out).mono ?_); rintro e w33 ⟨rfl, hb⟩; refine ⟨_, rfl, ?_⟩; have n0_ := Aside0.mk (below_step (by repeat (first | (with_reducible first | exact HB.out | apply below_alloc | apply pw_below_drewN | apply below_drew1) | exact HB.out)) hb); clear HB; have HB := n0_; clear n0_; (try clear hb); (try clear hb2); (try clear hk); (try clear hi)) | ((with_reducible refine gate_callee (f := 17) rfl ?_); refine goesL_ (some 14) rfl rfl Tryd.func17 (by kernel_rfl) rfl #[.string (⟨#[97, 46, 98, 46, 99]⟩ : ByteArray)] rfl (by (try simp only [List.map_toArray, List.map_cons, List.map_nil]); first | done | rfl | (simp only [List.length_drop, List.length_take]; rfl) | ((try simp [Act.eval]) <;> (try simp only [xw_u64, xw_u32, xw_u8, wrap64, wrap32]) <;> omega)) ?_; (with_reducible refine (host_Parents.calls k (⟨#[97, 46, 98, 46, 99]⟩ : ByteArray) t141 _ (Aside0.mk (by first | exact hG.out | ((with_reducible repeat (first | apply LaidG.drewN | apply LaidG.drew | apply LaidG.alloc)); exact hG.out) | exact LaidG.below hG.out (by repeat (first | (with_reducible first | exact HB.out | apply below_alloc | apply pw_below_drewN | apply below_drew1) | exact HB.out)))) A3.out).mono ?_); rintro e w34 ⟨v142, rfl, ho0, hb⟩; refine ⟨_, rfl, ?_⟩; have n0_ := Aside0.mk (Kd.R_lower ho0 (below_size (by repeat (first | (with_reducible first | exact HB.out | apply below_alloc | apply pw_below_drewN | apply below_drew1) | exact HB.out)))); have n1_ := Aside0.mk (below_step (by repeat (first | (with_reducible first | exact HB.out | apply below_alloc | apply pw_below_drewN | apply below_drew1) | exact HB.out)) hb); clear HB; have HO143 := n0_; have HB := n1_; clear n0_ n1_; (try clear hb); (try clear hb2); (try clear hk); (try clear hi); (try clear ho0)) | (go_at_call 13; (with_reducible refine (host_Ip.calls k (⟨#[49, 46, 50, 46, 51, 46, 52]⟩ : ByteArray) true _ (Aside0.mk (by first | exact hG.out | ((with_reducible repeat (first | apply LaidG.drewN | apply LaidG.drew | apply LaidG.alloc)); exact hG.out) | exact LaidG.below hG.out (by repeat (first | (with_reducible first | exact HB.out | apply below_alloc | apply pw_below_drewN | apply below_drew1) | exact HB.out)))) A10.out).mono ?_); rintro e w35 ⟨rfl, hb⟩; have n0_ := Aside0.mk (Kd.R_below (by (with_reducible repeat (first | apply Kd.R_alloc | apply Kd.R_drewN | apply Kd.R_drew)); exact HO143.out) hb); have n1_ := Aside0.mk (below_step (by repeat (first | (with_reducible first | exact HB.out | apply below_alloc | apply pw_below_drewN | apply below_drew1) | exact HB.out)) hb); clear HO143; clear HB; have HO143 := n0_; have HB := n1_; clear n0_ n1_; (try clear hb); (try clear hb2); (try clear hk); (try clear hi)) | (go_at_call 13; (with_reducible refine (host_Ip.calls k (⟨#[49, 46, 50, 46, 51, 46, 48, 52]⟩ : ByteArray) false _ (Aside0.mk (by first | exact hG.out | ((with_reducible repeat (first | apply LaidG.drewN | apply LaidG.drew | apply LaidG.alloc)); exact hG.out) | exact LaidG.below hG.out (by repeat (first | (with_reducible first | exact HB.out | apply below_alloc | apply pw_below_drewN | apply below_drew1) | exact HB.out)))) A12.out).mono ?_); rintro e w36 ⟨rfl, hb⟩; have n0_ := Aside0.mk (Kd.R_below (by (with_reducible repeat (first | apply Kd.R_alloc | apply Kd.R_drewN | apply Kd.R_drew)); exact HO143.out) hb); have n1_ := Aside0.mk (below_step (by repeat (first | (with_reducible first | exact HB.out | apply below_alloc | apply pw_below_drewN | apply below_drew1) | exact HB.out)) hb); clear HO143; clear HB; have HO143 := n0_; have HB := n1_; clear n0_ n1_; (try clear hb); (try clear hb2); (try clear hk); (try clear hi)) | (go_at_call 15; (with_reducible refine (host_Match.calls k (⟨#[97, 46, 98, 46, 99]⟩ : ByteArray) (⟨#[98, 46, 99]⟩ : ByteArray) true _ (Aside0.mk (by first | exact hG.out | ((with_reducible repeat (first | apply LaidG.drewN | apply LaidG.drew | apply LaidG.alloc)); exact hG.out) | exact LaidG.below hG.out (by repeat (first | (with_reducible first | exact HB.out | apply below_alloc | apply pw_below_drewN | apply below_drew1) | exact HB.out)))) A19.out).mono ?_); rintro e w37 ⟨rfl, hb⟩; have n0_ := Aside0.mk (Kd.R_below (by (with_reducible repeat (first | apply Kd.R_alloc | apply Kd.R_drewN | apply Kd.R_drew)); exact HO143.out) hb); have n1_ := Aside0.mk (below_step (by repeat (first | (with_reducible first | exact HB.out | apply below_alloc | apply pw_below_drewN | apply below_drew1) | exact HB.out)) hb); clear HO143; clear HB; have HO143 := n0_; have HB := n1_; clear n0_ n1_; (try clear hb); (try clear hb2); (try clear hk); (try clear hi)) | (go_at_call 15; (with_reducible refine (host_Match.calls k (⟨#[97, 98, 46, 99]⟩ : ByteArray) (⟨#[98, 46, 99]⟩ : ByteArray) false _ (Aside0.mk (by first | exact hG.out | ((with_reducible repeat (first | apply LaidG.drewN | apply LaidG.drew | apply LaidG.alloc)); exact hG.out) | exact LaidG.below hG.out (by repeat (first | (with_reducible first | exact HB.out | apply below_alloc | apply pw_below_drewN | apply below_drew1) | exact HB.out)))) A21.out).mono ?_); rintro e w38 ⟨rfl, hb⟩; have n0_ := Aside0.mk (Kd.R_below (by (with_reducible repeat (first | apply Kd.R_alloc | apply Kd.R_drewN | apply Kd.R_drew)); exact HO143.out) hb); have n1_ := Aside0.mk (below_step (by repeat (first | (with_reducible first | exact HB.out | apply below_alloc | apply pw_below_drewN | apply below_drew1) | exact HB.out)) hb); clear HO143; clear HB; have HO143 := n0_; have HB := n1_; clear n0_ n1_; (try clear hb); (try clear hb2); (try clear hk); (try clear hi)) | (go_at_call 15; (with_reducible refine (host_Match.calls k (⟨#[49, 46, 50, 46, 51, 46, 52]⟩ : ByteArray) (⟨#[51, 46, 52]⟩ : ByteArray) true _ (Aside0.mk (by first | exact hG.out | ((with_reducible repeat (first | apply LaidG.drewN | apply LaidG.drew | apply LaidG.alloc)); exact hG.out) | exact LaidG.below hG.out (by repeat (first | (with_reducible first | exact HB.out | apply below_alloc | apply pw_below_drewN | apply below_drew1) | exact HB.out)))) A30.out).mono ?_); rintro e w39 ⟨rfl, hb⟩; have n0_ := Aside0.mk (Kd.R_below (by (with_reducible repeat (first | apply Kd.R_alloc | apply Kd.R_drewN | apply Kd.R_drew)); exact HO143.out) hb); have n1_ := Aside0.mk (below_step (by repeat (first | (with_reducible first | exact HB.out | apply below_alloc | apply pw_below_drewN | apply below_drew1) | exact HB.out)) hb); clear HO143; clear HB; have HO143 := n0_; have HB := n1_; clear n0_ n1_; (try clear hb); (try clear hb2); (try clear hk); (try clear hi)))
                  go_ret
                  exact ⟨by first | rfl | (simp [errW_none, errW_some] <;> rfl) | (simp [*, errW_none, errW_some] <;> rfl), by repeat (first | (with_reducible first | exact HB.out | apply below_alloc | apply pw_below_drewN | apply below_drew1) | exact HB.out)⟩
                · replace c31 := Bool.eq_false_iff.mpr c31
                  subst c31
                  have H1 : (if (t141.length : Int) = 3 then (if 1 < (t141.length : Int) then (if (rdOf ByteArray.empty t141 1).toList = ([98, 46, 99] : List UInt8) then ((host_Parents.f k (⟨#[49, 46, 50, 46, 51, 46, 52]⟩ : ByteArray)).bind fun t150 => (some ((t150.length : Int) == 1))) else (some false)) else (none)) else (some false)) = some r := by rw [if_neg (show ¬ (false = true) by decide)] at H; exact H
                  clear H
                  have H := H1
                  clear H1
                  by_cases c40 : (t141.length : Int) = 3
                  · rw [if_pos c40] at H
                    have c40b0 : ((t141.length : Int) == 3) = true := beq_iff_eq.mpr c40
                    have c40b1 : ((t141.length : Int) != 3) = false := bne_eq_false_iff_eq.mpr c40
                    clear c40
                    by_cases c41 : 1 < (t141.length : Int)
                    · rw [if_pos c41] at H
                      have c41b0 : decide (1 < (t141.length : Int)) = true := decide_eq_true c41
                      have c41b1 : decide (1 < t141.length) = true := decide_eq_true (by omega)
                      clear c41
                      by_cases c42 : (rdOf ByteArray.empty t141 1).toList = ([98, 46, 99] : List UInt8)
                      · rw [if_pos c42] at H
                        have c42b0 : ((rdOf ByteArray.empty t141 1).toList == ([98, 46, 99] : List UInt8)) = true := beq_iff_eq.mpr c42
                        have c42b1 : ((rdOf ByteArray.empty t141 1).toList != ([98, 46, 99] : List UInt8)) = false := bne_eq_false_iff_eq.mpr c42
                        clear c42
                        replace H := Option.bind_eq_some_iff.mp H
                        obtain ⟨t150, A430, H⟩ := H
                        replace H : (some ((t150.length : Int) == 1)) = some r := H
                        have A43 := Aside0.mk A430
                        clear A430
                        obtain rfl := Option.some.inj H
                        go_enter Tryd.func12, Tryd.ntmps12
                        go_wp2_with (first | ((with_reducible refine gate_callee (f := 9) rfl ?_); refine goesL_ (some 7) rfl rfl Tryd.func9 (by kernel_rfl) rfl #[.string (⟨#[65, 46, 69, 120, 97, 109, 112, 108, 101]⟩ : ByteArray)] rfl (by (try simp only [List.map_toArray, List.map_cons, List.map_nil]); first | done | rfl | (simp only [List.length_drop, List.length_take]; rfl) | ((try simp [Act.eval]) <;> (try simp only [xw_u64, xw_u32, xw_u8, wrap64, wrap32]) <;> omega)) ?_; (with_reducible refine (host_Canon.calls k (⟨#[65, 46, 69, 120, 97, 109, 112, 108, 101]⟩ : ByteArray) t137 true _ (Aside0.mk (by first | exact hG.out | ((with_reducible repeat (first | apply LaidG.drewN | apply LaidG.drew | apply LaidG.alloc)); exact hG.out) | exact LaidG.below hG.out (by repeat (first | (with_reducible first | exact HB.out | apply below_alloc | apply pw_below_drewN | apply below_drew1) | exact HB.out)))) A1.out).mono ?_); rintro e w44 ⟨rfl, hb⟩; refine ⟨_, rfl, ?_⟩; have n0_ := Aside0.mk (below_step (by repeat (first | (with_reducible first | exact HB.out | apply below_alloc | apply pw_below_drewN | apply below_drew1) | exact HB.out)) hb); clear HB; have HB := n0_; clear n0_; (try clear hb); (try clear hb2); (try clear hk); (try clear hi)) | ((with_reducible refine gate_callee (f := 9) rfl ?_); refine goesL_ (some 11) rfl rfl Tryd.func9 (by kernel_rfl) rfl #[.string (⟨#[97, 46, 46, 98]⟩ : ByteArray)] rfl (by (try simp only [List.map_toArray, List.map_cons, List.map_nil]); first | done | rfl | (simp only [List.length_drop, List.length_take]; rfl) | ((try simp [Act.eval]) <;> (try simp only [xw_u64, xw_u32, xw_u8, wrap64, wrap32]) <;> omega)) ?_; (with_reducible refine (host_Canon.calls k (⟨#[97, 46, 46, 98]⟩ : ByteArray) t139 false _ (Aside0.mk (by first | exact hG.out | ((with_reducible repeat (first | apply LaidG.drewN | apply LaidG.drew | apply LaidG.alloc)); exact hG.out) | exact LaidG.below hG.out (by repeat (first | (with_reducible first | exact HB.out | apply below_alloc | apply pw_below_drewN | apply below_drew1) | exact HB.out)))) A2.out).mono ?_); rintro e w45 ⟨rfl, hb⟩; refine ⟨_, rfl, ?_⟩; have n0_ := Aside0.mk (below_step (by repeat (first | (with_reducible first | exact HB.out | apply below_alloc | apply pw_below_drewN | apply below_drew1) | exact HB.out)) hb); clear HB; have HB := n0_; clear n0_; (try clear hb); (try clear hb2); (try clear hk); (try clear hi)) | ((with_reducible refine gate_callee (f := 17) rfl ?_); refine goesL_ (some 14) rfl rfl Tryd.func17 (by kernel_rfl) rfl #[.string (⟨#[97, 46, 98, 46, 99]⟩ : ByteArray)] rfl (by (try simp only [List.map_toArray, List.map_cons, List.map_nil]); first | done | rfl | (simp only [List.length_drop, List.length_take]; rfl) | ((try simp [Act.eval]) <;> (try simp only [xw_u64, xw_u32, xw_u8, wrap64, wrap32]) <;> omega)) ?_; (with_reducible refine (host_Parents.calls k (⟨#[97, 46, 98, 46, 99]⟩ : ByteArray) t141 _ (Aside0.mk (by first | exact hG.out | ((with_reducible repeat (first | apply LaidG.drewN | apply LaidG.drew | apply LaidG.alloc)); exact hG.out) | exact LaidG.below hG.out (by repeat (first | (with_reducible first | exact HB.out | apply below_alloc | apply pw_below_drewN | apply below_drew1) | exact HB.out)))) A3.out).mono ?_); rintro e w46 ⟨v142, rfl, ho0, hb⟩; refine ⟨_, rfl, ?_⟩; have n0_ := Aside0.mk (Kd.R_lower ho0 (below_size (by repeat (first | (with_reducible first | exact HB.out | apply below_alloc | apply pw_below_drewN | apply below_drew1) | exact HB.out)))); have n1_ := Aside0.mk (below_step (by repeat (first | (with_reducible first | exact HB.out | apply below_alloc | apply pw_below_drewN | apply below_drew1) | exact HB.out)) hb); clear HB; have HO143 := n0_; have HB := n1_; clear n0_ n1_; (try clear hb); (try clear hb2); (try clear hk); (try clear hi); (try clear ho0)) | (go_at_call 13; (with_reducible refine (host_Ip.calls k (⟨#[49, 46, 50, 46, 51, 46, 52]⟩ : ByteArray) true _ (Aside0.mk (by first | exact hG.out | ((with_reducible repeat (first | apply LaidG.drewN | apply LaidG.drew | apply LaidG.alloc)); exact hG.out) | exact LaidG.below hG.out (by repeat (first | (with_reducible first | exact HB.out | apply below_alloc | apply pw_below_drewN | apply below_drew1) | exact HB.out)))) A10.out).mono ?_); rintro e w47 ⟨rfl, hb⟩; have n0_ := Aside0.mk (Kd.R_below (by (with_reducible repeat (first | apply Kd.R_alloc | apply Kd.R_drewN | apply Kd.R_drew)); exact HO143.out) hb); have n1_ := Aside0.mk (below_step (by repeat (first | (with_reducible first | exact HB.out | apply below_alloc | apply pw_below_drewN | apply below_drew1) | exact HB.out)) hb); clear HO143; clear HB; have HO143 := n0_; have HB := n1_; clear n0_ n1_; (try clear hb); (try clear hb2); (try clear hk); (try clear hi)) | (go_at_call 13; (with_reducible refine (host_Ip.calls k (⟨#[49, 46, 50, 46, 51, 46, 48, 52]⟩ : ByteArray) false _ (Aside0.mk (by first | exact hG.out | ((with_reducible repeat (first | apply LaidG.drewN | apply LaidG.drew | apply LaidG.alloc)); exact hG.out) | exact LaidG.below hG.out (by repeat (first | (with_reducible first | exact HB.out | apply below_alloc | apply pw_below_drewN | apply below_drew1) | exact HB.out)))) A12.out).mono ?_); rintro e w48 ⟨rfl, hb⟩; have n0_ := Aside0.mk (Kd.R_below (by (with_reducible repeat (first | apply Kd.R_alloc | apply Kd.R_drewN | apply Kd.R_drew)); exact HO143.out) hb); have n1_ := Aside0.mk (below_step (by repeat (first | (with_reducible first | exact HB.out | apply below_alloc | apply pw_below_drewN | apply below_drew1) | exact HB.out)) hb); clear HO143; clear HB; have HO143 := n0_; have HB := n1_; clear n0_ n1_; (try clear hb); (try clear hb2); (try clear hk); (try clear hi)) | (go_at_call 15; (with_reducible refine (host_Match.calls k (⟨#[97, 46, 98, 46, 99]⟩ : ByteArray) (⟨#[98, 46, 99]⟩ : ByteArray) true _ (Aside0.mk (by first | exact hG.out | ((with_reducible repeat (first | apply LaidG.drewN | apply LaidG.drew | apply LaidG.alloc)); exact hG.out) | exact LaidG.below hG.out (by repeat (first | (with_reducible first | exact HB.out | apply below_alloc | apply pw_below_drewN | apply below_drew1) | exact HB.out)))) A19.out).mono ?_); rintro e w49 ⟨rfl, hb⟩; have n0_ := Aside0.mk (Kd.R_below (by (with_reducible repeat (first | apply Kd.R_alloc | apply Kd.R_drewN | apply Kd.R_drew)); exact HO143.out) hb); have n1_ := Aside0.mk (below_step (by repeat (first | (with_reducible first | exact HB.out | apply below_alloc | apply pw_below_drewN | apply below_drew1) | exact HB.out)) hb); clear HO143; clear HB; have HO143 := n0_; have HB := n1_; clear n0_ n1_; (try clear hb); (try clear hb2); (try clear hk); (try clear hi)) | (go_at_call 15; (with_reducible refine (host_Match.calls k (⟨#[97, 98, 46, 99]⟩ : ByteArray) (⟨#[98, 46, 99]⟩ : ByteArray) false _ (Aside0.mk (by first | exact hG.out | ((with_reducible repeat (first | apply LaidG.drewN | apply LaidG.drew | apply LaidG.alloc)); exact hG.out) | exact LaidG.below hG.out (by repeat (first | (with_reducible first | exact HB.out | apply below_alloc | apply pw_below_drewN | apply below_drew1) | exact HB.out)))) A21.out).mono ?_); rintro e w50 ⟨rfl, hb⟩; have n0_ := Aside0.mk (Kd.R_below (by (with_reducible repeat (first | apply Kd.R_alloc | apply Kd.R_drewN | apply Kd.R_drew)); exact HO143.out) hb); have n1_ := Aside0.mk (below_step (by repeat (first | (with_reducible first | exact HB.out | apply below_alloc | apply pw_below_drewN | apply below_drew1) | exact HB.out)) hb); clear HO143; clear HB; have HO143 := n0_; have HB := n1_; clear n0_ n1_; (try clear hb); (try clear hb2); (try clear hk); (try clear hi)) | (go_at_call 15; (with_reducible refine (host_Match.calls k (⟨#[49, 46, 50, 46, 51, 46, 52]⟩ : ByteArray) (⟨#[51, 46, 52]⟩ : ByteArray) false _ (Aside0.mk (by first | exact hG.out | ((with_reducible repeat (first | apply LaidG.drewN | apply LaidG.drew | apply LaidG.alloc)); exact hG.out) | exact LaidG.below hG.out (by repeat (first | (with_reducible first | exact HB.out | apply below_alloc | apply pw_below_drewN | apply below_drew1) | exact HB.out)))) A30.out).mono ?_); rintro e w51 ⟨rfl, hb⟩; have n0_ := Aside0.mk (Kd.R_below (by (with_reducible repeat (first | apply Kd.R_alloc | apply Kd.R_drewN | apply Kd.R_drew)); exact HO143.out) hb); have n1_ := Aside0.mk (below_step (by repeat (first | (with_reducible first | exact HB.out | apply below_alloc | apply pw_below_drewN | apply below_drew1) | exact HB.out)) hb); clear HO143; clear HB; have HO143 := n0_; have HB := n1_; clear n0_ n1_; (try clear hb); (try clear hb2); (try clear hk); (try clear hi); obtain ⟨Ao52, co52, eo52⟩ := Kd.R_slice HO143.out; subst eo52; have p149 : 0 ≤ (1 : Int) := (by omega); have q149 : 1 < (t141.length : Int) := of_decide_eq_true (by first | (with_reducible assumption) | assumption); obtain ⟨ad149, e149, hx149_0⟩ := Kd.at_string (Kd.R_reads' HO143.out).2.2 1 p149 q149; cases e149; (try simp only [show (1 : Int).toNat = 1 from rfl, Nat.reduceMul, Nat.reduceEqDiff, Go.Addr.add, ↓reduceIte] at hx149_0); have qi149 : (1 < t141.length) = True := eq_true (by omega); (try rw [show ((1 : Int)).toNat = 1 from rfl] at hx149_0); replace p149 := eq_true p149; replace q149 := eq_true q149) | (go_at_call 17; (with_reducible refine (host_Parents.calls k (⟨#[49, 46, 50, 46, 51, 46, 52]⟩ : ByteArray) t150 _ (Aside0.mk (by first | exact hG.out | ((with_reducible repeat (first | apply LaidG.drewN | apply LaidG.drew | apply LaidG.alloc)); exact hG.out) | exact LaidG.below hG.out (by repeat (first | (with_reducible first | exact HB.out | apply below_alloc | apply pw_below_drewN | apply below_drew1) | exact HB.out)))) A43.out).mono ?_); rintro e w53 ⟨v151, rfl, ho0, hb⟩; have n0_ := Aside0.mk (Kd.R_elder' (by (with_reducible repeat (first | apply Kd.R_alloc | apply Kd.R_drewN | apply Kd.R_drew)); exact HO143.out) (Kd.R_base ho0) hb); have n1_ := Aside0.mk (Kd.R_lower (Kd.R_new' ho0 (Kd.R_lt (by (with_reducible repeat (first | apply Kd.R_alloc | apply Kd.R_drewN | apply Kd.R_drew)); exact HO143.out))) (below_size (by repeat (first | (with_reducible first | exact HB.out | apply below_alloc | apply pw_below_drewN | apply below_drew1) | exact HB.out)))); have n2_ := Aside0.mk (below_step (by repeat (first | (with_reducible first | exact HB.out | apply below_alloc | apply pw_below_drewN | apply below_drew1) | exact HB.out)) hb); clear HO143; clear HB; have HO143 := n0_; have HO152 := n1_; have HB := n2_; clear n0_ n1_ n2_; (try clear hb); (try clear hb2); (try clear hk); (try clear hi); (try clear ho0); obtain ⟨Ao54, co54, eo54⟩ := Kd.R_slice HO152.out; subst eo54))
                        go_ret
                        exact ⟨by first | rfl | (simp [errW_none, errW_some] <;> rfl) | (simp [*, errW_none, errW_some] <;> rfl), by repeat (first | (with_reducible first | exact HB.out | apply below_alloc | apply pw_below_drewN | apply below_drew1) | exact HB.out)⟩
                      · rw [if_neg c42] at H
                        have c42b0 : ((rdOf ByteArray.empty t141 1).toList == ([98, 46, 99] : List UInt8)) = false := beq_eq_false_iff_ne.mpr c42
                        have c42b1 : ((rdOf ByteArray.empty t141 1).toList != ([98, 46, 99] : List UInt8)) = true := bne_iff_ne.mpr c42
                        obtain rfl := Option.some.inj H
                        go_enter Tryd.func12, Tryd.ntmps12
                        go_wp2_with (first | ((with_reducible refine gate_callee (f := 9) rfl ?_); refine goesL_ (some 7) rfl rfl Tryd.func9 (by kernel_rfl) rfl #[.string (⟨#[65, 46, 69, 120, 97, 109, 112, 108, 101]⟩ : ByteArray)] rfl (by (try simp only [List.map_toArray, List.map_cons, List.map_nil]); first | done | rfl | (simp only [List.length_drop, List.length_take]; rfl) | ((try simp [Act.eval]) <;> (try simp only [xw_u64, xw_u32, xw_u8, wrap64, wrap32]) <;> omega)) ?_; (with_reducible refine (host_Canon.calls k (⟨#[65, 46, 69, 120, 97, 109, 112, 108, 101]⟩ : ByteArray) t137 true _ (Aside0.mk (by first | exact hG.out | ((with_reducible repeat (first | apply LaidG.drewN | apply LaidG.drew | apply LaidG.alloc)); exact hG.out) | exact LaidG.below hG.out (by repeat (first | (with_reducible first | exact HB.out | apply below_alloc | apply pw_below_drewN | apply below_drew1) | exact HB.out)))) A1.out).mono ?_); rintro e w55 ⟨rfl, hb⟩; refine ⟨_, rfl, ?_⟩; have n0_ := Aside0.mk (below_step (by repeat (first | (with_reducible first | exact HB.out | apply below_alloc | apply pw_below_drewN | apply below_drew1) | exact HB.out)) hb); clear HB; have HB := n0_; clear n0_; (try clear hb); (try clear hb2); (try clear hk); (try clear hi)) | ((with_reducible refine gate_callee (f := 9) rfl ?_); refine goesL_ (some 11) rfl rfl Tryd.func9 (by kernel_rfl) rfl #[.string (⟨#[97, 46, 46, 98]⟩ : ByteArray)] rfl (by (try simp only [List.map_toArray, List.map_cons, List.map_nil]); first | done | rfl | (simp only [List.length_drop, List.length_take]; rfl) | ((try simp [Act.eval]) <;> (try simp only [xw_u64, xw_u32, xw_u8, wrap64, wrap32]) <;> omega)) ?_; (with_reducible refine (host_Canon.calls k (⟨#[97, 46, 46, 98]⟩ : ByteArray) t139 false _ (Aside0.mk (by first | exact hG.out | ((with_reducible repeat (first | apply LaidG.drewN | apply LaidG.drew | apply LaidG.alloc)); exact hG.out) | exact LaidG.below hG.out (by repeat (first | (with_reducible first | exact HB.out | apply below_alloc | apply pw_below_drewN | apply below_drew1) | exact HB.out)))) A2.out).mono ?_); rintro e w56 ⟨rfl, hb⟩; refine ⟨_, rfl, ?_⟩; have n0_ := Aside0.mk (below_step (by repeat (first | (with_reducible first | exact HB.out | apply below_alloc | apply pw_below_drewN | apply below_drew1) | exact HB.out)) hb); clear HB; have HB := n0_; clear n0_; (try clear hb); (try clear hb2); (try clear hk); (try clear hi)) | ((with_reducible refine gate_callee (f := 17) rfl ?_); refine goesL_ (some 14) rfl rfl Tryd.func17 (by kernel_rfl) rfl #[.string (⟨#[97, 46, 98, 46, 99]⟩ : ByteArray)] rfl (by (try simp only [List.map_toArray, List.map_cons, List.map_nil]); first | done | rfl | (simp only [List.length_drop, List.length_take]; rfl) | ((try simp [Act.eval]) <;> (try simp only [xw_u64, xw_u32, xw_u8, wrap64, wrap32]) <;> omega)) ?_; (with_reducible refine (host_Parents.calls k (⟨#[97, 46, 98, 46, 99]⟩ : ByteArray) t141 _ (Aside0.mk (by first | exact hG.out | ((with_reducible repeat (first | apply LaidG.drewN | apply LaidG.drew | apply LaidG.alloc)); exact hG.out) | exact LaidG.below hG.out (by repeat (first | (with_reducible first | exact HB.out | apply below_alloc | apply pw_below_drewN | apply below_drew1) | exact HB.out)))) A3.out).mono ?_); rintro e w57 ⟨v142, rfl, ho0, hb⟩; refine ⟨_, rfl, ?_⟩; have n0_ := Aside0.mk (Kd.R_lower ho0 (below_size (by repeat (first | (with_reducible first | exact HB.out | apply below_alloc | apply pw_below_drewN | apply below_drew1) | exact HB.out)))); have n1_ := Aside0.mk (below_step (by repeat (first | (with_reducible first | exact HB.out | apply below_alloc | apply pw_below_drewN | apply below_drew1) | exact HB.out)) hb); clear HB; have HO143 := n0_; have HB := n1_; clear n0_ n1_; (try clear hb); (try clear hb2); (try clear hk); (try clear hi); (try clear ho0)) | (go_at_call 13; (with_reducible refine (host_Ip.calls k (⟨#[49, 46, 50, 46, 51, 46, 52]⟩ : ByteArray) true _ (Aside0.mk (by first | exact hG.out | ((with_reducible repeat (first | apply LaidG.drewN | apply LaidG.drew | apply LaidG.alloc)); exact hG.out) | exact LaidG.below hG.out (by repeat (first | (with_reducible first | exact HB.out | apply below_alloc | apply pw_below_drewN | apply below_drew1) | exact HB.out)))) A10.out).mono ?_); rintro e w58 ⟨rfl, hb⟩; have n0_ := Aside0.mk (Kd.R_below (by (with_reducible repeat (first | apply Kd.R_alloc | apply Kd.R_drewN | apply Kd.R_drew)); exact HO143.out) hb); have n1_ := Aside0.mk (below_step (by repeat (first | (with_reducible first | exact HB.out | apply below_alloc | apply pw_below_drewN | apply below_drew1) | exact HB.out)) hb); clear HO143; clear HB; have HO143 := n0_; have HB := n1_; clear n0_ n1_; (try clear hb); (try clear hb2); (try clear hk); (try clear hi)) | (go_at_call 13; (with_reducible refine (host_Ip.calls k (⟨#[49, 46, 50, 46, 51, 46, 48, 52]⟩ : ByteArray) false _ (Aside0.mk (by first | exact hG.out | ((with_reducible repeat (first | apply LaidG.drewN | apply LaidG.drew | apply LaidG.alloc)); exact hG.out) | exact LaidG.below hG.out (by repeat (first | (with_reducible first | exact HB.out | apply below_alloc | apply pw_below_drewN | apply below_drew1) | exact HB.out)))) A12.out).mono ?_); rintro e w59 ⟨rfl, hb⟩; have n0_ := Aside0.mk (Kd.R_below (by (with_reducible repeat (first | apply Kd.R_alloc | apply Kd.R_drewN | apply Kd.R_drew)); exact HO143.out) hb); have n1_ := Aside0.mk (below_step (by repeat (first | (with_reducible first | exact HB.out | apply below_alloc | apply pw_below_drewN | apply below_drew1) | exact HB.out)) hb); clear HO143; clear HB; have HO143 := n0_; have HB := n1_; clear n0_ n1_; (try clear hb); (try clear hb2); (try clear hk); (try clear hi)) | (go_at_call 15; (with_reducible refine (host_Match.calls k (⟨#[97, 46, 98, 46, 99]⟩ : ByteArray) (⟨#[98, 46, 99]⟩ : ByteArray) true _ (Aside0.mk (by first | exact hG.out | ((with_reducible repeat (first | apply LaidG.drewN | apply LaidG.drew | apply LaidG.alloc)); exact hG.out) | exact LaidG.below hG.out (by repeat (first | (with_reducible first | exact HB.out | apply below_alloc | apply pw_below_drewN | apply below_drew1) | exact HB.out)))) A19.out).mono ?_); rintro e w60 ⟨rfl, hb⟩; have n0_ := Aside0.mk (Kd.R_below (by (with_reducible repeat (first | apply Kd.R_alloc | apply Kd.R_drewN | apply Kd.R_drew)); exact HO143.out) hb); have n1_ := Aside0.mk (below_step (by repeat (first | (with_reducible first | exact HB.out | apply below_alloc | apply pw_below_drewN | apply below_drew1) | exact HB.out)) hb); clear HO143; clear HB; have HO143 := n0_; have HB := n1_; clear n0_ n1_; (try clear hb); (try clear hb2); (try clear hk); (try clear hi)) | (go_at_call 15; (with_reducible refine (host_Match.calls k (⟨#[97, 98, 46, 99]⟩ : ByteArray) (⟨#[98, 46, 99]⟩ : ByteArray) false _ (Aside0.mk (by first | exact hG.out | ((with_reducible repeat (first | apply LaidG.drewN | apply LaidG.drew | apply LaidG.alloc)); exact hG.out) | exact LaidG.below hG.out (by repeat (first | (with_reducible first | exact HB.out | apply below_alloc | apply pw_below_drewN | apply below_drew1) | exact HB.out)))) A21.out).mono ?_); rintro e w61 ⟨rfl, hb⟩; have n0_ := Aside0.mk (Kd.R_below (by (with_reducible repeat (first | apply Kd.R_alloc | apply Kd.R_drewN | apply Kd.R_drew)); exact HO143.out) hb); have n1_ := Aside0.mk (below_step (by repeat (first | (with_reducible first | exact HB.out | apply below_alloc | apply pw_below_drewN | apply below_drew1) | exact HB.out)) hb); clear HO143; clear HB; have HO143 := n0_; have HB := n1_; clear n0_ n1_; (try clear hb); (try clear hb2); (try clear hk); (try clear hi)) | (go_at_call 15; (with_reducible refine (host_Match.calls k (⟨#[49, 46, 50, 46, 51, 46, 52]⟩ : ByteArray) (⟨#[51, 46, 52]⟩ : ByteArray) false _ (Aside0.mk (by first | exact hG.out | ((with_reducible repeat (first | apply LaidG.drewN | apply LaidG.drew | apply LaidG.alloc)); exact hG.out) | exact LaidG.below hG.out (by repeat (first | (with_reducible first | exact HB.out | apply below_alloc | apply pw_below_drewN | apply below_drew1) | exact HB.out)))) A30.out).mono ?_); rintro e w62 ⟨rfl, hb⟩; have n0_ := Aside0.mk (Kd.R_below (by (with_reducible repeat (first | apply Kd.R_alloc | apply Kd.R_drewN | apply Kd.R_drew)); exact HO143.out) hb); have n1_ := Aside0.mk (below_step (by repeat (first | (with_reducible first | exact HB.out | apply below_alloc | apply pw_below_drewN | apply below_drew1) | exact HB.out)) hb); clear HO143; clear HB; have HO143 := n0_; have HB := n1_; clear n0_ n1_; (try clear hb); (try clear hb2); (try clear hk); (try clear hi); obtain ⟨Ao63, co63, eo63⟩ := Kd.R_slice HO143.out; subst eo63; have p149 : 0 ≤ (1 : Int) := (by omega); have q149 : 1 < (t141.length : Int) := of_decide_eq_true (by first | (with_reducible assumption) | assumption); obtain ⟨ad149, e149, hx149_0⟩ := Kd.at_string (Kd.R_reads' HO143.out).2.2 1 p149 q149; cases e149; (try simp only [show (1 : Int).toNat = 1 from rfl, Nat.reduceMul, Nat.reduceEqDiff, Go.Addr.add, ↓reduceIte] at hx149_0); have qi149 : (1 < t141.length) = True := eq_true (by omega); (try rw [show ((1 : Int)).toNat = 1 from rfl] at hx149_0); replace p149 := eq_true p149; replace q149 := eq_true q149))
                        go_ret
                        exact ⟨by first | rfl | (simp [errW_none, errW_some] <;> rfl) | (simp [*, errW_none, errW_some] <;> rfl), by repeat (first | (with_reducible first | exact HB.out | apply below_alloc | apply pw_below_drewN | apply below_drew1) | exact HB.out)⟩
                    · rw [if_neg c41] at H
                      exact absurd H (by simp)
                  · rw [if_neg c40] at H
                    have c40b0 : ((t141.length : Int) == 3) = false := beq_eq_false_iff_ne.mpr c40
                    have c40b1 : ((t141.length : Int) != 3) = true := bne_iff_ne.mpr c40
                    obtain rfl := Option.some.inj H
                    go_enter Tryd.func12, Tryd.ntmps12
                    go_wp2_with (first | ((with_reducible refine gate_callee (f := 9) rfl ?_); refine goesL_ (some 7) rfl rfl Tryd.func9 (by kernel_rfl) rfl #[.string (⟨#[65, 46, 69, 120, 97, 109, 112, 108, 101]⟩ : ByteArray)] rfl (by (try simp only [List.map_toArray, List.map_cons, List.map_nil]); first | done | rfl | (simp only [List.length_drop, List.length_take]; rfl) | ((try simp [Act.eval]) <;> (try simp only [xw_u64, xw_u32, xw_u8, wrap64, wrap32]) <;> omega)) ?_; (with_reducible refine (host_Canon.calls k (⟨#[65, 46, 69, 120, 97, 109, 112, 108, 101]⟩ : ByteArray) t137 true _ (Aside0.mk (by first | exact hG.out | ((with_reducible repeat (first | apply LaidG.drewN | apply LaidG.drew | apply LaidG.alloc)); exact hG.out) | exact LaidG.below hG.out (by repeat (first | (with_reducible first | exact HB.out | apply below_alloc | apply pw_below_drewN | apply below_drew1) | exact HB.out)))) A1.out).mono ?_); rintro e w64 ⟨rfl, hb⟩; refine ⟨_, rfl, ?_⟩; have n0_ := Aside0.mk (below_step (by repeat (first | (with_reducible first | exact HB.out | apply below_alloc | apply pw_below_drewN | apply below_drew1) | exact HB.out)) hb); clear HB; have HB := n0_; clear n0_; (try clear hb); (try clear hb2); (try clear hk); (try clear hi)) | ((with_reducible refine gate_callee (f := 9) rfl ?_); refine goesL_ (some 11) rfl rfl Tryd.func9 (by kernel_rfl) rfl #[.string (⟨#[97, 46, 46, 98]⟩ : ByteArray)] rfl (by (try simp only [List.map_toArray, List.map_cons, List.map_nil]); first | done | rfl | (simp only [List.length_drop, List.length_take]; rfl) | ((try simp [Act.eval]) <;> (try simp only [xw_u64, xw_u32, xw_u8, wrap64, wrap32]) <;> omega)) ?_; (with_reducible refine (host_Canon.calls k (⟨#[97, 46, 46, 98]⟩ : ByteArray) t139 false _ (Aside0.mk (by first | exact hG.out | ((with_reducible repeat (first | apply LaidG.drewN | apply LaidG.drew | apply LaidG.alloc)); exact hG.out) | exact LaidG.below hG.out (by repeat (first | (with_reducible first | exact HB.out | apply below_alloc | apply pw_below_drewN | apply below_drew1) | exact HB.out)))) A2.out).mono ?_); rintro e w65 ⟨rfl, hb⟩; refine ⟨_, rfl, ?_⟩; have n0_ := Aside0.mk (below_step (by repeat (first | (with_reducible first | exact HB.out | apply below_alloc | apply pw_below_drewN | apply below_drew1) | exact HB.out)) hb); clear HB; have HB := n0_; clear n0_; (try clear hb); (try clear hb2); (try clear hk); (try clear hi)) | ((with_reducible refine gate_callee (f := 17) rfl ?_); refine goesL_ (some 14) rfl rfl Tryd.func17 (by kernel_rfl) rfl #[.string (⟨#[97, 46, 98, 46, 99]⟩ : ByteArray)] rfl (by (try simp only [List.map_toArray, List.map_cons, List.map_nil]); first | done | rfl | (simp only [List.length_drop, List.length_take]; rfl) | ((try simp [Act.eval]) <;> (try simp only [xw_u64, xw_u32, xw_u8, wrap64, wrap32]) <;> omega)) ?_; (with_reducible refine (host_Parents.calls k (⟨#[97, 46, 98, 46, 99]⟩ : ByteArray) t141 _ (Aside0.mk (by first | exact hG.out | ((with_reducible repeat (first | apply LaidG.drewN | apply LaidG.drew | apply LaidG.alloc)); exact hG.out) | exact LaidG.below hG.out (by repeat (first | (with_reducible first | exact HB.out | apply below_alloc | apply pw_below_drewN | apply below_drew1) | exact HB.out)))) A3.out).mono ?_); rintro e w66 ⟨v142, rfl, ho0, hb⟩; refine ⟨_, rfl, ?_⟩; have n0_ := Aside0.mk (Kd.R_lower ho0 (below_size (by repeat (first | (with_reducible first | exact HB.out | apply below_alloc | apply pw_below_drewN | apply below_drew1) | exact HB.out)))); have n1_ := Aside0.mk (below_step (by repeat (first | (with_reducible first | exact HB.out | apply below_alloc | apply pw_below_drewN | apply below_drew1) | exact HB.out)) hb); clear HB; have HO143 := n0_; have HB := n1_; clear n0_ n1_; (try clear hb); (try clear hb2); (try clear hk); (try clear hi); (try clear ho0)) | (go_at_call 13; (with_reducible refine (host_Ip.calls k (⟨#[49, 46, 50, 46, 51, 46, 52]⟩ : ByteArray) true _ (Aside0.mk (by first | exact hG.out | ((with_reducible repeat (first | apply LaidG.drewN | apply LaidG.drew | apply LaidG.alloc)); exact hG.out) | exact LaidG.below hG.out (by repeat (first | (with_reducible first | exact HB.out | apply below_alloc | apply pw_below_drewN | apply below_drew1) | exact HB.out)))) A10.out).mono ?_); rintro e w67 ⟨rfl, hb⟩; have n0_ := Aside0.mk (Kd.R_below (by (with_reducible repeat (first | apply Kd.R_alloc | apply Kd.R_drewN | apply Kd.R_drew)); exact HO143.out) hb); have n1_ := Aside0.mk (below_step (by repeat (first | (with_reducible first | exact HB.out | apply below_alloc | apply pw_below_drewN | apply below_drew1) | exact HB.out)) hb); clear HO143; clear HB; have HO143 := n0_; have HB := n1_; clear n0_ n1_; (try clear hb); (try clear hb2); (try clear hk); (try clear hi)) | (go_at_call 13; (with_reducible refine (host_Ip.calls k (⟨#[49, 46, 50, 46, 51, 46, 48, 52]⟩ : ByteArray) false _ (Aside0.mk (by first | exact hG.out | ((with_reducible repeat (first | apply LaidG.drewN | apply LaidG.drew | apply LaidG.alloc)); exact hG.out) | exact LaidG.below hG.out (by repeat (first | (with_reducible first | exact HB.out | apply below_alloc | apply pw_below_drewN | apply below_drew1) | exact HB.out)))) A12.out).mono ?_); rintro e w68 ⟨rfl, hb⟩; have n0_ := Aside0.mk (Kd.R_below (by (with_reducible repeat (first | apply Kd.R_alloc | apply Kd.R_drewN | apply Kd.R_drew)); exact HO143.out) hb); have n1_ := Aside0.mk (below_step (by repeat (first | (with_reducible first | exact HB.out | apply below_alloc | apply pw_below_drewN | apply below_drew1) | exact HB.out)) hb); clear HO143; clear HB; have HO143 := n0_; have HB := n1_; clear n0_ n1_; (try clear hb); (try clear hb2); (try clear hk); (try clear hi)) | (go_at_call 15; (with_reducible refine (host_Match.calls k (⟨#[97, 46, 98, 46, 99]⟩ : ByteArray) (⟨#[98, 46, 99]⟩ : ByteArray) true _ (Aside0.mk (by first | exact hG.out | ((with_reducible repeat (first | apply LaidG.drewN | apply LaidG.drew | apply LaidG.alloc)); exact hG.out) | exact LaidG.below hG.out (by repeat (first | (with_reducible first | exact HB.out | apply below_alloc | apply pw_below_drewN | apply below_drew1) | exact HB.out)))) A19.out).mono ?_); rintro e w69 ⟨rfl, hb⟩; have n0_ := Aside0.mk (Kd.R_below (by (with_reducible repeat (first | apply Kd.R_alloc | apply Kd.R_drewN | apply Kd.R_drew)); exact HO143.out) hb); have n1_ := Aside0.mk (below_step (by repeat (first | (with_reducible first | exact HB.out | apply below_alloc | apply pw_below_drewN | apply below_drew1) | exact HB.out)) hb); clear HO143; clear HB; have HO143 := n0_; have HB := n1_; clear n0_ n1_; (try clear hb); (try clear hb2); (try clear hk); (try clear hi)) | (go_at_call 15; (with_reducible refine (host_Match.calls k (⟨#[97, 98, 46, 99]⟩ : ByteArray) (⟨#[98, 46, 99]⟩ : ByteArray) false _ (Aside0.mk (by first | exact hG.out | ((with_reducible repeat (first | apply LaidG.drewN | apply LaidG.drew | apply LaidG.alloc)); exact hG.out) | exact LaidG.below hG.out (by repeat (first | (with_reducible first | exact HB.out | apply below_alloc | apply pw_below_drewN | apply below_drew1) | exact HB.out)))) A21.out).mono ?_); rintro e w70 ⟨rfl, hb⟩; have n0_ := Aside0.mk (Kd.R_below (by (with_reducible repeat (first | apply Kd.R_alloc | apply Kd.R_drewN | apply Kd.R_drew)); exact HO143.out) hb); have n1_ := Aside0.mk (below_step (by repeat (first | (with_reducible first | exact HB.out | apply below_alloc | apply pw_below_drewN | apply below_drew1) | exact HB.out)) hb); clear HO143; clear HB; have HO143 := n0_; have HB := n1_; clear n0_ n1_; (try clear hb); (try clear hb2); (try clear hk); (try clear hi)) | (go_at_call 15; (with_reducible refine (host_Match.calls k (⟨#[49, 46, 50, 46, 51, 46, 52]⟩ : ByteArray) (⟨#[51, 46, 52]⟩ : ByteArray) false _ (Aside0.mk (by first | exact hG.out | ((with_reducible repeat (first | apply LaidG.drewN | apply LaidG.drew | apply LaidG.alloc)); exact hG.out) | exact LaidG.below hG.out (by repeat (first | (with_reducible first | exact HB.out | apply below_alloc | apply pw_below_drewN | apply below_drew1) | exact HB.out)))) A30.out).mono ?_); rintro e w71 ⟨rfl, hb⟩; have n0_ := Aside0.mk (Kd.R_below (by (with_reducible repeat (first | apply Kd.R_alloc | apply Kd.R_drewN | apply Kd.R_drew)); exact HO143.out) hb); have n1_ := Aside0.mk (below_step (by repeat (first | (with_reducible first | exact HB.out | apply below_alloc | apply pw_below_drewN | apply below_drew1) | exact HB.out)) hb); clear HO143; clear HB; have HO143 := n0_; have HB := n1_; clear n0_ n1_; (try clear hb); (try clear hb2); (try clear hk); (try clear hi); obtain ⟨Ao72, co72, eo72⟩ := Kd.R_slice HO143.out; subst eo72))
                    go_ret
                    exact ⟨by first | rfl | (simp [errW_none, errW_some] <;> rfl) | (simp [*, errW_none, errW_some] <;> rfl), by repeat (first | (with_reducible first | exact HB.out | apply below_alloc | apply pw_below_drewN | apply below_drew1) | exact HB.out)⟩
            · replace c20 := Bool.eq_false_iff.mpr c20
              subst c20
              have H1 : (some false) = some r := by rw [if_neg (show ¬ (false = true) by decide)] at H; exact H
              clear H
              have H := H1
              clear H1
              obtain rfl := Option.some.inj H
              go_enter Tryd.func12, Tryd.ntmps12
              go_wp2_with (first | ((with_reducible refine gate_callee (f := 9) rfl ?_); refine goesL_ (some 7) rfl rfl Tryd.func9 (by kernel_rfl) rfl #[.string (⟨#[65, 46, 69, 120, 97, 109, 112, 108, 101]⟩ : ByteArray)] rfl (by (try simp only [List.map_toArray, List.map_cons, List.map_nil]); first | done | rfl | (simp only [List.length_drop, List.length_take]; rfl) | ((try simp [Act.eval]) <;> (try simp only [xw_u64, xw_u32, xw_u8, wrap64, wrap32]) <;> omega)) ?_; (with_reducible refine (host_Canon.calls k (⟨#[65, 46, 69, 120, 97, 109, 112, 108, 101]⟩ : ByteArray) t137 true _ (Aside0.mk (by first | exact hG.out | ((with_reducible repeat (first | apply LaidG.drewN | apply LaidG.drew | apply LaidG.alloc)); exact hG.out) | exact LaidG.below hG.out (by repeat (first | (with_reducible first | exact HB.out | apply below_alloc | apply pw_below_drewN | apply below_drew1) | exact HB.out)))) A1.out).mono ?_); rintro e w73 ⟨rfl, hb⟩; refine ⟨_, rfl, ?_⟩; have n0_ := Aside0.mk (below_step (by repeat (first | (with_reducible first | exact HB.out | apply below_alloc | apply pw_below_drewN | apply below_drew1) | exact HB.out)) hb); clear HB; have HB := n0_; clear n0_; (try clear hb); (try clear hb2); (try clear hk); (try clear hi)) | ((with_reducible refine gate_callee (f := 9) rfl ?_); refine goesL_ (some 11) rfl rfl Tryd.func9 (by kernel_rfl) rfl #[.string (⟨#[97, 46, 46, 98]⟩ : ByteArray)] rfl (by (try simp only [List.map_toArray, List.map_cons, List.map_nil]); first | done | rfl | (simp only [List.length_drop, List.length_take]; rfl) | ((try simp [Act.eval]) <;> (try simp only [xw_u64, xw_u32, xw_u8, wrap64, wrap32]) <;> omega)) ?_; (with_reducible refine (host_Canon.calls k (⟨#[97, 46, 46, 98]⟩ : ByteArray) t139 false _ (Aside0.mk (by first | exact hG.out | ((with_reducible repeat (first | apply LaidG.drewN | apply LaidG.drew | apply LaidG.alloc)); exact hG.out) | exact LaidG.below hG.out (by repeat (first | (with_reducible first | exact HB.out | apply below_alloc | apply pw_below_drewN | apply below_drew1) | exact HB.out)))) A2.out).mono ?_); rintro e w74 ⟨rfl, hb⟩; refine ⟨_, rfl, ?_⟩; have n0_ := Aside0.mk (below_step (by repeat (first | (with_reducible first | exact HB.out | apply below_alloc | apply pw_below_drewN | apply below_drew1) | exact HB.out)) hb); clear HB; have HB := n0_; clear n0_; (try clear hb); (try clear hb2); (try clear hk); (try clear hi)) | ((with_reducible refine gate_callee (f := 17) rfl ?_); refine goesL_ (some 14) rfl rfl Tryd.func17 (by kernel_rfl) rfl #[.string (⟨#[97, 46, 98, 46, 99]⟩ : ByteArray)] rfl (by (try simp only [List.map_toArray, List.map_cons, List.map_nil]); first | done | rfl | (simp only [List.length_drop, List.length_take]; rfl) | ((try simp [Act.eval]) <;> (try simp only [xw_u64, xw_u32, xw_u8, wrap64, wrap32]) <;> omega)) ?_; (with_reducible refine (host_Parents.calls k (⟨#[97, 46, 98, 46, 99]⟩ : ByteArray) t141 _ (Aside0.mk (by first | exact hG.out | ((with_reducible repeat (first | apply LaidG.drewN | apply LaidG.drew | apply LaidG.alloc)); exact hG.out) | exact LaidG.below hG.out (by repeat (first | (with_reducible first | exact HB.out | apply below_alloc | apply pw_below_drewN | apply below_drew1) | exact HB.out)))) A3.out).mono ?_); rintro e w75 ⟨v142, rfl, ho0, hb⟩; refine ⟨_, rfl, ?_⟩; have n0_ := Aside0.mk (Kd.R_lower ho0 (below_size (by repeat (first | (with_reducible first | exact HB.out | apply below_alloc | apply pw_below_drewN | apply below_drew1) | exact HB.out)))); have n1_ := Aside0.mk (below_step (by repeat (first | (with_reducible first | exact HB.out | apply below_alloc | apply pw_below_drewN | apply below_drew1) | exact HB.out)) hb); clear HB; have HO143 := n0_; have HB := n1_; clear n0_ n1_; (try clear hb); (try clear hb2); (try clear hk); (try clear hi); (try clear ho0)) | (go_at_call 13; (with_reducible refine (host_Ip.calls k (⟨#[49, 46, 50, 46, 51, 46, 52]⟩ : ByteArray) true _ (Aside0.mk (by first | exact hG.out | ((with_reducible repeat (first | apply LaidG.drewN | apply LaidG.drew | apply LaidG.alloc)); exact hG.out) | exact LaidG.below hG.out (by repeat (first | (with_reducible first | exact HB.out | apply below_alloc | apply pw_below_drewN | apply below_drew1) | exact HB.out)))) A10.out).mono ?_); rintro e w76 ⟨rfl, hb⟩; have n0_ := Aside0.mk (Kd.R_below (by (with_reducible repeat (first | apply Kd.R_alloc | apply Kd.R_drewN | apply Kd.R_drew)); exact HO143.out) hb); have n1_ := Aside0.mk (below_step (by repeat (first | (with_reducible first | exact HB.out | apply below_alloc | apply pw_below_drewN | apply below_drew1) | exact HB.out)) hb); clear HO143; clear HB; have HO143 := n0_; have HB := n1_; clear n0_ n1_; (try clear hb); (try clear hb2); (try clear hk); (try clear hi)) | (go_at_call 13; (with_reducible refine (host_Ip.calls k (⟨#[49, 46, 50, 46, 51, 46, 48, 52]⟩ : ByteArray) false _ (Aside0.mk (by first | exact hG.out | ((with_reducible repeat (first | apply LaidG.drewN | apply LaidG.drew | apply LaidG.alloc)); exact hG.out) | exact LaidG.below hG.out (by repeat (first | (with_reducible first | exact HB.out | apply below_alloc | apply pw_below_drewN | apply below_drew1) | exact HB.out)))) A12.out).mono ?_); rintro e w77 ⟨rfl, hb⟩; have n0_ := Aside0.mk (Kd.R_below (by (with_reducible repeat (first | apply Kd.R_alloc | apply Kd.R_drewN | apply Kd.R_drew)); exact HO143.out) hb); have n1_ := Aside0.mk (below_step (by repeat (first | (with_reducible first | exact HB.out | apply below_alloc | apply pw_below_drewN | apply below_drew1) | exact HB.out)) hb); clear HO143; clear HB; have HO143 := n0_; have HB := n1_; clear n0_ n1_; (try clear hb); (try clear hb2); (try clear hk); (try clear hi)) | (go_at_call 15; (with_reducible refine (host_Match.calls k (⟨#[97, 46, 98, 46, 99]⟩ : ByteArray) (⟨#[98, 46, 99]⟩ : ByteArray) false _ (Aside0.mk (by first | exact hG.out | ((with_reducible repeat (first | apply LaidG.drewN | apply LaidG.drew | apply LaidG.alloc)); exact hG.out) | exact LaidG.below hG.out (by repeat (first | (with_reducible first | exact HB.out | apply below_alloc | apply pw_below_drewN | apply below_drew1) | exact HB.out)))) A19.out).mono ?_); rintro e w78 ⟨rfl, hb⟩; have n0_ := Aside0.mk (Kd.R_below (by (with_reducible repeat (first | apply Kd.R_alloc | apply Kd.R_drewN | apply Kd.R_drew)); exact HO143.out) hb); have n1_ := Aside0.mk (below_step (by repeat (first | (with_reducible first | exact HB.out | apply below_alloc | apply pw_below_drewN | apply below_drew1) | exact HB.out)) hb); clear HO143; clear HB; have HO143 := n0_; have HB := n1_; clear n0_ n1_; (try clear hb); (try clear hb2); (try clear hk); (try clear hi)))
              go_ret
              exact ⟨by first | rfl | (simp [errW_none, errW_some] <;> rfl) | (simp [*, errW_none, errW_some] <;> rfl), by repeat (first | (with_reducible first | exact HB.out | apply below_alloc | apply pw_below_drewN | apply below_drew1) | exact HB.out)⟩
        · replace c11 := Bool.eq_false_iff.mpr c11
          subst c11
          have H1 : (some false) = some r := by rw [if_neg (show ¬ (false = true) by decide)] at H; exact H
          clear H
          have H := H1
          clear H1
          obtain rfl := Option.some.inj H
          go_enter Tryd.func12, Tryd.ntmps12
          go_wp2_with (first | ((with_reducible refine gate_callee (f := 9) rfl ?_); refine goesL_ (some 7) rfl rfl Tryd.func9 (by kernel_rfl) rfl #[.string (⟨#[65, 46, 69, 120, 97, 109, 112, 108, 101]⟩ : ByteArray)] rfl (by (try simp only [List.map_toArray, List.map_cons, List.map_nil]); first | done | rfl | (simp only [List.length_drop, List.length_take]; rfl) | ((try simp [Act.eval]) <;> (try simp only [xw_u64, xw_u32, xw_u8, wrap64, wrap32]) <;> omega)) ?_; (with_reducible refine (host_Canon.calls k (⟨#[65, 46, 69, 120, 97, 109, 112, 108, 101]⟩ : ByteArray) t137 true _ (Aside0.mk (by first | exact hG.out | ((with_reducible repeat (first | apply LaidG.drewN | apply LaidG.drew | apply LaidG.alloc)); exact hG.out) | exact LaidG.below hG.out (by repeat (first | (with_reducible first | exact HB.out | apply below_alloc | apply pw_below_drewN | apply below_drew1) | exact HB.out)))) A1.out).mono ?_); rintro e w79 ⟨rfl, hb⟩; refine ⟨_, rfl, ?_⟩; have n0_ := Aside0.mk (below_step (by repeat (first | (with_reducible first | exact HB.out | apply below_alloc | apply pw_below_drewN | apply below_drew1) | exact HB.out)) hb); clear HB; have HB := n0_; clear n0_; (try clear hb); (try clear hb2); (try clear hk); (try clear hi)) | ((with_reducible refine gate_callee (f := 9) rfl ?_); refine goesL_ (some 11) rfl rfl Tryd.func9 (by kernel_rfl) rfl #[.string (⟨#[97, 46, 46, 98]⟩ : ByteArray)] rfl (by (try simp only [List.map_toArray, List.map_cons, List.map_nil]); first | done | rfl | (simp only [List.length_drop, List.length_take]; rfl) | ((try simp [Act.eval]) <;> (try simp only [xw_u64, xw_u32, xw_u8, wrap64, wrap32]) <;> omega)) ?_; (with_reducible refine (host_Canon.calls k (⟨#[97, 46, 46, 98]⟩ : ByteArray) t139 false _ (Aside0.mk (by first | exact hG.out | ((with_reducible repeat (first | apply LaidG.drewN | apply LaidG.drew | apply LaidG.alloc)); exact hG.out) | exact LaidG.below hG.out (by repeat (first | (with_reducible first | exact HB.out | apply below_alloc | apply pw_below_drewN | apply below_drew1) | exact HB.out)))) A2.out).mono ?_); rintro e w80 ⟨rfl, hb⟩; refine ⟨_, rfl, ?_⟩; have n0_ := Aside0.mk (below_step (by repeat (first | (with_reducible first | exact HB.out | apply below_alloc | apply pw_below_drewN | apply below_drew1) | exact HB.out)) hb); clear HB; have HB := n0_; clear n0_; (try clear hb); (try clear hb2); (try clear hk); (try clear hi)) | ((with_reducible refine gate_callee (f := 17) rfl ?_); refine goesL_ (some 14) rfl rfl Tryd.func17 (by kernel_rfl) rfl #[.string (⟨#[97, 46, 98, 46, 99]⟩ : ByteArray)] rfl (by (try simp only [List.map_toArray, List.map_cons, List.map_nil]); first | done | rfl | (simp only [List.length_drop, List.length_take]; rfl) | ((try simp [Act.eval]) <;> (try simp only [xw_u64, xw_u32, xw_u8, wrap64, wrap32]) <;> omega)) ?_; (with_reducible refine (host_Parents.calls k (⟨#[97, 46, 98, 46, 99]⟩ : ByteArray) t141 _ (Aside0.mk (by first | exact hG.out | ((with_reducible repeat (first | apply LaidG.drewN | apply LaidG.drew | apply LaidG.alloc)); exact hG.out) | exact LaidG.below hG.out (by repeat (first | (with_reducible first | exact HB.out | apply below_alloc | apply pw_below_drewN | apply below_drew1) | exact HB.out)))) A3.out).mono ?_); rintro e w81 ⟨v142, rfl, ho0, hb⟩; refine ⟨_, rfl, ?_⟩; have n0_ := Aside0.mk (Kd.R_lower ho0 (below_size (by repeat (first | (with_reducible first | exact HB.out | apply below_alloc | apply pw_below_drewN | apply below_drew1) | exact HB.out)))); have n1_ := Aside0.mk (below_step (by repeat (first | (with_reducible first | exact HB.out | apply below_alloc | apply pw_below_drewN | apply below_drew1) | exact HB.out)) hb); clear HB; have HO143 := n0_; have HB := n1_; clear n0_ n1_; (try clear hb); (try clear hb2); (try clear hk); (try clear hi); (try clear ho0)) | (go_at_call 13; (with_reducible refine (host_Ip.calls k (⟨#[49, 46, 50, 46, 51, 46, 52]⟩ : ByteArray) false _ (Aside0.mk (by first | exact hG.out | ((with_reducible repeat (first | apply LaidG.drewN | apply LaidG.drew | apply LaidG.alloc)); exact hG.out) | exact LaidG.below hG.out (by repeat (first | (with_reducible first | exact HB.out | apply below_alloc | apply pw_below_drewN | apply below_drew1) | exact HB.out)))) A10.out).mono ?_); rintro e w82 ⟨rfl, hb⟩; have n0_ := Aside0.mk (Kd.R_below (by (with_reducible repeat (first | apply Kd.R_alloc | apply Kd.R_drewN | apply Kd.R_drew)); exact HO143.out) hb); have n1_ := Aside0.mk (below_step (by repeat (first | (with_reducible first | exact HB.out | apply below_alloc | apply pw_below_drewN | apply below_drew1) | exact HB.out)) hb); clear HO143; clear HB; have HO143 := n0_; have HB := n1_; clear n0_ n1_; (try clear hb); (try clear hb2); (try clear hk); (try clear hi)))
          go_ret
          exact ⟨by first | rfl | (simp [errW_none, errW_some] <;> rfl) | (simp [*, errW_none, errW_some] <;> rfl), by repeat (first | (with_reducible first | exact HB.out | apply below_alloc | apply pw_below_drewN | apply below_drew1) | exact HB.out)⟩
    · replace c5 := Bool.eq_false_iff.mpr c5
      subst c5
      have H1 : (some false) = some r := by rw [if_neg (show ¬ (false = true) by decide)] at H; exact H
      clear H
      have H := H1
      clear H1
      obtain rfl := Option.some.inj H
      go_enter Tryd.func12, Tryd.ntmps12
      go_wp2_with (first | ((with_reducible refine gate_callee (f := 9) rfl ?_); refine goesL_ (some 7) rfl rfl Tryd.func9 (by kernel_rfl) rfl #[.string (⟨#[65, 46, 69, 120, 97, 109, 112, 108, 101]⟩ : ByteArray)] rfl (by (try simp only [List.map_toArray, List.map_cons, List.map_nil]); first | done | rfl | (simp only [List.length_drop, List.length_take]; rfl) | ((try simp [Act.eval]) <;> (try simp only [xw_u64, xw_u32, xw_u8, wrap64, wrap32]) <;> omega)) ?_; (with_reducible refine (host_Canon.calls k (⟨#[65, 46, 69, 120, 97, 109, 112, 108, 101]⟩ : ByteArray) t137 false _ (Aside0.mk (by first | exact hG.out | ((with_reducible repeat (first | apply LaidG.drewN | apply LaidG.drew | apply LaidG.alloc)); exact hG.out) | exact LaidG.below hG.out (by repeat (first | (with_reducible first | exact HB.out | apply below_alloc | apply pw_below_drewN | apply below_drew1) | exact HB.out)))) A1.out).mono ?_); rintro e w83 ⟨rfl, hb⟩; refine ⟨_, rfl, ?_⟩; have n0_ := Aside0.mk (below_step (by repeat (first | (with_reducible first | exact HB.out | apply below_alloc | apply pw_below_drewN | apply below_drew1) | exact HB.out)) hb); clear HB; have HB := n0_; clear n0_; (try clear hb); (try clear hb2); (try clear hk); (try clear hi)) | ((with_reducible refine gate_callee (f := 9) rfl ?_); refine goesL_ (some 11) rfl rfl Tryd.func9 (by kernel_rfl) rfl #[.string (⟨#[97, 46, 46, 98]⟩ : ByteArray)] rfl (by (try simp only [List.map_toArray, List.map_cons, List.map_nil]); first | done | rfl | (simp only [List.length_drop, List.length_take]; rfl) | ((try simp [Act.eval]) <;> (try simp only [xw_u64, xw_u32, xw_u8, wrap64, wrap32]) <;> omega)) ?_; (with_reducible refine (host_Canon.calls k (⟨#[97, 46, 46, 98]⟩ : ByteArray) t139 t140 _ (Aside0.mk (by first | exact hG.out | ((with_reducible repeat (first | apply LaidG.drewN | apply LaidG.drew | apply LaidG.alloc)); exact hG.out) | exact LaidG.below hG.out (by repeat (first | (with_reducible first | exact HB.out | apply below_alloc | apply pw_below_drewN | apply below_drew1) | exact HB.out)))) A2.out).mono ?_); rintro e w84 ⟨rfl, hb⟩; refine ⟨_, rfl, ?_⟩; have n0_ := Aside0.mk (below_step (by repeat (first | (with_reducible first | exact HB.out | apply below_alloc | apply pw_below_drewN | apply below_drew1) | exact HB.out)) hb); clear HB; have HB := n0_; clear n0_; (try clear hb); (try clear hb2); (try clear hk); (try clear hi)) | ((with_reducible refine gate_callee (f := 17) rfl ?_); refine goesL_ (some 14) rfl rfl Tryd.func17 (by kernel_rfl) rfl #[.string (⟨#[97, 46, 98, 46, 99]⟩ : ByteArray)] rfl (by (try simp only [List.map_toArray, List.map_cons, List.map_nil]); first | done | rfl | (simp only [List.length_drop, List.length_take]; rfl) | ((try simp [Act.eval]) <;> (try simp only [xw_u64, xw_u32, xw_u8, wrap64, wrap32]) <;> omega)) ?_; (with_reducible refine (host_Parents.calls k (⟨#[97, 46, 98, 46, 99]⟩ : ByteArray) t141 _ (Aside0.mk (by first | exact hG.out | ((with_reducible repeat (first | apply LaidG.drewN | apply LaidG.drew | apply LaidG.alloc)); exact hG.out) | exact LaidG.below hG.out (by repeat (first | (with_reducible first | exact HB.out | apply below_alloc | apply pw_below_drewN | apply below_drew1) | exact HB.out)))) A3.out).mono ?_); rintro e w85 ⟨v142, rfl, ho0, hb⟩; refine ⟨_, rfl, ?_⟩; have n0_ := Aside0.mk (Kd.R_lower ho0 (below_size (by repeat (first | (with_reducible first | exact HB.out | apply below_alloc | apply pw_below_drewN | apply below_drew1) | exact HB.out)))); have n1_ := Aside0.mk (below_step (by repeat (first | (with_reducible first | exact HB.out | apply below_alloc | apply pw_below_drewN | apply below_drew1) | exact HB.out)) hb); clear HB; have HO143 := n0_; have HB := n1_; clear n0_ n1_; (try clear hb); (try clear hb2); (try clear hk); (try clear hi); (try clear ho0)))
      go_ret
      exact ⟨by first | rfl | (simp [errW_none, errW_some] <;> rfl) | (simp [*, errW_none, errW_some] <;> rfl), by repeat (first | (with_reducible first | exact HB.out | apply below_alloc | apply pw_below_drewN | apply below_drew1) | exact HB.out)⟩
  · rw [if_neg c4] at H
    have c4b0 : (t137.toList == ([97, 46, 101, 120, 97, 109, 112, 108, 101] : List UInt8)) = false := beq_eq_false_iff_ne.mpr c4
    have c4b1 : (t137.toList != ([97, 46, 101, 120, 97, 109, 112, 108, 101] : List UInt8)) = true := bne_iff_ne.mpr c4
    obtain rfl := Option.some.inj H
    go_enter Tryd.func12, Tryd.ntmps12
    go_wp2_with (first | ((with_reducible refine gate_callee (f := 9) rfl ?_); refine goesL_ (some 7) rfl rfl Tryd.func9 (by kernel_rfl) rfl #[.string (⟨#[65, 46, 69, 120, 97, 109, 112, 108, 101]⟩ : ByteArray)] rfl (by (try simp only [List.map_toArray, List.map_cons, List.map_nil]); first | done | rfl | (simp only [List.length_drop, List.length_take]; rfl) | ((try simp [Act.eval]) <;> (try simp only [xw_u64, xw_u32, xw_u8, wrap64, wrap32]) <;> omega)) ?_; (with_reducible refine (host_Canon.calls k (⟨#[65, 46, 69, 120, 97, 109, 112, 108, 101]⟩ : ByteArray) t137 t138 _ (Aside0.mk (by first | exact hG.out | ((with_reducible repeat (first | apply LaidG.drewN | apply LaidG.drew | apply LaidG.alloc)); exact hG.out) | exact LaidG.below hG.out (by repeat (first | (with_reducible first | exact HB.out | apply below_alloc | apply pw_below_drewN | apply below_drew1) | exact HB.out)))) A1.out).mono ?_); rintro e w86 ⟨rfl, hb⟩; refine ⟨_, rfl, ?_⟩; have n0_ := Aside0.mk (below_step (by repeat (first | (with_reducible first | exact HB.out | apply below_alloc | apply pw_below_drewN | apply below_drew1) | exact HB.out)) hb); clear HB; have HB := n0_; clear n0_; (try clear hb); (try clear hb2); (try clear hk); (try clear hi)) | ((with_reducible refine gate_callee (f := 9) rfl ?_); refine goesL_ (some 11) rfl rfl Tryd.func9 (by kernel_rfl) rfl #[.string (⟨#[97, 46, 46, 98]⟩ : ByteArray)] rfl (by (try simp only [List.map_toArray, List.map_cons, List.map_nil]); first | done | rfl | (simp only [List.length_drop, List.length_take]; rfl) | ((try simp [Act.eval]) <;> (try simp only [xw_u64, xw_u32, xw_u8, wrap64, wrap32]) <;> omega)) ?_; (with_reducible refine (host_Canon.calls k (⟨#[97, 46, 46, 98]⟩ : ByteArray) t139 t140 _ (Aside0.mk (by first | exact hG.out | ((with_reducible repeat (first | apply LaidG.drewN | apply LaidG.drew | apply LaidG.alloc)); exact hG.out) | exact LaidG.below hG.out (by repeat (first | (with_reducible first | exact HB.out | apply below_alloc | apply pw_below_drewN | apply below_drew1) | exact HB.out)))) A2.out).mono ?_); rintro e w87 ⟨rfl, hb⟩; refine ⟨_, rfl, ?_⟩; have n0_ := Aside0.mk (below_step (by repeat (first | (with_reducible first | exact HB.out | apply below_alloc | apply pw_below_drewN | apply below_drew1) | exact HB.out)) hb); clear HB; have HB := n0_; clear n0_; (try clear hb); (try clear hb2); (try clear hk); (try clear hi)) | ((with_reducible refine gate_callee (f := 17) rfl ?_); refine goesL_ (some 14) rfl rfl Tryd.func17 (by kernel_rfl) rfl #[.string (⟨#[97, 46, 98, 46, 99]⟩ : ByteArray)] rfl (by (try simp only [List.map_toArray, List.map_cons, List.map_nil]); first | done | rfl | (simp only [List.length_drop, List.length_take]; rfl) | ((try simp [Act.eval]) <;> (try simp only [xw_u64, xw_u32, xw_u8, wrap64, wrap32]) <;> omega)) ?_; (with_reducible refine (host_Parents.calls k (⟨#[97, 46, 98, 46, 99]⟩ : ByteArray) t141 _ (Aside0.mk (by first | exact hG.out | ((with_reducible repeat (first | apply LaidG.drewN | apply LaidG.drew | apply LaidG.alloc)); exact hG.out) | exact LaidG.below hG.out (by repeat (first | (with_reducible first | exact HB.out | apply below_alloc | apply pw_below_drewN | apply below_drew1) | exact HB.out)))) A3.out).mono ?_); rintro e w88 ⟨v142, rfl, ho0, hb⟩; refine ⟨_, rfl, ?_⟩; have n0_ := Aside0.mk (Kd.R_lower ho0 (below_size (by repeat (first | (with_reducible first | exact HB.out | apply below_alloc | apply pw_below_drewN | apply below_drew1) | exact HB.out)))); have n1_ := Aside0.mk (below_step (by repeat (first | (with_reducible first | exact HB.out | apply below_alloc | apply pw_below_drewN | apply below_drew1) | exact HB.out)) hb); clear HB; have HO143 := n0_; have HB := n1_; clear n0_ n1_; (try clear hb); (try clear hb2); (try clear hk); (try clear hi); (try clear ho0)))
    go_ret
    exact ⟨by first | rfl | (simp [errW_none, errW_some] <;> rfl) | (simp [*, errW_none, errW_some] <;> rfl), by repeat (first | (with_reducible first | exact HB.out | apply below_alloc | apply pw_below_drewN | apply below_drew1) | exact HB.out)⟩

end Go.Proofs.YtcblmcehbjlmfaaDoor.Print
