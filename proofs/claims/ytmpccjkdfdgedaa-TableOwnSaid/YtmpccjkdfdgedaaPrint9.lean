/- Printed by a program of this claim's session (xprint.py): the machine's side: each Go function as a Lean function, and that a call of it comes to what that tells; the row of a statement. No condition. -/
import Derived.Test.YtmpccjkdfdgedaaPrint0
import Derived.Test.YtmpccjkdfdgedaaGkeys
import Derived.Test.YtmpccjkdfdgedaaGsame
import Derived.Test.YtmpccjkdfdgedaaGalive14
import Derived.Test.YtmpccjkdfdgedaaPrint1
import Derived.Test.YtmpccjkdfdgedaaPrint2
import Derived.Test.YtmpccjkdfdgedaaPrint4
namespace Go.Proofs.Ytmpccjkdfdgedaa.Print
open Go.RowKit Go.Proofs.YtmpccjkdfdgedaaW.PrintWords Go.Proofs.YtmpccjkdfdgedaaW.PrintLast Go.Proofs.YtmpccjkdfdgedaaW.PrintMore
attribute [local go_sem] max2_int min2_int max_two min_two max_three min_three max_four min_four   -- for this text's walks alone
set_option linter.unusedVariables false
set_option linter.unusedSimpArgs false

/-! ### cracknellaw14_TableOwn: function 5 -/
mutual
def cracknellaw14_TableOwn.j0 : Nat → List (S43) → List (S43) → Bool → Option (Bool)
  | 0, _, _, _ => none
  | k + 1, x0, x1, x21 => if x21 = true then ((law14_alive.f).bind fun t378 => (some t378)) else ((cracknellaw14_made.f k x0).bind fun t379 => ((cracknellaw14_model.f k x0).bind fun t382 => (cracknellaw14_TableOwn.l0 k t382 x1 (x1.length : Int) 0 t379)))
def cracknellaw14_TableOwn.l0 : Nat → List (S53) → List (S43) → Int → Int → List (S65) → Option (Bool)
  | 0, _, _, _, _, _ => none
  | k + 1, x6, x27, x28, x29, x386000 => if x29 < x28 then (if 0 ≤ x29 then (if x29 < (x27.length : Int) then ((cracknellaw14_Int_int_Put.f k x386000 ((rd_T43 x27 x29).f1) ((rd_T43 x27 x29).f2)).bind fun t388 => ((cracknellaw14_Int_int_Drop.f k x386000 ((rd_T43 x27 x29).f1)).bind fun bt391 => ((cracknellaw14_Int_int_Put.f k x386000 ((rd_T43 x27 x29).f1) ((rd_T43 x27 x29).f2)).bind fun t395 => ((cracknellaw14_Int_int_Put.f k t395 ((rd_T43 x27 x29).f1) (wrap64 (((rd_T43 x27 x29).f2) + 1))).bind fun t399 => ((cracknellaw14_Int_int_Get.f t395 ((rd_T43 x27 x29).f1)).bind fun bt402 => (if bt402.1 = ((rd_T43 x27 x29).f2) then (if bt402.2 = true then (cracknellaw14_TableOwn.l0 k x6 x27 x28 (wrap64 (x29 + 1)) x386000) else (some false)) else (some false))))))) else (none)) else (none)) else ((table_Keys_Int.f x386000).bind fun t404 => (cracknellaw14_TableOwn.l1 k x6 t404 (t404.length : Int) 0 x386000))
def cracknellaw14_TableOwn.l1 : Nat → List (S53) → List Int → Int → Int → List (S65) → Option (Bool)
  | 0, _, _, _, _, _ => none
  | k + 1, x6, x12, x75, x76, x386000 => if x76 < x75 then (if 0 ≤ x76 then (if x76 < (x12.length : Int) then (cracknellaw14_TableOwn.l1 k x6 (x12.set (x76 : Int).toNat (wrap64 (-(rd x12 x76)))) x75 (wrap64 (x76 + 1)) x386000) else (none)) else (none)) else ((law14_alive.f).bind fun t409 => (if t409 = true then ((law14_same.f x386000 x6).bind fun t410 => (some t410)) else (some false)))
end
def cracknellaw14_TableOwn.f (k : Nat) (l0 : List (S43)) (l1 : List (S43)) : Option (Bool) := if (l0.length : Int) > 60 then (cracknellaw14_TableOwn.j0 k l0 l1 true) else (cracknellaw14_TableOwn.j0 k l0 l1 (decide ((l1.length : Int) > 60)))
theorem cracknellaw14_TableOwn.mono_l : ∀ k, (∀ y0 y1 y2, LeO (cracknellaw14_TableOwn.j0 k y0 y1 y2) (cracknellaw14_TableOwn.j0 (k + 1) y0 y1 y2)) ∧ (∀ y0 y1 y2 y3 y4, LeO (cracknellaw14_TableOwn.l0 k y0 y1 y2 y3 y4) (cracknellaw14_TableOwn.l0 (k + 1) y0 y1 y2 y3 y4)) ∧ (∀ y0 y1 y2 y3 y4, LeO (cracknellaw14_TableOwn.l1 k y0 y1 y2 y3 y4) (cracknellaw14_TableOwn.l1 (k + 1) y0 y1 y2 y3 y4))
  | 0 => ⟨fun _ _ _ r h => by simp [cracknellaw14_TableOwn.j0] at h, fun _ _ _ _ _ r h => by simp [cracknellaw14_TableOwn.l0] at h, fun _ _ _ _ _ r h => by simp [cracknellaw14_TableOwn.l1] at h⟩
  | k + 1 => by
    obtain ⟨ih0, ih1, ih2⟩ := cracknellaw14_TableOwn.mono_l k
    refine ⟨?_, ?_, ?_⟩
    · intro y0 y1 y2
      unfold cracknellaw14_TableOwn.j0
      repeat' first
      | (with_reducible exact ih0 _ _ _)
      | (with_reducible exact ih1 _ _ _ _ _)
      | (with_reducible exact ih2 _ _ _ _ _)
      | (with_reducible exact cracknellaw14_Int_int_Drop.mono _ _ _)
      | (with_reducible exact cracknellaw14_Int_int_Put.mono _ _ _ _)
      | (with_reducible exact cracknellaw14_made.mono _ _)
      | (with_reducible exact cracknellaw14_model.mono _ _)
      | (with_reducible exact LeO.refl _)
      | (with_reducible exact LeO.none _)
      | (with_reducible refine LeO.ite ?_ ?_)
      | (with_reducible refine LeO.bind ?_ (fun _ => ?_))
      | exact ih0 _ _ _
      | exact ih1 _ _ _ _ _
      | exact ih2 _ _ _ _ _
      | exact cracknellaw14_Int_int_Drop.mono _ _ _
      | exact cracknellaw14_Int_int_Put.mono _ _ _ _
      | exact cracknellaw14_made.mono _ _
      | exact cracknellaw14_model.mono _ _
      | exact LeO.none _
      | refine LeO.ite ?_ ?_
      | refine LeO.bind ?_ (fun _ => ?_)
    · intro y0 y1 y2 y3 y4
      unfold cracknellaw14_TableOwn.l0
      repeat' first
      | (with_reducible exact ih0 _ _ _)
      | (with_reducible exact ih1 _ _ _ _ _)
      | (with_reducible exact ih2 _ _ _ _ _)
      | (with_reducible exact cracknellaw14_Int_int_Drop.mono _ _ _)
      | (with_reducible exact cracknellaw14_Int_int_Put.mono _ _ _ _)
      | (with_reducible exact cracknellaw14_made.mono _ _)
      | (with_reducible exact cracknellaw14_model.mono _ _)
      | (with_reducible exact LeO.refl _)
      | (with_reducible exact LeO.none _)
      | (with_reducible refine LeO.ite ?_ ?_)
      | (with_reducible refine LeO.bind ?_ (fun _ => ?_))
      | exact ih0 _ _ _
      | exact ih1 _ _ _ _ _
      | exact ih2 _ _ _ _ _
      | exact cracknellaw14_Int_int_Drop.mono _ _ _
      | exact cracknellaw14_Int_int_Put.mono _ _ _ _
      | exact cracknellaw14_made.mono _ _
      | exact cracknellaw14_model.mono _ _
      | exact LeO.none _
      | refine LeO.ite ?_ ?_
      | refine LeO.bind ?_ (fun _ => ?_)
    · intro y0 y1 y2 y3 y4
      unfold cracknellaw14_TableOwn.l1
      repeat' first
      | (with_reducible exact ih0 _ _ _)
      | (with_reducible exact ih1 _ _ _ _ _)
      | (with_reducible exact ih2 _ _ _ _ _)
      | (with_reducible exact cracknellaw14_Int_int_Drop.mono _ _ _)
      | (with_reducible exact cracknellaw14_Int_int_Put.mono _ _ _ _)
      | (with_reducible exact cracknellaw14_made.mono _ _)
      | (with_reducible exact cracknellaw14_model.mono _ _)
      | (with_reducible exact LeO.refl _)
      | (with_reducible exact LeO.none _)
      | (with_reducible refine LeO.ite ?_ ?_)
      | (with_reducible refine LeO.bind ?_ (fun _ => ?_))
      | exact ih0 _ _ _
      | exact ih1 _ _ _ _ _
      | exact ih2 _ _ _ _ _
      | exact cracknellaw14_Int_int_Drop.mono _ _ _
      | exact cracknellaw14_Int_int_Put.mono _ _ _ _
      | exact cracknellaw14_made.mono _ _
      | exact cracknellaw14_model.mono _ _
      | exact LeO.none _
      | refine LeO.ite ?_ ?_
      | refine LeO.bind ?_ (fun _ => ?_)
theorem cracknellaw14_TableOwn.mono : ∀ a0 a1 k, LeO (cracknellaw14_TableOwn.f k a0 a1) (cracknellaw14_TableOwn.f (k + 1) a0 a1) := by
  intro a0 a1 k
  obtain ⟨ih0, ih1, ih2⟩ := cracknellaw14_TableOwn.mono_l k
  unfold cracknellaw14_TableOwn.f
  repeat' first
      | (with_reducible exact ih0 _ _ _)
      | (with_reducible exact ih1 _ _ _ _ _)
      | (with_reducible exact ih2 _ _ _ _ _)
      | (with_reducible exact cracknellaw14_Int_int_Drop.mono _ _ _)
      | (with_reducible exact cracknellaw14_Int_int_Put.mono _ _ _ _)
      | (with_reducible exact cracknellaw14_made.mono _ _)
      | (with_reducible exact cracknellaw14_model.mono _ _)
      | (with_reducible exact LeO.refl _)
      | (with_reducible exact LeO.none _)
      | (with_reducible refine LeO.ite ?_ ?_)
      | (with_reducible refine LeO.bind ?_ (fun _ => ?_))
      | exact ih0 _ _ _
      | exact ih1 _ _ _ _ _
      | exact ih2 _ _ _ _ _
      | exact cracknellaw14_Int_int_Drop.mono _ _ _
      | exact cracknellaw14_Int_int_Put.mono _ _ _ _
      | exact cracknellaw14_made.mono _ _
      | exact cracknellaw14_model.mono _ _
      | exact LeO.none _
      | refine LeO.ite ?_ ?_
      | refine LeO.bind ?_ (fun _ => ?_)
set_option maxHeartbeats 8000000 in
set_option maxRecDepth 100000 in
theorem cracknellaw14_TableOwn.calls (k : Nat) (A0 : Option Addr) (c0 : Nat) (l0 : List (S43)) (A1 : Option Addr) (c1 : Nat) (l1 : List (S43)) (r : Bool) (w : World) (hr0 : Kd.C k43 w A0 l0.length l0) (hc0 : l0.length ≤ c0) (hr1 : Kd.C k43 w A1 l1.length l1) (hc1 : l1.length ≤ c1) (hT_ : Aside0 (r = true)) (h : cracknellaw14_TableOwn.f k l0 l1 = some r) :
    Calls Try.prog 5 #[.slice A0 l0.length c0, .slice A1 l1.length c1] w fun e w' => e = .returned (.bool r) ∧ Below w.heap.size w w' := by
  have hu27 := Try.underlying27
  have hu43 := Try.underlying43
  have HR0 := Aside0.mk hr0
  have HC0 := Aside0.mk hc0
  clear hr0 hc0
  have HR1 := Aside0.mk hr1
  have HC1 := Aside0.mk hc1
  clear hr1 hc1
  have HB := Aside0.mk (Below.refl w.heap.size w)
  have H : (if (l0.length : Int) > 60 then (cracknellaw14_TableOwn.j0 k l0 l1 true) else (cracknellaw14_TableOwn.j0 k l0 l1 (decide ((l1.length : Int) > 60)))) = some r := h
  clear h
  have HC3 := Aside0.mk H
  clear H
  go_enter Try.func5, Try.ntmps5
  go_upto_region 1 with (fail)
  go_cut [21] (fun v21 wc => ∃ (kq : Nat) (x21_2 : Bool), v21 = .bool x21_2 ∧ Aside0 (cracknellaw14_TableOwn.j0 kq l0 l1 x21_2 = some r) ∧ Aside0 (kq ≤ k) ∧ Aside0 (Below w.heap.size w wc))
  case first =>
    have H := HC3.out
    clear HC3
    by_cases c4 : (l0.length : Int) > 60
    · rw [if_pos c4] at H
      have c4b0 : decide (60 < (l0.length : Int)) = true := decide_eq_true c4
      (try simp only [hl12_3] at c4b0)
      have c4b1 : decide (60 < l0.length) = true := decide_eq_true (by omega)
      clear c4
      (first | rw [c4b0] | (simp only [i64_w, i32_w]; rw [c4b0]) | skip)
      have H' := Aside0.mk H
      clear H
      go_wp2
      go_meet
      case rel => exact ⟨_, (true), (by first | rfl | (simp; done) | (simp [*]; done)), H', ⟨by first | omega | exact Nat.le_refl _⟩, ⟨xb⟩⟩
    · rw [if_neg c4] at H
      have c4b0 : decide (60 < (l0.length : Int)) = false := decide_eq_false c4
      (try simp only [hl12_3] at c4b0)
      have c4b1 : decide (60 < l0.length) = false := decide_eq_false (by omega)
      clear c4
      (first | rw [c4b0] | (simp only [i64_w, i32_w]; rw [c4b0]) | skip)
      have H' := Aside0.mk H
      clear H
      go_wp2
      go_meet
      case rel => exact ⟨_, (decide ((l1.length : Int) > 60)), (by first | rfl | (simp; done) | (simp [*]; done)), H', ⟨by first | omega | exact Nat.le_refl _⟩, ⟨xb⟩⟩
  case rest =>
    clear HC3
    try clear c1
    try clear p2
    try clear c4
    try clear c4b0
    try clear c4b1
    obtain ⟨kq, x21_2, rfl, HA, HJ2, HB⟩ := hcut
    cases kq with
    | zero => exact absurd HA.out (by simp [cracknellaw14_TableOwn.j0])
    | succ kj2 =>
      have H := HA.out
      clear HA
      simp only [cracknellaw14_TableOwn.j0] at H
      by_cases c5 : x21_2 = true
      · subst c5
        have H1 : ((law14_alive.f).bind fun t378 => (some t378)) = some r := by rw [if_pos rfl] at H; exact H
        clear H
        have H := H1
        clear H1
        replace H := Option.bind_eq_some_iff.mp H
        obtain ⟨t378, A60, H⟩ := H
        replace H : (some t378) = some r := H
        have A6 := Aside0.mk A60
        clear A60
        obtain rfl := Option.some.inj H
        go_wp2_with (first | ((with_reducible refine gate_callee (f := 9) rfl ?_); refine goesL_ (some 22) rfl rfl Try.func9 (by kernel_rfl) rfl #[] rfl xg ?_; (with_reducible refine (law14_alive.calls  t378 _ A6.out).mono ?_); rintro e w7 ⟨rfl, hb⟩; refine ⟨_, rfl, ?_⟩; have n0_ := Aside0.mk (below_step xb hb); clear HB; have HB := n0_; clear n0_; (try clear hb); (try clear hb2); (try clear hk); (try clear hi)))
        go_ret
        exact ⟨by first | rfl | (simp [errW_none, errW_some] <;> rfl) | (simp [*, errW_none, errW_some] <;> rfl), by repeat (first | (with_reducible first | exact HB.out | apply below_alloc | apply pw_below_drewN | apply below_drew1) | exact HB.out)⟩
      · replace c5 := Bool.eq_false_iff.mpr c5
        subst c5
        have H1 : ((cracknellaw14_made.f kj2 l0).bind fun t379 => ((cracknellaw14_model.f kj2 l0).bind fun t382 => (cracknellaw14_TableOwn.l0 kj2 t382 l1 (l1.length : Int) 0 t379))) = some r := by rw [if_neg (show ¬ (false = true) by decide)] at H; exact H
        clear H
        have H := H1
        clear H1
        replace H := Option.bind_eq_some_iff.mp H
        obtain ⟨t379, A80, H⟩ := H
        replace H : ((cracknellaw14_model.f kj2 l0).bind fun t382 => (cracknellaw14_TableOwn.l0 kj2 t382 l1 (l1.length : Int) 0 t379)) = some r := H
        have A8 := Aside0.mk A80
        clear A80
        replace H := Option.bind_eq_some_iff.mp H
        obtain ⟨t382, A90, H⟩ := H
        replace H : (cracknellaw14_TableOwn.l0 kj2 t382 l1 (l1.length : Int) 0 t379) = some r := H
        have A9 := Aside0.mk A90
        clear A90
        have H' := Aside0.mk H
        clear H
        go_wp2_with (first | ((with_reducible refine gate_callee (f := 11) rfl ?_); refine goesL_ (some 24) rfl rfl Try.func11 (by kernel_rfl) rfl #[.slice A0 l0.length c0] rfl xg ?_; (with_reducible refine (cracknellaw14_made.calls kj2 _ _ l0 t379 _ ?side1 ?side2 A8.out).mono ?_); (case side1 => repeat (first | exact (Kd.C_below HR0.out HB.out) | (with_reducible refine Kd.C_alloc ?_ _) | (with_reducible refine Kd.C_drewN ?_ _) | (with_reducible refine Kd.C_drew ?_))); (case side2 => exact HC0.out); rintro e w10 ⟨v380, rfl, ho0, hb⟩; refine ⟨_, rfl, ?_⟩; have n0_ := Aside0.mk (Kd.V_lower (Kd.V_mono (ok' := fun k_ => True) ho0 (fun k_ hk_ => trivial)) (below_size xb)); have n1_ := Aside0.mk (below_step xb hb); clear HB; have HO381 := n0_; have HB := n1_; clear n0_ n1_; (try clear hb); (try clear hb2); (try clear hk); (try clear hi); (try clear ho0)) | ((with_reducible refine gate_callee (f := 12) rfl ?_); refine goesL_ (some 26) rfl rfl Try.func12 (by kernel_rfl) rfl #[.slice A0 l0.length c0] rfl xg ?_; (with_reducible refine (cracknellaw14_model.calls kj2 _ _ l0 t382 _ ?side1 ?side2 A9.out).mono ?_); (case side1 => repeat (first | exact (Kd.C_below HR0.out HB.out) | (with_reducible refine Kd.C_alloc ?_ _) | (with_reducible refine Kd.C_drewN ?_ _) | (with_reducible refine Kd.C_drew ?_))); (case side2 => exact HC0.out); rintro e w11 ⟨v383, rfl, ho0, hb⟩; refine ⟨_, rfl, ?_⟩; have n0_ := Aside0.mk (Kd.V_elder' (by (with_reducible repeat (first | apply Kd.V_alloc | apply Kd.V_drewN | apply Kd.V_drew)); exact HO381.out) (Kd.R_base ho0) hb); have n1_ := Aside0.mk (Kd.R_lower ho0 (below_size xb)); have n2_ := Aside0.mk (below_step xb hb); clear HO381; clear HB; have HO381 := n0_; have HO384 := n1_; have HB := n2_; clear n0_ n1_ n2_; (try clear hb); (try clear hb2); (try clear hk); (try clear hi); (try clear ho0)) | ((with_reducible refine gate_dst (N := 5) rfl ?_); (try (refine gate_guard (by rfl) ?_; dsimp only)); refine box_event ?hg (N := 5) ?hd (cs := #[.slice none 0 0]) (t := 27) ?hr ?_; (case hd => rfl); (case hg => rfl); (case hr => first | (go_simp; done) | (go_simp; rfl)); intro gb385 hg w12 hbox hb; have n0_ := Aside0.mk (Kd.V_below (Kd.V_elderB (by (with_reducible repeat (first | apply Kd.V_alloc | apply Kd.V_drewN | apply Kd.V_drew)); exact HO381.out) gb385 (Nat.le_of_eq hg.symm)) hb); have n1_ := Aside0.mk (Kd.R_below (by (with_reducible repeat (first | apply Kd.R_alloc | apply Kd.R_drewN | apply Kd.R_drew)); exact HO384.out) hb); have n2_ := Aside0.mk (below_step xb hb); have n3_ := Aside0.mk (hbox); have n4_ := Aside0.mk ((by rw [hg]; exact (below_size xb) : w.heap.size ≤ gb385)); have n5_ := Aside0.mk ((by rw [hg]; exact (below_size xb) : w.heap.size ≤ gb385)); clear HO381; clear HO384; clear HB; have HO381 := n0_; have HO384 := n1_; have HB := n2_; have BK385 := n3_; have GW385 := n4_; have GE385 := n5_; clear n0_ n1_ n2_ n3_ n4_ n5_; clear hb hbox hg; obtain ⟨Ao13, co13, eo13⟩ := Kd.V_slice HO381.out; subst eo13; have hcz14_0 : w12.cell? ⟨gb385, 0, none⟩ = some (.slice none 0 0) := (blk_cell BK385.out 0).trans rfl; have hfz14_0 := blk_frozen BK385.out 0))
        go_loopg [29] kj2 (fun kq v29 w' => ∃ (x29_2 : Int), v29 = .int .i64 x29_2 ∧ Aside0 (cracknellaw14_TableOwn.l0 kq t382 l1 (l1.length : Int) x29_2 t379 = some r) ∧ Aside0 (kq ≤ kj2) ∧ Aside0 (Kd.R k53 53 w' w.heap.size (fun _ => True) v383 t382) ∧ Aside0 (Kd.V k65 65 w' w.heap.size (fun k_ => some k_ ≠ (v383 : Value).ownBlock ∧ k_ ≠ gb385) (.slice Ao13 t379.length co13) t379) ∧ Aside0 (w'.heap[gb385]? = some (.cells #[(.slice Ao13 t379.length co13)] 27 (0, 0))) ∧ Aside0 (Below w.heap.size w w'))
        case atStart => exact ⟨(0), (by first | rfl | (simp; done) | (simp [*]; done)), H', ⟨Nat.le_refl _⟩, ⟨by (with_reducible repeat (first | apply Kd.R_alloc | apply Kd.R_drewN | apply Kd.R_drew)); exact Kd.R_mono (Kd.R_far (p := ⟨gb385, 0, none⟩) (Kd.R_types HO384.out BK385.out (by decide)) (fun _ hk => hk.2) (.slice Ao13 t379.length co13)) (fun _ hk => trivial)⟩, ⟨by (with_reducible repeat (first | apply Kd.V_alloc | apply Kd.V_drewN | apply Kd.V_drew)); exact Kd.V_mono (Kd.V_far (p := ⟨gb385, 0, none⟩) (Kd.V_mono HO381.out (fun k_ hk => (⟨hk, hk.2⟩ : _ ∧ k_ ≠ gb385))) (fun _ hk => hk.2) (.slice Ao13 t379.length co13)) (fun _ hk => ⟨hk.1.1.2, hk.1.2⟩)⟩, ⟨xk⟩, ⟨xb⟩⟩
        case round =>
          clear H'
          try clear c1
          try clear p2
          try clear p3
          try clear c4
          try clear c4b0
          try clear c4b1
          try clear c5
          try clear p6
          try clear c9
          try clear c11
          try clear c12
          try clear hcz14_0
          try clear hfz14_0
          try clear p2
          obtain ⟨x29_2, rfl, HA, HK2, HO_6, HO_386000, BK385, HB⟩ := hrel
          cases gk with
          | zero => exact absurd HA.out (by simp [cracknellaw14_TableOwn.l0])
          | succ k2 =>
            have H := HA.out
            clear HA
            simp only [cracknellaw14_TableOwn.l0] at H
            by_cases c15 : x29_2 < (l1.length : Int)
            · rw [if_pos c15] at H
              have c15b0 : decide (x29_2 < (l1.length : Int)) = true := decide_eq_true c15
              (try simp only [hl12_3] at c15b0)
              clear c15
              by_cases c16 : 0 ≤ x29_2
              · rw [if_pos c16] at H
                have c16b0 : decide (0 ≤ x29_2) = true := decide_eq_true c16
                clear c16
                by_cases c17 : x29_2 < (l1.length : Int)
                · rw [if_pos c17] at H
                  have c17b0 : decide (x29_2 < (l1.length : Int)) = true := decide_eq_true c17
                  (try simp only [hl12_3] at c17b0)
                  clear c17
                  replace H := Option.bind_eq_some_iff.mp H
                  obtain ⟨t388, A180, H⟩ := H
                  replace H : ((cracknellaw14_Int_int_Drop.f k2 t379 ((rd_T43 l1 x29_2).f1)).bind fun bt391 => ((cracknellaw14_Int_int_Put.f k2 t379 ((rd_T43 l1 x29_2).f1) ((rd_T43 l1 x29_2).f2)).bind fun t395 => ((cracknellaw14_Int_int_Put.f k2 t395 ((rd_T43 l1 x29_2).f1) (wrap64 (((rd_T43 l1 x29_2).f2) + 1))).bind fun t399 => ((cracknellaw14_Int_int_Get.f t395 ((rd_T43 l1 x29_2).f1)).bind fun bt402 => (if bt402.1 = ((rd_T43 l1 x29_2).f2) then (if bt402.2 = true then (cracknellaw14_TableOwn.l0 k2 t382 l1 (l1.length : Int) (wrap64 (x29_2 + 1)) t379) else (some false)) else (some false)))))) = some r := H
                  have A18 := Aside0.mk A180
                  clear A180
                  replace H := Option.bind_eq_some_iff.mp H
                  obtain ⟨⟨t391, t394⟩, A190, H⟩ := H
                  replace H : ((cracknellaw14_Int_int_Put.f k2 t379 ((rd_T43 l1 x29_2).f1) ((rd_T43 l1 x29_2).f2)).bind fun t395 => ((cracknellaw14_Int_int_Put.f k2 t395 ((rd_T43 l1 x29_2).f1) (wrap64 (((rd_T43 l1 x29_2).f2) + 1))).bind fun t399 => ((cracknellaw14_Int_int_Get.f t395 ((rd_T43 l1 x29_2).f1)).bind fun bt402 => (if bt402.1 = ((rd_T43 l1 x29_2).f2) then (if bt402.2 = true then (cracknellaw14_TableOwn.l0 k2 t382 l1 (l1.length : Int) (wrap64 (x29_2 + 1)) t379) else (some false)) else (some false))))) = some r := H
                  have A19 := Aside0.mk A190
                  clear A190
                  replace H := Option.bind_eq_some_iff.mp H
                  obtain ⟨t395, A200, H⟩ := H
                  replace H : ((cracknellaw14_Int_int_Put.f k2 t395 ((rd_T43 l1 x29_2).f1) (wrap64 (((rd_T43 l1 x29_2).f2) + 1))).bind fun t399 => ((cracknellaw14_Int_int_Get.f t395 ((rd_T43 l1 x29_2).f1)).bind fun bt402 => (if bt402.1 = ((rd_T43 l1 x29_2).f2) then (if bt402.2 = true then (cracknellaw14_TableOwn.l0 k2 t382 l1 (l1.length : Int) (wrap64 (x29_2 + 1)) t379) else (some false)) else (some false)))) = some r := H
                  have A20 := Aside0.mk A200
                  clear A200
                  replace H := Option.bind_eq_some_iff.mp H
                  obtain ⟨t399, A210, H⟩ := H
                  replace H : ((cracknellaw14_Int_int_Get.f t395 ((rd_T43 l1 x29_2).f1)).bind fun bt402 => (if bt402.1 = ((rd_T43 l1 x29_2).f2) then (if bt402.2 = true then (cracknellaw14_TableOwn.l0 k2 t382 l1 (l1.length : Int) (wrap64 (x29_2 + 1)) t379) else (some false)) else (some false))) = some r := H
                  have A21 := Aside0.mk A210
                  clear A210
                  replace H := Option.bind_eq_some_iff.mp H
                  obtain ⟨⟨t402, t403⟩, A220, H⟩ := H
                  replace H : (if t402 = ((rd_T43 l1 x29_2).f2) then (if t403 = true then (cracknellaw14_TableOwn.l0 k2 t382 l1 (l1.length : Int) (wrap64 (x29_2 + 1)) t379) else (some false)) else (some false)) = some r := H
                  have A22 := Aside0.mk A220
                  clear A220
                  by_cases c23 : t402 = ((rd_T43 l1 x29_2).f2)
                  · rw [if_pos c23] at H
                    have c23b0 : (t402 == ((rd_T43 l1 x29_2).f2)) = true := beq_iff_eq.mpr c23
                    have c23b1 : (t402 != ((rd_T43 l1 x29_2).f2)) = false := bne_eq_false_iff_eq.mpr c23
                    clear c23
                    by_cases c24 : t403 = true
                    · subst c24
                      have H1 : (cracknellaw14_TableOwn.l0 k2 t382 l1 (l1.length : Int) (wrap64 (x29_2 + 1)) t379) = some r := by rw [if_pos rfl] at H; exact H
                      clear H
                      have H := H1
                      clear H1
                      have H' := Aside0.mk H
                      clear H
                      have p386 : 0 ≤ (x29_2 : Int) := of_decide_eq_true (by first | (with_reducible assumption) | assumption)
                      have q386 : x29_2 < (l1.length : Int) := of_decide_eq_true (by first | (with_reducible assumption) | assumption)
                      obtain ⟨ad386, e386, hx386_0, hx386_1, hx386_2⟩ := at_T43 HR1.out x29_2 p386 q386
                      cases e386
                      replace hx386_0 := (HB.out.cell (World.block_lt_of_cell? w _ hx386_0)).trans hx386_0
                      replace hx386_1 := (HB.out.cell (World.block_lt_of_cell? w _ hx386_1)).trans hx386_1
                      replace hx386_2 := (HB.out.cell (World.block_lt_of_cell? w _ hx386_2)).trans hx386_2
                      replace p386 := eq_true p386
                      replace q386 := eq_true q386
                      go_wp2_with (first | ((with_reducible refine gate_dst (N := 8) rfl ?_); (try (refine gate_guard (by rfl) ?_; dsimp only)); refine box_event ?hg (N := 8) ?hd (cs := #[.int .i64 0, .int .i64 0, .int .i64 0]) (t := 43) ?hr ?_; (case hd => rfl); (case hg => rfl); (case hr => first | (go_simp; done) | (go_simp; rfl)); intro gb387 hg w25 hbox hb; have n0_ := Aside0.mk (Kd.R_below (by (with_reducible repeat (first | apply Kd.R_alloc | apply Kd.R_drewN | apply Kd.R_drew)); exact HO_6.out) hb); have n1_ := Aside0.mk (Kd.V_below (Kd.V_elderB (by (with_reducible repeat (first | apply Kd.V_alloc | apply Kd.V_drewN | apply Kd.V_drew)); exact HO_386000.out) gb387 (Nat.le_of_eq hg.symm)) hb); have n2_ := blkB BK385 hb; have n3_ := Aside0.mk (below_step xb hb); have n4_ := Aside0.mk (hbox); have n5_ := Aside0.mk ((by rw [hg]; exact (below_size xb) : w.heap.size ≤ gb387)); have n6_ := Aside0.mk ((by rw [hg]; exact (below_size xb) : w.heap.size ≤ gb387)); have n7_ := Aside0.mk ((by rw [hg]; exact Nat.ne_of_lt (blkL BK385) : gb385 ≠ gb387)); have n8_ := Aside0.mk ((by rw [hg]; exact Nat.ne_of_gt (blkL BK385) : gb387 ≠ gb385)); clear HO_6; clear HO_386000; clear BK385; clear HB; have HO_6 := n0_; have HO_386000 := n1_; have BK385 := n2_; have HB := n3_; have BK387 := n4_; have GW387 := n5_; have GE387 := n6_; have NB385_387 := n7_; have NB387_385 := n8_; clear n0_ n1_ n2_ n3_ n4_ n5_ n6_ n7_ n8_; clear hb hbox hg; have hnb26 := NB387_385.out; have hnc26 := NB385_387.out; have hcz27_0 : w25.cell? ⟨gb387, 0, none⟩ = some (.int .i64 0) := (blk_cell BK387.out 0).trans rfl; have hcz27_1 : w25.cell? ⟨gb387, 1, none⟩ = some (.int .i64 0) := (blk_cell BK387.out 1).trans rfl; have hcz27_2 : w25.cell? ⟨gb387, 2, none⟩ = some (.int .i64 0) := (blk_cell BK387.out 2).trans rfl; have hfz27_0 := blk_frozen BK387.out 0; have hfz27_1 := blk_frozen BK387.out 1; have hfz27_2 := blk_frozen BK387.out 2) | ((with_reducible refine gate_store (t := 43) (p := 8) rfl ?_); refine store_event (t := 43) (p := 8) (v := ?vo_w28) (w1 := (((w25.setCell ⟨gb387, 0, none⟩ (.int .i64 ((rd_T43 l1 x29_2).f0))).setCell ⟨gb387, 1, none⟩ (.int .i64 ((rd_T43 l1 x29_2).f1))).setCell ⟨gb387, 2, none⟩ (.int .i64 ((rd_T43 l1 x29_2).f2)))) ?hg ?ho ?hn ?hr ?_; (case ho => rfl); (case hg => rfl); (case hn => rfl); (case hr => first | (go_simp; done) | (go_simp; rfl)); intro w28 hw; have n0_ : Aside0 (Kd.R k53 53 w28 w.heap.size (fun _ => True) v383 t382) := ⟨(by rw [hw]; exact (by (with_reducible repeat (first | apply Kd.R_alloc | apply Kd.R_drewN | apply Kd.R_drew)); exact Kd.R_mono (Kd.R_far (p := ⟨gb387, 2, none⟩) (Kd.R_far (p := ⟨gb387, 1, none⟩) (Kd.R_far (p := ⟨gb387, 0, none⟩) (Kd.R_types HO_6.out BK387.out (by decide)) (fun _ hk => hk.2) (.int .i64 ((rd_T43 l1 x29_2).f0))) (fun _ hk => hk.2) (.int .i64 ((rd_T43 l1 x29_2).f1))) (fun _ hk => hk.2) (.int .i64 ((rd_T43 l1 x29_2).f2))) (fun _ hk => trivial)))⟩; have n1_ : Aside0 (Kd.V k65 65 w28 w.heap.size (fun k_ => some k_ ≠ (v383 : Value).ownBlock ∧ k_ ≠ gb385 ∧ k_ ≠ gb387) (.slice Ao13 t379.length co13) t379) := ⟨(by rw [hw]; exact (by (with_reducible repeat (first | apply Kd.V_alloc | apply Kd.V_drewN | apply Kd.V_drew)); exact Kd.V_mono (Kd.V_far (p := ⟨gb387, 2, none⟩) (Kd.V_far (p := ⟨gb387, 1, none⟩) (Kd.V_far (p := ⟨gb387, 0, none⟩) (Kd.V_mono HO_386000.out (fun k_ hk => (⟨hk, hk.2⟩ : _ ∧ k_ ≠ gb387))) (fun _ hk => hk.2) (.int .i64 ((rd_T43 l1 x29_2).f0))) (fun _ hk => hk.2) (.int .i64 ((rd_T43 l1 x29_2).f1))) (fun _ hk => hk.2) (.int .i64 ((rd_T43 l1 x29_2).f2))) (fun _ hk => ⟨hk.1.1.1, ⟨hk.1.1.2, hk.1.2⟩⟩)))⟩; have n2_ : Aside0 (w28.heap[gb385]? = some (.cells #[.slice Ao13 t379.length co13] 27 (0, 0))) := ⟨(by rw [hw]; exact xk)⟩; have n3_ : Aside0 (w28.heap[gb387]? = some (.cells #[.int .i64 ((rd_T43 l1 x29_2).f0), .int .i64 ((rd_T43 l1 x29_2).f1), .int .i64 ((rd_T43 l1 x29_2).f2)] 43 (0, 0))) := ⟨(by rw [hw]; exact xk)⟩; have n4_ : Aside0 (Below w.heap.size w w28) := ⟨(by rw [hw]; exact xb)⟩; clear hw; clear HO_6; clear HO_386000; clear BK385; clear BK387; clear HB; have HO_6 := n0_; have HO_386000 := n1_; have BK385 := n2_; have BK387 := n3_; have HB := n4_; clear n0_ n1_ n2_ n3_ n4_; have hcz29_0 : w28.cell? ⟨gb385, 0, none⟩ = some (.slice Ao13 t379.length co13) := (blk_cell BK385.out 0).trans rfl; have hfz29_0 := blk_frozen BK385.out 0; have hcz30_0 : w28.cell? ⟨gb387, 0, none⟩ = some (.int .i64 ((rd_T43 l1 x29_2).f0)) := (blk_cell BK387.out 0).trans rfl; have hcz30_1 : w28.cell? ⟨gb387, 1, none⟩ = some (.int .i64 ((rd_T43 l1 x29_2).f1)) := (blk_cell BK387.out 1).trans rfl; have hcz30_2 : w28.cell? ⟨gb387, 2, none⟩ = some (.int .i64 ((rd_T43 l1 x29_2).f2)) := (blk_cell BK387.out 2).trans rfl; have hfz30_0 := blk_frozen BK387.out 0; have hfz30_1 := blk_frozen BK387.out 1; have hfz30_2 := blk_frozen BK387.out 2) | ((with_reducible refine gate_callee (f := 16) rfl ?_); refine goesL_ (some 38) rfl rfl Try.func16 (by kernel_rfl) rfl #[.agg #[.slice Ao13 t379.length co13], .int .i64 ((rd_T43 l1 x29_2).f1), .int .i64 ((rd_T43 l1 x29_2).f2)] rfl xg ?_; (with_reducible refine (cracknellaw14_Int_int_Put.calls k2 (fun k_ => (some k_ ≠ (v383 : Value).ownBlock ∧ (k_ ≠ gb385 ∧ k_ ≠ gb387))) _ _ t379 ((rd_T43 l1 x29_2).f1) ((rd_T43 l1 x29_2).f2) t388 _ ?side1 A18.out).mono ?_); (case side1 => exact HO_386000.out); rintro e w31 ⟨v389, rfl, ho0, hb⟩; refine ⟨_, rfl, ?_⟩; have n0_ := Aside0.mk (Kd.R_below (by (with_reducible repeat (first | apply Kd.R_alloc | apply Kd.R_drewN | apply Kd.R_drew)); exact HO_6.out) hb); have n1_ := Aside0.mk (Kd.V_elder' (by (with_reducible repeat (first | apply Kd.V_alloc | apply Kd.V_drewN | apply Kd.V_drew)); exact HO_386000.out) (Kd.R_base ho0) hb); have n2_ := Aside0.mk (Kd.R_lower (Kd.R_mono (ok' := fun k_ => True) ho0 (fun _ hk_ => trivial)) (below_size xb)); have n3_ := blkB BK385 hb; have n4_ := blkB BK387 hb; have n5_ := Aside0.mk (below_step xb hb); clear HO_6; clear HO_386000; clear BK385; clear BK387; clear HB; have HO_6 := n0_; have HO_386000 := n1_; have HO390 := n2_; have BK385 := n3_; have BK387 := n4_; have HB := n5_; clear n0_ n1_ n2_ n3_ n4_ n5_; (try clear hb); (try clear hb2); (try clear hk); (try clear hi); (try clear ho0); have hcz32_0 : w31.cell? ⟨gb385, 0, none⟩ = some (.slice Ao13 t379.length co13) := (blk_cell BK385.out 0).trans rfl; have hfz32_0 := blk_frozen BK385.out 0; have hcz33_0 : w31.cell? ⟨gb387, 0, none⟩ = some (.int .i64 ((rd_T43 l1 x29_2).f0)) := (blk_cell BK387.out 0).trans rfl; have hcz33_1 : w31.cell? ⟨gb387, 1, none⟩ = some (.int .i64 ((rd_T43 l1 x29_2).f1)) := (blk_cell BK387.out 1).trans rfl; have hcz33_2 : w31.cell? ⟨gb387, 2, none⟩ = some (.int .i64 ((rd_T43 l1 x29_2).f2)) := (blk_cell BK387.out 2).trans rfl; have hfz33_0 := blk_frozen BK387.out 0; have hfz33_1 := blk_frozen BK387.out 1; have hfz33_2 := blk_frozen BK387.out 2) | ((with_reducible refine gate_callee (f := 15) rfl ?_); refine goesL_ (some 42) rfl rfl Try.func15 (by kernel_rfl) rfl #[.agg #[.slice Ao13 t379.length co13], .int .i64 ((rd_T43 l1 x29_2).f1)] rfl xg ?_; (with_reducible refine (cracknellaw14_Int_int_Drop.calls k2 (fun k_ => ((some k_ ≠ (v383 : Value).ownBlock ∧ (k_ ≠ gb385 ∧ k_ ≠ gb387)) ∧ some k_ ≠ (v389 : Value).ownBlock)) _ _ t379 ((rd_T43 l1 x29_2).f1) t391 t394 _ ?side1 A19.out).mono ?_); (case side1 => exact HO_386000.out); rintro e w34 ⟨v392, rfl, ho0, hb⟩; refine ⟨_, rfl, ?_⟩; have n0_ := Aside0.mk (Kd.R_below (by (with_reducible repeat (first | apply Kd.R_alloc | apply Kd.R_drewN | apply Kd.R_drew)); exact HO_6.out) hb); have n1_ := Aside0.mk (Kd.V_below (by (with_reducible repeat (first | apply Kd.V_alloc | apply Kd.V_drewN | apply Kd.V_drew)); exact HO_386000.out) hb); have n2_ := Aside0.mk (Kd.R_below (by (with_reducible repeat (first | apply Kd.R_alloc | apply Kd.R_drewN | apply Kd.R_drew)); exact HO390.out) hb); have n3_ := Aside0.mk (Kd.V_lower (Kd.V_mono (ok' := fun k_ => some k_ ≠ (v383 : Value).ownBlock ∧ some k_ ≠ (v389 : Value).ownBlock ∧ k_ ≠ gb385 ∧ k_ ≠ gb387) ho0 (fun k_ hk_ => ⟨Or.elim hk_ (fun hs_ => hs_.1.1) (fun hn_ => (Kd.fresh' (Kd.R_lt (by (with_reducible repeat (first | apply Kd.R_alloc | apply Kd.R_drewN | apply Kd.R_drew)); exact HO_6.out)) k_ hn_)), Or.elim hk_ (fun hs_ => hs_.2) (fun hn_ => (Kd.fresh' (Kd.R_lt (by (with_reducible repeat (first | apply Kd.R_alloc | apply Kd.R_drewN | apply Kd.R_drew)); exact HO390.out)) k_ hn_)), Or.elim hk_ (fun hs_ => hs_.1.2.1) (fun hn_ => (Kd.freshB (g := gb385) (o := .cells #[.slice Ao13 t379.length co13] 27 (0, 0)) xk k_ hn_)), Or.elim hk_ (fun hs_ => hs_.1.2.2) (fun hn_ => (Kd.freshB (g := gb387) (o := .cells #[.int .i64 ((rd_T43 l1 x29_2).f0), .int .i64 ((rd_T43 l1 x29_2).f1), .int .i64 ((rd_T43 l1 x29_2).f2)] 43 (0, 0)) xk k_ hn_))⟩)) (below_size xb)); have n4_ := blkB BK385 hb; have n5_ := blkB BK387 hb; have n6_ := Aside0.mk (below_step xb hb); clear HO_6; clear HO_386000; clear HO390; clear BK385; clear BK387; clear HB; have HO_6 := n0_; have HO_386000 := n1_; have HO390 := n2_; have HO393 := n3_; have BK385 := n4_; have BK387 := n5_; have HB := n6_; clear n0_ n1_ n2_ n3_ n4_ n5_ n6_; (try clear hb); (try clear hb2); (try clear hk); (try clear hi); (try clear ho0); have hcz35_0 : w34.cell? ⟨gb385, 0, none⟩ = some (.slice Ao13 t379.length co13) := (blk_cell BK385.out 0).trans rfl; have hfz35_0 := blk_frozen BK385.out 0; have hcz36_0 : w34.cell? ⟨gb387, 0, none⟩ = some (.int .i64 ((rd_T43 l1 x29_2).f0)) := (blk_cell BK387.out 0).trans rfl; have hcz36_1 : w34.cell? ⟨gb387, 1, none⟩ = some (.int .i64 ((rd_T43 l1 x29_2).f1)) := (blk_cell BK387.out 1).trans rfl; have hcz36_2 : w34.cell? ⟨gb387, 2, none⟩ = some (.int .i64 ((rd_T43 l1 x29_2).f2)) := (blk_cell BK387.out 2).trans rfl; have hfz36_0 := blk_frozen BK387.out 0; have hfz36_1 := blk_frozen BK387.out 1; have hfz36_2 := blk_frozen BK387.out 2) | ((with_reducible refine gate_callee (f := 16) rfl ?_); refine goesL_ (some 48) rfl rfl Try.func16 (by kernel_rfl) rfl #[.agg #[.slice Ao13 t379.length co13], .int .i64 ((rd_T43 l1 x29_2).f1), .int .i64 ((rd_T43 l1 x29_2).f2)] rfl xg ?_; (with_reducible refine (cracknellaw14_Int_int_Put.calls k2 (fun k_ => ((some k_ ≠ (v383 : Value).ownBlock ∧ (k_ ≠ gb385 ∧ k_ ≠ gb387)) ∧ some k_ ≠ (v389 : Value).ownBlock)) _ _ t379 ((rd_T43 l1 x29_2).f1) ((rd_T43 l1 x29_2).f2) t395 _ ?side1 A20.out).mono ?_); (case side1 => exact HO_386000.out); rintro e w37 ⟨v396, rfl, ho0, hb⟩; refine ⟨_, rfl, ?_⟩; have n0_ := Aside0.mk (Kd.R_below (by (with_reducible repeat (first | apply Kd.R_alloc | apply Kd.R_drewN | apply Kd.R_drew)); exact HO_6.out) hb); have n1_ := Aside0.mk (Kd.V_elder' (by (with_reducible repeat (first | apply Kd.V_alloc | apply Kd.V_drewN | apply Kd.V_drew)); exact HO_386000.out) (Kd.R_base ho0) hb); have n2_ := Aside0.mk (Kd.R_elder' (by (with_reducible repeat (first | apply Kd.R_alloc | apply Kd.R_drewN | apply Kd.R_drew)); exact HO390.out) (Kd.R_base ho0) hb); have n3_ := Aside0.mk (Kd.V_elder' (by (with_reducible repeat (first | apply Kd.V_alloc | apply Kd.V_drewN | apply Kd.V_drew)); exact HO393.out) (Kd.R_base ho0) hb); have n4_ := Aside0.mk (Kd.R_lower (Kd.R_new' (Kd.R_mono (ok' := fun k_ => True) ho0 (fun _ hk_ => trivial)) (Kd.R_lt (by (with_reducible repeat (first | apply Kd.R_alloc | apply Kd.R_drewN | apply Kd.R_drew)); exact HO390.out))) (below_size xb)); have n5_ := blkB BK385 hb; have n6_ := blkB BK387 hb; have n7_ := Aside0.mk (below_step xb hb); clear HO_6; clear HO_386000; clear HO390; clear HO393; clear BK385; clear BK387; clear HB; have HO_6 := n0_; have HO_386000 := n1_; have HO390 := n2_; have HO393 := n3_; have HO397 := n4_; have BK385 := n5_; have BK387 := n6_; have HB := n7_; clear n0_ n1_ n2_ n3_ n4_ n5_ n6_ n7_; (try clear hb); (try clear hb2); (try clear hk); (try clear hi); (try clear ho0)) | ((with_reducible refine gate_dst (N := 9) rfl ?_); (try (refine gate_guard (by rfl) ?_; dsimp only)); refine box_event ?hg (N := 9) ?hd (cs := #[.slice none 0 0]) (t := 27) ?hr ?_; (case hd => rfl); (case hg => rfl); (case hr => first | (go_simp; done) | (go_simp; rfl)); intro gb398 hg w38 hbox hb; have n0_ := Aside0.mk (Kd.R_below (by (with_reducible repeat (first | apply Kd.R_alloc | apply Kd.R_drewN | apply Kd.R_drew)); exact HO_6.out) hb); have n1_ := Aside0.mk (Kd.V_below (Kd.V_elderB (by (with_reducible repeat (first | apply Kd.V_alloc | apply Kd.V_drewN | apply Kd.V_drew)); exact HO_386000.out) gb398 (Nat.le_of_eq hg.symm)) hb); have n2_ := Aside0.mk (Kd.R_below (by (with_reducible repeat (first | apply Kd.R_alloc | apply Kd.R_drewN | apply Kd.R_drew)); exact HO390.out) hb); have n3_ := Aside0.mk (Kd.V_below (Kd.V_elderB (by (with_reducible repeat (first | apply Kd.V_alloc | apply Kd.V_drewN | apply Kd.V_drew)); exact HO393.out) gb398 (Nat.le_of_eq hg.symm)) hb); have n4_ := Aside0.mk (Kd.R_below (by (with_reducible repeat (first | apply Kd.R_alloc | apply Kd.R_drewN | apply Kd.R_drew)); exact HO397.out) hb); have n5_ := blkB BK385 hb; have n6_ := blkB BK387 hb; have n7_ := Aside0.mk (below_step xb hb); have n8_ := Aside0.mk (hbox); have n9_ := Aside0.mk ((by rw [hg]; exact (below_size xb) : w.heap.size ≤ gb398)); have n10_ := Aside0.mk ((by rw [hg]; exact (below_size xb) : w.heap.size ≤ gb398)); have n11_ := Aside0.mk ((by rw [hg]; exact Nat.ne_of_lt (blkL BK385) : gb385 ≠ gb398)); have n12_ := Aside0.mk ((by rw [hg]; exact Nat.ne_of_gt (blkL BK385) : gb398 ≠ gb385)); have n13_ := Aside0.mk ((by rw [hg]; exact Nat.ne_of_lt (blkL BK387) : gb387 ≠ gb398)); have n14_ := Aside0.mk ((by rw [hg]; exact Nat.ne_of_gt (blkL BK387) : gb398 ≠ gb387)); clear HO_6; clear HO_386000; clear HO390; clear HO393; clear HO397; clear BK385; clear BK387; clear HB; have HO_6 := n0_; have HO_386000 := n1_; have HO390 := n2_; have HO393 := n3_; have HO397 := n4_; have BK385 := n5_; have BK387 := n6_; have HB := n7_; have BK398 := n8_; have GW398 := n9_; have GE398 := n10_; have NB385_398 := n11_; have NB398_385 := n12_; have NB387_398 := n13_; have NB398_387 := n14_; clear n0_ n1_ n2_ n3_ n4_ n5_ n6_ n7_ n8_ n9_ n10_ n11_ n12_ n13_ n14_; clear hb hbox hg; obtain ⟨Ao39, co39, eo39⟩ := Kd.R_slice HO397.out; subst eo39; have hnb40 := NB398_385.out; have hnc40 := NB385_398.out; have hnb41 := NB398_387.out; have hnc41 := NB387_398.out; have hcz42_0 : w38.cell? ⟨gb398, 0, none⟩ = some (.slice none 0 0) := (blk_cell BK398.out 0).trans rfl; have hfz42_0 := blk_frozen BK398.out 0) | ((with_reducible refine gate_store (t := 27) (p := 9) rfl ?_); refine store_event (t := 27) (p := 9) (v := ?vo_w43) (w1 := (w38.setCell ⟨gb398, 0, none⟩ (.slice Ao39 t395.length co39))) ?hg ?ho ?hn ?hr ?_; (case ho => rfl); (case hg => rfl); (case hn => rfl); (case hr => first | (go_simp; done) | (go_simp; rfl)); intro w43 hw; have n0_ : Aside0 (Kd.R k53 53 w43 w.heap.size (fun _ => True) v383 t382) := ⟨(by rw [hw]; exact (by (with_reducible repeat (first | apply Kd.R_alloc | apply Kd.R_drewN | apply Kd.R_drew)); exact Kd.R_mono (Kd.R_far (p := ⟨gb398, 0, none⟩) (Kd.R_types HO_6.out BK398.out (by decide)) (fun _ hk => hk.2) (.slice Ao39 t395.length co39)) (fun _ hk => trivial)))⟩; have n1_ : Aside0 (Kd.V k65 65 w43 w.heap.size (fun k_ => some k_ ≠ (v383 : Value).ownBlock ∧ some k_ ≠ (v389 : Value).ownBlock ∧ some k_ ≠ (.slice Ao39 t395.length co39 : Value).ownBlock ∧ k_ ≠ gb385 ∧ k_ ≠ gb387 ∧ k_ ≠ gb398) (.slice Ao13 t379.length co13) t379) := ⟨(by rw [hw]; exact (by (with_reducible repeat (first | apply Kd.V_alloc | apply Kd.V_drewN | apply Kd.V_drew)); exact Kd.V_mono (Kd.V_far (p := ⟨gb398, 0, none⟩) (Kd.V_mono HO_386000.out (fun k_ hk => (⟨hk, hk.2⟩ : _ ∧ k_ ≠ gb398))) (fun _ hk => hk.2) (.slice Ao39 t395.length co39)) (fun _ hk => ⟨hk.1.1.1.1.1, ⟨hk.1.1.1.2, ⟨hk.1.1.2, ⟨hk.1.1.1.1.2.1, ⟨hk.1.1.1.1.2.2, hk.1.2⟩⟩⟩⟩⟩)))⟩; have n2_ : Aside0 (Kd.R k65 65 w43 w.heap.size (fun k_ => some k_ ≠ (.slice Ao39 t395.length co39 : Value).ownBlock) v389 t388) := ⟨(by rw [hw]; exact (by (with_reducible repeat (first | apply Kd.R_alloc | apply Kd.R_drewN | apply Kd.R_drew)); exact Kd.R_mono (Kd.R_far (p := ⟨gb398, 0, none⟩) (Kd.R_types HO390.out BK398.out (by decide)) (fun _ hk => hk.2) (.slice Ao39 t395.length co39)) (fun _ hk => hk.1.2)))⟩; have n3_ : Aside0 (Kd.V k65 65 w43 w.heap.size (fun k_ => some k_ ≠ (v383 : Value).ownBlock ∧ some k_ ≠ (v389 : Value).ownBlock ∧ some k_ ≠ (.slice Ao39 t395.length co39 : Value).ownBlock ∧ k_ ≠ gb385 ∧ k_ ≠ gb387 ∧ k_ ≠ gb398) v392 t391) := ⟨(by rw [hw]; exact (by (with_reducible repeat (first | apply Kd.V_alloc | apply Kd.V_drewN | apply Kd.V_drew)); exact Kd.V_mono (Kd.V_far (p := ⟨gb398, 0, none⟩) (Kd.V_mono HO393.out (fun k_ hk => (⟨hk, hk.2⟩ : _ ∧ k_ ≠ gb398))) (fun _ hk => hk.2) (.slice Ao39 t395.length co39)) (fun _ hk => ⟨hk.1.1.1.1, ⟨hk.1.1.1.2.1, ⟨hk.1.1.2, ⟨hk.1.1.1.2.2.1, ⟨hk.1.1.1.2.2.2, hk.1.2⟩⟩⟩⟩⟩)))⟩; have n4_ : Aside0 (Kd.R k65 65 w43 w.heap.size (fun k_ => some k_ ≠ (v389 : Value).ownBlock) (.slice Ao39 t395.length co39) t395) := ⟨(by rw [hw]; exact (by (with_reducible repeat (first | apply Kd.R_alloc | apply Kd.R_drewN | apply Kd.R_drew)); exact Kd.R_mono (Kd.R_far (p := ⟨gb398, 0, none⟩) (Kd.R_types HO397.out BK398.out (by decide)) (fun _ hk => hk.2) (.slice Ao39 t395.length co39)) (fun _ hk => hk.1.2)))⟩; have n5_ : Aside0 (w43.heap[gb385]? = some (.cells #[.slice Ao13 t379.length co13] 27 (0, 0))) := ⟨(by rw [hw]; exact xk)⟩; have n6_ : Aside0 (w43.heap[gb387]? = some (.cells #[.int .i64 ((rd_T43 l1 x29_2).f0), .int .i64 ((rd_T43 l1 x29_2).f1), .int .i64 ((rd_T43 l1 x29_2).f2)] 43 (0, 0))) := ⟨(by rw [hw]; exact xk)⟩; have n7_ : Aside0 (w43.heap[gb398]? = some (.cells #[.slice Ao39 t395.length co39] 27 (0, 0))) := ⟨(by rw [hw]; exact xk)⟩; have n8_ : Aside0 (Below w.heap.size w w43) := ⟨(by rw [hw]; exact xb)⟩; clear hw; clear HO_6; clear HO_386000; clear HO390; clear HO393; clear HO397; clear BK385; clear BK387; clear BK398; clear HB; have HO_6 := n0_; have HO_386000 := n1_; have HO390 := n2_; have HO393 := n3_; have HO397 := n4_; have BK385 := n5_; have BK387 := n6_; have BK398 := n7_; have HB := n8_; clear n0_ n1_ n2_ n3_ n4_ n5_ n6_ n7_ n8_; have hcz44_0 : w43.cell? ⟨gb398, 0, none⟩ = some (.slice Ao39 t395.length co39) := (blk_cell BK398.out 0).trans rfl; have hfz44_0 := blk_frozen BK398.out 0; have hcz45_0 : w43.cell? ⟨gb387, 0, none⟩ = some (.int .i64 ((rd_T43 l1 x29_2).f0)) := (blk_cell BK387.out 0).trans rfl; have hcz45_1 : w43.cell? ⟨gb387, 1, none⟩ = some (.int .i64 ((rd_T43 l1 x29_2).f1)) := (blk_cell BK387.out 1).trans rfl; have hcz45_2 : w43.cell? ⟨gb387, 2, none⟩ = some (.int .i64 ((rd_T43 l1 x29_2).f2)) := (blk_cell BK387.out 2).trans rfl; have hfz45_0 := blk_frozen BK387.out 0; have hfz45_1 := blk_frozen BK387.out 1; have hfz45_2 := blk_frozen BK387.out 2) | ((with_reducible refine gate_callee (f := 16) rfl ?_); refine goesL_ (some 55) rfl rfl Try.func16 (by kernel_rfl) rfl #[.agg #[.slice Ao39 t395.length co39], .int .i64 ((rd_T43 l1 x29_2).f1), .int .i64 (wrap64 (((rd_T43 l1 x29_2).f2) + 1))] rfl xg ?_; (with_reducible refine (cracknellaw14_Int_int_Put.calls k2 (fun k_ => some k_ = (.slice Ao39 t395.length co39 : Value).ownBlock) _ _ t395 ((rd_T43 l1 x29_2).f1) (wrap64 (((rd_T43 l1 x29_2).f2) + 1)) t399 _ ?side1 A21.out).mono ?_); (case side1 => exact Kd.R_V (Kd.R_tight rfl (Kd.R_types (Kd.R_types (Kd.R_types (Kd.R_apart' (HO397.out) (Kd.R_typed HO_6.out) (by decide)) BK385.out (by decide)) BK387.out (by decide)) BK398.out (by decide)))); rintro e w46 ⟨v400, rfl, ho0, hb⟩; refine ⟨_, rfl, ?_⟩; have n0_ := Aside0.mk (Kd.R_below (by (with_reducible repeat (first | apply Kd.R_alloc | apply Kd.R_drewN | apply Kd.R_drew)); exact HO_6.out) hb); have n1_ := Aside0.mk (Kd.V_elder' (by (with_reducible repeat (first | apply Kd.V_alloc | apply Kd.V_drewN | apply Kd.V_drew)); exact HO_386000.out) (Kd.R_base ho0) hb); have n2_ := Aside0.mk (Kd.R_elder' (by (with_reducible repeat (first | apply Kd.R_alloc | apply Kd.R_drewN | apply Kd.R_drew)); exact HO390.out) (Kd.R_base ho0) hb); have n3_ := Aside0.mk (Kd.V_elder' (by (with_reducible repeat (first | apply Kd.V_alloc | apply Kd.V_drewN | apply Kd.V_drew)); exact HO393.out) (Kd.R_base ho0) hb); have n4_ := Aside0.mk (Kd.R_elder' (by (with_reducible repeat (first | apply Kd.R_alloc | apply Kd.R_drewN | apply Kd.R_drew)); exact HO397.out) (Kd.R_base ho0) hb); have n5_ := Aside0.mk (Kd.R_lower (Kd.R_new' (Kd.R_new' (Kd.R_mono (ok' := fun k_ => True) ho0 (fun _ hk_ => trivial)) (Kd.R_lt (by (with_reducible repeat (first | apply Kd.R_alloc | apply Kd.R_drewN | apply Kd.R_drew)); exact HO390.out))) (Kd.R_lt (by (with_reducible repeat (first | apply Kd.R_alloc | apply Kd.R_drewN | apply Kd.R_drew)); exact HO397.out))) (below_size xb)); have n6_ := blkB BK385 hb; have n7_ := blkB BK387 hb; have n8_ := blkB BK398 hb; have n9_ := Aside0.mk (below_step xb hb); clear HO_6; clear HO_386000; clear HO390; clear HO393; clear HO397; clear BK385; clear BK387; clear BK398; clear HB; have HO_6 := n0_; have HO_386000 := n1_; have HO390 := n2_; have HO393 := n3_; have HO397 := n4_; have HO401 := n5_; have BK385 := n6_; have BK387 := n7_; have BK398 := n8_; have HB := n9_; clear n0_ n1_ n2_ n3_ n4_ n5_ n6_ n7_ n8_ n9_; (try clear hb); (try clear hb2); (try clear hk); (try clear hi); (try clear ho0); have hcz47_0 : w46.cell? ⟨gb398, 0, none⟩ = some (.slice Ao39 t395.length co39) := (blk_cell BK398.out 0).trans rfl; have hfz47_0 := blk_frozen BK398.out 0; have hcz48_0 : w46.cell? ⟨gb387, 0, none⟩ = some (.int .i64 ((rd_T43 l1 x29_2).f0)) := (blk_cell BK387.out 0).trans rfl; have hcz48_1 : w46.cell? ⟨gb387, 1, none⟩ = some (.int .i64 ((rd_T43 l1 x29_2).f1)) := (blk_cell BK387.out 1).trans rfl; have hcz48_2 : w46.cell? ⟨gb387, 2, none⟩ = some (.int .i64 ((rd_T43 l1 x29_2).f2)) := (blk_cell BK387.out 2).trans rfl; have hfz48_0 := blk_frozen BK387.out 0; have hfz48_1 := blk_frozen BK387.out 1; have hfz48_2 := blk_frozen BK387.out 2) | ((with_reducible refine gate_callee (f := 13) rfl ?_); refine goesL_ (some 60) rfl rfl Try.func13 (by kernel_rfl) rfl #[.agg #[.slice Ao39 t395.length co39], .int .i64 ((rd_T43 l1 x29_2).f1)] rfl xg ?_; (with_reducible refine (cracknellaw14_Int_int_Get.calls _ _ t395 ((rd_T43 l1 x29_2).f1) t402 true _ ?side1 ?side2 A22.out).mono ?_); (case side1 => repeat (first | exact (Kd.R_reads' HO397.out).2.2 | (with_reducible refine Kd.C_alloc ?_ _) | (with_reducible refine Kd.C_drewN ?_ _) | (with_reducible refine Kd.C_drew ?_))); (case side2 => exact (Kd.R_reads' HO397.out).2.1); rintro e w49 ⟨rfl, hb⟩; refine ⟨_, rfl, ?_⟩; have n0_ := Aside0.mk (Kd.R_below (by (with_reducible repeat (first | apply Kd.R_alloc | apply Kd.R_drewN | apply Kd.R_drew)); exact HO_6.out) hb); have n1_ := Aside0.mk (Kd.V_below (by (with_reducible repeat (first | apply Kd.V_alloc | apply Kd.V_drewN | apply Kd.V_drew)); exact HO_386000.out) hb); have n2_ := Aside0.mk (Kd.R_below (by (with_reducible repeat (first | apply Kd.R_alloc | apply Kd.R_drewN | apply Kd.R_drew)); exact HO390.out) hb); have n3_ := Aside0.mk (Kd.V_below (by (with_reducible repeat (first | apply Kd.V_alloc | apply Kd.V_drewN | apply Kd.V_drew)); exact HO393.out) hb); have n4_ := Aside0.mk (Kd.R_below (by (with_reducible repeat (first | apply Kd.R_alloc | apply Kd.R_drewN | apply Kd.R_drew)); exact HO397.out) hb); have n5_ := Aside0.mk (Kd.R_below (by (with_reducible repeat (first | apply Kd.R_alloc | apply Kd.R_drewN | apply Kd.R_drew)); exact HO401.out) hb); have n6_ := blkB BK385 hb; have n7_ := blkB BK387 hb; have n8_ := blkB BK398 hb; have n9_ := Aside0.mk (below_step xb hb); clear HO_6; clear HO_386000; clear HO390; clear HO393; clear HO397; clear HO401; clear BK385; clear BK387; clear BK398; clear HB; have HO_6 := n0_; have HO_386000 := n1_; have HO390 := n2_; have HO393 := n3_; have HO397 := n4_; have HO401 := n5_; have BK385 := n6_; have BK387 := n7_; have BK398 := n8_; have HB := n9_; clear n0_ n1_ n2_ n3_ n4_ n5_ n6_ n7_ n8_ n9_; (try clear hb); (try clear hb2); (try clear hk); (try clear hi); have hcz50_0 : w49.cell? ⟨gb387, 0, none⟩ = some (.int .i64 ((rd_T43 l1 x29_2).f0)) := (blk_cell BK387.out 0).trans rfl; have hcz50_1 : w49.cell? ⟨gb387, 1, none⟩ = some (.int .i64 ((rd_T43 l1 x29_2).f1)) := (blk_cell BK387.out 1).trans rfl; have hcz50_2 : w49.cell? ⟨gb387, 2, none⟩ = some (.int .i64 ((rd_T43 l1 x29_2).f2)) := (blk_cell BK387.out 2).trans rfl; have hfz50_0 := blk_frozen BK387.out 0; have hfz50_1 := blk_frozen BK387.out 1; have hfz50_2 := blk_frozen BK387.out 2))
                      go_roundg k2
                      case measure => have := HJ2.out; have := HK2.out; omega
                      case rel => exact ⟨(wrap64 (x29_2 + 1)), (by first | rfl | (simp; done) | (simp [*]; done)), H', ⟨by have := HJ2.out; have := HK2.out; omega⟩, ⟨by (with_reducible repeat (first | apply Kd.R_alloc | apply Kd.R_drewN | apply Kd.R_drew)); exact HO_6.out⟩, ⟨by (with_reducible repeat (first | apply Kd.V_alloc | apply Kd.V_drewN | apply Kd.V_drew)); exact Kd.V_mono HO_386000.out (fun _ hk => ⟨hk.1.1, hk.1.2.2.2.1⟩)⟩, ⟨xk⟩, ⟨xb⟩⟩
                    · replace c24 := Bool.eq_false_iff.mpr c24
                      subst c24
                      have H1 : (some false) = some r := by rw [if_neg (show ¬ (false = true) by decide)] at H; exact H
                      clear H
                      have H := H1
                      clear H1
                      obtain rfl := Option.some.inj H
                      exact absurd hT_.out (by decide)
                  · rw [if_neg c23] at H
                    have c23b0 : (t402 == ((rd_T43 l1 x29_2).f2)) = false := beq_eq_false_iff_ne.mpr c23
                    have c23b1 : (t402 != ((rd_T43 l1 x29_2).f2)) = true := bne_iff_ne.mpr c23
                    obtain rfl := Option.some.inj H
                    exact absurd hT_.out (by decide)
                · rw [if_neg c17] at H
                  exact absurd H (by simp)
              · rw [if_neg c16] at H
                exact absurd H (by simp)
            · rw [if_neg c15] at H
              have c15b0 : decide (x29_2 < (l1.length : Int)) = false := decide_eq_false c15
              (try simp only [hl12_3] at c15b0)
              clear c15
              replace H := Option.bind_eq_some_iff.mp H
              obtain ⟨t404, A510, H⟩ := H
              replace H : (cracknellaw14_TableOwn.l1 k2 t382 t404 (t404.length : Int) 0 t379) = some r := H
              have A51 := Aside0.mk A510
              clear A510
              have H' := Aside0.mk H
              clear H
              have hcz52_0 : wr.cell? ⟨gb385, 0, none⟩ = some (.slice Ao13 t379.length co13) := (blk_cell BK385.out 0).trans rfl
              have hfz52_0 := blk_frozen BK385.out 0
              go_wp2_with (first | ((with_reducible refine gate_callee (f := 18) rfl ?_); refine goesL_ (some 73) rfl rfl Try.func18 (by kernel_rfl) rfl #[.agg #[.slice Ao13 t379.length co13]] rfl xg ?_; (with_reducible refine (table_Keys_Int.calls _ _ t379 t404 _ ?side1 ?side2 A51.out).mono ?_); (case side1 => repeat (first | exact (Kd.V_reads' HO_386000.out).2.2 | (with_reducible refine Kd.C_alloc ?_ _) | (with_reducible refine Kd.C_drewN ?_ _) | (with_reducible refine Kd.C_drew ?_))); (case side2 => exact (Kd.V_reads' HO_386000.out).2.1); rintro e w53 ⟨v405, rfl, ho0, hb⟩; refine ⟨_, rfl, ?_⟩; have n0_ := Aside0.mk (Kd.R_below (by (with_reducible repeat (first | apply Kd.R_alloc | apply Kd.R_drewN | apply Kd.R_drew)); exact HO_6.out) hb); have n1_ := Aside0.mk (Kd.V_elder' (by (with_reducible repeat (first | apply Kd.V_alloc | apply Kd.V_drewN | apply Kd.V_drew)); exact HO_386000.out) (Kd.R_base ho0) hb); have n2_ := Aside0.mk (Kd.R_lower ho0 (below_size xb)); have n3_ := blkB BK385 hb; have n4_ := Aside0.mk (below_step xb hb); clear HO_6; clear HO_386000; clear BK385; clear HB; have HO_6 := n0_; have HO_386000 := n1_; have HO406 := n2_; have BK385 := n3_; have HB := n4_; clear n0_ n1_ n2_ n3_ n4_; (try clear hb); (try clear hb2); (try clear hk); (try clear hi); (try clear ho0); obtain ⟨Ao54, co54, eo54⟩ := Kd.R_slice HO406.out; subst eo54))
              go_loopg [76] k2 (fun kq v76 w' => ∃ (x12_3 : List Int) (x76_3 : Int), v76 = .int .i64 x76_3 ∧ Aside0 (cracknellaw14_TableOwn.l1 kq t382 x12_3 (t404.length : Int) x76_3 t379 = some r) ∧ Aside0 (kq ≤ k2) ∧ Aside0 (Kd.R k53 53 w' w.heap.size (fun _ => True) v383 t382) ∧ Aside0 (Kd.R (Kd.int .i64) 35 w' w.heap.size (fun _ => True) (.slice Ao54 t404.length co54) x12_3) ∧ Aside0 (Kd.V k65 65 w' w.heap.size (fun k_ => some k_ ≠ (v383 : Value).ownBlock ∧ some k_ ≠ ((.slice Ao54 t404.length co54) : Value).ownBlock ∧ k_ ≠ gb385) (.slice Ao13 t379.length co13) t379) ∧ Aside0 (w'.heap[gb385]? = some (.cells #[(.slice Ao13 t379.length co13)] 27 (0, 0))) ∧ Aside0 (Below w.heap.size w w'))
              case atStart => exact ⟨(t404), (0), (by first | rfl | (simp; done) | (simp [*]; done)), H', ⟨Nat.le_refl _⟩, ⟨by (with_reducible repeat (first | apply Kd.R_alloc | apply Kd.R_drewN | apply Kd.R_drew)); exact HO_6.out⟩, ⟨by (with_reducible repeat (first | apply Kd.R_alloc | apply Kd.R_drewN | apply Kd.R_drew)); exact HO406.out⟩, ⟨by (with_reducible repeat (first | apply Kd.V_alloc | apply Kd.V_drewN | apply Kd.V_drew)); exact Kd.V_mono HO_386000.out (fun _ hk => ⟨hk.1.1, ⟨hk.2, hk.1.2⟩⟩)⟩, ⟨xk⟩, ⟨xb⟩⟩
              case round =>
                clear H'
                try clear c1
                try clear c2
                try clear p2
                try clear p3
                try clear q3
                try clear hx3
                try clear c4
                try clear c4b0
                try clear c4b1
                try clear c5
                try clear p6
                try clear c9
                try clear c11
                try clear c12
                try clear c13
                try clear c15
                try clear c15b0
                try clear c16
                try clear c16b0
                try clear c17
                try clear c17b0
                try clear c18
                try clear c23
                try clear c23b0
                try clear c23b1
                try clear c24
                try clear c26
                try clear p32
                try clear p38
                try clear q38
                try clear hx38
                try clear c40
                try clear c41
                try clear hcz14_0
                try clear hcz27_0
                try clear hcz27_1
                try clear hcz27_2
                try clear hcz29_0
                try clear hcz30_0
                try clear hcz30_1
                try clear hcz30_2
                try clear hcz32_0
                try clear hcz33_0
                try clear hcz33_1
                try clear hcz33_2
                try clear hcz35_0
                try clear hcz36_0
                try clear hcz36_1
                try clear hcz36_2
                try clear hcz42_0
                try clear hcz44_0
                try clear hcz45_0
                try clear hcz45_1
                try clear hcz45_2
                try clear hcz47_0
                try clear hcz48_0
                try clear hcz48_1
                try clear hcz48_2
                try clear hcz50_0
                try clear hcz50_1
                try clear hcz50_2
                try clear hcz52_0
                try clear hfz14_0
                try clear hfz27_0
                try clear hfz27_1
                try clear hfz27_2
                try clear hfz29_0
                try clear hfz30_0
                try clear hfz30_1
                try clear hfz30_2
                try clear hfz32_0
                try clear hfz33_0
                try clear hfz33_1
                try clear hfz33_2
                try clear hfz35_0
                try clear hfz36_0
                try clear hfz36_1
                try clear hfz36_2
                try clear hfz42_0
                try clear hfz44_0
                try clear hfz45_0
                try clear hfz45_1
                try clear hfz45_2
                try clear hfz47_0
                try clear hfz48_0
                try clear hfz48_1
                try clear hfz48_2
                try clear hfz50_0
                try clear hfz50_1
                try clear hfz50_2
                try clear hfz52_0
                try clear hx386_0
                try clear hx386_1
                try clear hx386_2
                try clear p2
                try clear p3
                try clear p386
                try clear p6
                try clear q386
                obtain ⟨x12_3, x76_3, rfl, HA, HK3, HO_6, HO_12, HO_386000, BK385, HB⟩ := hrel
                have hl12_3 := (Kd.R_reads' HO_12.out).1
                rw [hl12_3] at HO_12
                (try simp only [hl12_3])
                (try simp only [hl12_3] at BK385)
                (try simp only [hl12_3] at HO_6)
                (try simp only [hl12_3] at HO_386000)
                cases gk with
                | zero => exact absurd HA.out (by simp [cracknellaw14_TableOwn.l1])
                | succ k3 =>
                  have H := HA.out
                  clear HA
                  simp only [cracknellaw14_TableOwn.l1] at H
                  by_cases c55 : x76_3 < (t404.length : Int)
                  · rw [if_pos c55] at H
                    have c55b0 : decide (x76_3 < (t404.length : Int)) = true := decide_eq_true c55
                    (try simp only [hl12_3] at c55b0)
                    clear c55
                    by_cases c56 : 0 ≤ x76_3
                    · rw [if_pos c56] at H
                      have c56b0 : decide (0 ≤ x76_3) = true := decide_eq_true c56
                      clear c56
                      by_cases c57 : x76_3 < (x12_3.length : Int)
                      · rw [if_pos c57] at H
                        have c57b0 : decide (x76_3 < (x12_3.length : Int)) = true := decide_eq_true c57
                        (try simp only [hl12_3] at c57b0)
                        clear c57
                        obtain ⟨y408, hy408⟩ : ∃ y_ : List Int, y_ = (x12_3.set (x76_3 : Int).toNat (wrap64 (-(rd x12_3 x76_3)))) := ⟨_, rfl⟩
                        replace H : (cracknellaw14_TableOwn.l1 k3 t382 y408 (t404.length : Int) (wrap64 (x76_3 + 1)) t379) = some r := by first | (rw [hy408]; with_reducible exact H) | (have H2_ := (Option.bind_some _ _).symm.trans H; rw [hy408]; with_reducible exact H2_) | (have H2_ := (Option.bind_some _ _).symm.trans H; with_reducible exact H2_) | with_reducible exact H | (rw [hy408]; exact H) | exact H
                        have Ny408 := Aside0.mk hy408
                        clear hy408
                        have H' := Aside0.mk H
                        clear H
                        have p407 : 0 ≤ (x76_3 : Int) := of_decide_eq_true (by first | (with_reducible assumption) | assumption)
                        have q407 : x76_3 < (x12_3.length : Int) := of_decide_eq_true (by first | (with_reducible assumption) | assumption)
                        obtain ⟨ad407, e407, hx407_0⟩ := Kd.at_int (Kd.R_reads' HO_12.out).2.2 x76_3 p407 q407
                        cases e407
                        replace p407 := eq_true p407
                        replace q407 := eq_true q407
                        have p58 : 0 ≤ (x76_3 : Int) := of_decide_eq_true (by first | (with_reducible assumption) | assumption)
                        have q58 : (x76_3 : Int) < ((x12_3.length : Int) : Int) := of_decide_eq_true (by first | (with_reducible assumption) | assumption)
                        obtain ⟨go58, co58, eo58, gb58, gl58, cl58, HG58⟩ := Kd.R_form HO_12.out (by omega)
                        (first | cases eo58 | (injection eo58 with ea_ en_ ec_; (first | subst ea_ | (injection ea_ with ea_; subst ea_)); subst ec_; clear en_))
                        have GB58 := Aside0.mk gb58
                        have GG58 := Aside0.mk HG58
                        clear gb58 gl58 HG58
                        (first | simp only [add_plain] at hx407_0 | skip)
                        obtain ⟨hx58_0, hf58_0⟩ := Kd.R_celln 0 HO_12.out (x76_3 : Int) p58 q58
                        replace p58 := eq_true p58
                        replace q58 := eq_true q58
                        have HP59 := Kd.R_putg HO_12.out (x76_3 : Int) (wrap64 (-(rd x12_3 x76_3)))
                        go_wp2_with (first | ((with_reducible refine gate_store (t := 35) (p := 86) rfl ?_); refine store_event (t := 35) (p := 86) (v := ?vo_w60) (w1 := (wr.setCell ⟨go58, (x76_3 : Int).toNat, none⟩ (.int .i64 (wrap64 (-(rd x12_3 x76_3)))))) ?hg ?ho ?hn ?hr ?_; (case ho => rfl); (case hg => rfl); (case hn => rfl); (case hr => first | (go_simp; done) | (go_simp; rfl)); intro w60 hw; have hg : wr.grownBy w60 (some go58) := (by rw [hw]; exact HP59.2); have hp_ : Kd.R (Kd.int .i64) 35 w60 w.heap.size (fun _ => True) (.slice (some ⟨go58, 0, none⟩) x12_3.length co54) y408 := (by rw [hw, Ny408.out]; exact HP59.1); clear HP59; have n0_ := Aside0.mk (Kd.R_over' (v := (.slice (some ⟨go58, 0, none⟩) x12_3.length co54)) (by (with_reducible repeat (first | apply Kd.R_alloc | apply Kd.R_drewN | apply Kd.R_drew)); exact HO_6.out) (Kd.R_typed HO_12.out) (by decide) hg); have n1_ := Aside0.mk (hp_); have n2_ := Aside0.mk (Kd.V_afterv (v := (.slice (some ⟨go58, 0, none⟩) x12_3.length co54)) (v1 := (.slice (some ⟨go58, 0, none⟩) x12_3.length co54)) (ok := (fun k_ => some k_ ≠ (v383 : Value).ownBlock ∧ k_ ≠ gb385)) (by (with_reducible repeat (first | apply Kd.V_alloc | apply Kd.V_drewN | apply Kd.V_drew)); exact Kd.V_mono HO_386000.out (fun _ hk => ⟨⟨hk.1, hk.2.2⟩, hk.2.1⟩)) hg (.inl rfl)); have n3_ := Aside0.mk (blk_grown (g := gb385) (o := .cells #[.slice Ao13 t379.length co13] 27 (0, 0)) xk hg (Kd.R_ne HO_12.out BK385.out (by decide))); have n4_ := Aside0.mk ((by rw [hw]; exact below_set (HB.out) GB58.out : Below w.heap.size w w60)); clear HO_6; clear HO_12; clear HO_386000; clear BK385; clear HB; have HO_6 := n0_; have HO_12 := n1_; have HO_386000 := n2_; have BK385 := n3_; have HB := n4_; clear n0_ n1_ n2_ n3_ n4_; clear hg hw hp_))
                        (try simp only [← hl12_3])
                        go_roundg k3
                        case measure => have := HJ2.out; have := HK2.out; have := HK3.out; omega
                        case rel => exact ⟨(y408), (wrap64 (x76_3 + 1)), (by first | rfl | (simp; done) | (simp [*]; done)), H', ⟨by have := HJ2.out; have := HK2.out; have := HK3.out; omega⟩, ⟨by (try simp only [hl12_3]); (with_reducible repeat (first | apply Kd.R_alloc | apply Kd.R_drewN | apply Kd.R_drew)); exact HO_6.out⟩, ⟨by (try simp only [hl12_3]); (with_reducible repeat (first | apply Kd.R_alloc | apply Kd.R_drewN | apply Kd.R_drew)); exact HO_12.out⟩, ⟨by (try simp only [hl12_3]); (with_reducible repeat (first | apply Kd.V_alloc | apply Kd.V_drewN | apply Kd.V_drew)); exact Kd.V_mono HO_386000.out (fun _ hk => ⟨hk.1.1, ⟨hk.2, hk.1.2⟩⟩)⟩, ⟨by (try simp only [hl12_3]); (with_reducible repeat (first | refine blk_drewN ?_ _ | refine blk_drew ?_ | refine blk_alloc ?_ _)); exact BK385.out⟩, ⟨xb⟩⟩
                      · rw [if_neg c57] at H
                        exact absurd H (by simp)
                    · rw [if_neg c56] at H
                      exact absurd H (by simp)
                  · rw [if_neg c55] at H
                    have c55b0 : decide (x76_3 < (t404.length : Int)) = false := decide_eq_false c55
                    (try simp only [hl12_3] at c55b0)
                    clear c55
                    replace H := Option.bind_eq_some_iff.mp H
                    obtain ⟨t409, A610, H⟩ := H
                    replace H : (if t409 = true then ((law14_same.f t379 t382).bind fun t410 => (some t410)) else (some false)) = some r := H
                    have A61 := Aside0.mk A610
                    clear A610
                    by_cases c62 : t409 = true
                    · subst c62
                      have H1 : ((law14_same.f t379 t382).bind fun t410 => (some t410)) = some r := by rw [if_pos rfl] at H; exact H
                      clear H
                      have H := H1
                      clear H1
                      replace H := Option.bind_eq_some_iff.mp H
                      obtain ⟨t410, A630, H⟩ := H
                      replace H : (some t410) = some r := H
                      have A63 := Aside0.mk A630
                      clear A630
                      obtain rfl := Option.some.inj H
                      go_wp2_with (first | ((with_reducible refine gate_callee (f := 9) rfl ?_); refine goesL_ (some 88) rfl rfl Try.func9 (by kernel_rfl) rfl #[] rfl xg ?_; (with_reducible refine (law14_alive.calls  true _ A61.out).mono ?_); rintro e w64 ⟨rfl, hb⟩; refine ⟨_, rfl, ?_⟩; have n0_ := Aside0.mk (Kd.R_below (by (with_reducible repeat (first | apply Kd.R_alloc | apply Kd.R_drewN | apply Kd.R_drew)); exact HO_6.out) hb); have n1_ := Aside0.mk (Kd.R_below (by (with_reducible repeat (first | apply Kd.R_alloc | apply Kd.R_drewN | apply Kd.R_drew)); exact HO_12.out) hb); have n2_ := Aside0.mk (Kd.V_below (by (with_reducible repeat (first | apply Kd.V_alloc | apply Kd.V_drewN | apply Kd.V_drew)); exact HO_386000.out) hb); have n3_ := blkB BK385 hb; have n4_ := Aside0.mk (below_step xb hb); clear HO_6; clear HO_12; clear HO_386000; clear BK385; clear HB; have HO_6 := n0_; have HO_12 := n1_; have HO_386000 := n2_; have BK385 := n3_; have HB := n4_; clear n0_ n1_ n2_ n3_ n4_; (try clear hb); (try clear hb2); (try clear hk); (try clear hi); have hcz65_0 : w64.cell? ⟨gb385, 0, none⟩ = some (.slice Ao13 t379.length co13) := (blk_cell BK385.out 0).trans rfl; have hfz65_0 := blk_frozen BK385.out 0; obtain ⟨Ao66, co66, eo66⟩ := Kd.R_slice HO_6.out; subst eo66) | (go_at_call 10; (with_reducible refine (law14_same.calls _ _ t379 _ _ t382 t410 _ ?side1 ?side2 ?side3 ?side4 A63.out).mono ?_); (case side1 => repeat (first | exact (Kd.V_reads' HO_386000.out).2.2 | (with_reducible refine Kd.C_alloc ?_ _) | (with_reducible refine Kd.C_drewN ?_ _) | (with_reducible refine Kd.C_drew ?_))); (case side2 => exact (Kd.V_reads' HO_386000.out).2.1); (case side3 => repeat (first | exact (Kd.R_reads' HO_6.out).2.2 | (with_reducible refine Kd.C_alloc ?_ _) | (with_reducible refine Kd.C_drewN ?_ _) | (with_reducible refine Kd.C_drew ?_))); (case side4 => exact (Kd.R_reads' HO_6.out).2.1); rintro e w67 ⟨rfl, hb⟩; have n0_ := Aside0.mk (Kd.R_below (by (with_reducible repeat (first | apply Kd.R_alloc | apply Kd.R_drewN | apply Kd.R_drew)); exact HO_6.out) hb); have n1_ := Aside0.mk (Kd.R_below (by (with_reducible repeat (first | apply Kd.R_alloc | apply Kd.R_drewN | apply Kd.R_drew)); exact HO_12.out) hb); have n2_ := Aside0.mk (Kd.V_below (by (with_reducible repeat (first | apply Kd.V_alloc | apply Kd.V_drewN | apply Kd.V_drew)); exact HO_386000.out) hb); have n3_ := blkB BK385 hb; have n4_ := Aside0.mk (below_step xb hb); clear HO_6; clear HO_12; clear HO_386000; clear BK385; clear HB; have HO_6 := n0_; have HO_12 := n1_; have HO_386000 := n2_; have BK385 := n3_; have HB := n4_; clear n0_ n1_ n2_ n3_ n4_; (try clear hb); (try clear hb2); (try clear hk); (try clear hi)))
                      go_ret
                      exact ⟨by first | rfl | (simp [errW_none, errW_some] <;> rfl) | (simp [*, errW_none, errW_some] <;> rfl), by repeat (first | (with_reducible first | exact HB.out | apply below_alloc | apply pw_below_drewN | apply below_drew1 | refine below_set ?_ GE385.out) | exact HB.out)⟩
                    · replace c62 := Bool.eq_false_iff.mpr c62
                      subst c62
                      have H1 : (some false) = some r := by rw [if_neg (show ¬ (false = true) by decide)] at H; exact H
                      clear H
                      have H := H1
                      clear H1
                      obtain rfl := Option.some.inj H
                      exact absurd hT_.out (by decide)

/-- THE ONE PURE STATEMENT of cracknellaw14_TableOwn: yours. -/
def cracknellaw14_TableOwn.Pure : Prop := ∀ (l0 : List (S43)) (l1 : List (S43)), (∀ x ∈ l0, (Lit.int .i64 x.f0).wf = true ∧ (Lit.int .i64 x.f1).wf = true ∧ (Lit.int .i64 x.f2).wf = true) → (∀ x ∈ l1, (Lit.int .i64 x.f0).wf = true ∧ (Lit.int .i64 x.f1).wf = true ∧ (Lit.int .i64 x.f2).wf = true) → ∃ k, cracknellaw14_TableOwn.f k l0 l1 = some true
theorem cracknellaw14_TableOwn.walk (P : cracknellaw14_TableOwn.Pure) (A0 : Option Addr) (c0 : Nat) (l0 : List (S43)) (A1 : Option Addr) (c1 : Nat) (l1 : List (S43)) (w : World) (hr0 : Kd.C k43 w A0 l0.length l0) (hc0 : l0.length ≤ c0) (hw0 : ∀ x ∈ l0, (Lit.int .i64 x.f0).wf = true ∧ (Lit.int .i64 x.f1).wf = true ∧ (Lit.int .i64 x.f2).wf = true) (hr1 : Kd.C k43 w A1 l1.length l1) (hc1 : l1.length ≤ c1) (hw1 : ∀ x ∈ l1, (Lit.int .i64 x.f0).wf = true ∧ (Lit.int .i64 x.f1).wf = true ∧ (Lit.int .i64 x.f2).wf = true) :
    Calls Try.prog 5 #[.slice A0 l0.length c0, .slice A1 l1.length c1] w fun e w' => e = .returned (.bool true) ∧ Below w.heap.size w w' := by
  obtain ⟨k, h⟩ := P l0 l1 hw0 hw1
  refine (cracknellaw14_TableOwn.calls k _ _ l0 _ _ l1 true w hr0 hc0 hr1 hc1 ⟨rfl⟩ h).mono ?_
  rintro e w' ⟨rfl, hd⟩
  exact ⟨rfl, hd⟩

end Go.Proofs.Ytmpccjkdfdgedaa.Print
