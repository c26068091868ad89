/- How the reference of layer 13 compares, as plain functions. Texts are no longer than a row may be. -/
import Derived.Test.YtpcakfldmcfhlaaDoorYrank
import Derived.Test.YtpcakfldmcfhlaaDoorPrint7
namespace Go.Proofs.YtpcakfldmcfhlaaDoor.Y
set_option linter.unusedVariables false
set_option linter.unusedSimpArgs false
open Go.RowKit Go.Proofs.YtpcakfldmcfhlaaDoor.Print Go.Proofs.YtpcakfldmcfhlaaDoorW.PrintWords Go.Proofs.YtpcakfldmcfhlaaDoorW.PrintLast Go.Proofs.YtpcakfldmcfhlaaDoorW.PrintMore

/-! ### the reference's -/
theorem number_f (a b : Int) : cracknelref13_number.f a b = some (cmpI a b) := by
  unfold cracknelref13_number.f cmpI
  split
  · rfl
  · split <;> rfl
theorem bit_f (a : Bool) : cracknelref13_bit.f a = some (tl a) := by cases a <;> rfl
theorem cmpL_nil (l m : List Int) (h : l = [] ∨ m = []) : cmpL l m = cmpI (l.length : Int) (m.length : Int) := by
  rcases h with rfl | rfl
  · cases m with
    | nil => rfl
    | cons _ _ => simp only [cmpL, cmpI, List.length_cons, List.length_nil]; rw [if_pos (by omega)]
  · cases l with
    | nil => rfl
    | cons _ _ => simp only [cmpL, cmpI, List.length_cons, List.length_nil]; rw [if_neg (by omega), if_pos (by omega)]
theorem cmpI_shift (a b : Int) (n : Nat) (x y : Nat) (hx : a = (x : Int) + n) (hy : b = (y : Int) + n) : cmpI a b = cmpI x y := by
  subst hx hy; unfold cmpI; repeat (first | omega | split)
theorem ref_text_loop (a b : ByteArray) (ha : a.size ≤ 9223372036854775807) (hb : b.size ≤ 9223372036854775807) (d : Nat) : ∀ i : Nat, i + d = a.size → i ≤ b.size → Ev (fun k => cracknelref13_Text.l0 k a b i) (cmpL ((bytesOf a).drop i) ((bytesOf b).drop i)) := by
  have last : ∀ (i : Nat), i ≤ a.size → i ≤ b.size → (i = a.size ∨ i = b.size) → Ev (fun k => cracknelref13_Text.j1 k a b i false) (cmpL ((bytesOf a).drop i) ((bytesOf b).drop i)) := by
    intro i h1 h2 h3
    apply ev_succ
    simp only [cracknelref13_Text.j1]
    refine ev_neg (by decide) ?_
    rw [number_f]
    refine ev_bind (ev_now _) (ev_eq (ev_now _) ?_)
    have la := bytesOf_length a
    have lb := bytesOf_length b
    rw [cmpL_nil]
    · exact cmpI_shift _ _ i _ _ (by rw [List.length_drop]; omega) (by rw [List.length_drop]; omega)
    · rcases h3 with h3 | h3
      · exact .inl (List.drop_eq_nil_of_le (by omega))
      · exact .inr (List.drop_eq_nil_of_le (by omega))
  induction d with
  | zero =>
    intro i hi hb'
    apply ev_succ
    simp only [cracknelref13_Text.l0]
    exact ev_neg (by omega) (last i (by omega) hb' (.inl (by omega)))
  | succ d ih =>
    intro i hi hb'
    apply ev_succ
    simp only [cracknelref13_Text.l0]
    refine ev_pos (by omega) ?_
    by_cases h : i = b.size
    · have : decide ((i : Int) < (b.size : Int)) = false := by simp; omega
      rw [this]
      exact last i (by omega) hb' (.inr h)
    · have : decide ((i : Int) < (b.size : Int)) = true := by simp; omega
      rw [this]
      apply ev_succ
      simp only [cracknelref13_Text.j1]
      have hw : wrap64 ((i : Int) + 1) = ((i + 1 : Nat) : Int) := by rw [w64 (by omega) (by omega)]; omega
      rw [hw]
      rcases drop_cases a (i := i) (by omega) with ⟨h1, _⟩ | ⟨h1, h2⟩
      · omega
      · rcases drop_cases b (i := i) (by omega) with ⟨h3, _⟩ | ⟨h3, h4⟩
        · omega
        · rw [h2, h4]
          refine ev_pos (by trivial) (ev_pos (by omega) (ev_pos (by omega) (ev_pos (by omega) ?_)))
          simp only [cmpL, cmpI]
          by_cases h5 : bt a i < bt b i
          · exact ev_pos h5 (ev_eq (ev_now _) (by simp [h5]))
          · refine ev_neg h5 ?_
            by_cases h6 : bt a i > bt b i
            · exact ev_pos h6 (ev_eq (ev_now _) (by simp [h5, h6]))
            · refine ev_neg h6 (ev_eq (ih (i + 1) (by omega) (by omega)) ?_)
              simp [h5, h6]
theorem ref_text_ev {a b : ByteArray} (ha : a.size ≤ 9223372036854775807) (hb : b.size ≤ 9223372036854775807) : Ev (fun k => cracknelref13_Text.f k a b) (cmpS a b) := by
  have := ref_text_loop a b ha hb a.size 0 (by omega) (by omega)
  rw [cmpS_list]
  simpa [cracknelref13_Text.f] using this
theorem ref_keys_ev {a0 a1 a2 b0 b1 b2 : ByteArray} (ha0 : a0.size ≤ 9223372036854775807) (ha1 : a1.size ≤ 9223372036854775807) (ha2 : a2.size ≤ 9223372036854775807) (hb0 : b0.size ≤ 9223372036854775807) (hb1 : b1.size ≤ 9223372036854775807) (hb2 : b2.size ≤ 9223372036854775807) : Ev (fun k => cracknelref13_Keys.f k a0 a1 a2 b0 b1 b2) (keyC (a0, a1, a2) (b0, b1, b2)) := by
  unfold cracknelref13_Keys.f keyC twoC
  refine ev_bind (ref_text_ev ha0 hb0) ?_
  by_cases h0 : cmpS a0 b0 = 0
  · simp only [if_pos h0]
    refine ev_bind (ref_text_ev ha1 hb1) ?_
    by_cases h1 : cmpS a1 b1 = 0
    · simp only [if_pos h1]
      exact ev_bind (ref_text_ev ha2 hb2) (ev_now _)
    · simp only [if_neg h1]
      exact ev_now _
  · simp only [if_neg h0]
    exact ev_now _
end Go.Proofs.YtpcakfldmcfhlaaDoor.Y
