/- Paths of layer 12, and when a cookie is sent, as plain functions on texts. Texts have at most 500 bytes where it matters. -/
import Derived.Test.YtpcakfldmcfhlaaDoorYhostM
import Derived.Test.YtpcakfldmcfhlaaDoorPrint3
import Derived.Test.YtpcakfldmcfhlaaDoorPrint15
import Derived.Test.YtpcakfldmcfhlaaDoorPrint11
namespace Go.Proofs.YtpcakfldmcfhlaaDoor.Y
set_option linter.unusedVariables false
set_option linter.unusedSimpArgs false
open Go.RowKit Go.Proofs.YtpcakfldmcfhlaaDoor.Print Go.Proofs.YtpcakfldmcfhlaaDoorW.PrintWords Go.Proofs.YtpcakfldmcfhlaaDoorW.PrintLast Go.Proofs.YtpcakfldmcfhlaaDoorW.PrintMore

theorem beq_dec (x y : Int) : (x == y) = decide (x = y) := by rw [Bool.eq_iff_iff, beq_iff_eq, decide_eq_true_iff]
def preP (a c : ByteArray) : Prop := c.size ≤ a.size ∧ (bytesOf a).take c.size = bytesOf c
instance (a c : ByteArray) : Decidable (preP a c) := inferInstanceAs (Decidable (_ ∧ _))
def slashE (c : ByteArray) : Bool := decide (0 < c.size) && decide (bt c (((c.size - 1 : Nat)) : Int) = 47)
def pathB (a c : ByteArray) : Bool := decide (preP a c) && (decide (c.size = a.size) || (slashE c || decide (bt a (c.size : Int) = 47)))
theorem head_bytes (a c : ByteArray) : ((a.extract 0 c.size).toList == c.toList) = decide ((bytesOf a).take c.size = bytesOf c) := by
  rw [toList_beq, bytesOf_extract, List.drop_zero, Nat.sub_zero]
theorem hasPrefix_f {a c : ByteArray} : stringslite_HasPrefix.f a c = some (decide (preP a c)) := by
  unfold stringslite_HasPrefix.f
  by_cases h : c.size ≤ a.size
  · rw [if_pos (by omega), if_pos (by omega), if_pos (by omega), Int.toNat_natCast, head_bytes]
    congr 1
    rw [Bool.eq_iff_iff, decide_eq_true_iff, decide_eq_true_iff]
    exact ⟨fun e => ⟨h, e⟩, fun e => e.2⟩
  · rw [if_neg (by omega)]
    congr 1
    exact (decide_eq_false fun e => h e.1).symm
theorem cutPrefix_f {a c : ByteArray} : strings_CutPrefix.f a c = some (if preP a c then (a.extract c.size a.size, true) else (a, false)) := by
  unfold strings_CutPrefix.f stringslite_CutPrefix.f
  rw [hasPrefix_f]
  simp only [Option.bind_some]
  by_cases h : preP a c
  · rw [decide_eq_true h, if_pos rfl, if_pos (by omega), if_pos (by have := h.1; omega), if_pos h, Int.toNat_natCast]
    rfl
  · rw [decide_eq_false h, if_neg (by decide), if_neg h]
    rfl
theorem last_drop {c : ByteArray} (h : 0 < c.size) : (bytesOf c).drop (c.size - 1) = [bt c ((c.size - 1 : Nat) : Int)] := by
  rcases drop_cases c (i := c.size - 1) (by omega) with ⟨h1, _⟩ | ⟨h1, h2⟩
  · omega
  · rw [h2, List.drop_eq_nil_of_le (by rw [bytesOf_length]; omega)]
theorem hasSlash_f {c : ByteArray} (hc : c.size ≤ 4294967296) : strings_HasSuffix.f c (⟨#[47]⟩ : ByteArray) = some (slashE c) := by
  unfold strings_HasSuffix.f stringslite_HasSuffix.f slashE
  have h1 : (⟨#[47]⟩ : ByteArray).size = 1 := rfl
  have h2 : bytesOf (⟨#[47]⟩ : ByteArray) = [47] := rfl
  rw [h1]
  by_cases h : 0 < c.size
  · have hw : wrap64 ((c.size : Int) - ((1 : Nat) : Int)) = ((c.size - 1 : Nat) : Int) := by rw [w64 (by omega) (by omega)]; omega
    rw [hw, if_pos (by omega), if_pos (by omega), if_pos (by omega), Int.toNat_natCast, toList_beq, bytesOf_extract, last_drop h, h2]
    simp only [Option.bind_some]
    congr 1
    rw [decide_eq_true h, Bool.true_and, Bool.eq_iff_iff, decide_eq_true_iff, decide_eq_true_iff, show c.size - (c.size - 1) = 1 by omega]
    simp
  · rw [if_neg (by omega)]
    simp only [Option.bind_some]
    congr 1
    rw [decide_eq_false h]; rfl
theorem rest_size {a c : ByteArray} (h : c.size ≤ a.size) : (a.extract c.size a.size).size = a.size - c.size := by rw [ByteArray.size_extract]; omega
theorem rest_bt {a c : ByteArray} (h : c.size < a.size) : bt (a.extract c.size a.size) 0 = bt a (c.size : Int) := by
  rcases drop_cases a (i := c.size) (by omega) with ⟨h1, _⟩ | ⟨h1, h2⟩
  · omega
  · refine bt_drop (i := 0) (l := (bytesOf a).drop (c.size + 1)) ?_
    rw [bytesOf_extract, List.drop_zero, List.take_of_length_le (by rw [List.length_drop, bytesOf_length]; omega), h2]
theorem pathM_f {a c : ByteArray} (ha : a.size ≤ 4294967296) (hc : c.size ≤ 4294967296) : path_Match.f a c = some (pathB a c) := by
  unfold path_Match.f pathB
  rw [cutPrefix_f]
  by_cases h : preP a c
  · rw [if_pos h, decide_eq_true h]
    simp only [Option.bind_some, Bool.true_and]
    simp only [if_true]
    have hs := rest_size h.1
    by_cases h1 : c.size = a.size
    · rw [if_pos, decide_eq_true h1, Bool.true_or]
      apply List.eq_nil_of_length_eq_zero
      rw [toList_data, Array.length_toList]
      show (a.extract c.size a.size).size = 0
      omega
    · rw [if_neg, decide_eq_false h1, hasSlash_f hc, Bool.false_or]
      · simp only [Option.bind_some]
        cases slashE c with
        | true => rfl
        | false =>
          have := h.1
          rw [if_neg (show ¬ (false = true) by decide), if_pos (show 0 < (((a.extract c.size a.size).size : Nat) : Int) by omega), rest_bt (by omega), Bool.false_or, beq_dec]
      · intro e
        have e2 := congrArg List.length e
        rw [toList_data, Array.length_toList] at e2
        have e3 : (a.extract c.size a.size).size = 0 := e2
        have := h.1
        omega
  · rw [if_neg h, decide_eq_false h]
    simp only [Option.bind_some]
    rfl
theorem ref_pathM_f {a c : ByteArray} (ha : a.size ≤ 4294967296) (hc : c.size ≤ 4294967296) : cracknelref12_Match.f a c = some (pathB a c) := by
  unfold cracknelref12_Match.f pathB
  by_cases h0 : a.toList = c.toList
  · have h := toList_inj.mp h0
    subst h
    rw [if_pos rfl, decide_eq_true (show preP a a from ⟨Nat.le_refl _, List.take_of_length_le (by rw [bytesOf_length]; omega)⟩), decide_eq_true rfl]
    rfl
  · rw [if_neg h0]
    have hne : ¬ (preP a c ∧ c.size = a.size) := by
      rintro ⟨⟨_, h2⟩, h3⟩
      rw [List.take_of_length_le (by rw [bytesOf_length]; omega)] at h2
      exact h0 (toList_inj.mpr (bytesOf_inj h2))
    by_cases h1 : c.size ≥ a.size
    · rw [if_pos (by omega), decide_eq_false (show ¬ preP a c from fun e => hne ⟨e, by have := e.1; omega⟩)]
      rfl
    · rw [if_neg (by omega), if_pos (by omega), if_pos (by omega), Int.toNat_natCast]
      by_cases h2 : (a.extract 0 c.size).toList = c.toList
      · have hp : preP a c := ⟨by omega, by
          have e := head_bytes a c
          rw [beq_iff_eq.mpr h2] at e
          exact of_decide_eq_true e.symm⟩
        rw [if_pos h2, decide_eq_true hp, decide_eq_false (show ¬ c.size = a.size by omega), Bool.true_and, Bool.false_or]
        unfold slashE
        by_cases h3 : 0 < c.size
        · have hw : wrap64 ((c.size : Int) - 1) = ((c.size - 1 : Nat) : Int) := by rw [w64 (by omega) (by omega)]; omega
          rw [hw, if_pos (by omega), if_pos (by omega), if_pos (by omega), decide_eq_true h3, Bool.true_and]
          by_cases h4 : bt c ((c.size - 1 : Nat) : Int) = 47
          · rw [if_pos h4, decide_eq_true h4]; rfl
          · rw [if_neg h4, decide_eq_false h4, Bool.false_or, if_pos (show (c.size : Int) < (a.size : Int) by omega), beq_dec]
        · rw [if_neg (show ¬ (c.size : Int) > 0 by omega), if_pos (show (c.size : Int) < (a.size : Int) by omega), decide_eq_false h3, Bool.false_and, Bool.false_or, beq_dec]
      · rw [if_neg h2, decide_eq_false (show ¬ preP a c from fun e => h2 (beq_iff_eq.mp (by rw [head_bytes]; exact decide_eq_true e.2)))]
        rfl

def liveB (ex now : Int) : Bool := decide (ex = 0) || decide (ex > now)
theorem live_f (d p n v : ByteArray) (c4 c5 ex : Int) (ho se ht : Bool) (ss t : Int) : cookie_Live.f d p n v c4 c5 ex ho se ht ss t = some (liveB ex t) := by
  unfold cookie_Live.f liveB
  by_cases h : ex = 0
  · rw [if_pos h, decide_eq_true h]; rfl
  · rw [if_neg h, decide_eq_false h, Bool.false_or]
theorem ref_live_f (d p n v : ByteArray) (c4 c5 ex : Int) (ho se ht : Bool) (ss t : Int) : cracknelref13_Live.f d p n v c4 c5 ex ho se ht ss t = some (liveB ex t) := by
  unfold cracknelref13_Live.f liveB
  by_cases h : ex = 0
  · rw [if_pos h, decide_eq_true h]; rfl
  · rw [if_neg h, decide_eq_false h, Bool.false_or]
def sendsB (d p : ByteArray) (ex : Int) (ho se us : Bool) (uh up : ByteArray) (now : Int) : Bool := liveB ex now && ((decide (bytesOf uh = bytesOf d) || (!ho && matchB uh d)) && (pathB up p && (us || !se)))
theorem sends_ev {d p n v : ByteArray} {c4 c5 ex : Int} {ho se ht : Bool} {ss : Int} {us : Bool} {uh up : ByteArray} {t : Int} (hd : d.size ≤ 500) (hp : p.size ≤ 500) (hu : uh.size ≤ 500) (hup : up.size ≤ 500) : Ev (fun k => cookie_Sends.f k d p n v c4 c5 ex ho se ht ss us uh up t) (sendsB d p ex ho se us uh up t) := by
  unfold cookie_Sends.f sendsB
  simp only [live_f, pathM_f (a := up) (c := p) (by omega) (by omega), Option.bind_some]
  by_cases h : uh.toList = d.toList
  · rw [decide_eq_true (toList_eq_iff.mp h)]
    refine ev_pos h ?_
    cases liveB ex t <;> cases pathB up p <;> cases us <;> cases se <;> exact ev_now _
  · rw [decide_eq_false fun e => h (toList_eq_iff.mpr e)]
    refine ev_neg h ?_
    cases ho with
    | true => exact ev_pos rfl (ev_eq (r := false) (by cases liveB ex t <;> exact ev_now _) (by cases liveB ex t <;> rfl))
    | false =>
      refine ev_neg (by decide) (ev_bind (match_ev (by omega) (by omega)) ?_)
      cases liveB ex t <;> cases matchB uh d <;> cases pathB up p <;> cases us <;> cases se <;> exact ev_now _
end Go.Proofs.YtpcakfldmcfhlaaDoor.Y
