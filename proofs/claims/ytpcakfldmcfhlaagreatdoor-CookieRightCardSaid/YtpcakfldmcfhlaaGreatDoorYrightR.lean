/- Which cookies may be, by the reference: the same plain function on texts and numbers. Texts have at most 500 bytes. -/
import Derived.Test.YtpcakfldmcfhlaaGreatDoorYright
import Derived.Test.YtpcakfldmcfhlaaGreatDoorPrint12
import Derived.Test.YtpcakfldmcfhlaaGreatDoorPrint9
import Derived.Test.YtpcakfldmcfhlaaGreatDoorPrint11
import Derived.Test.YtpcakfldmcfhlaaGreatDoorPrint11
import Derived.Test.YtpcakfldmcfhlaaGreatDoorPrint9
namespace Go.Proofs.YtpcakfldmcfhlaaGreatDoor.Y
set_option linter.unusedVariables false
set_option linter.unusedSimpArgs false
open Go.RowKit Go.Proofs.YtpcakfldmcfhlaaGreatDoor.Print Go.Proofs.YtpcakfldmcfhlaaGreatDoorW.PrintWords Go.Proofs.YtpcakfldmcfhlaaGreatDoorW.PrintLast Go.Proofs.YtpcakfldmcfhlaaGreatDoorW.PrintMore

theorem ref_name_f (s : ByteArray) (i : Int) : cracknelref01_name.f (bt s i) = some (tokC (bt s i)) := of_fin (P := fun c => cracknelref01_name.f c = some (tokC c)) (by decide +kernel) (bt_range s i).1 (bt_range s i).2
theorem ref_octet_f (s : ByteArray) (i : Int) : cracknelref01_octet.f (bt s i) = some (octC (bt s i)) := of_fin (P := fun c => cracknelref01_octet.f c = some (octC c)) (by decide +kernel) (bt_range s i).1 (bt_range s i).2
theorem ref_tok_loop (s : ByteArray) (hs : s.size ≤ 4294967296) (d : Nat) : ∀ i : Nat, i + d = s.size → Ev (fun k => cracknelref01_Token.l0 k s i) (decide ((s.size : Int) > 0) && ((bytesOf s).drop i).all tokC) := by
  induction d with
  | zero =>
    intro i hi
    apply ev_succ
    simp only [cracknelref01_Token.l0]
    exact ev_neg (by omega) (ev_eq (ev_now _) (by rw [List.drop_eq_nil_of_le (by rw [bytesOf_length]; omega)]; simp))
  | succ d ih =>
    intro i hi
    apply ev_succ
    simp only [cracknelref01_Token.l0, ref_name_f]
    have hw : wrap64 ((i : Int) + 1) = ((i + 1 : Nat) : Int) := by rw [w64 (by omega) (by omega)]; omega
    rw [hw]
    refine ev_pos (by omega) (ev_pos (by omega) (ev_bind (ev_now _) ?_))
    rcases drop_cases s (i := i) (by omega) with ⟨h1, _⟩ | ⟨h1, h2⟩
    · omega
    · rw [h2, List.all_cons]
      by_cases hc : tokC (bt s i) = true
      · exact ev_pos hc (ev_eq (ih (i + 1) (by omega)) (by rw [hc]; simp))
      · exact ev_neg hc (ev_eq (ev_now _) (by rw [Bool.not_eq_true] at hc; rw [hc]; simp))
theorem ref_oct_loop (s : ByteArray) (hs : s.size ≤ 4294967296) (d : Nat) : ∀ i : Nat, i + d = s.size → Ev (fun k => cracknelref01_Octets.l0 k s i) (((bytesOf s).drop i).all octC) := by
  induction d with
  | zero =>
    intro i hi
    apply ev_succ
    simp only [cracknelref01_Octets.l0]
    exact ev_neg (by omega) (ev_eq (ev_now _) (by rw [List.drop_eq_nil_of_le (by rw [bytesOf_length]; omega)]; simp))
  | succ d ih =>
    intro i hi
    apply ev_succ
    simp only [cracknelref01_Octets.l0, ref_octet_f]
    have hw : wrap64 ((i : Int) + 1) = ((i + 1 : Nat) : Int) := by rw [w64 (by omega) (by omega)]; omega
    rw [hw]
    refine ev_pos (by omega) (ev_pos (by omega) (ev_bind (ev_now _) ?_))
    rcases drop_cases s (i := i) (by omega) with ⟨h1, _⟩ | ⟨h1, h2⟩
    · omega
    · rw [h2, List.all_cons]
      by_cases hc : octC (bt s i) = true
      · exact ev_pos hc (ev_eq (ih (i + 1) (by omega)) (by rw [hc]; simp))
      · exact ev_neg hc (ev_eq (ev_now _) (by rw [Bool.not_eq_true] at hc; rw [hc]; simp))
theorem plainC_iff (c : Int) : plainC c = decide (¬ c < 33 ∧ ¬ c > 126 ∧ ¬ c = 59) := by
  unfold plainC
  rw [Bool.eq_iff_iff]
  simp only [Bool.and_eq_true, Bool.not_eq_true', decide_eq_true_iff, decide_eq_false_iff_not]
  omega
theorem ref_plain_loop (s : ByteArray) (hs : s.size ≤ 4294967296) (d : Nat) : ∀ i : Nat, i + d = s.size → Ev (fun k => cracknelref01_Plain.l0 k s i) (((bytesOf s).drop i).all plainC) := by
  induction d with
  | zero =>
    intro i hi
    apply ev_succ
    simp only [cracknelref01_Plain.l0]
    exact ev_neg (by omega) (ev_eq (ev_now _) (by rw [List.drop_eq_nil_of_le (by rw [bytesOf_length]; omega)]; simp))
  | succ d ih =>
    intro i hi
    apply ev_succ
    simp only [cracknelref01_Plain.l0]
    have hw : wrap64 ((i : Int) + 1) = ((i + 1 : Nat) : Int) := by rw [w64 (by omega) (by omega)]; omega
    rw [hw]
    refine ev_pos (by omega) (ev_pos (by omega) ?_)
    rcases drop_cases s (i := i) (by omega) with ⟨h1, _⟩ | ⟨h1, h2⟩
    · omega
    · rw [h2, List.all_cons, plainC_iff]
      by_cases h3 : bt s i < 33
      · exact ev_pos h3 (ev_eq (ev_now _) (by rw [decide_eq_false (by omega)]; rfl))
      · refine ev_neg h3 ?_
        by_cases h4 : bt s i > 126
        · exact ev_pos h4 (ev_eq (ev_now _) (by rw [decide_eq_false (by omega)]; rfl))
        · refine ev_neg h4 ?_
          by_cases h5 : bt s i = 59
          · exact ev_pos h5 (ev_eq (ev_now _) (by rw [decide_eq_false (by omega)]; rfl))
          · exact ev_neg h5 (ev_eq (ih (i + 1) (by omega)) (by rw [decide_eq_true ⟨h3, h4, h5⟩]; rfl))
theorem ref_tok_ev {s : ByteArray} (hs : s.size ≤ 500) : Ev (fun k => cracknelref01_Token.f k s) (tokR s) := by
  have h := ref_tok_loop s (by omega) s.size 0 (by omega)
  have e : decide ((s.size : Int) > 0) = !decide (s.toList = ([] : List UInt8)) := by
    rw [Bool.eq_iff_iff, Bool.not_eq_true', decide_eq_true_iff, decide_eq_false_iff_not]
    have hl : s.toList.length = s.size := by rw [toList_data, Array.length_toList]; rfl
    constructor
    · intro h0 h1
      rw [h1] at hl
      simp at hl
      omega
    · intro h0
      have : s.toList.length ≠ 0 := fun z => h0 (List.eq_nil_of_length_eq_zero z)
      omega
  unfold tokR
  rw [← e]
  simpa [cracknelref01_Token.f] using h
theorem ref_oct_ev {s : ByteArray} (hs : s.size ≤ 500) : Ev (fun k => cracknelref01_Octets.f k s) (octR s) := by
  have h := ref_oct_loop s (by omega) s.size 0 (by omega)
  simpa [cracknelref01_Octets.f, octR] using h
theorem ref_plain_ev {s : ByteArray} (hs : s.size ≤ 500) : Ev (fun k => cracknelref01_Plain.f k s) (plainR s) := by
  have h := ref_plain_loop s (by omega) s.size 0 (by omega)
  simpa [cracknelref01_Plain.f, plainR] using h
theorem ref_pathR_ev {p : ByteArray} (h : p.size ≤ 500) : Ev (fun k => cracknelref12_Right.f k p) (pathR p) := by
  unfold cracknelref12_Right.f pathR
  by_cases h1 : (p.size : Int) ≥ 1
  · refine ev_pos h1 ?_
    by_cases h2 : (p.size : Int) ≤ 64
    · refine ev_pos h2 (ev_pos (by omega) ?_)
      by_cases h3 : bt p 0 = 47
      · exact ev_pos h3 (ev_bind (ref_plain_ev h) (ev_eq (ev_now _) (by rw [decide_eq_true h1, decide_eq_true h2, decide_eq_true h3]; rfl)))
      · exact ev_neg h3 (ev_eq (ev_now _) (by rw [decide_eq_false h3]; simp))
    · exact ev_neg h2 (ev_eq (ev_now _) (by rw [decide_eq_false h2]; simp))
  · exact ev_neg h1 (ev_eq (ev_now _) (by rw [decide_eq_false h1]; simp))
theorem rest_iff (c4 c5 c6 ss : Int) : (timesR c4 c5 c6 && (decide (ss ≥ 0) && decide (ss ≤ 3))) = decide (¬ c4 < 0 ∧ ¬ c4 > 253402300799 ∧ ¬ c5 < 0 ∧ ¬ c5 > 253402300799 ∧ ¬ c6 < 0 ∧ ¬ c6 > 253402300799 ∧ ss ≥ 0 ∧ ss ≤ 3) := by
  unfold timesR inN
  rw [Bool.eq_iff_iff]
  simp only [Bool.and_eq_true, decide_eq_true_iff]
  omega
theorem ref_cookR_ev {d p n v : ByteArray} {c4 c5 c6 : Int} {ho se ht : Bool} {ss : Int} (hd : d.size ≤ 500) (hp : p.size ≤ 500) (hn : n.size ≤ 500) (hv : v.size ≤ 500) : Ev (fun k => cracknelref13_Right.f k d p n v c4 c5 c6 ho se ht ss) (rightB d p n v c4 c5 c6 ho ss) := by
  have j1 : ∀ x : Bool, Ev (fun k => cracknelref13_Right.j1 k x d p n v c4 c5 c6 ho se ht ss) (!x && (timesR c4 c5 c6 && (decide (ss ≥ 0) && decide (ss ≤ 3)))) := by
    intro x
    apply ev_succ
    simp only [cracknelref13_Right.j1]
    cases x with
    | true => exact ev_pos rfl (ev_now _)
    | false =>
      refine ev_neg (by decide) ?_
      rw [rest_iff, Bool.not_false, Bool.true_and]
      by_cases h1 : c4 < 0
      · exact ev_pos h1 (ev_eq (ev_now _) (decide_eq_false (by omega)).symm)
      refine ev_neg h1 ?_
      by_cases h2 : c4 > 253402300799
      · exact ev_pos h2 (ev_eq (ev_now _) (decide_eq_false (by omega)).symm)
      refine ev_neg h2 ?_
      by_cases h3 : c5 < 0
      · exact ev_pos h3 (ev_eq (ev_now _) (decide_eq_false (by omega)).symm)
      refine ev_neg h3 ?_
      by_cases h4 : c5 > 253402300799
      · exact ev_pos h4 (ev_eq (ev_now _) (decide_eq_false (by omega)).symm)
      refine ev_neg h4 ?_
      by_cases h5 : c6 < 0
      · exact ev_pos h5 (ev_eq (ev_now _) (decide_eq_false (by omega)).symm)
      refine ev_neg h5 ?_
      by_cases h6 : c6 > 253402300799
      · exact ev_pos h6 (ev_eq (ev_now _) (decide_eq_false (by omega)).symm)
      refine ev_neg h6 ?_
      by_cases h7 : ss ≥ 0
      · refine ev_pos h7 (ev_eq (ev_now _) ?_)
        rw [Bool.eq_iff_iff, decide_eq_true_iff, decide_eq_true_iff]
        omega
      · exact ev_neg h7 (ev_eq (ev_now _) (decide_eq_false (by omega)).symm)
  have j0 : ∀ x : Bool, Ev (fun k => cracknelref13_Right.j0 k x d p n v c4 c5 c6 ho se ht ss) (!x && midR p n v c4 c5 c6 ss) := by
    intro x
    apply ev_succ
    simp only [cracknelref13_Right.j0]
    unfold midR lastR
    cases x with
    | true => exact ev_pos rfl (ev_now _)
    | false =>
      refine ev_neg (by decide) (ev_bind (ref_pathR_ev hp) ?_)
      by_cases h1 : pathR p = true
      · refine ev_pos h1 (ev_bind (ref_tok_ev hn) ?_)
        by_cases h2 : tokR n = true
        · refine ev_pos h2 ?_
          by_cases h3 : (n.size : Int) > 64
          · exact ev_pos h3 (ev_eq (j1 true) (by rw [decide_eq_true h3]; simp))
          · refine ev_neg h3 (ev_bind (ref_oct_ev hv) ?_)
            by_cases h4 : octR v = true
            · exact ev_pos h4 (ev_eq (j1 _) (by rw [h1, h2, h4, decide_eq_false h3]; simp))
            · exact ev_neg h4 (ev_eq (j1 true) (by rw [Bool.not_eq_true] at h4; rw [h4]; simp))
        · exact ev_neg h2 (ev_eq (j1 true) (by rw [Bool.not_eq_true] at h2; rw [h2]; simp))
      · exact ev_neg h1 (ev_eq (j1 true) (by rw [Bool.not_eq_true] at h1; rw [h1]; simp))
  unfold cracknelref13_Right.f rightB
  refine ev_bind (ref_canon_ev (by omega)) ?_
  by_cases h1 : (canonB d).2 = true
  · refine ev_pos h1 ?_
    by_cases h2 : (canonB d).1.toList = d.toList
    · have h3 := toList_inj.mp h2
      refine ev_pos h2 (ev_bind (ref_ip_ev (by omega)) ?_)
      rw [h3, h1, decide_eq_true rfl]
      by_cases h4 : ipB d = true
      · exact ev_pos h4 (ev_eq (j0 _) (by rw [h4]; simp))
      · exact ev_neg h4 (ev_eq (j0 _) (by rw [Bool.not_eq_true] at h4; rw [h4]; simp))
    · refine ev_neg h2 (ev_eq (j0 true) ?_)
      rw [decide_eq_false (fun e => h2 (toList_eq_iff.mpr e))]
      simp
  · refine ev_neg h1 (ev_eq (j0 true) ?_)
    rw [Bool.not_eq_true] at h1
    rw [h1]
    simp
end Go.Proofs.YtpcakfldmcfhlaaGreatDoor.Y
