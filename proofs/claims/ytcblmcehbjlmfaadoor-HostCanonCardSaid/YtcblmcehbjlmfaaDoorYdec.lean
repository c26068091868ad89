/- What the functions of layer 2 (dec), and its reference, tell: digits of numbers, as plain functions on lists of bytes, and that the printed ones come to them. The numbers are of 64 bits, the texts no longer than a row may be. -/
import Derived.Test.YtcblmcehbjlmfaaDoorYa
import Derived.Test.YtcblmcehbjlmfaaDoorPrintF
import Derived.Lib.AtoiAll
import Derived.Lib.AtoiAllCases
import Derived.Lib.ItoaNum
namespace Go.Proofs.YtcblmcehbjlmfaaDoor.Y
set_option linter.unusedVariables false
set_option linter.unusedSimpArgs false
open Go.RowKit Go.Proofs.YtcblmcehbjlmfaaDoor.Print Go.Proofs.YtcblmcehbjlmfaaDoorW.PrintWords Go.Proofs.YtcblmcehbjlmfaaDoorW.PrintLast Go.Proofs.YtcblmcehbjlmfaaDoorW.PrintMore

/-! ### digits -/
def dd (n : Nat) : List Int := if n < 10 then [48 + (n : Int)] else dd (n / 10) ++ [48 + ((n % 10 : Nat) : Int)]
termination_by n
decreasing_by omega
theorem dd_lt {n : Nat} (h : n < 10) : dd n = [48 + (n : Int)] := by rw [dd, if_pos h]
theorem dd_ge {n : Nat} (h : ¬ n < 10) : dd n = dd (n / 10) ++ [48 + ((n % 10 : Nat) : Int)] := by rw [dd, if_neg h]
theorem dd_range (n : Nat) : ∀ x ∈ dd n, 48 ≤ x ∧ x ≤ 57 := by
  induction n using Nat.strongRecOn with
  | _ n ih =>
    intro x hx
    by_cases h : n < 10
    · rw [dd_lt h] at hx
      simp only [List.mem_singleton] at hx
      omega
    · rw [dd_ge h] at hx
      rcases List.mem_append.mp hx with e | e
      · exact ih (n / 10) (by omega) x e
      · simp only [List.mem_singleton] at e
        omega
theorem dd_pos (n : Nat) : 0 < (dd n).length := by rw [dd]; split <;> simp
theorem dd_len (j : Nat) : ∀ n : Nat, (dd n).length ≤ j + 1 ↔ n < 10 ^ (j + 1) := by
  induction j with
  | zero =>
    intro n
    by_cases h : n < 10
    · rw [dd_lt h]; simp [h]
    · rw [dd_ge h]
      have := dd_pos (n / 10)
      simp only [List.length_append, List.length_singleton]
      omega
  | succ j ih =>
    intro n
    by_cases h : n < 10
    · rw [dd_lt h]
      have : 10 ^ 1 ≤ 10 ^ (j + 1 + 1) := Nat.pow_le_pow_right (by decide) (by omega)
      simp only [List.length_singleton]
      omega
    · rw [dd_ge h]
      have := ih (n / 10)
      simp only [List.length_append, List.length_singleton]
      rw [Nat.pow_succ]
      omega
theorem dd_bytes (n : Nat) : ∀ x ∈ dd n, 0 ≤ x ∧ x < 256 := fun x hx => by have := dd_range n x hx; omega
theorem dd_decDigits (n : Nat) : (Lib.decDigits n).map (fun b => (b.toNat : Int)) = dd n := by
  induction n using Nat.strongRecOn with
  | _ n ih =>
    by_cases h : n < 10
    · rw [Lib.decDigits, dif_pos h, dd_lt h]
      simp only [List.map_cons, List.map_nil, UInt8.toNat_ofNat']
      congr 1
      omega
    · rw [Lib.decDigits, dif_neg h, dd_ge h, List.map_append, ih (n / 10) (by omega)]
      simp only [List.map_cons, List.map_nil, UInt8.toNat_ofNat']
      congr 2
      omega
def itoaL (n : Int) : List Int := if n < 0 then 45 :: dd n.natAbs else dd n.toNat
theorem itoaL_range (n : Int) : ∀ x ∈ itoaL n, 0 ≤ x ∧ x < 256 := by
  intro x hx
  unfold itoaL at hx
  split at hx
  · rcases List.mem_cons.mp hx with e | e
    · omega
    · exact dd_bytes _ x e
  · exact dd_bytes _ x hx
theorem bytesOf_itoa (n : Int) : bytesOf (itoaB n) = itoaL n := by
  show ((Lib.itoa n).toArray.toList.map fun b => (b.toNat : Int)) = itoaL n
  rw [List.toList_toArray]
  unfold Lib.itoa itoaL
  split
  · rw [List.map_cons, dd_decDigits]; rfl
  · rw [dd_decDigits]
theorem itoaB_eq (n : Int) : itoaB n = strOfNums (itoaL n) := bytesOf_inj (by rw [bytesOf_itoa, bytesOf_str (itoaL_range n)])
theorem itoa_list {s : ByteArray} {n : Int} (h : bytesOf s = itoaL n) : s.data.toList = Lib.itoa n := by
  have : s = itoaB n := bytesOf_inj (by rw [h, bytesOf_itoa])
  rw [this]
  show (Lib.itoa n).toArray.toList = _
  rw [List.toList_toArray]
theorem itoaL_len {n : Int} (h0 : -9223372036854775808 ≤ n) (h1 : n ≤ 9223372036854775807) : (itoaL n).length ≤ 20 := by
  have e : (10 : Nat) ^ (18 + 1) = 10000000000000000000 := by decide
  unfold itoaL
  split
  · have := (dd_len 18 n.natAbs).mpr (by omega)
    simp only [List.length_cons]
    omega
  · have := (dd_len 18 n.toNat).mpr (by omega)
    omega

/-! ### the number of digits -/
def valD : List Int → Nat → Option Nat
  | [], a => some a
  | c :: l, a => if 48 ≤ c ∧ c ≤ 57 then valD l (10 * a + (c - 48).toNat) else none
theorem valD_append (l m : List Int) : ∀ a, valD (l ++ m) a = (valD l a).bind (valD m) := by
  induction l with
  | nil => intro a; rfl
  | cons c l ih =>
    intro a
    simp only [List.cons_append, valD]
    split
    · exact ih _
    · rfl
theorem valD_snoc {l : List Int} {c : Int} {a : Nat} (hc : 48 ≤ c ∧ c ≤ 57) : valD (l ++ [c]) a = (valD l a).map fun m => 10 * m + (c - 48).toNat := by
  rw [valD_append]
  cases valD l a with
  | none => rfl
  | some m => simp only [Option.bind_some, Option.map_some, valD, if_pos hc]
theorem valD_dd (n : Nat) : valD (dd n) 0 = some n := by
  induction n using Nat.strongRecOn with
  | _ n ih =>
    by_cases h : n < 10
    · rw [dd_lt h]
      simp only [valD]
      rw [if_pos (by omega)]
      congr 1
      omega
    · rw [dd_ge h, valD_snoc (by omega), ih (n / 10) (by omega), Option.map_some]
      congr 1
      omega
theorem dd_inj {a b : Nat} (h : dd a = dd b) : a = b := by
  have := valD_dd a
  rw [h, valD_dd] at this
  exact (Option.some.inj this).symm
theorem dd_head {n : Nat} {c : Int} {l : List Int} (h : dd n = c :: l) : 48 ≤ c ∧ c ≤ 57 := dd_range n c (by rw [h]; exact List.mem_cons_self ..)
theorem itoaL_inj {a b : Int} (h : itoaL a = itoaL b) : a = b := by
  unfold itoaL at h
  by_cases ha : a < 0 <;> by_cases hb : b < 0
  · rw [if_pos ha, if_pos hb] at h
    have := dd_inj (List.cons.inj h).2
    omega
  · rw [if_pos ha, if_neg hb] at h
    have := dd_head h.symm
    omega
  · rw [if_neg ha, if_pos hb] at h
    have := dd_head h
    omega
  · rw [if_neg ha, if_neg hb] at h
    have := dd_inj h
    omega

/-! ### Read -/
def InI (n : Int) : Prop := -9223372036854775808 ≤ n ∧ n ≤ 9223372036854775807
theorem parse_append (a b : List UInt8) : ∀ (acc u : Nat), Lib.parseUint10 acc a = .ok u → Lib.parseUint10 acc (a ++ b) = Lib.parseUint10 u b := by
  induction a with
  | nil =>
    intro acc u h
    simp only [Lib.parseUint10] at h
    injection h with h
    rw [h]; rfl
  | cons c a ih =>
    intro acc u h
    simp only [Lib.parseUint10, List.cons_append] at h ⊢
    split at h
    · rename_i h1
      rw [if_pos h1]
      split at h
      · cases h
      · rename_i h2
        rw [if_neg h2]
        split at h
        · cases h
        · rename_i h3
          rw [if_neg h3]
          exact ih _ _ h
    · cases h
theorem parse_dec (u : Nat) : u < 18446744073709551616 → Lib.parseUint10 0 (Lib.decDigits u) = .ok u := by
  induction u using Nat.strongRecOn with
  | _ u ih =>
    intro hu
    by_cases h : u < 10
    · rw [Lib.decDigits, dif_pos h]
      have e : (UInt8.ofNat (48 + u)).toNat = 48 + u := by rw [UInt8.toNat_ofNat']; omega
      simp only [Lib.parseUint10, e]
      rw [if_pos (by omega), if_neg (by omega), if_neg (by omega)]
      congr 1
      omega
    · have e : (UInt8.ofNat (48 + u % 10)).toNat = 48 + u % 10 := by rw [UInt8.toNat_ofNat']; omega
      rw [Lib.decDigits, dif_neg h, parse_append _ _ _ _ (ih (u / 10) (by omega) (by omega))]
      simp only [Lib.parseUint10, e]
      rw [if_pos (by omega), if_neg (by omega), if_neg (by omega)]
      congr 1
      omega
theorem dec_head (u : Nat) : ∃ c r, Lib.decDigits u = c :: r ∧ c.toNat ≠ 43 ∧ c.toNat ≠ 45 := by
  have h := dd_decDigits u
  cases hd : Lib.decDigits u with
  | nil =>
    rw [hd] at h
    have := dd_pos u
    rw [← h] at this
    simp at this
  | cons c r =>
    rw [hd, List.map_cons] at h
    have := dd_head h.symm
    exact ⟨c, r, rfl, by omega, by omega⟩
theorem parseMag_dec {u : Nat} (hu : u < 18446744073709551616) : Lib.parseMag (Lib.decDigits u) = .ok u := by
  obtain ⟨c, r, e, _⟩ := dec_head u
  unfold Lib.parseMag
  rw [if_neg (by rw [e]; simp), parse_dec u hu]
theorem atoi_itoa {n : Int} (h : InI n) : Lib.atoiAll (Lib.itoa n) = .ok n := by
  obtain ⟨h0, h1⟩ := h
  unfold Lib.itoa
  by_cases hn : n < 0
  · rw [if_pos hn, Lib.atoiAll_minus, parseMag_dec (by omega)]
    simp only [Lib.signed]
    rw [if_neg (by omega)]
    congr 1
    omega
  · rw [if_neg hn]
    obtain ⟨c, r, e, h43, h45⟩ := dec_head n.toNat
    have hp := parseMag_dec (u := n.toNat) (by omega)
    rw [e] at hp ⊢
    rw [Lib.atoiAll_plain c r h43 h45, hp]
    simp only [Lib.signless]
    rw [if_neg (by omega)]
    congr 1
    omega
theorem atoi_in {l : List UInt8} {v : Int} (h : Lib.atoiAll l = .ok v) : InI v := by
  unfold Lib.atoiAll at h
  cases l with
  | nil => cases h
  | cons c r =>
    simp only at h
    split at h
    · cases h
    · cases h
    · rename_i u hu
      have := Lib.parseMag_lt hu
      split at h
      · cases h
      · split at h
        · cases h
        · rename_i h1 h2
          injection h with h
          rw [← h]
          unfold InI
          split <;> omega
theorem readB_yes {s : ByteArray} {n : Int} (h : InI n) (hs : bytesOf s = itoaL n) : readB s = (n, true) := by
  have hl := itoaL_len h.1 h.2
  rw [← hs, bytesOf_length] at hl
  have e := itoa_list hs
  have hb : (itoaB n).toList = s.toList := by rw [toList_eq_iff, bytesOf_itoa, hs]
  unfold readB
  rw [if_neg (by omega), e, atoi_itoa h]
  simp only [hb, if_true]
theorem readB_cases (s : ByteArray) : (∃ n, InI n ∧ bytesOf s = itoaL n ∧ readB s = (n, true)) ∨ ((∀ n, InI n → bytesOf s ≠ itoaL n) ∧ readB s = (0, false)) := by
  by_cases h : ∃ n, InI n ∧ bytesOf s = itoaL n
  · obtain ⟨n, h1, h2⟩ := h
    exact .inl ⟨n, h1, h2, readB_yes h1 h2⟩
  · refine .inr ⟨fun n h1 h2 => h ⟨n, h1, h2⟩, ?_⟩
    unfold readB
    split
    · rfl
    · split
      · rename_i v hv
        split
        · rename_i hb
          rw [toList_eq_iff, bytesOf_itoa] at hb
          exact absurd ⟨v, atoi_in hv, hb.symm⟩ h
        · rfl
      · rfl

/-! ### Print -/
theorem print_f {n : Int} (h : InI n) : dec_Print.f n = some (itoaB n) := by
  exact print_in n h
theorem ref_digits_loop (n : Nat) : ∀ x : ByteArray, n < 18446744073709551616 → x.size + (dd n).length ≤ 9223372036854775807 → Ev (fun k => cracknelref02_digits.l0 k n x) (strOfNums (dd n ++ bytesOf x)) := by
  induction n using Nat.strongRecOn with
  | _ n ih =>
    intro x hn hl
    apply ev_succ
    simp only [cracknelref02_digits.l0]
    by_cases h : n < 10
    · rw [dd_lt h] at hl ⊢
      simp only [List.length_singleton] at hl
      refine ev_neg (by omega) ?_
      simp only [Option.bind_some]
      refine ev_pos (by rw [strOfNums_size]; simp only [List.length_singleton]; omega) (ev_eq (ev_now _) ?_)
      rw [u64_id (by omega) (by omega), show (48 + (n : Int)) % 256 = 48 + (n : Int) by omega]
      apply bytesOf_inj
      rw [bytesOf_append, bytesOf_str (by simp; omega), bytesOf_str]
      intro y hy
      rcases List.mem_append.mp hy with e | e
      · simp only [List.mem_singleton] at e; omega
      · exact bytesOf_range e
    · rw [dd_ge h] at hl ⊢
      simp only [List.length_append, List.length_singleton] at hl
      refine ev_pos (by omega) ?_
      simp only [Option.bind_some]
      rw [show Int.tmod (n : Int) 10 = ((n % 10 : Nat) : Int) by rw [Int.tmod_eq_emod_of_nonneg (by omega)]; omega, u64_id (by omega) (by omega), show Int.tdiv (n : Int) 10 = ((n / 10 : Nat) : Int) by rw [Int.tdiv_eq_ediv_of_nonneg (by omega)]; omega, u64_id (by omega) (by omega),
        show (48 + ((n % 10 : Nat) : Int)) % 256 = 48 + ((n % 10 : Nat) : Int) by omega]
      refine ev_pos (by rw [strOfNums_size]; simp only [List.length_singleton]; omega) (ev_eq (ih (n / 10) (by omega) _ (by omega) (by rw [ByteArray.size_append, strOfNums_size]; simp only [List.length_singleton]; omega)) ?_)
      rw [bytesOf_append, bytesOf_str (by simp; omega), List.append_assoc]
theorem ref_digits_ev {n : Nat} (hn : n < 18446744073709551616) : Ev (fun k => cracknelref02_digits.f k n) (strOfNums (dd n)) := by
  have e : (10 : Nat) ^ (19 + 1) = 100000000000000000000 := by decide
  have := (dd_len 19 n).mpr (by omega)
  simp only [cracknelref02_digits.f]
  refine ev_eq (ref_digits_loop n _ hn (by simp only [show (⟨#[]⟩ : ByteArray).size = 0 from rfl]; omega)) ?_
  rw [bytesOf_empty, List.append_nil]
theorem ref_print_ev {n : Int} (h : InI n) : Ev (fun k => cracknelref02_Print.f k n) (itoaB n) := by
  obtain ⟨h0, h1⟩ := h
  rw [itoaB_eq]
  unfold itoaL
  simp only [cracknelref02_Print.f]
  by_cases hn : n < 0
  · rw [if_pos hn]
    have e : (10 : Nat) ^ (18 + 1) = 10000000000000000000 := by decide
    have hl := (dd_len 18 n.natAbs).mpr (by omega)
    refine ev_pos hn ?_
    rw [w64 (n := n + 1) (by omega) (by omega), w64 (n := -(n + 1)) (by omega) (by omega), u64_id (n := -(n + 1)) (by omega) (by omega), u64_id (n := -(n + 1) + 1) (by omega) (by omega), show -(n + 1) + 1 = (n.natAbs : Int) by omega]
    refine ev_bind (ref_digits_ev (by omega)) (ev_pos (by rw [strOfNums_size]; omega) (ev_eq (ev_now _) ?_))
    apply bytesOf_inj
    rw [bytesOf_append, bytesOf_str (dd_bytes _), bytesOf_str]
    · rfl
    · intro x hx
      rcases List.mem_cons.mp hx with e | e
      · omega
      · exact dd_bytes _ x e
  · rw [if_neg hn]
    refine ev_neg hn ?_
    rw [u64_id (by omega) (by omega), show n = (n.toNat : Int) by omega, Int.toNat_natCast]
    exact ev_bind (ref_digits_ev (by omega)) (ev_now _)

/-! ### value -/
def valB (s : ByteArray) : Int × Bool := match valD (bytesOf s) 0 with
  | some n => (n, true)
  | none => (0, false)
theorem ref_value_loop (s : ByteArray) (hs : s.size ≤ 19) (d : Nat) : ∀ (i acc : Nat), i + d = s.size → acc < 10 ^ i → Ev (fun k => cracknelref02_value.l0 k s acc i) (match valD ((bytesOf s).drop i) acc with | some n => ((n : Int), true) | none => (0, false)) := by
  induction d with
  | zero =>
    intro i acc hi ha
    apply ev_succ
    simp only [cracknelref02_value.l0]
    rw [List.drop_eq_nil_of_le (by rw [bytesOf_length]; omega)]
    exact ev_neg (by omega) (ev_now _)
  | succ d ih =>
    intro i acc hi ha
    apply ev_succ
    simp only [cracknelref02_value.l0]
    rcases drop_cases s (show i ≤ s.size by omega) with ⟨e, _⟩ | ⟨hlt, hd⟩
    · omega
    rw [hd]
    obtain ⟨b0, b1⟩ := bt_range s i
    generalize bt s i = c at *
    have h18 : (10 : Nat) ^ i ≤ 10 ^ 18 := Nat.pow_le_pow_right (by decide) (by omega)
    have e18 : (10 : Nat) ^ 18 = 1000000000000000000 := by decide
    refine ev_pos (by omega) (ev_pos (by omega) ?_)
    simp only [valD]
    by_cases h1 : c < 48
    · rw [if_neg (by omega)]
      exact ev_pos h1 (ev_now _)
    by_cases h2 : c > 57
    · rw [if_neg (by omega)]
      exact ev_neg h1 (ev_pos h2 (ev_now _))
    rw [if_pos (by omega)]
    refine ev_neg h1 (ev_neg h2 ?_)
    rw [u64_id (n := 10 * (acc : Int)) (by omega) (by omega), u64_id b0 (by omega), u64_id (n := 10 * (acc : Int) + c) (by omega) (by omega), u64_id (n := 10 * (acc : Int) + c - 48) (by omega) (by omega), w64 (n := (i : Int) + 1) (by omega) (by omega),
      show 10 * (acc : Int) + c - 48 = ((10 * acc + (c - 48).toNat : Nat) : Int) by omega, show (i : Int) + 1 = ((i + 1 : Nat) : Int) by omega]
    exact ih (i + 1) _ (by omega) (by rw [Nat.pow_succ]; omega)
theorem ref_value_ev (s : ByteArray) {most : Int} (hm : most ≤ 19) : Ev (fun k => cracknelref02_value.f k s most) (if 1 ≤ s.size ∧ (s.size : Int) ≤ most then valB s else (0, false)) := by
  simp only [cracknelref02_value.f]
  by_cases h1 : (s.size : Int) < 1
  · rw [if_neg (by omega)]
    refine ev_pos h1 (ev_succ ?_)
    simp only [cracknelref02_value.j0]
    exact ev_pos (by trivial) (ev_now _)
  · refine ev_neg h1 (ev_succ ?_)
    simp only [cracknelref02_value.j0]
    by_cases h2 : (s.size : Int) > most
    · rw [if_neg (by omega), decide_eq_true h2]
      exact ev_pos rfl (ev_now _)
    · rw [if_pos (by omega), decide_eq_false h2]
      refine ev_neg (by simp) ?_
      have := ref_value_loop s (by omega) s.size 0 0 (by omega) (by decide)
      unfold valB
      simpa using this
theorem valB_dd {s : ByteArray} {n : Nat} (h : bytesOf s = dd n) : valB s = ((n : Int), true) := by
  unfold valB
  rw [h, valD_dd]
theorem size_of {s : ByteArray} {l : List Int} (h : bytesOf s = l) : s.size = l.length := by rw [← bytesOf_length, h]
theorem ref_print_test {n : Int} (h : InI n) {s : ByteArray} : (∀ m, InI m → bytesOf s ≠ itoaL m) → Ev (fun k => (cracknelref02_Print.f k n).bind fun t => if t.toList = s.toList then some (n, true) else some ((0 : Int), false)) ((0 : Int), false) := by
  intro hno
  refine ev_bind (ref_print_ev h) (ev_neg ?_ (ev_now _))
  rw [toList_eq_iff, bytesOf_itoa]
  exact fun e => hno n h e.symm
theorem ref_print_yes {n : Int} (h : InI n) {s : ByteArray} (hs : bytesOf s = itoaL n) : Ev (fun k => (cracknelref02_Print.f k n).bind fun t => if t.toList = s.toList then some (n, true) else some ((0 : Int), false)) (n, true) := by
  refine ev_bind (ref_print_ev h) (ev_pos ?_ (ev_now _))
  rw [toList_eq_iff, bytesOf_itoa, hs]
theorem valB_range {s : ByteArray} {n : Int} {b : Bool} (hs : s.size ≤ 19) (h : valB s = (n, b)) : 0 ≤ n ∧ n < 10000000000000000000 := by
  have hv := ev_unique (ref_value_ev s (most := 19) (by omega)) (ref_value_ev s (most := 19) (by omega))
  have key : ∀ (l : List Int) (a m : Nat), valD l a = some m → m < (a + 1) * 10 ^ l.length := by
    intro l
    induction l with
    | nil => intro a m h; simp only [valD] at h; have := Option.some.inj h; simp; omega
    | cons c l ih =>
      intro a m h
      simp only [valD] at h
      split at h
      · have := ih _ _ h
        rw [List.length_cons, Nat.pow_succ]
        have h2 : (10 * a + (c - 48).toNat + 1) * 10 ^ l.length ≤ (a + 1) * 10 * 10 ^ l.length := Nat.mul_le_mul_right _ (by omega)
        rw [Nat.mul_comm (10 ^ l.length) 10, ← Nat.mul_assoc]
        omega
      · cases h
  unfold valB at h
  cases hm : valD (bytesOf s) 0 with
  | none => rw [hm] at h; simp only [Prod.mk.injEq] at h; omega
  | some m =>
    rw [hm] at h
    simp only [Prod.mk.injEq] at h
    have := key _ _ _ hm
    rw [bytesOf_length] at this
    have h2 : (10 : Nat) ^ s.size ≤ 10 ^ 19 := Nat.pow_le_pow_right (by decide) hs
    have e : (10 : Nat) ^ 19 = 10000000000000000000 := by decide
    omega

theorem ref_read_ev {s : ByteArray} (hs : s.size ≤ 140737488351232) : Ev (fun k => cracknelref02_Read.f k s) (readB s) := by
  have hneg : ∀ x4 : Int, 1 ≤ x4 → x4 ≤ 9223372036854775808 → wrap64 (wrap64 (-(wrap64 (IntKind.u64.wrap (x4 - 1)))) - 1) = -x4 ∧ InI (-x4) := by
    intro x4 h1 h2
    rw [u64_id (by omega) (by omega), w64 (n := x4 - 1) (by omega) (by omega), w64 (n := -(x4 - 1)) (by omega) (by omega), w64 (by omega) (by omega)]
    exact ⟨by omega, by unfold InI; omega⟩
  have main : ∀ b : Bool, (b = true → 0 < s.size ∧ bt s 0 = 45) → (b = false → 0 < s.size → bt s 0 ≠ 45) → Ev (fun k => cracknelref02_Read.j0 k s b) (readB s) := by
    intro b hb1 hb2
    apply ev_succ
    simp only [cracknelref02_Read.j0]
    cases b with
    | true =>
      obtain ⟨hpos, h45⟩ := hb1 rfl
      have hd : bytesOf s = 45 :: bytesOf (s.extract 1 s.size) := by
        rw [bytesOf_extract]
        rcases drop_cases s (i := 0) (by omega) with ⟨e, _⟩ | ⟨_, hd⟩
        · omega
        · rw [List.drop_zero, show bt s ((0 : Nat) : Int) = 45 from h45] at hd
          rw [hd]
          simp only [Nat.zero_add, List.drop_succ_cons, List.drop_zero]
          rw [List.take_of_length_le]
          rw [List.length_drop, bytesOf_length]
          omega
      refine ev_pos rfl (ev_pos (by omega) (ev_bind (ref_value_ev _ (by omega)) ?_))
      have hsz : (s.extract 1 s.size).size = s.size - 1 := by rw [ByteArray.size_extract]; omega
      rcases readB_cases s with ⟨n, hn, hbs, hr⟩ | ⟨hno, hr⟩
      · rw [hr]
        have hn0 : n < 0 := by
          by_cases h : n < 0
          · exact h
          · unfold itoaL at hbs
            rw [if_neg (by omega), hd] at hbs
            have := dd_head hbs.symm
            omega
        unfold itoaL at hbs
        rw [if_pos hn0, hd] at hbs
        have hbs2 := (List.cons.inj hbs).2
        have hl := size_of hbs2
        have e : (10 : Nat) ^ (18 + 1) = 10000000000000000000 := by decide
        have hn' := hn
        unfold InI at hn'
        have hlen := (dd_len 18 n.natAbs).mpr (by omega)
        have hp := dd_pos n.natAbs
        rw [if_pos (by omega), valB_dd hbs2]
        refine ev_pos rfl (ev_neg (by omega) (ev_succ ?_))
        simp only [cracknelref02_Read.j1]
        rw [decide_eq_false (by omega)]
        refine ev_neg (by simp) ?_
        obtain ⟨hw, hi⟩ := hneg (n.natAbs : Int) (by omega) (by omega)
        rw [hw, show -(n.natAbs : Int) = n by omega]
        exact ref_print_yes hn (by rw [hd, hbs2]; unfold itoaL; rw [if_pos hn0])
      · rw [hr]
        have hfalse : ∀ x4 : Int, Ev (fun k => cracknelref02_Read.j1 k s x4 true) ((0 : Int), false) := by
          intro x4
          apply ev_succ
          simp only [cracknelref02_Read.j1]
          exact ev_pos (by trivial) (ev_now _)
        by_cases hc : 1 ≤ (s.extract 1 s.size).size ∧ ((s.extract 1 s.size).size : Int) ≤ 19
        · rw [if_pos hc]
          have hvr := valB_range (s := s.extract 1 s.size) (n := (valB (s.extract 1 s.size)).1) (b := (valB (s.extract 1 s.size)).2) (by omega) rfl
          by_cases h2 : (valB (s.extract 1 s.size)).2 = true
          · refine ev_pos h2 ?_
            by_cases h3 : (valB (s.extract 1 s.size)).1 = 0
            · exact ev_pos h3 (hfalse _)
            · refine ev_neg h3 ?_
              by_cases h4 : (valB (s.extract 1 s.size)).1 > 9223372036854775808
              · rw [decide_eq_true h4]; exact hfalse _
              · rw [decide_eq_false h4]
                apply ev_succ
                simp only [cracknelref02_Read.j1]
                refine ev_neg (by simp) ?_
                obtain ⟨hw, hi⟩ := hneg (valB (s.extract 1 s.size)).1 (by omega) (by omega)
                rw [hw]
                exact ref_print_test hi hno
          · exact ev_neg h2 (hfalse _)
        · rw [if_neg hc]
          exact ev_neg (by simp) (hfalse _)
    | false =>
      refine ev_neg (by simp) (ev_bind (ref_value_ev _ (by omega)) ?_)
      rcases readB_cases s with ⟨n, hn, hbs, hr⟩ | ⟨hno, hr⟩
      · rw [hr]
        have hn' := hn
        unfold InI at hn'
        have hn0 : ¬ n < 0 := by
          intro h
          unfold itoaL at hbs
          rw [if_pos h] at hbs
          have hp : 0 < s.size := by rw [size_of hbs]; simp
          refine hb2 rfl hp ?_
          rw [bt_eq, hbs]
          rfl
        have hbs2 := hbs
        unfold itoaL at hbs2
        rw [if_neg hn0] at hbs2
        have hl := size_of hbs2
        have e : (10 : Nat) ^ (18 + 1) = 10000000000000000000 := by decide
        have hlen := (dd_len 18 n.toNat).mpr (by omega)
        have hp := dd_pos n.toNat
        rw [if_pos (by omega), valB_dd hbs2]
        refine ev_pos rfl (ev_neg (by simp only; omega) ?_)
        simp only
        rw [show (n.toNat : Int) = n by omega, w64 hn'.1 hn'.2]
        exact ref_print_yes hn hbs
      · rw [hr]
        by_cases hc : 1 ≤ s.size ∧ (s.size : Int) ≤ 19
        · rw [if_pos hc]
          have hvr := valB_range (s := s) (n := (valB s).1) (b := (valB s).2) (by omega) rfl
          by_cases h2 : (valB s).2 = true
          · refine ev_pos h2 ?_
            by_cases h3 : (valB s).1 > 9223372036854775807
            · exact ev_pos h3 (ev_now _)
            · refine ev_neg h3 ?_
              rw [w64 (by omega) (by omega)]
              exact ref_print_test (by unfold InI; omega) hno
          · exact ev_neg h2 (ev_now _)
        · rw [if_neg hc]
          exact ev_neg (by simp) (ev_now _)
  simp only [cracknelref02_Read.f]
  by_cases h : (s.size : Int) > 0
  · refine ev_pos h (ev_pos (by omega) (main _ ?_ ?_))
    · intro hb; exact ⟨by omega, by simpa using hb⟩
    · intro hb _; simpa using hb
  · exact ev_neg h (main false (fun h => by cases h) (fun _ h' => by omega))
end Go.Proofs.YtcblmcehbjlmfaaDoor.Y
