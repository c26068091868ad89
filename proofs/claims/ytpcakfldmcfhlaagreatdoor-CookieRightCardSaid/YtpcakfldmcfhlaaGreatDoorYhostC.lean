/- What host.Canon and host.Ip, and their references, tell, as plain functions on texts; and that the printed ones come to it. -/
import Derived.Test.YtpcakfldmcfhlaaGreatDoorYrank
import Derived.Test.YtpcakfldmcfhlaaGreatDoorPrint8
import Derived.Test.YtpcakfldmcfhlaaGreatDoorPrint9
import Derived.Test.YtpcakfldmcfhlaaGreatDoorPrint3
import Derived.Test.YtpcakfldmcfhlaaGreatDoorPrint3
import Derived.Lib.AtoiAll
import Derived.Lib.AtoiAllCases
import Derived.Lib.ItoaNum
import Derived.Lib.SplitLaws
namespace Go.Proofs.YtpcakfldmcfhlaaGreatDoor.Y
set_option linter.unusedVariables false
set_option linter.unusedSimpArgs false
open Go.RowKit Go.Proofs.YtpcakfldmcfhlaaGreatDoor.Print Go.Proofs.YtpcakfldmcfhlaaGreatDoorW.PrintWords Go.Proofs.YtpcakfldmcfhlaaGreatDoorW.PrintLast Go.Proofs.YtpcakfldmcfhlaaGreatDoorW.PrintMore
def dd (n : Nat) : List Int := if n < 10 then [48 + (n : Int)] else dd (n / 10) ++ [48 + ((n % 10 : Nat) : Int)]
theorem dd_lt {n : Nat} (h : n < 10) : dd n = [48 + (n : Int)] := by rw [dd, if_pos h]
theorem dd_ge {n : Nat} (h : ¬ n < 10) : dd n = dd (n / 10) ++ [48 + ((n % 10 : Nat) : Int)] := by rw [dd, if_neg h]
theorem dd_range (n : Nat) : ∀ x ∈ dd n, 48 ≤ x ∧ x ≤ 57 := by
  induction n using Nat.strongRecOn with
  | _ n ih =>
    intro x hx
    by_cases h : n < 10
    · rw [dd_lt h] at hx
      simp only [List.mem_singleton] at hx
      omega
    · rw [dd_ge h] at hx
      rcases List.mem_append.mp hx with e | e
      · exact ih (n / 10) (by omega) x e
      · simp only [List.mem_singleton] at e
        omega
theorem dd_pos (n : Nat) : 0 < (dd n).length := by rw [dd]; split <;> simp
theorem dd_len (j : Nat) : ∀ n : Nat, (dd n).length ≤ j + 1 ↔ n < 10 ^ (j + 1) := by
  induction j with
  | zero =>
    intro n
    by_cases h : n < 10
    · rw [dd_lt h]; simp [h]
    · rw [dd_ge h]
      have := dd_pos (n / 10)
      simp only [List.length_append, List.length_singleton]
      omega
  | succ j ih =>
    intro n
    by_cases h : n < 10
    · rw [dd_lt h]
      have : 10 ^ 1 ≤ 10 ^ (j + 1 + 1) := Nat.pow_le_pow_right (by decide) (by omega)
      simp only [List.length_singleton]
      omega
    · rw [dd_ge h]
      have := ih (n / 10)
      simp only [List.length_append, List.length_singleton]
      rw [Nat.pow_succ]
      omega
theorem dd_bytes (n : Nat) : ∀ x ∈ dd n, 0 ≤ x ∧ x < 256 := fun x hx => by have := dd_range n x hx; omega
theorem dd_decDigits (n : Nat) : (Lib.decDigits n).map (fun b => (b.toNat : Int)) = dd n := by
  induction n using Nat.strongRecOn with
  | _ n ih =>
    by_cases h : n < 10
    · rw [Lib.decDigits, dif_pos h, dd_lt h]
      simp only [List.map_cons, List.map_nil, UInt8.toNat_ofNat']
      congr 1
      omega
    · rw [Lib.decDigits, dif_neg h, dd_ge h, List.map_append, ih (n / 10) (by omega)]
      simp only [List.map_cons, List.map_nil, UInt8.toNat_ofNat']
      congr 2
      omega
def itoaL (n : Int) : List Int := if n < 0 then 45 :: dd n.natAbs else dd n.toNat
theorem itoaL_range (n : Int) : ∀ x ∈ itoaL n, 0 ≤ x ∧ x < 256 := by
  intro x hx
  unfold itoaL at hx
  split at hx
  · rcases List.mem_cons.mp hx with e | e
    · omega
    · exact dd_bytes _ x e
  · exact dd_bytes _ x hx
theorem bytesOf_itoa (n : Int) : bytesOf (itoaB n) = itoaL n := by
  show ((Lib.itoa n).toArray.toList.map fun b => (b.toNat : Int)) = itoaL n
  rw [List.toList_toArray]
  unfold Lib.itoa itoaL
  split
  · rw [List.map_cons, dd_decDigits]; rfl
  · rw [dd_decDigits]
theorem itoaB_eq (n : Int) : itoaB n = strOfNums (itoaL n) := bytesOf_inj (by rw [bytesOf_itoa, bytesOf_str (itoaL_range n)])
theorem itoa_list {s : ByteArray} {n : Int} (h : bytesOf s = itoaL n) : s.data.toList = Lib.itoa n := by
  have : s = itoaB n := bytesOf_inj (by rw [h, bytesOf_itoa])
  rw [this]
  show (Lib.itoa n).toArray.toList = _
  rw [List.toList_toArray]
theorem itoaL_len {n : Int} (h0 : -9223372036854775808 ≤ n) (h1 : n ≤ 9223372036854775807) : (itoaL n).length ≤ 20 := by
  have e : (10 : Nat) ^ (18 + 1) = 10000000000000000000 := by decide
  unfold itoaL
  split
  · have := (dd_len 18 n.natAbs).mpr (by omega)
    simp only [List.length_cons]
    omega
  · have := (dd_len 18 n.toNat).mpr (by omega)
    omega
def valD : List Int → Nat → Option Nat
  | [], a => some a
  | c :: l, a => if 48 ≤ c ∧ c ≤ 57 then valD l (10 * a + (c - 48).toNat) else none
theorem valD_append (l m : List Int) : ∀ a, valD (l ++ m) a = (valD l a).bind (valD m) := by
  induction l with
  | nil => intro a; rfl
  | cons c l ih =>
    intro a
    simp only [List.cons_append, valD]
    split
    · exact ih _
    · rfl
theorem valD_snoc {l : List Int} {c : Int} {a : Nat} (hc : 48 ≤ c ∧ c ≤ 57) : valD (l ++ [c]) a = (valD l a).map fun m => 10 * m + (c - 48).toNat := by
  rw [valD_append]
  cases valD l a with
  | none => rfl
  | some m => simp only [Option.bind_some, Option.map_some, valD, if_pos hc]
theorem valD_dd (n : Nat) : valD (dd n) 0 = some n := by
  induction n using Nat.strongRecOn with
  | _ n ih =>
    by_cases h : n < 10
    · rw [dd_lt h]
      simp only [valD]
      rw [if_pos (by omega)]
      congr 1
      omega
    · rw [dd_ge h, valD_snoc (by omega), ih (n / 10) (by omega), Option.map_some]
      congr 1
      omega
theorem dd_head {n : Nat} {c : Int} {l : List Int} (h : dd n = c :: l) : 48 ≤ c ∧ c ≤ 57 := dd_range n c (by rw [h]; exact List.mem_cons_self ..)
def InI (n : Int) : Prop := -9223372036854775808 ≤ n ∧ n ≤ 9223372036854775807
theorem parse_append (a b : List UInt8) : ∀ (acc u : Nat), Lib.parseUint10 acc a = .ok u → Lib.parseUint10 acc (a ++ b) = Lib.parseUint10 u b := by
  induction a with
  | nil =>
    intro acc u h
    simp only [Lib.parseUint10] at h
    injection h with h
    rw [h]; rfl
  | cons c a ih =>
    intro acc u h
    simp only [Lib.parseUint10, List.cons_append] at h ⊢
    split at h
    · rename_i h1
      rw [if_pos h1]
      split at h
      · cases h
      · rename_i h2
        rw [if_neg h2]
        split at h
        · cases h
        · rename_i h3
          rw [if_neg h3]
          exact ih _ _ h
    · cases h
theorem parse_dec (u : Nat) : u < 18446744073709551616 → Lib.parseUint10 0 (Lib.decDigits u) = .ok u := by
  induction u using Nat.strongRecOn with
  | _ u ih =>
    intro hu
    by_cases h : u < 10
    · rw [Lib.decDigits, dif_pos h]
      have e : (UInt8.ofNat (48 + u)).toNat = 48 + u := by rw [UInt8.toNat_ofNat']; omega
      simp only [Lib.parseUint10, e]
      rw [if_pos (by omega), if_neg (by omega), if_neg (by omega)]
      congr 1
      omega
    · have e : (UInt8.ofNat (48 + u % 10)).toNat = 48 + u % 10 := by rw [UInt8.toNat_ofNat']; omega
      rw [Lib.decDigits, dif_neg h, parse_append _ _ _ _ (ih (u / 10) (by omega) (by omega))]
      simp only [Lib.parseUint10, e]
      rw [if_pos (by omega), if_neg (by omega), if_neg (by omega)]
      congr 1
      omega
theorem dec_head (u : Nat) : ∃ c r, Lib.decDigits u = c :: r ∧ c.toNat ≠ 43 ∧ c.toNat ≠ 45 := by
  have h := dd_decDigits u
  cases hd : Lib.decDigits u with
  | nil =>
    rw [hd] at h
    have := dd_pos u
    rw [← h] at this
    simp at this
  | cons c r =>
    rw [hd, List.map_cons] at h
    have := dd_head h.symm
    exact ⟨c, r, rfl, by omega, by omega⟩
theorem parseMag_dec {u : Nat} (hu : u < 18446744073709551616) : Lib.parseMag (Lib.decDigits u) = .ok u := by
  obtain ⟨c, r, e, _⟩ := dec_head u
  unfold Lib.parseMag
  rw [if_neg (by rw [e]; simp), parse_dec u hu]
theorem atoi_itoa {n : Int} (h : InI n) : Lib.atoiAll (Lib.itoa n) = .ok n := by
  obtain ⟨h0, h1⟩ := h
  unfold Lib.itoa
  by_cases hn : n < 0
  · rw [if_pos hn, Lib.atoiAll_minus, parseMag_dec (by omega)]
    simp only [Lib.signed]
    rw [if_neg (by omega)]
    congr 1
    omega
  · rw [if_neg hn]
    obtain ⟨c, r, e, h43, h45⟩ := dec_head n.toNat
    have hp := parseMag_dec (u := n.toNat) (by omega)
    rw [e] at hp ⊢
    rw [Lib.atoiAll_plain c r h43 h45, hp]
    simp only [Lib.signless]
    rw [if_neg (by omega)]
    congr 1
    omega
theorem atoi_in {l : List UInt8} {v : Int} (h : Lib.atoiAll l = .ok v) : InI v := by
  unfold Lib.atoiAll at h
  cases l with
  | nil => cases h
  | cons c r =>
    simp only at h
    split at h
    · cases h
    · cases h
    · rename_i u hu
      have := Lib.parseMag_lt hu
      split at h
      · cases h
      · split at h
        · cases h
        · rename_i h1 h2
          injection h with h
          rw [← h]
          unfold InI
          split <;> omega
theorem readB_yes {s : ByteArray} {n : Int} (h : InI n) (hs : bytesOf s = itoaL n) : readB s = (n, true) := by
  have hl := itoaL_len h.1 h.2
  rw [← hs, bytesOf_length] at hl
  have e := itoa_list hs
  have hb : (itoaB n).toList = s.toList := by rw [toList_eq_iff, bytesOf_itoa, hs]
  unfold readB
  rw [if_neg (by omega), e, atoi_itoa h]
  simp only [hb, if_true]
theorem readB_cases (s : ByteArray) : (∃ n, InI n ∧ bytesOf s = itoaL n ∧ readB s = (n, true)) ∨ ((∀ n, InI n → bytesOf s ≠ itoaL n) ∧ readB s = (0, false)) := by
  by_cases h : ∃ n, InI n ∧ bytesOf s = itoaL n
  · obtain ⟨n, h1, h2⟩ := h
    exact .inl ⟨n, h1, h2, readB_yes h1 h2⟩
  · refine .inr ⟨fun n h1 h2 => h ⟨n, h1, h2⟩, ?_⟩
    unfold readB
    split
    · rfl
    · split
      · rename_i v hv
        split
        · rename_i hb
          rw [toList_eq_iff, bytesOf_itoa] at hb
          exact absurd ⟨v, atoi_in hv, hb.symm⟩ h
        · rfl
      · rfl
theorem ref_digits_loop (n : Nat) : ∀ x : ByteArray, n < 18446744073709551616 → x.size + (dd n).length ≤ 9223372036854775807 → Ev (fun k => cracknelref02_digits.l0 k n x) (strOfNums (dd n ++ bytesOf x)) := by
  induction n using Nat.strongRecOn with
  | _ n ih =>
    intro x hn hl
    apply ev_succ
    simp only [cracknelref02_digits.l0]
    by_cases h : n < 10
    · rw [dd_lt h] at hl ⊢
      simp only [List.length_singleton] at hl
      refine ev_neg (by omega) ?_
      simp only [Option.bind_some]
      refine ev_pos (by rw [strOfNums_size]; simp only [List.length_singleton]; omega) (ev_eq (ev_now _) ?_)
      rw [u64_id (by omega) (by omega), show (48 + (n : Int)) % 256 = 48 + (n : Int) by omega]
      apply bytesOf_inj
      rw [bytesOf_append, bytesOf_str (by simp; omega), bytesOf_str]
      intro y hy
      rcases List.mem_append.mp hy with e | e
      · simp only [List.mem_singleton] at e; omega
      · exact bytesOf_range e
    · rw [dd_ge h] at hl ⊢
      simp only [List.length_append, List.length_singleton] at hl
      refine ev_pos (by omega) ?_
      simp only [Option.bind_some]
      rw [show Int.tmod (n : Int) 10 = ((n % 10 : Nat) : Int) by rw [Int.tmod_eq_emod_of_nonneg (by omega)]; omega, u64_id (by omega) (by omega), show Int.tdiv (n : Int) 10 = ((n / 10 : Nat) : Int) by rw [Int.tdiv_eq_ediv_of_nonneg (by omega)]; omega, u64_id (by omega) (by omega),
        show (48 + ((n % 10 : Nat) : Int)) % 256 = 48 + ((n % 10 : Nat) : Int) by omega]
      refine ev_pos (by rw [strOfNums_size]; simp only [List.length_singleton]; omega) (ev_eq (ih (n / 10) (by omega) _ (by omega) (by rw [ByteArray.size_append, strOfNums_size]; simp only [List.length_singleton]; omega)) ?_)
      rw [bytesOf_append, bytesOf_str (by simp; omega), List.append_assoc]
theorem ref_digits_ev {n : Nat} (hn : n < 18446744073709551616) : Ev (fun k => cracknelref02_digits.f k n) (strOfNums (dd n)) := by
  have e : (10 : Nat) ^ (19 + 1) = 100000000000000000000 := by decide
  have := (dd_len 19 n).mpr (by omega)
  simp only [cracknelref02_digits.f]
  refine ev_eq (ref_digits_loop n _ hn (by simp only [show (⟨#[]⟩ : ByteArray).size = 0 from rfl]; omega)) ?_
  rw [bytesOf_empty, List.append_nil]
theorem ref_print_ev {n : Int} (h : InI n) : Ev (fun k => cracknelref02_Print.f k n) (itoaB n) := by
  obtain ⟨h0, h1⟩ := h
  rw [itoaB_eq]
  unfold itoaL
  simp only [cracknelref02_Print.f]
  by_cases hn : n < 0
  · rw [if_pos hn]
    have e : (10 : Nat) ^ (18 + 1) = 10000000000000000000 := by decide
    have hl := (dd_len 18 n.natAbs).mpr (by omega)
    refine ev_pos hn ?_
    rw [w64 (n := n + 1) (by omega) (by omega), w64 (n := -(n + 1)) (by omega) (by omega), u64_id (n := -(n + 1)) (by omega) (by omega), u64_id (n := -(n + 1) + 1) (by omega) (by omega), show -(n + 1) + 1 = (n.natAbs : Int) by omega]
    refine ev_bind (ref_digits_ev (by omega)) (ev_pos (by rw [strOfNums_size]; omega) (ev_eq (ev_now _) ?_))
    apply bytesOf_inj
    rw [bytesOf_append, bytesOf_str (dd_bytes _), bytesOf_str]
    · rfl
    · intro x hx
      rcases List.mem_cons.mp hx with e | e
      · omega
      · exact dd_bytes _ x e
  · rw [if_neg hn]
    refine ev_neg hn ?_
    rw [u64_id (by omega) (by omega), show n = (n.toNat : Int) by omega, Int.toNat_natCast]
    exact ev_bind (ref_digits_ev (by omega)) (ev_now _)
def valB (s : ByteArray) : Int × Bool := match valD (bytesOf s) 0 with
  | some n => (n, true)
  | none => (0, false)
theorem ref_value_loop (s : ByteArray) (hs : s.size ≤ 19) (d : Nat) : ∀ (i acc : Nat), i + d = s.size → acc < 10 ^ i → Ev (fun k => cracknelref02_value.l0 k s acc i) (match valD ((bytesOf s).drop i) acc with | some n => ((n : Int), true) | none => (0, false)) := by
  induction d with
  | zero =>
    intro i acc hi ha
    apply ev_succ
    simp only [cracknelref02_value.l0]
    rw [List.drop_eq_nil_of_le (by rw [bytesOf_length]; omega)]
    exact ev_neg (by omega) (ev_now _)
  | succ d ih =>
    intro i acc hi ha
    apply ev_succ
    simp only [cracknelref02_value.l0]
    rcases drop_cases s (show i ≤ s.size by omega) with ⟨e, _⟩ | ⟨hlt, hd⟩
    · omega
    rw [hd]
    obtain ⟨b0, b1⟩ := bt_range s i
    generalize bt s i = c at *
    have h18 : (10 : Nat) ^ i ≤ 10 ^ 18 := Nat.pow_le_pow_right (by decide) (by omega)
    have e18 : (10 : Nat) ^ 18 = 1000000000000000000 := by decide
    refine ev_pos (by omega) (ev_pos (by omega) ?_)
    simp only [valD]
    by_cases h1 : c < 48
    · rw [if_neg (by omega)]
      exact ev_pos h1 (ev_now _)
    by_cases h2 : c > 57
    · rw [if_neg (by omega)]
      exact ev_neg h1 (ev_pos h2 (ev_now _))
    rw [if_pos (by omega)]
    refine ev_neg h1 (ev_neg h2 ?_)
    rw [u64_id (n := 10 * (acc : Int)) (by omega) (by omega), u64_id b0 (by omega), u64_id (n := 10 * (acc : Int) + c) (by omega) (by omega), u64_id (n := 10 * (acc : Int) + c - 48) (by omega) (by omega), w64 (n := (i : Int) + 1) (by omega) (by omega),
      show 10 * (acc : Int) + c - 48 = ((10 * acc + (c - 48).toNat : Nat) : Int) by omega, show (i : Int) + 1 = ((i + 1 : Nat) : Int) by omega]
    exact ih (i + 1) _ (by omega) (by rw [Nat.pow_succ]; omega)
theorem ref_value_ev (s : ByteArray) {most : Int} (hm : most ≤ 19) : Ev (fun k => cracknelref02_value.f k s most) (if 1 ≤ s.size ∧ (s.size : Int) ≤ most then valB s else (0, false)) := by
  simp only [cracknelref02_value.f]
  by_cases h1 : (s.size : Int) < 1
  · rw [if_neg (by omega)]
    refine ev_pos h1 (ev_succ ?_)
    simp only [cracknelref02_value.j0]
    exact ev_pos (by trivial) (ev_now _)
  · refine ev_neg h1 (ev_succ ?_)
    simp only [cracknelref02_value.j0]
    by_cases h2 : (s.size : Int) > most
    · rw [if_neg (by omega), decide_eq_true h2]
      exact ev_pos rfl (ev_now _)
    · rw [if_pos (by omega), decide_eq_false h2]
      refine ev_neg (by simp) ?_
      have := ref_value_loop s (by omega) s.size 0 0 (by omega) (by decide)
      unfold valB
      simpa using this
theorem valB_dd {s : ByteArray} {n : Nat} (h : bytesOf s = dd n) : valB s = ((n : Int), true) := by
  unfold valB
  rw [h, valD_dd]
theorem size_of {s : ByteArray} {l : List Int} (h : bytesOf s = l) : s.size = l.length := by rw [← bytesOf_length, h]
theorem ref_print_test {n : Int} (h : InI n) {s : ByteArray} : (∀ m, InI m → bytesOf s ≠ itoaL m) → Ev (fun k => (cracknelref02_Print.f k n).bind fun t => if t.toList = s.toList then some (n, true) else some ((0 : Int), false)) ((0 : Int), false) := by
  intro hno
  refine ev_bind (ref_print_ev h) (ev_neg ?_ (ev_now _))
  rw [toList_eq_iff, bytesOf_itoa]
  exact fun e => hno n h e.symm
theorem ref_print_yes {n : Int} (h : InI n) {s : ByteArray} (hs : bytesOf s = itoaL n) : Ev (fun k => (cracknelref02_Print.f k n).bind fun t => if t.toList = s.toList then some (n, true) else some ((0 : Int), false)) (n, true) := by
  refine ev_bind (ref_print_ev h) (ev_pos ?_ (ev_now _))
  rw [toList_eq_iff, bytesOf_itoa, hs]
theorem valB_range {s : ByteArray} {n : Int} {b : Bool} (hs : s.size ≤ 19) (h : valB s = (n, b)) : 0 ≤ n ∧ n < 10000000000000000000 := by
  have hv := ev_unique (ref_value_ev s (most := 19) (by omega)) (ref_value_ev s (most := 19) (by omega))
  have key : ∀ (l : List Int) (a m : Nat), valD l a = some m → m < (a + 1) * 10 ^ l.length := by
    intro l
    induction l with
    | nil => intro a m h; simp only [valD] at h; have := Option.some.inj h; simp; omega
    | cons c l ih =>
      intro a m h
      simp only [valD] at h
      split at h
      · have := ih _ _ h
        rw [List.length_cons, Nat.pow_succ]
        have h2 : (10 * a + (c - 48).toNat + 1) * 10 ^ l.length ≤ (a + 1) * 10 * 10 ^ l.length := Nat.mul_le_mul_right _ (by omega)
        rw [Nat.mul_comm (10 ^ l.length) 10, ← Nat.mul_assoc]
        omega
      · cases h
  unfold valB at h
  cases hm : valD (bytesOf s) 0 with
  | none => rw [hm] at h; simp only [Prod.mk.injEq] at h; omega
  | some m =>
    rw [hm] at h
    simp only [Prod.mk.injEq] at h
    have := key _ _ _ hm
    rw [bytesOf_length] at this
    have h2 : (10 : Nat) ^ s.size ≤ 10 ^ 19 := Nat.pow_le_pow_right (by decide) hs
    have e : (10 : Nat) ^ 19 = 10000000000000000000 := by decide
    omega
theorem ref_read_ev {s : ByteArray} (hs : s.size ≤ 140737488351232) : Ev (fun k => cracknelref02_Read.f k s) (readB s) := by
  have hneg : ∀ x4 : Int, 1 ≤ x4 → x4 ≤ 9223372036854775808 → wrap64 (wrap64 (-(wrap64 (IntKind.u64.wrap (x4 - 1)))) - 1) = -x4 ∧ InI (-x4) := by
    intro x4 h1 h2
    rw [u64_id (by omega) (by omega), w64 (n := x4 - 1) (by omega) (by omega), w64 (n := -(x4 - 1)) (by omega) (by omega), w64 (by omega) (by omega)]
    exact ⟨by omega, by unfold InI; omega⟩
  have main : ∀ b : Bool, (b = true → 0 < s.size ∧ bt s 0 = 45) → (b = false → 0 < s.size → bt s 0 ≠ 45) → Ev (fun k => cracknelref02_Read.j0 k s b) (readB s) := by
    intro b hb1 hb2
    apply ev_succ
    simp only [cracknelref02_Read.j0]
    cases b with
    | true =>
      obtain ⟨hpos, h45⟩ := hb1 rfl
      have hd : bytesOf s = 45 :: bytesOf (s.extract 1 s.size) := by
        rw [bytesOf_extract]
        rcases drop_cases s (i := 0) (by omega) with ⟨e, _⟩ | ⟨_, hd⟩
        · omega
        · rw [List.drop_zero, show bt s ((0 : Nat) : Int) = 45 from h45] at hd
          rw [hd]
          simp only [Nat.zero_add, List.drop_succ_cons, List.drop_zero]
          rw [List.take_of_length_le]
          rw [List.length_drop, bytesOf_length]
          omega
      refine ev_pos rfl (ev_pos (by omega) (ev_bind (ref_value_ev _ (by omega)) ?_))
      have hsz : (s.extract 1 s.size).size = s.size - 1 := by rw [ByteArray.size_extract]; omega
      rcases readB_cases s with ⟨n, hn, hbs, hr⟩ | ⟨hno, hr⟩
      · rw [hr]
        have hn0 : n < 0 := by
          by_cases h : n < 0
          · exact h
          · unfold itoaL at hbs
            rw [if_neg (by omega), hd] at hbs
            have := dd_head hbs.symm
            omega
        unfold itoaL at hbs
        rw [if_pos hn0, hd] at hbs
        have hbs2 := (List.cons.inj hbs).2
        have hl := size_of hbs2
        have e : (10 : Nat) ^ (18 + 1) = 10000000000000000000 := by decide
        have hn' := hn
        unfold InI at hn'
        have hlen := (dd_len 18 n.natAbs).mpr (by omega)
        have hp := dd_pos n.natAbs
        rw [if_pos (by omega), valB_dd hbs2]
        refine ev_pos rfl (ev_neg (by omega) (ev_succ ?_))
        simp only [cracknelref02_Read.j1]
        rw [decide_eq_false (by omega)]
        refine ev_neg (by simp) ?_
        obtain ⟨hw, hi⟩ := hneg (n.natAbs : Int) (by omega) (by omega)
        rw [hw, show -(n.natAbs : Int) = n by omega]
        exact ref_print_yes hn (by rw [hd, hbs2]; unfold itoaL; rw [if_pos hn0])
      · rw [hr]
        have hfalse : ∀ x4 : Int, Ev (fun k => cracknelref02_Read.j1 k s x4 true) ((0 : Int), false) := by
          intro x4
          apply ev_succ
          simp only [cracknelref02_Read.j1]
          exact ev_pos (by trivial) (ev_now _)
        by_cases hc : 1 ≤ (s.extract 1 s.size).size ∧ ((s.extract 1 s.size).size : Int) ≤ 19
        · rw [if_pos hc]
          have hvr := valB_range (s := s.extract 1 s.size) (n := (valB (s.extract 1 s.size)).1) (b := (valB (s.extract 1 s.size)).2) (by omega) rfl
          by_cases h2 : (valB (s.extract 1 s.size)).2 = true
          · refine ev_pos h2 ?_
            by_cases h3 : (valB (s.extract 1 s.size)).1 = 0
            · exact ev_pos h3 (hfalse _)
            · refine ev_neg h3 ?_
              by_cases h4 : (valB (s.extract 1 s.size)).1 > 9223372036854775808
              · rw [decide_eq_true h4]; exact hfalse _
              · rw [decide_eq_false h4]
                apply ev_succ
                simp only [cracknelref02_Read.j1]
                refine ev_neg (by simp) ?_
                obtain ⟨hw, hi⟩ := hneg (valB (s.extract 1 s.size)).1 (by omega) (by omega)
                rw [hw]
                exact ref_print_test hi hno
          · exact ev_neg h2 (hfalse _)
        · rw [if_neg hc]
          exact ev_neg (by simp) (hfalse _)
    | false =>
      refine ev_neg (by simp) (ev_bind (ref_value_ev _ (by omega)) ?_)
      rcases readB_cases s with ⟨n, hn, hbs, hr⟩ | ⟨hno, hr⟩
      · rw [hr]
        have hn' := hn
        unfold InI at hn'
        have hn0 : ¬ n < 0 := by
          intro h
          unfold itoaL at hbs
          rw [if_pos h] at hbs
          have hp : 0 < s.size := by rw [size_of hbs]; simp
          refine hb2 rfl hp ?_
          rw [bt_eq, hbs]
          rfl
        have hbs2 := hbs
        unfold itoaL at hbs2
        rw [if_neg hn0] at hbs2
        have hl := size_of hbs2
        have e : (10 : Nat) ^ (18 + 1) = 10000000000000000000 := by decide
        have hlen := (dd_len 18 n.toNat).mpr (by omega)
        have hp := dd_pos n.toNat
        rw [if_pos (by omega), valB_dd hbs2]
        refine ev_pos rfl (ev_neg (by simp only; omega) ?_)
        simp only
        rw [show (n.toNat : Int) = n by omega, w64 hn'.1 hn'.2]
        exact ref_print_yes hn hbs
      · rw [hr]
        by_cases hc : 1 ≤ s.size ∧ (s.size : Int) ≤ 19
        · rw [if_pos hc]
          have hvr := valB_range (s := s) (n := (valB s).1) (b := (valB s).2) (by omega) rfl
          by_cases h2 : (valB s).2 = true
          · refine ev_pos h2 ?_
            by_cases h3 : (valB s).1 > 9223372036854775807
            · exact ev_pos h3 (ev_now _)
            · refine ev_neg h3 ?_
              rw [w64 (by omega) (by omega)]
              exact ref_print_test (by unfold InI; omega) hno
          · exact ev_neg h2 (ev_now _)
        · rw [if_neg hc]
          exact ev_neg (by simp) (ev_now _)
  simp only [cracknelref02_Read.f]
  by_cases h : (s.size : Int) > 0
  · refine ev_pos h (ev_pos (by omega) (main _ ?_ ?_))
    · intro hb; exact ⟨by omega, by simpa using hb⟩
    · intro hb _; simpa using hb
  · exact ev_neg h (main false (fun h => by cases h) (fun _ h' => by omega))
theorem lowL_range {c : Int} (h : 0 ≤ c ∧ c < 256) : 0 ≤ lowL c ∧ lowL c < 256 := by unfold lowL; split <;> omega
theorem bytesOf_low (s : ByteArray) : bytesOf (lowB s) = (bytesOf s).map lowL := by
  unfold lowB
  refine bytesOf_str fun x hx => ?_
  obtain ⟨c, hc, rfl⟩ := List.mem_map.mp hx
  exact lowL_range (bytesOf_range hc)
theorem low_size (s : ByteArray) : (lowB s).size = s.size := by
  rw [← bytesOf_length, bytesOf_low, List.length_map, bytesOf_length]
theorem low_f {s : ByteArray} (hs : s.size ≤ 9223372036854775806) : ascii_Lower.f s = some (lowB s) := by unfold ascii_Lower.f; rw [if_pos hs]
theorem ref_low_f {s : ByteArray} (hs : s.size ≤ 9223372036854775806) : cracknelref01_Lower.f s = some (lowB s) := by unfold cracknelref01_Lower.f; rw [if_pos hs]
def addH (x : Int) : List (List Int) → List (List Int)
  | [] => [[x]]
  | h :: t => (x :: h) :: t
def splitL : List Int → List (List Int)
  | [] => [[]]
  | x :: l => if x = 46 then [] :: splitL l else addH x (splitL l)
theorem splitL_ne (l : List Int) : splitL l ≠ [] := by
  cases l with
  | nil => simp [splitL]
  | cons x l =>
    unfold splitL
    split
    · simp
    · cases splitL l <;> simp [addH]
theorem splitL_none {a : List Int} (h : ∀ c ∈ a, c ≠ 46) : splitL a = [a] := by
  induction a with
  | nil => rfl
  | cons x a ih =>
    rw [splitL, if_neg (h x (List.mem_cons_self ..)), ih fun c hc => h c (List.mem_cons_of_mem _ hc)]
    rfl
theorem splitL_dot {a b : List Int} (h : ∀ c ∈ a, c ≠ 46) : splitL (a ++ 46 :: b) = a :: splitL b := by
  induction a with
  | nil => simp [splitL]
  | cons x a ih =>
    rw [List.cons_append, splitL, if_neg (h x (List.mem_cons_self ..)), ih fun c hc => h c (List.mem_cons_of_mem _ hc)]
    rfl
theorem splitL_range {l : List Int} (h : ∀ c ∈ l, 0 ≤ c ∧ c < 256) : ∀ p ∈ splitL l, ∀ c ∈ p, 0 ≤ c ∧ c < 256 := by
  induction l with
  | nil => intro p hp c hc; simp [splitL] at hp; subst hp; simp at hc
  | cons x l ih =>
    have ih := ih fun c hc => h c (List.mem_cons_of_mem _ hc)
    intro p hp c hc
    unfold splitL at hp
    split at hp
    · rcases List.mem_cons.mp hp with rfl | e
      · simp at hc
      · exact ih p e c hc
    · cases hs : splitL l with
      | nil => exact absurd hs (splitL_ne l)
      | cons q t =>
        rw [hs] at hp ih
        simp only [addH] at hp
        rcases List.mem_cons.mp hp with rfl | e
        · rcases List.mem_cons.mp hc with rfl | e
          · exact h c (List.mem_cons_self ..)
          · exact ih q (List.mem_cons_self ..) c e
        · exact ih p (List.mem_cons_of_mem _ e) c hc
theorem splitL_sum (l : List Int) : l.length + 1 = ((splitL l).map List.length).sum + (splitL l).length := by
  induction l with
  | nil => rfl
  | cons x l ih =>
    unfold splitL
    split
    · simp only [List.length_cons, List.map_cons, List.sum_cons, List.length_nil]; omega
    · cases hs : splitL l with
      | nil => exact absurd hs (splitL_ne l)
      | cons q t =>
        rw [hs] at ih
        simp only [addH, List.length_cons, List.map_cons, List.sum_cons] at ih ⊢
        omega
def parts (s : ByteArray) : List ByteArray := (splitL (bytesOf s)).map strOfNums
theorem parts_bytes (s : ByteArray) : (parts s).map bytesOf = splitL (bytesOf s) := by
  unfold parts
  rw [List.map_map]
  conv => rhs; rw [← List.map_id (splitL (bytesOf s))]
  exact List.map_congr_left fun p hp => bytesOf_str (splitL_range (fun c hc => bytesOf_range hc) p hp)
theorem map_bytes_inj {a b : List ByteArray} (h : a.map bytesOf = b.map bytesOf) : a = b := by
  induction a generalizing b with
  | nil => cases b with
    | nil => rfl
    | cons => simp at h
  | cons x a ih => cases b with
    | nil => simp at h
    | cons y b =>
      simp only [List.map_cons, List.cons.injEq] at h
      rw [bytesOf_inj h.1, ih h.2]
theorem splitK_dot (n : Nat) : ∀ l : List UInt8, l.length ≤ n → (Lib.splitK [46] 0 (Lib.count l [46]) l).map (List.map fun b => (b.toNat : Int)) = splitL (l.map fun b => (b.toNat : Int)) := by
  induction n with
  | zero =>
    intro l hl
    have : l = [] := List.length_eq_zero_iff.mp (by omega)
    subst this
    rfl
  | succ n ih =>
    intro l hl
    by_cases hm : Lib.index l [46] = -1
    · have hb := hm
      rw [Lib.index_one] at hb
      rw [Lib.count_miss hm]
      rw [splitL_none]
      · rfl
      · intro c hc
        obtain ⟨b, hb2, rfl⟩ := List.mem_map.mp hc
        obtain ⟨k, hk, hk2⟩ := List.getElem_of_mem hb2
        have := Lib.indexByte_none hb k
        intro e
        apply this
        rw [List.getElem?_eq_getElem hk, hk2]
        congr 1
        exact UInt8.toNat_inj.mp (by simp; omega)
    · have hge := Lib.index_ge l [46]
      obtain ⟨i, hi⟩ : ∃ i : Nat, Lib.index l [46] = i := ⟨(Lib.index l [46]).toNat, by omega⟩
      have hb := hi
      rw [Lib.index_one] at hb
      obtain ⟨h1, h2⟩ := Lib.indexByte_some hb
      have hlt : i < l.length := by
        rcases Nat.lt_or_ge i l.length with h | h
        · exact h
        · rw [List.getElem?_eq_none h] at h1; cases h1
      rw [Lib.count_hit (by simp) hi, Nat.add_comm 1]
      have hs : l.map (fun b => (b.toNat : Int)) = (l.take i).map (fun b => (b.toNat : Int)) ++ 46 :: (l.drop (i + 1)).map (fun b => (b.toNat : Int)) := by
        conv => lhs; rw [← List.take_append_drop i l, List.drop_eq_getElem_cons hlt]
        rw [List.map_append, List.map_cons]
        rw [List.getElem?_eq_getElem hlt] at h1
        rw [Option.some.inj h1]
        rfl
      rw [hs, splitL_dot, Lib.splitK, if_neg (by simpa using hm), hi]
      · simp only [List.map_cons, Int.toNat_natCast, Nat.add_zero, List.length_cons, List.length_nil, Nat.zero_add]
        rw [ih _ (by rw [List.length_drop]; omega)]
      · intro c hc
        obtain ⟨b, hb2, rfl⟩ := List.mem_map.mp hc
        obtain ⟨k, hk, hk2⟩ := List.getElem_of_mem hb2
        rw [List.length_take] at hk
        have := h2 k (by omega)
        intro e
        apply this
        rw [List.getElem_take] at hk2
        rw [List.getElem?_eq_getElem (by omega), hk2]
        congr 1
        exact UInt8.toNat_inj.mp (by simp; omega)
theorem split_parts (s : ByteArray) : splitS s (⟨#[46]⟩ : ByteArray) = parts s := by
  apply map_bytes_inj
  rw [parts_bytes]
  have h := Lib.splitB_data (⟨#[46]⟩ : ByteArray) 0 (Lib.countB s ⟨#[46]⟩) s
  have h2 := splitK_dot s.data.toList.length s.data.toList (Nat.le_refl _)
  unfold splitS
  have e : bytesOf = (fun l : List UInt8 => l.map fun b => (b.toNat : Int)) ∘ fun x : ByteArray => x.data.toList := rfl
  rw [e, ← List.map_map, h]
  exact h2
theorem split_f {s : ByteArray} (hs : s.size < 4294967281) : strings_Split.f s (⟨#[46]⟩ : ByteArray) = some (parts s) := by
  unfold strings_Split.f
  rw [if_pos ⟨hs, by decide⟩, split_parts]
theorem take_snoc {l : List Int} {a k : Nat} {c : Int} {r : List Int} (hak : a ≤ k) (h : l.drop k = c :: r) : (l.drop a).take (k + 1 - a) = (l.drop a).take (k - a) ++ [c] := by
  have hk : l[k]? = some c := by
    have := congrArg (fun x => x[0]?) h
    simpa [List.getElem?_drop] using this
  rw [show k + 1 - a = (k - a) + 1 by omega, List.take_add_one, List.getElem?_drop, show a + (k - a) = k by omega, hk]
  rfl
theorem parts_loop (s : ByteArray) (hs : s.size ≤ 4294967296) (d : Nat) : ∀ (a k : Nat) (acc : List ByteArray), k + d = s.size → a ≤ k → acc.length ≤ a → (∀ c ∈ ((bytesOf s).drop a).take (k - a), c ≠ 46) → Ev (fun n => cracknelref11_Parts.l0 n s acc a k) (acc ++ (splitL ((bytesOf s).drop a)).map strOfNums) := by
  induction d with
  | zero =>
    intro a k acc hk hak hacc hno
    apply ev_succ
    simp only [cracknelref11_Parts.l0]
    refine ev_neg (by omega) (ev_pos (by omega) (ev_pos (by omega) (ev_pos (by omega) (ev_eq (ev_now _) ?_))))
    have hl := bytesOf_length s
    rw [List.take_of_length_le (by rw [List.length_drop]; omega)] at hno
    rw [splitL_none hno]
    congr 1
    simp only [List.map_cons, List.map_nil]
    congr 1
    apply bytesOf_inj
    rw [bytesOf_extract, bytesOf_str fun c hc => bytesOf_range (List.mem_of_mem_drop hc), Int.toNat_natCast, List.take_of_length_le (by rw [List.length_drop]; omega)]
  | succ d ih =>
    intro a k acc hk hak hacc hno
    apply ev_succ
    simp only [cracknelref11_Parts.l0]
    refine ev_pos (by omega) (ev_pos (by omega) ?_)
    have hw : wrap64 ((k : Int) + 1) = ((k + 1 : Nat) : Int) := by rw [w64 (by omega) (by omega)]; omega
    rw [hw]
    have hl := bytesOf_length s
    rcases drop_cases s (i := k) (by omega) with ⟨h1, _⟩ | ⟨h1, h2⟩
    · omega
    · by_cases hc : bt s k = 46
      · refine ev_pos hc (ev_pos (by omega) (ev_pos (by omega) (ev_pos (by omega) (ev_pos (by omega) ?_))))
        refine ev_eq (ih (k + 1) (k + 1) _ (by omega) (by omega) (by simp; omega) (by simp)) ?_
        rw [hc] at h2
        have e : (bytesOf s).drop a = ((bytesOf s).drop a).take (k - a) ++ 46 :: (bytesOf s).drop (k + 1) := by
          conv => lhs; rw [← List.take_append_drop (k - a) ((bytesOf s).drop a)]
          rw [List.drop_drop, show a + (k - a) = k by omega, h2]
        rw [e, splitL_dot hno, List.map_cons, List.append_assoc]
        congr 1
        rw [List.singleton_append]
        congr 1
        apply bytesOf_inj
        rw [bytesOf_extract, bytesOf_str fun c hc => bytesOf_range (List.mem_of_mem_drop (List.mem_of_mem_take hc)), Int.toNat_natCast, Int.toNat_natCast]
      · refine ev_neg hc (ih a (k + 1) acc (by omega) (by omega) hacc ?_)
        rw [take_snoc hak h2]
        intro c hcm
        rcases List.mem_append.mp hcm with e | e
        · exact hno c e
        · simp only [List.mem_singleton] at e
          rw [e]; exact hc
theorem ref_parts_ev {s : ByteArray} (hs : s.size ≤ 4294967296) : Ev (fun n => cracknelref11_Parts.f n s) (parts s) := by
  simp only [cracknelref11_Parts.f]
  have := parts_loop s hs s.size 0 0 [] (by omega) (Nat.le_refl _) (Nat.le_refl _) (by simp)
  simpa [parts] using this
def okb (c : Int) : Bool := decide (97 ≤ c ∧ c ≤ 122) || decide (48 ≤ c ∧ c ≤ 57) || decide (c = 45)
def okP (s : ByteArray) : Bool := decide (1 ≤ s.size) && (decide (s.size ≤ 63) && (!decide (bt s 0 = 45) && (!decide (bt s ((s.size : Int) - 1) = 45) && (bytesOf s).all okb)))
theorem part_loop (s : ByteArray) (hs : s.size ≤ 63) (d : Nat) : ∀ k : Nat, k + d = s.size → Ev (fun n => cracknelref11_part.l0 n s k) (((bytesOf s).drop k).all okb) := by
  induction d with
  | zero =>
    intro k hk
    apply ev_succ
    simp only [cracknelref11_part.l0]
    have hl := bytesOf_length s
    exact ev_neg (by omega) (ev_eq (ev_now _) (by rw [List.drop_eq_nil_of_le (by omega)]; rfl))
  | succ d ih =>
    intro k hk
    apply ev_succ
    simp only [cracknelref11_part.l0]
    have hw : wrap64 ((k : Int) + 1) = ((k + 1 : Nat) : Int) := by rw [w64 (by omega) (by omega)]; omega
    rw [hw]
    refine ev_pos (by omega) (ev_pos (by omega) ?_)
    rcases drop_cases s (i := k) (by omega) with ⟨h1, _⟩ | ⟨h1, h2⟩
    · omega
    · have ih := ih (k + 1) (by omega)
      rw [h2, List.all_cons]
      have yes : okb (bt s k) = true → Ev (fun n => cracknelref11_part.l0 n s ((k + 1 : Nat) : Int)) (okb (bt s k) && ((bytesOf s).drop (k + 1)).all okb) := fun h => ev_eq ih (by rw [h]; rfl)
      have no : okb (bt s k) = false → Ev (fun _ => some false) (okb (bt s k) && ((bytesOf s).drop (k + 1)).all okb) := fun h => ev_eq (ev_now _) (by rw [h]; rfl)
      have fin : Ev (fun n => if bt s k = 45 then cracknelref11_part.l0 n s ((k + 1 : Nat) : Int) else some false) (okb (bt s k) && ((bytesOf s).drop (k + 1)).all okb) ∨ (97 ≤ bt s k ∧ bt s k ≤ 122) ∨ (48 ≤ bt s k ∧ bt s k ≤ 57) := by
        by_cases a : 97 ≤ bt s k ∧ bt s k ≤ 122
        · exact .inr (.inl a)
        · by_cases b : 48 ≤ bt s k ∧ bt s k ≤ 57
          · exact .inr (.inr b)
          · left
            by_cases c : bt s k = 45
            · exact ev_pos c (yes (by unfold okb; rw [decide_eq_true c]; simp))
            · exact ev_neg c (no (by unfold okb; rw [decide_eq_false a, decide_eq_false b, decide_eq_false c]; rfl))
      by_cases a : bt s k ≥ 97
      · refine ev_pos a ?_
        by_cases b : bt s k ≤ 122
        · exact ev_pos b (yes (by unfold okb; rw [decide_eq_true ⟨a, b⟩]; rfl))
        · refine ev_neg b (ev_pos (by omega) (ev_neg (by omega) ?_))
          rcases fin with h | h | h
          · exact h
          · omega
          · omega
      · refine ev_neg a ?_
        by_cases b : bt s k ≥ 48
        · refine ev_pos b ?_
          by_cases c : bt s k ≤ 57
          · exact ev_pos c (yes (by unfold okb; rw [decide_eq_true (p := 48 ≤ bt s k ∧ bt s k ≤ 57) ⟨b, c⟩]; simp))
          · refine ev_neg c ?_
            rcases fin with h | h | h
            · exact h
            · omega
            · omega
        · refine ev_neg b ?_
          rcases fin with h | h | h
          · exact h
          · omega
          · omega
theorem part_ev (s : ByteArray) (hs : s.size ≤ 140737488351232) : Ev (fun n => cracknelref11_part.f n s) (okP s) := by
  have no : okP s = false → Ev (fun n => cracknelref11_part.j0 n s true) (okP s) := fun h => by
    apply ev_succ
    simp only [cracknelref11_part.j0]
    exact ev_pos (by trivial) (ev_eq (ev_now _) h.symm)
  simp only [cracknelref11_part.f]
  unfold okP at no ⊢
  by_cases h1 : (s.size : Int) < 1
  · exact ev_pos h1 (no (by rw [decide_eq_false (show ¬ 1 ≤ s.size by omega)]; rfl))
  · refine ev_neg h1 ?_
    by_cases h2 : (s.size : Int) > 63
    · exact ev_pos h2 (no (by rw [decide_eq_false (show ¬ s.size ≤ 63 by omega)]; simp))
    · refine ev_neg h2 (ev_pos (by omega) ?_)
      by_cases h3 : bt s 0 = 45
      · exact ev_pos h3 (no (by rw [decide_eq_true h3]; simp))
      · refine ev_neg h3 ?_
        rw [w64 (by omega) (by omega)]
        refine ev_pos (by omega) (ev_pos (by omega) ?_)
        by_cases h4 : bt s ((s.size : Int) - 1) = 45
        · rw [beq_iff_eq.mpr h4]
          exact no (by rw [decide_eq_true h4]; simp)
        · rw [beq_eq_false_iff_ne.mpr h4]
          apply ev_succ
          simp only [cracknelref11_part.j0]
          refine ev_neg (by simp) (ev_eq (part_loop s (by omega) s.size 0 (by omega)) ?_)
          rw [decide_eq_true (show 1 ≤ s.size by omega), decide_eq_true (show s.size ≤ 63 by omega), decide_eq_false h3, decide_eq_false h4]
          rfl
theorem rdOf_drop {l : List ByteArray} {i : Nat} {c : ByteArray} {r : List ByteArray} (h : l.drop i = c :: r) : rdOf ByteArray.empty l (i : Int) = c := by
  unfold rdOf
  have := congrArg (fun x => x[0]?) h
  simp only [List.getElem?_drop, Nat.add_zero, List.getElem?_cons_zero] at this
  rw [Int.toNat_natCast, List.getD_eq_getElem?_getD, this]
  rfl
theorem drop_casesL {α : Type} (l : List α) {i : Nat} (h : i ≤ l.length) : (i = l.length ∧ l.drop i = []) ∨ (∃ c, i < l.length ∧ l.drop i = c :: l.drop (i + 1)) := by
  rcases Nat.lt_or_ge i l.length with h1 | h1
  · exact .inr ⟨l[i], h1, List.drop_eq_getElem_cons h1⟩
  · exact .inl ⟨by omega, List.drop_eq_nil_of_le h1⟩
theorem may_f (c : Int) (e : Bool) : host_may.f c e = some (okb c && !(e && decide (c = 45))) := by
  unfold host_may.f okb
  by_cases a : c ≥ 97
  · rw [if_pos a]
    by_cases b : c ≤ 122
    · rw [if_pos b, decide_eq_true (show 97 ≤ c ∧ c ≤ 122 from ⟨a, b⟩), decide_eq_false (show ¬ c = 45 by omega)]; simp
    · rw [if_neg b, if_pos (by omega), if_neg (by omega), if_neg (by omega), decide_eq_false (by omega), decide_eq_false (by omega), decide_eq_false (by omega)]; rfl
  · rw [if_neg a]
    by_cases b : c ≥ 48
    · rw [if_pos b]
      by_cases d : c ≤ 57
      · rw [if_pos d, decide_eq_true (show 48 ≤ c ∧ c ≤ 57 from ⟨b, d⟩), decide_eq_false (show ¬ c = 45 by omega)]; simp
      · rw [if_neg d, if_neg (by omega), decide_eq_false (by omega), decide_eq_false (by omega), decide_eq_false (by omega)]; rfl
    · rw [if_neg b]
      by_cases d : c = 45
      · rw [if_pos d, decide_eq_true d]; simp
      · rw [if_neg d, decide_eq_false (by omega), decide_eq_false (by omega), decide_eq_false d]; rfl
def endb (s : ByteArray) (i : Nat) : Bool := decide (i = 0) || decide (i + 1 = s.size)
def mayAt (s : ByteArray) (i : Nat) : Bool := okb (bt s i) && !(endb s i && decide (bt s i = 45))
def mayFrom (s : ByteArray) (i d : Nat) : Bool := (List.range' i d).all (mayAt s)
theorem right_inner (s : ByteArray) (l : List ByteArray) (n j : Int) (hs : s.size ≤ 63) (r : Bool) (K : Ev (fun k => host_right.l0 k l n (wrap64 (j + 1))) r) (d : Nat) : ∀ i : Nat, i + d = s.size → Ev (fun k => host_right.l1 k s l n j (s.size : Int) i) (mayFrom s i d && r) := by
  induction d with
  | zero =>
    intro i hi
    apply ev_succ
    simp only [host_right.l1]
    exact ev_neg (by omega) (ev_eq K (by simp [mayFrom]))
  | succ d ih =>
    intro i hi
    have ih := ih (i + 1) (by omega)
    have hw : wrap64 ((i : Int) + 1) = ((i + 1 : Nat) : Int) := by rw [w64 (by omega) (by omega)]; omega
    have hf : mayFrom s i (d + 1) = (mayAt s i && mayFrom s (i + 1) d) := by unfold mayFrom; rw [List.range'_succ, List.all_cons]
    have main : ∀ e : Bool, e = endb s i → Ev (fun k => (host_may.f (bt s i) e).bind fun t => if t = true then host_right.l1 k s l n j (s.size : Int) ((i + 1 : Nat) : Int) else some false) (mayFrom s i (d + 1) && r) := by
      intro e he
      rw [may_f, hf, he]
      show Ev _ (((okb (bt s i) && !(endb s i && decide (bt s i = 45))) && mayFrom s (i + 1) d) && r)
      cases (okb (bt s i) && !(endb s i && decide (bt s i = 45))) with
      | true => exact ev_bind (ev_now true) (ev_pos rfl ih)
      | false => exact ev_bind (ev_now false) (ev_neg (by simp) (ev_now _))
    apply ev_succ
    simp only [host_right.l1]
    rw [hw]
    refine ev_pos (by omega) (ev_pos (by omega) (ev_pos (by omega) ?_))
    by_cases h0 : (i : Int) = 0
    · exact ev_pos h0 (main true (by unfold endb; rw [decide_eq_true (show i = 0 by omega)]; rfl))
    · refine ev_neg h0 (main _ ?_)
      unfold endb
      rw [w64 (by omega) (by omega), decide_eq_false (show ¬ i = 0 by omega), Bool.false_or, Bool.eq_iff_iff, beq_iff_eq, decide_eq_true_iff]
      omega
theorem mayFrom_mid (s : ByteArray) (d : Nat) : ∀ i, 1 ≤ i → i + d + 1 = s.size → mayFrom s i d = (((bytesOf s).drop i).take d).all okb := by
  induction d with
  | zero => intro i _ _; simp [mayFrom]
  | succ d ih =>
    intro i h1 h2
    have hl := bytesOf_length s
    rcases drop_cases s (i := i) (by omega) with ⟨h3, _⟩ | ⟨h3, h4⟩
    · omega
    · have ih := ih (i + 1) (by omega) (by omega)
      unfold mayFrom at ih ⊢
      rw [List.range'_succ, List.all_cons, ih, h4, List.take_succ_cons, List.all_cons]
      congr 1
      unfold mayAt endb
      rw [decide_eq_false (show ¬ i = 0 by omega), decide_eq_false (show ¬ i + 1 = s.size by omega)]
      simp
theorem okP_may (s : ByteArray) : okP s = (decide (1 ≤ s.size) && (decide (s.size ≤ 63) && mayFrom s 0 s.size)) := by
  unfold okP
  by_cases h1 : 1 ≤ s.size
  · rw [decide_eq_true h1]
    by_cases h2 : s.size ≤ 63
    · rw [decide_eq_true h2, Bool.true_and, Bool.true_and, Bool.true_and, Bool.true_and]
      have hl := bytesOf_length s
      by_cases he : s.size = 1
      · rcases drop_cases s (i := 0) (by omega) with ⟨h3, _⟩ | ⟨h3, h4⟩
        · omega
        · rw [List.drop_zero] at h4
          have h5 : (bytesOf s).drop (0 + 1) = [] := List.drop_eq_nil_of_le (by omega)
          rw [h5] at h4
          rw [h4, he]
          simp only [mayFrom, List.range'_one, List.all_cons, List.all_nil, Bool.and_true, mayAt, endb]
          rw [show ((1 : Nat) : Int) - 1 = ((0 : Nat) : Int) by omega]
          show ((!decide (bt s ((0 : Nat) : Int) = 45)) && _) = _
          generalize decide (bt s ((0 : Nat) : Int) = 45) = x
          generalize okb (bt s ((0 : Nat) : Int)) = y
          cases x <;> cases y <;> simp
      · obtain ⟨m, hm⟩ : ∃ m, s.size = m + 2 := ⟨s.size - 2, by omega⟩
        have hmid := mayFrom_mid s m 1 (by omega) (by omega)
        rcases drop_cases s (i := 0) (by omega) with ⟨h3, _⟩ | ⟨h3, h4⟩
        · omega
        · rw [List.drop_zero] at h4
          rcases drop_cases s (i := m + 1) (by omega) with ⟨h5, _⟩ | ⟨h5, h6⟩
          · omega
          · have h7 : (bytesOf s).drop (m + 1 + 1) = [] := List.drop_eq_nil_of_le (by omega)
            rw [h7] at h6
            have e : bytesOf s = bt s ((0 : Nat) : Int) :: ((((bytesOf s).drop 1).take m) ++ [bt s ((m + 1 : Nat) : Int)]) := by
              conv => lhs; rw [h4]
              congr 1
              show (bytesOf s).drop 1 = _
              conv => lhs; rw [← List.take_append_drop m ((bytesOf s).drop 1)]
              rw [List.drop_drop, show 1 + m = m + 1 by omega, h6]
            have f : mayFrom s 0 (m + 2) = (mayAt s 0 && (mayFrom s 1 m && mayAt s (m + 1))) := by
              unfold mayFrom
              rw [List.range'_succ, List.all_cons, show m + 1 = m + 1 from rfl, List.range'_concat, List.all_append]
              simp
              rw [Nat.add_comm 1 m]
            conv => lhs; rw [show (bytesOf s).all okb = (bt s ((0 : Nat) : Int) :: ((((bytesOf s).drop 1).take m) ++ [bt s ((m + 1 : Nat) : Int)])).all okb by rw [← e]]
            rw [hm, f, hmid]
            rw [List.all_cons, List.all_append]
            simp only [mayAt, endb, List.all_cons, List.all_nil, Bool.and_true]
            rw [show ((m + 2 : Nat) : Int) - 1 = ((m + 1 : Nat) : Int) by omega, decide_eq_true (show m + 1 + 1 = s.size by omega)]
            show ((!decide (bt s ((0 : Nat) : Int) = 45)) && _) = _
            generalize decide (bt s ((0 : Nat) : Int) = 45) = x
            generalize okb (bt s ((0 : Nat) : Int)) = y
            generalize decide (bt s ((m + 1 : Nat) : Int) = 45) = z
            generalize okb (bt s ((m + 1 : Nat) : Int)) = u
            generalize List.all _ okb = v
            cases x <;> cases y <;> cases z <;> cases u <;> cases v <;> simp
    · rw [decide_eq_false h2]; simp
  · rw [decide_eq_false h1]; rfl
theorem right_loop (l : List ByteArray) (hl : l.length ≤ 8796093022208) (d : Nat) : ∀ i : Nat, i + d = l.length → Ev (fun k => host_right.l0 k l (l.length : Int) i) ((l.drop i).all okP) := by
  induction d with
  | zero =>
    intro i hi
    apply ev_succ
    simp only [host_right.l0]
    exact ev_neg (by omega) (ev_eq (ev_now _) (by rw [List.drop_eq_nil_of_le (by omega)]; rfl))
  | succ d ih =>
    intro i hi
    apply ev_succ
    simp only [host_right.l0]
    refine ev_pos (by omega) (ev_pos (by omega) (ev_pos (by omega) ?_))
    rcases drop_casesL l (i := i) (by omega) with ⟨h1, _⟩ | ⟨c, h1, h2⟩
    · omega
    · rw [rdOf_drop h2, h2, List.all_cons]
      have ih := ih (i + 1) (by omega)
      have hw : wrap64 ((i : Int) + 1) = ((i + 1 : Nat) : Int) := by rw [w64 (by omega) (by omega)]; omega
      have no : okP c = false → Ev (fun k => host_right.j1 k c l (l.length : Int) i true) (okP c && (l.drop (i + 1)).all okP) := fun h => by
        apply ev_succ
        simp only [host_right.j1]
        exact ev_pos (by trivial) (ev_eq (ev_now _) (by rw [h]; rfl))
      by_cases a : (c.size : Int) < 1
      · exact ev_pos a (no (by unfold okP; rw [decide_eq_false (show ¬ 1 ≤ c.size by omega)]; rfl))
      · refine ev_neg a ?_
        by_cases b : (c.size : Int) > 63
        · rw [decide_eq_true b]
          exact no (by unfold okP; rw [decide_eq_false (show ¬ c.size ≤ 63 by omega)]; simp)
        · rw [decide_eq_false b]
          apply ev_succ
          simp only [host_right.j1]
          refine ev_neg (by simp) (ev_eq (right_inner c l _ i (by omega) _ (by rw [hw]; exact ih) c.size 0 (by omega)) ?_)
          rw [okP_may, decide_eq_true (show 1 ≤ c.size by omega), decide_eq_true (show c.size ≤ 63 by omega)]
          rfl
theorem right_ev {l : List ByteArray} (hl : l.length ≤ 8796093022208) : Ev (fun k => host_right.f k l) (l.all okP) := by
  have := right_loop l hl l.length 0 (by omega)
  simpa [host_right.f] using this
def canonB (s : ByteArray) : ByteArray × Bool := if s.size ≤ 64 ∧ (parts (lowB s)).all okP = true then (lowB s, true) else (⟨#[]⟩, false)
theorem parts_len (s : ByteArray) : (parts s).length ≤ s.size + 1 := by
  have := splitL_sum (bytesOf s)
  rw [bytesOf_length] at this
  unfold parts
  rw [List.length_map]
  omega
theorem canon_ev (s : ByteArray) : Ev (fun k => host_Canon.f k s) (canonB s) := by
  simp only [host_Canon.f]
  unfold canonB
  by_cases h : (s.size : Int) > 64
  · exact ev_pos h (ev_eq (ev_now _) (by rw [if_neg (by omega)]))
  · refine ev_neg h ?_
    have hs := low_size s
    have hp := parts_len (lowB s)
    rw [low_f (by omega)]
    refine ev_bind (ev_now _) ?_
    rw [split_f (by omega)]
    refine ev_bind (ev_now _) (ev_bind (right_ev (by omega)) ?_)
    by_cases hr : (parts (lowB s)).all okP = true
    · exact ev_pos hr (ev_eq (ev_now _) (by rw [if_pos ⟨by omega, hr⟩]))
    · exact ev_neg hr (ev_eq (ev_now _) (by rw [if_neg fun e => hr e.2]))
theorem ref_canon_loop (s : ByteArray) (l : List ByteArray) (hl : l.length ≤ 8796093022208) (hsz : ∀ p ∈ l, p.size ≤ 140737488351232) (d : Nat) : ∀ i : Nat, i + d = l.length → Ev (fun k => cracknelref11_Canon.l0 k s l i) (if (l.drop i).all okP = true then (s, true) else (⟨#[]⟩, false)) := by
  induction d with
  | zero =>
    intro i hi
    apply ev_succ
    simp only [cracknelref11_Canon.l0]
    exact ev_neg (by omega) (ev_eq (ev_now _) (by rw [List.drop_eq_nil_of_le (by omega)]; rfl))
  | succ d ih =>
    intro i hi
    apply ev_succ
    simp only [cracknelref11_Canon.l0]
    refine ev_pos (by omega) (ev_pos (by omega) ?_)
    rcases drop_casesL l (i := i) (by omega) with ⟨h1, _⟩ | ⟨c, h1, h2⟩
    · omega
    · have ih := ih (i + 1) (by omega)
      have hw : wrap64 ((i : Int) + 1) = ((i + 1 : Nat) : Int) := by rw [w64 (by omega) (by omega)]; omega
      rw [rdOf_drop h2, h2, List.all_cons, hw]
      refine ev_bind (part_ev c (hsz c (List.mem_of_mem_drop (by rw [h2]; exact List.mem_cons_self ..)))) ?_
      by_cases hc : okP c = true
      · refine ev_pos hc (ev_eq ih ?_)
        rw [hc, Bool.true_and]
      · refine ev_neg hc (ev_eq (ev_now _) ?_)
        rw [Bool.not_eq_true] at hc
        rw [hc]; rfl
theorem mem_sum {l : List Nat} {x : Nat} (h : x ∈ l) : x ≤ l.sum := by
  induction l with
  | nil => simp at h
  | cons y l ih =>
    rw [List.sum_cons]
    rcases List.mem_cons.mp h with rfl | e
    · omega
    · have := ih e; omega
theorem parts_size {s p : ByteArray} (h : p ∈ parts s) : p.size ≤ s.size := by
  have h1 : bytesOf p ∈ splitL (bytesOf s) := by rw [← parts_bytes]; exact List.mem_map_of_mem h
  have h2 := splitL_sum (bytesOf s)
  have h3 : (bytesOf p).length ≤ ((splitL (bytesOf s)).map List.length).sum := mem_sum (List.mem_map_of_mem h1)
  have h4 : 1 ≤ (splitL (bytesOf s)).length := List.length_pos_iff.mpr (splitL_ne _)
  rw [bytesOf_length] at h2 h3
  omega
theorem ref_canon_ev {s : ByteArray} (hs : s.size ≤ 140737488351232) : Ev (fun k => cracknelref11_Canon.f k s) (canonB s) := by
  simp only [cracknelref11_Canon.f]
  rw [ref_low_f (by omega)]
  refine ev_bind (ev_now _) ?_
  have hz := low_size s
  have no : ¬ (s.size ≤ 64 ∧ (parts (lowB s)).all okP = true) → Ev (fun n => cracknelref11_Canon.j0 n (lowB s) true) (canonB s) := fun h => by
    apply ev_succ
    simp only [cracknelref11_Canon.j0]
    exact ev_pos (by trivial) (ev_eq (ev_now _) (by unfold canonB; rw [if_neg h]))
  by_cases h1 : ((lowB s).size : Int) < 1
  · refine ev_pos h1 (no fun h => ?_)
    have hb : bytesOf (lowB s) = [] := bytesOf_nil_iff.mpr (by omega)
    have h2 := h.2
    unfold parts at h2
    rw [hb] at h2
    exact absurd h2 (by decide +kernel)
  · refine ev_neg h1 ?_
    by_cases h2 : ((lowB s).size : Int) > 64
    · rw [decide_eq_true h2]
      exact no fun h => by omega
    · rw [decide_eq_false h2]
      apply ev_succ
      simp only [cracknelref11_Canon.j0]
      have hp := parts_len (lowB s)
      refine ev_neg (by simp) (ev_bind (ref_parts_ev (by omega)) (ev_eq (ref_canon_loop (lowB s) _ (by omega) (fun p hp => by have := parts_size hp; omega) (parts (lowB s)).length 0 (by omega)) ?_))
      rw [List.drop_zero]
      unfold canonB
      by_cases hr : (parts (lowB s)).all okP = true
      · rw [if_pos hr, if_pos ⟨by omega, hr⟩]
      · rw [if_neg hr, if_neg fun e => hr e.2]
theorem canon_yes {s t : ByteArray} (h : canonB s = (t, true)) : t = lowB s ∧ s.size ≤ 64 ∧ (parts (lowB s)).all okP = true := by
  unfold canonB at h
  split at h
  · rename_i hc
    exact ⟨(Prod.mk.inj h).1.symm, hc⟩
  · cases h
def byteP (p : ByteArray) : Bool := (readB p).2 && (decide (0 ≤ (readB p).1) && decide ((readB p).1 ≤ 255))
def ipB (s : ByteArray) : Bool := (parts s).all byteP && decide ((parts s).length = 4)
theorem byte_step (p : ByteArray) (g : Nat → Option Bool) (r : Bool) (h : Ev g r) (x : Int × Bool) (hx : x = readB p) : Ev (fun k => if x.2 = true then (if x.1 < 0 then some false else if x.1 > 255 then some false else g k) else some false) (byteP p && r) := by
  subst hx
  unfold byteP
  by_cases a : (readB p).2 = true
  · refine ev_pos a ?_
    by_cases b : (readB p).1 < 0
    · exact ev_pos b (ev_eq (ev_now _) (by rw [a, decide_eq_false (show ¬ 0 ≤ (readB p).1 by omega)]; rfl))
    · refine ev_neg b ?_
      by_cases c : (readB p).1 > 255
      · exact ev_pos c (ev_eq (ev_now _) (by rw [a, decide_eq_false (show ¬ (readB p).1 ≤ 255 by omega)]; simp))
      · exact ev_neg c (ev_eq h (by rw [a, decide_eq_true (show 0 ≤ (readB p).1 by omega), decide_eq_true (show (readB p).1 ≤ 255 by omega)]; rfl))
  · refine ev_neg a (ev_eq (ev_now _) ?_)
    rw [Bool.not_eq_true] at a
    rw [a]; rfl
theorem ip_loop (l : List ByteArray) (hl : l.length ≤ 8796093022208) (d : Nat) : ∀ i : Nat, i + d = l.length → Ev (fun k => host_Ip.l0 k l l (l.length : Int) i) ((l.drop i).all byteP && decide (l.length = 4)) := by
  induction d with
  | zero =>
    intro i hi
    apply ev_succ
    simp only [host_Ip.l0]
    refine ev_neg (by omega) (ev_eq (ev_now _) ?_)
    rw [List.drop_eq_nil_of_le (by omega), List.all_nil, Bool.true_and, Bool.eq_iff_iff, beq_iff_eq, decide_eq_true_iff]
    omega
  | succ d ih =>
    intro i hi
    apply ev_succ
    simp only [host_Ip.l0]
    refine ev_pos (by omega) (ev_pos (by omega) (ev_pos (by omega) ?_))
    rcases drop_casesL l (i := i) (by omega) with ⟨h1, _⟩ | ⟨c, h1, h2⟩
    · omega
    · have ih := ih (i + 1) (by omega)
      have hw : wrap64 ((i : Int) + 1) = ((i + 1 : Nat) : Int) := by rw [w64 (by omega) (by omega)]; omega
      rw [rdOf_drop h2, h2, List.all_cons, hw, Bool.and_assoc]
      exact ev_bind (ev_now (readB c)) (byte_step c _ _ ih _ rfl)
theorem ip_ev {s : ByteArray} (hs : s.size < 4294967281) : Ev (fun k => host_Ip.f k s) (ipB s) := by
  simp only [host_Ip.f]
  rw [split_f hs]
  have hp := parts_len s
  refine ev_bind (ev_now _) (ev_eq (ip_loop (parts s) (by omega) _ 0 (Nat.zero_add _)) ?_)
  rw [List.drop_zero]; rfl
theorem ref_ip_loop (l : List ByteArray) (hl : l.length ≤ 8796093022208) (hsz : ∀ p ∈ l, p.size ≤ 140737488351232) (d : Nat) : ∀ i : Nat, i + d = l.length → Ev (fun k => cracknelref11_Ip.l0 k l i) ((l.drop i).all byteP && decide (l.length = 4)) := by
  induction d with
  | zero =>
    intro i hi
    apply ev_succ
    simp only [cracknelref11_Ip.l0]
    refine ev_neg (by omega) (ev_eq (ev_now _) ?_)
    rw [List.drop_eq_nil_of_le (by omega), List.all_nil, Bool.true_and, Bool.eq_iff_iff, beq_iff_eq, decide_eq_true_iff]
    omega
  | succ d ih =>
    intro i hi
    apply ev_succ
    simp only [cracknelref11_Ip.l0]
    refine ev_pos (by omega) (ev_pos (by omega) ?_)
    rcases drop_casesL l (i := i) (by omega) with ⟨h1, _⟩ | ⟨c, h1, h2⟩
    · omega
    · have ih := ih (i + 1) (by omega)
      have hw : wrap64 ((i : Int) + 1) = ((i + 1 : Nat) : Int) := by rw [w64 (by omega) (by omega)]; omega
      rw [rdOf_drop h2, h2, List.all_cons, hw, Bool.and_assoc]
      exact ev_bind (ref_read_ev (hsz c (List.mem_of_mem_drop (by rw [h2]; exact List.mem_cons_self ..)))) (byte_step c _ _ ih _ rfl)
theorem ref_ip_ev {s : ByteArray} (hs : s.size < 4294967281) : Ev (fun k => cracknelref11_Ip.f k s) (ipB s) := by
  simp only [cracknelref11_Ip.f]
  have hp := parts_len s
  refine ev_bind (ref_parts_ev (by omega)) (ev_eq (ref_ip_loop (parts s) (by omega) (fun p hp => by have := parts_size hp; omega) _ 0 (Nat.zero_add _)) ?_)
  rw [List.drop_zero]; rfl
end Go.Proofs.YtpcakfldmcfhlaaGreatDoor.Y
