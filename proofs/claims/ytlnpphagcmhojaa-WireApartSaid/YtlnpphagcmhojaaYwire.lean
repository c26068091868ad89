/- What the functions of layer 3 (wire), and its reference, tell: plain functions on lists of bytes, and that the printed ones come to them. The numbers are of 64 bits, the texts no longer than a row may be. -/
import Derived.Test.YtlnpphagcmhojaaYa
import Derived.Test.YtlnpphagcmhojaaPrintF
namespace Go.Proofs.Ytlnpphagcmhojaa.Y
set_option linter.unusedVariables false
set_option linter.unusedSimpArgs false
open Go.RowKit Go.Proofs.Ytlnpphagcmhojaa.Print Go.Proofs.YtlnpphagcmhojaaW.PrintWords Go.Proofs.YtlnpphagcmhojaaW.PrintLast Go.Proofs.YtlnpphagcmhojaaW.PrintMore

/-- The bytes of a number. -/
def dig (n : Nat) : List Int := if n < 128 then [(n : Int)] else ((n % 128 + 128 : Nat) : Int) :: dig (n / 128)
termination_by n
decreasing_by omega
theorem dig_lt {n : Nat} (h : n < 128) : dig n = [(n : Int)] := by rw [dig, if_pos h]
theorem dig_ge {n : Nat} (h : ¬ n < 128) : dig n = ((n % 128 + 128 : Nat) : Int) :: dig (n / 128) := by rw [dig, if_neg h]
theorem dig_range (n : Nat) : ∀ x ∈ dig n, 0 ≤ x ∧ x < 256 := by
  induction n using Nat.strongRecOn with
  | _ n ih =>
    intro x hx
    by_cases h : n < 128
    · rw [dig_lt h] at hx
      simp only [List.mem_singleton] at hx
      omega
    · rw [dig_ge h] at hx
      rcases List.mem_cons.mp hx with e | e
      · omega
      · exact ih (n / 128) (by omega) x e
theorem dig_len (j : Nat) : ∀ n : Nat, n < 128 ^ (j + 1) → (dig n).length ≤ j + 1 := by
  induction j with
  | zero => intro n h; rw [dig_lt (by simpa using h)]; simp
  | succ j ih =>
    intro n h
    by_cases hn : n < 128
    · rw [dig_lt hn]; simp
    · rw [dig_ge hn]
      have := ih (n / 128) (by rw [Nat.pow_succ] at h; exact Nat.div_lt_of_lt_mul (by omega))
      simp only [List.length_cons]
      omega
theorem dig_len10 {n : Nat} (h : n < 18446744073709551616) : (dig n).length ≤ 10 := by
  have e : (128 : Nat) ^ (9 + 1) = 1180591620717411303424 := by decide
  exact dig_len 9 n (by omega)
theorem dig_pos (n : Nat) : 0 < (dig n).length := by
  rw [dig]; split <;> simp
theorem dig_str (n : Nat) : bytesOf (strOfNums (dig n)) = dig n := bytesOf_str (dig_range n)

/-! ### lay, Put -/
theorem or128 : ∀ m : Fin 256, Go.bits .or .u8 (m.val : Int) 128 = ((m.val % 128 + 128 : Nat) : Int) := by decide +kernel
theorem or128_nat (n : Nat) : Go.bits .or .u8 ((n : Int) % 256) 128 = ((n % 128 + 128 : Nat) : Int) := by
  have := or128 ⟨n % 256, by omega⟩
  simp only at this
  rw [show (n : Int) % 256 = ((n % 256 : Nat) : Int) by omega, this]
  congr 2
  omega
theorem lay_ev (n : Nat) : ∀ xs : List Int, n < 18446744073709551616 → xs.length + (dig n).length ≤ 140737488355328 → Ev (fun k => wire_lay_uint64.l0 k xs n) (xs ++ dig n) := by
  induction n using Nat.strongRecOn with
  | _ n ih =>
    intro xs hn hl
    apply ev_succ
    simp only [wire_lay_uint64.l0]
    have hp := dig_pos n
    by_cases h : n < 128
    · refine ev_neg (by omega) (ev_pos (by omega) (ev_eq (ev_now _) ?_))
      rw [dig_lt h]
      congr 2
      omega
    · rw [dig_ge h] at hl ⊢
      simp only [List.length_cons] at hl
      refine ev_pos (by omega) (ev_pos (by omega) ?_)
      rw [or128_nat, show (n : Int) / 128 = ((n / 128 : Nat) : Int) by omega]
      refine ev_eq (ih (n / 128) (by omega) _ (by omega) (by simp only [List.length_append, List.length_singleton]; omega)) ?_
      simp
theorem lay_int_ev (n : Nat) : ∀ xs : List Int, n < 18446744073709551616 → xs.length + (dig n).length ≤ 140737488355328 → Ev (fun k => wire_lay_int.l0 k xs n) (xs ++ dig n) := by
  induction n using Nat.strongRecOn with
  | _ n ih =>
    intro xs hn hl
    apply ev_succ
    simp only [wire_lay_int.l0]
    have hp := dig_pos n
    by_cases h : n < 128
    · refine ev_neg (by omega) (ev_pos (by omega) (ev_eq (ev_now _) ?_))
      rw [dig_lt h]
      congr 2
      omega
    · rw [dig_ge h] at hl ⊢
      simp only [List.length_cons] at hl
      refine ev_pos (by omega) (ev_pos (by omega) ?_)
      rw [or128_nat, show (n : Int) / 128 = ((n / 128 : Nat) : Int) by omega]
      refine ev_eq (ih (n / 128) (by omega) _ (by omega) (by simp only [List.length_append, List.length_singleton]; omega)) ?_
      simp
def put (n : Nat) : ByteArray := strOfNums (dig n)
theorem put_size (n : Nat) : (put n).size = (dig n).length := by rw [put, strOfNums_size]
theorem bytesOf_put (n : Nat) : bytesOf (put n) = dig n := dig_str n
theorem put_ev {n : Nat} (h : n < 18446744073709551616) : Ev (fun k => wire_Put.f k n) (put n) := by
  have h10 := dig_len10 h
  simp only [wire_Put.f, wire_lay_uint64.f]
  exact ev_bind (lay_ev n [] h (by simp; omega)) (ev_now _)
theorem ref_put_loop (n : Nat) : ∀ xs : List Int, n < 18446744073709551616 → xs.length + (dig n).length ≤ 140737488355328 → Ev (fun k => cracknelref03_Put.l0 k n xs) (strOfNums (xs ++ dig n)) := by
  induction n using Nat.strongRecOn with
  | _ n ih =>
    intro xs hn hl
    apply ev_succ
    simp only [cracknelref03_Put.l0]
    have hp := dig_pos n
    by_cases h : n < 128
    · refine ev_neg (by omega) (ev_pos (by omega) (ev_eq (ev_now _) ?_))
      rw [dig_lt h]
      congr 3
      omega
    · rw [dig_ge h] at hl ⊢
      simp only [List.length_cons] at hl
      refine ev_pos (by omega) (ev_pos (by omega) ?_)
      rw [show Int.tdiv (n : Int) 128 = ((n / 128 : Nat) : Int) by rw [Int.tdiv_eq_ediv_of_nonneg (by omega)]; omega, u64_id (by omega) (by omega), show Int.tmod (n : Int) 128 = ((n % 128 : Nat) : Int) by rw [Int.tmod_eq_emod_of_nonneg (by omega)]; omega, u64_id (by omega) (by omega),
        show (128 + ((n % 128 : Nat) : Int)) % 256 = ((n % 128 + 128 : Nat) : Int) by omega]
      refine ev_eq (ih (n / 128) (by omega) _ (by omega) (by simp only [List.length_append, List.length_singleton]; omega)) ?_
      simp
theorem ref_put_ev {n : Nat} (h : n < 18446744073709551616) : Ev (fun k => cracknelref03_Put.f k n) (put n) := by
  have h10 := dig_len10 h
  simp only [cracknelref03_Put.f]
  exact ref_put_loop n [] h (by simp; omega)

/-! ### Take -/
def scan : Nat → List Int → Int → Int × Int × Int
  | k, [], _ => if k < 10 then (0, 0, 30) else (0, 0, 31)
  | k, c :: l, n => if 10 ≤ k then (0, 0, 31) else if 128 ≤ c then scan (k + 1) l (n + (c - 128) * 128 ^ k) else if k = 9 ∧ 1 < c then (0, 0, 31) else if 0 < k ∧ c = 0 then (0, 0, 32) else (n + c * 128 ^ k, (k : Int) + 1, 0)
theorem scan_10 (l : List Int) (n : Int) : scan 10 l n = (0, 0, 31) := by cases l <;> simp [scan]
theorem p128_pos (k : Nat) : (0 : Int) < 128 ^ k := Int.pow_pos (by decide)
theorem p128_le {k : Nat} (h : k ≤ 9) : (128 : Int) ^ k ≤ 9223372036854775808 := by
  have := Nat.pow_le_pow_right (n := 128) (by decide) h
  have e : ((128 : Nat) : Int) ^ k = ((128 ^ k : Nat) : Int) := by simp
  have e2 : (128 : Nat) ^ 9 = 9223372036854775808 := by decide
  rw [show (128 : Int) = ((128 : Nat) : Int) by rfl, e]
  omega
theorem p128_le8 {k : Nat} (h : k ≤ 8) : (128 : Int) ^ k ≤ 72057594037927936 := by
  have := Nat.pow_le_pow_right (n := 128) (by decide) h
  have e : ((128 : Nat) : Int) ^ k = ((128 ^ k : Nat) : Int) := by simp
  have e2 : (128 : Nat) ^ 8 = 72057594037927936 := by decide
  rw [show (128 : Int) = ((128 : Nat) : Int) by rfl, e]
  omega
theorem two_pow7 (k : Nat) : (2 : Int) ^ (7 * k) = 128 ^ k := by rw [Int.pow_mul]; rfl
theorem shl7 {c : Int} {k : Nat} (hk : k ≤ 9) (h0 : 0 ≤ c) (h : c * 128 ^ k ≤ 18446744073709551615) : shl .u64 c (7 * (k : Int)) = c * 128 ^ k := by
  unfold shl
  rw [show min (7 * (k : Int)).toNat IntKind.u64.bits = 7 * k by
    have : IntKind.u64.bits = 64 := rfl
    omega, two_pow7, u64_id (Int.mul_nonneg h0 (Int.le_of_lt (p128_pos k))) h]
theorem bits_or_comm (k : IntKind) (x y : Int) : Go.bits .or k x y = Go.bits .or k y x := by
  unfold Go.bits
  simp only [BitVec.or_comm]
theorem pow64 : (2 : Int) ^ 64 = 18446744073709551616 := by decide
theorem or_high {n c : Int} {k : Nat} (h0 : 0 ≤ n) (h1 : n < 128 ^ k) (hc : 0 ≤ c) (h : n + c * 128 ^ k ≤ 18446744073709551615) : Go.bits .or .u64 n (c * 128 ^ k) = n + c * 128 ^ k := by
  have hm := Int.mul_nonneg hc (Int.le_of_lt (p128_pos k))
  have e := bits_join .u64 64 (by decide) wraps_u64 (7 * k) (c * 128 ^ k) n hm (by rw [two_pow7]; exact Int.mul_emod_left _ _) (by rw [pow64]; omega) h0 (by rw [two_pow7]; exact h1) (by rw [pow64]; omega)
  rw [bits_or_comm, e, Int.add_comm]
theorem and127 {c : Int} (h0 : 128 ≤ c) (h1 : c < 256) : Go.bits .and .u8 c 127 = c - 128 := by
  have := bits_mask .u8 8 (by decide) wraps_u8 7 (by decide) c (by omega) (by omega)
  rw [show (127 : Int) = 2 ^ 7 - 1 by decide, this]
  omega
theorem mul_le_127 {c P : Int} (hP : 0 < P) (hc : c ≤ 127) : c * P ≤ 127 * P := Int.mul_le_mul_of_nonneg_right hc (Int.le_of_lt hP)

/-- behind the loop: byte k is below 128, or k is 10 -/
theorem take_end {s : ByteArray} {k : Nat} {n : Int} (hk : k ≤ 9) (hs : k < s.size) (hz : s.size ≤ 4611686018427387904) (h0 : 0 ≤ n) (h1 : n < 128 ^ k) (hc : bt s k < 128) :
    Ev (fun j => wire_Take.j1 j s n k) (if k = 9 ∧ 1 < bt s k then (0, 0, 31) else if 0 < k ∧ bt s k = 0 then (0, 0, 32) else (n + bt s k * 128 ^ k, (k : Int) + 1, 0)) := by
  obtain ⟨b0, b1⟩ := bt_range s k
  generalize hb : bt s k = c at *
  have hP := p128_pos k
  have hP9 := p128_le hk
  have hm := mul_le_127 hP (show c ≤ 127 by omega)
  have j2f : Ev (fun j => wire_Take.j2 j s n k false) (if 0 < k ∧ c = 0 then (0, 0, 32) else if k = 9 ∧ 1 < c then (Go.bits .or .u64 n (shl .u64 c (7 * (k : Int))), (k : Int) + 1, 0) else (n + c * 128 ^ k, (k : Int) + 1, 0)) := by
    apply ev_succ
    have hw : wrap64 (7 * (k : Int)) = 7 * (k : Int) := w64 (by omega) (by omega)
    have hw1 : wrap64 ((k : Int) + 1) = (k : Int) + 1 := w64 (by omega) (by omega)
    have hval : ¬ (k = 9 ∧ 1 < c) → Go.bits .or .u64 n (shl .u64 c (7 * (k : Int))) = n + c * 128 ^ k := by
      intro hno
      have hle : n + c * 128 ^ k ≤ 18446744073709551615 := by
        rcases Nat.lt_or_ge k 9 with h9 | h9
        · have := p128_le8 (show k ≤ 8 by omega)
          omega
        · obtain rfl : k = 9 := by omega
          have e9 : (128 : Int) ^ 9 = 9223372036854775808 := by decide
          rw [e9] at h1 ⊢
          omega
      rw [shl7 hk b0 (by omega), or_high h0 h1 b0 hle]
    simp only [wire_Take.j2, hw, hw1, hb, u64_id b0 (show c ≤ 18446744073709551615 by omega)]
    refine ev_neg (by simp) ?_
    by_cases hk0 : 0 < k
    · refine ev_pos (by omega) (ev_pos (by omega) (ev_pos (by omega) ?_))
      by_cases hc0 : c = 0
      · exact ev_pos hc0 (ev_eq (ev_now _) (by rw [if_pos ⟨hk0, hc0⟩]))
      · refine ev_neg hc0 (ev_pos (by omega) (ev_eq (ev_now _) ?_))
        rw [if_neg (fun h => hc0 h.2)]
        split
        · rfl
        · rw [hval (by assumption)]
    · refine ev_neg (by omega) (ev_pos (by omega) (ev_pos (by omega) (ev_pos (by omega) (ev_eq (ev_now _) ?_))))
      rw [if_neg (fun h => hk0 h.1), if_neg (fun h => by omega), hval (fun h => by omega)]
  apply ev_succ
  simp only [wire_Take.j1, hb]
  refine ev_neg (by omega) ?_
  by_cases h9 : k = 9
  · refine ev_pos (by omega) (ev_pos (by omega) (ev_pos (by omega) ?_))
    by_cases hc1 : 1 < c
    · rw [if_pos ⟨h9, hc1⟩, decide_eq_true (show c > 1 by omega)]
      apply ev_succ
      simp only [wire_Take.j2]
      exact ev_pos trivial (ev_now _)
    · rw [if_neg (fun h => hc1 h.2), decide_eq_false (show ¬ c > 1 by omega)]
      refine ev_eq j2f ?_
      split
      · rfl
      · rw [if_neg (fun h => hc1 h.2)]
  · refine ev_neg (by omega) (ev_eq j2f ?_)
    simp only [h9, false_and, if_false]

theorem take_loop (s : ByteArray) (hz : s.size ≤ 4611686018427387904) (d : Nat) : ∀ (k : Nat) (m n : Int), k + d = 10 → k ≤ s.size → (k ≤ 9 → m = n ∧ 0 ≤ n ∧ n < 128 ^ k) → Ev (fun j => wire_Take.l0 j s m k) (scan k ((bytesOf s).drop k) n) := by
  induction d with
  | zero =>
    intro k m n hk hs _
    obtain rfl : k = 10 := by omega
    rw [scan_10]
    apply ev_succ
    simp only [wire_Take.l0]
    refine ev_neg (by omega) ?_
    apply ev_succ
    simp only [wire_Take.j1]
    refine ev_pos (by rfl) ?_
    apply ev_succ
    simp only [wire_Take.j2]
    exact ev_pos (by simp) (ev_now _)
  | succ d ih =>
    intro k m n hk hs hm
    obtain ⟨rfl, h0, h1⟩ := hm (by omega)
    apply ev_succ
    simp only [wire_Take.l0]
    refine ev_pos (by omega) ?_
    rcases drop_cases s hs with ⟨e, hd⟩ | ⟨hlt, hd⟩
    · rw [hd]
      exact ev_pos (by omega) (ev_eq (ev_now _) (by simp only [scan]; rw [if_pos (by omega)]))
    · rw [hd]
      obtain ⟨b0, b1⟩ := bt_range s k
      refine ev_neg (by omega) (ev_pos (by omega) (ev_pos (by omega) ?_))
      simp only [scan]
      rw [if_neg (by omega)]
      by_cases hc : bt s k < 128
      · rw [if_neg (by omega)]
        exact ev_pos hc (take_end (by omega) hlt hz h0 h1 hc)
      · rw [if_pos (by omega)]
        have hw : wrap64 (7 * (k : Int)) = 7 * (k : Int) := w64 (by omega) (by omega)
        have hw1 : wrap64 ((k : Int) + 1) = ((k + 1 : Nat) : Int) := by rw [w64 (by omega) (by omega)]; omega
        rw [hw, hw1, and127 (by omega) b1, u64_id (by omega) (by omega)]
        refine ev_neg hc (ev_pos (by omega) (ih (k + 1) _ _ (by omega) (by omega) fun h9 => ?_))
        have hP := p128_pos k
        have hP8 := p128_le8 (show k ≤ 8 by omega)
        have hmul := mul_le_127 hP (show bt s k - 128 ≤ 127 by omega)
        have hnn := Int.mul_nonneg (show 0 ≤ bt s k - 128 by omega) (Int.le_of_lt hP)
        rw [shl7 (by omega) (by omega) (by omega), or_high h0 h1 (by omega) (by omega)]
        refine ⟨rfl, by omega, ?_⟩
        rw [Int.pow_succ]
        omega
def tk (s : ByteArray) : Int × Int × Int := scan 0 (bytesOf s) 0
theorem take_ev {s : ByteArray} (hz : s.size ≤ 4611686018427387904) : Ev (fun k => wire_Take.f k s) (tk s) := by
  simp only [wire_Take.f]
  exact take_loop s hz 10 0 0 0 rfl (by omega) (fun _ => ⟨rfl, by omega, by simp⟩)

theorem ref_take_loop (s : ByteArray) (hz : s.size ≤ 4611686018427387904) (d : Nat) : ∀ (k : Nat) (m n p : Int), k + d = 10 → k ≤ s.size → (k ≤ 9 → m = n ∧ 0 ≤ n ∧ n < 128 ^ k ∧ p = 128 ^ k) → Ev (fun j => cracknelref03_Take.l0 j s m p k) (scan k ((bytesOf s).drop k) n) := by
  induction d with
  | zero =>
    intro k m n p hk hs _
    obtain rfl : k = 10 := by omega
    rw [scan_10]
    apply ev_succ
    simp only [cracknelref03_Take.l0]
    exact ev_neg (by omega) (ev_now _)
  | succ d ih =>
    intro k m n p hk hs hm
    obtain ⟨rfl, h0, h1, rfl⟩ := hm (by omega)
    apply ev_succ
    simp only [cracknelref03_Take.l0]
    refine ev_pos (by omega) ?_
    rcases drop_cases s hs with ⟨e, hd⟩ | ⟨hlt, hd⟩
    · rw [hd]
      exact ev_pos (by omega) (ev_eq (ev_now _) (by simp only [scan]; rw [if_pos (by omega)]))
    · rw [hd]
      obtain ⟨b0, b1⟩ := bt_range s k
      have hP := p128_pos k
      have hP9 := p128_le (show k ≤ 9 by omega)
      generalize bt s k = c at *
      have hw1 : wrap64 ((k : Int) + 1) = ((k + 1 : Nat) : Int) := by rw [w64 (by omega) (by omega)]; omega
      rw [u64_id b0 (show c ≤ 18446744073709551615 by omega), hw1]
      refine ev_neg (by omega) (ev_pos (by omega) (ev_pos (by omega) ?_))
      simp only [scan]
      rw [if_neg (by omega)]
      by_cases hc : c < 128
      · rw [if_neg (by omega)]
        have hm := mul_le_127 hP (show c ≤ 127 by omega)
        have j1f : Ev (fun j => cracknelref03_Take.j1 j m (128 ^ k) k c false) (if 0 < k ∧ c = 0 then (0, 0, 32) else if k = 9 ∧ 1 < c then (IntKind.u64.wrap (m + IntKind.u64.wrap (c * 128 ^ k)), (k : Int) + 1, 0) else (m + c * 128 ^ k, (k : Int) + 1, 0)) := by
          apply ev_succ
          have hval : ¬ (k = 9 ∧ 1 < c) → IntKind.u64.wrap (m + IntKind.u64.wrap (c * 128 ^ k)) = m + c * 128 ^ k := by
            intro hno
            have hnn := Int.mul_nonneg b0 (Int.le_of_lt hP)
            have hle : m + c * 128 ^ k ≤ 18446744073709551615 := by
              rcases Nat.lt_or_ge k 9 with h9 | h9
              · have := p128_le8 (show k ≤ 8 by omega)
                omega
              · obtain rfl : k = 9 := by omega
                have e9 : (128 : Int) ^ 9 = 9223372036854775808 := by decide
                rw [e9] at h1 ⊢
                omega
            rw [u64_id hnn (by omega), u64_id (by omega) hle]
          have hw1' : wrap64 ((k : Int) + 1) = (k : Int) + 1 := w64 (by omega) (by omega)
          simp only [cracknelref03_Take.j1, hw1']
          refine ev_neg (by simp) ?_
          by_cases hk0 : 0 < k
          · refine ev_pos (by omega) ?_
            by_cases hc0 : c = 0
            · exact ev_pos hc0 (ev_eq (ev_now _) (by rw [if_pos ⟨hk0, hc0⟩]))
            · refine ev_neg hc0 (ev_eq (ev_now _) ?_)
              rw [if_neg (fun h => hc0 h.2)]
              split
              · rfl
              · rw [hval (by assumption)]
          · refine ev_neg (by omega) (ev_eq (ev_now _) ?_)
            rw [if_neg (fun h => hk0 h.1), if_neg (fun h => by omega), hval (fun h => by omega)]
        refine ev_neg (by omega) ?_
        by_cases h9 : k = 9
        · refine ev_pos (by omega) ?_
          by_cases hc1 : 1 < c
          · rw [if_pos ⟨h9, hc1⟩, decide_eq_true (show c > 1 by omega)]
            apply ev_succ
            simp only [cracknelref03_Take.j1]
            exact ev_pos (by simp) (ev_now _)
          · rw [if_neg (fun h => hc1 h.2), decide_eq_false (show ¬ c > 1 by omega)]
            refine ev_eq j1f ?_
            split
            · rfl
            · rw [if_neg (fun h => hc1 h.2)]
        · refine ev_neg (by omega) (ev_eq j1f ?_)
          simp only [h9, false_and, if_false]
      · rw [if_pos (by omega)]
        refine ev_pos (by omega) (ih (k + 1) _ _ _ (by omega) (by omega) fun h9 => ?_)
        have hP8 := p128_le8 (show k ≤ 8 by omega)
        have hmul := mul_le_127 hP (show c - 128 ≤ 127 by omega)
        have hnn := Int.mul_nonneg (show 0 ≤ c - 128 by omega) (Int.le_of_lt hP)
        rw [u64_id (show 0 ≤ c - 128 by omega) (by omega), u64_id hnn (by omega), u64_id (by omega) (by omega), u64_id (by omega) (by omega)]
        refine ⟨rfl, by omega, ?_, ?_⟩
        · rw [Int.pow_succ]
          omega
        · rw [Int.pow_succ]
theorem ref_take_ev {s : ByteArray} (hz : s.size ≤ 4611686018427387904) : Ev (fun k => cracknelref03_Take.f k s) (tk s) := by
  simp only [cracknelref03_Take.f]
  exact ref_take_loop s hz 10 0 0 0 1 rfl (by omega) (fun _ => ⟨rfl, by omega, by simp, by simp⟩)

/-! ### what is put is taken; what is taken was put -/
theorem key128 (a b P : Int) : a * P + b * (128 * P) = (a + b * 128) * P := by rw [Int.add_mul, Int.mul_assoc]
theorem p128_succ (k : Nat) : (128 : Int) ^ (k + 1) = 128 * 128 ^ k := by rw [Int.pow_succ, Int.mul_comm]
theorem scan_dig (m : Nat) : ∀ (k : Nat) (n : Int) (rest : List Int), k ≤ 9 → m * 128 ^ k < 18446744073709551616 → (0 < k → m ≠ 0) → scan k (dig m ++ rest) n = (n + m * 128 ^ k, (k : Int) + (dig m).length, 0) := by
  induction m using Nat.strongRecOn with
  | _ m ih =>
    intro k n rest hk hm h0
    by_cases h : m < 128
    · rw [dig_lt h]
      simp only [List.singleton_append, scan]
      rw [if_neg (by omega), if_neg (by omega), if_neg, if_neg]
      · simp
      · rintro ⟨a, b⟩; exact h0 a (by omega)
      · rintro ⟨rfl, b⟩
        have e9 : (128 : Nat) ^ 9 = 9223372036854775808 := by decide
        rw [e9] at hm
        omega
    · have hkk : k + 1 ≤ 9 := by
        rcases Nat.lt_or_ge k 9 with h9 | h9
        · omega
        · obtain rfl : k = 9 := by omega
          have e9 : (128 : Nat) ^ 9 = 9223372036854775808 := by decide
          rw [e9] at hm
          omega
      have hle : m / 128 * 128 ^ (k + 1) ≤ m * 128 ^ k := by
        rw [Nat.pow_succ, Nat.mul_comm (128 ^ k) 128, ← Nat.mul_assoc]
        exact Nat.mul_le_mul_right _ (by omega)
      rw [dig_ge h]
      simp only [List.cons_append, scan]
      rw [if_neg (by omega), if_pos (by omega), ih (m / 128) (by omega) (k + 1) _ rest hkk (by omega) (fun _ => by omega)]
      refine Prod.ext ?_ (Prod.ext ?_ rfl)
      · show n + (((m % 128 + 128 : Nat) : Int) - 128) * 128 ^ k + ((m / 128 : Nat) : Int) * 128 ^ (k + 1) = n + (m : Int) * 128 ^ k
        have e1 : (((m % 128 + 128 : Nat) : Int) - 128) + ((m / 128 : Nat) : Int) * 128 = m := by omega
        rw [Int.add_assoc, p128_succ, key128, e1]
      · simp only [List.length_cons]
        omega
theorem tk_put {n : Nat} (h : n < 18446744073709551616) {s : ByteArray} {rest : List Int} (hs : bytesOf s = dig n ++ rest) : tk s = ((n : Int), ((dig n).length : Int), 0) := by
  rw [tk, hs, scan_dig n 0 0 rest (by omega) (by simpa using h) (fun h => by omega)]
  simp
theorem scan_back (l : List Int) : ∀ (k : Nat) (n0 n a : Int), (∀ c ∈ l, 0 ≤ c ∧ c < 256) → scan k l n0 = (n, a, 0) → ∃ m : Nat, n = n0 + m * 128 ^ k ∧ a = (k : Int) + (dig m).length ∧ l.take (dig m).length = dig m ∧ (dig m).length ≤ l.length ∧ m * 128 ^ k < 18446744073709551616 ∧ (0 < k → m ≠ 0) := by
  induction l with
  | nil => intro k n0 n a _ h; simp only [scan] at h; split at h <;> simp at h
  | cons c l ih =>
    intro k n0 n a hr h
    obtain ⟨c0, c1⟩ := hr c (List.mem_cons_self ..)
    simp only [scan] at h
    by_cases h10 : 10 ≤ k
    · rw [if_pos h10] at h; simp at h
    rw [if_neg h10] at h
    by_cases hc : 128 ≤ c
    · rw [if_pos hc] at h
      obtain ⟨m, e1, e2, e3, e4, e5, e6⟩ := ih (k + 1) _ n a (fun x hx => hr x (List.mem_cons_of_mem _ hx)) h
      have hm0 := e6 (by omega)
      have hd : dig ((c - 128).toNat + 128 * m) = c :: dig m := by
        rw [dig_ge (by omega)]
        congr 1
        · omega
        · congr 1
          omega
      refine ⟨(c - 128).toNat + 128 * m, ?_, ?_, ?_, ?_, ?_, ?_⟩
      · have e7 : (c - 128) + (m : Int) * 128 = (((c - 128).toNat + 128 * m : Nat) : Int) := by omega
        rw [e1, Int.add_assoc, p128_succ, key128, e7]
      · rw [hd, e2]; simp only [List.length_cons]; omega
      · rw [hd]; simp only [List.length_cons, List.take_succ_cons, e3]
      · rw [hd]; simp only [List.length_cons]; omega
      · rw [Nat.pow_succ, Nat.mul_comm (128 ^ k) 128, ← Nat.mul_assoc] at e5
        have hp : 128 ^ k ≤ 9223372036854775808 := by
          have := Nat.pow_le_pow_right (n := 128) (by decide) (show k ≤ 9 by omega)
          have e2 : (128 : Nat) ^ 9 = 9223372036854775808 := by decide
          omega
        have h1 : m * 128 * 128 ^ k ≤ (18446744073709551616 - 1) := by omega
        -- both are multiples of 128 ^ k, and the first part is below 128
        have hdvd : ∃ q, 18446744073709551616 = q * 128 ^ k ∧ q % 2 = 0 := by
          refine ⟨2 ^ (64 - 7 * k), ?_, ?_⟩
          · rw [show (128 : Nat) = 2 ^ 7 by decide, ← Nat.pow_mul, ← Nat.pow_add, show 64 - 7 * k + 7 * k = 64 by omega]
          · rw [show 64 - 7 * k = (63 - 7 * k) + 1 by omega, Nat.pow_succ]
            omega
        obtain ⟨q, hq, hq2⟩ := hdvd
        have hpp : 0 < 128 ^ k := Nat.pow_pos (by decide)
        have hlt : m * 128 < q := by
          rw [hq] at e5
          exact Nat.lt_of_mul_lt_mul_right e5
        have hk8 : k ≤ 8 := by
          rcases Nat.lt_or_ge k 9 with h9 | h9
          · omega
          · obtain rfl : k = 9 := by omega
            exfalso
            have e9 : (128 : Nat) ^ 9 = 9223372036854775808 := by decide
            rw [e9] at hq
            omega
        -- q is a power of two of at least 2 ^ 8, so a multiple of 128
        have hq128 : q % 128 = 0 := by
          have e8 : q = 128 * 2 ^ (57 - 7 * k) := by
            have : q * 128 ^ k = (128 * 2 ^ (57 - 7 * k)) * 128 ^ k := by
              rw [← hq, show (128 : Nat) = 2 ^ 7 by decide, ← Nat.pow_mul, Nat.mul_assoc, ← Nat.pow_add, ← Nat.pow_add, show 7 + (57 - 7 * k + 7 * k) = 64 by omega]
            exact Nat.eq_of_mul_eq_mul_right hpp this
          omega
        have : (c - 128).toNat + 128 * m < q := by omega
        rw [hq]
        exact Nat.mul_lt_mul_of_pos_right this hpp
      · intro _; omega
    · rw [if_neg hc] at h
      by_cases h9 : k = 9 ∧ 1 < c
      · rw [if_pos h9] at h; simp at h
      rw [if_neg h9] at h
      by_cases hz : 0 < k ∧ c = 0
      · rw [if_pos hz] at h; simp at h
      rw [if_neg hz] at h
      simp only [Prod.mk.injEq, and_true] at h
      obtain ⟨h1, h2⟩ := h
      have hd : dig c.toNat = [c] := by rw [dig_lt (by omega)]; congr 1; omega
      refine ⟨c.toNat, ?_, ?_, ?_, ?_, ?_, ?_⟩
      · rw [← h1]; congr 2; omega
      · rw [hd, ← h2]; simp
      · rw [hd]; simp
      · rw [hd]; simp
      · rcases Nat.lt_or_ge k 9 with h9' | h9'
        · have := Nat.pow_le_pow_right (n := 128) (by decide) (show k ≤ 8 by omega)
          have e2 : (128 : Nat) ^ 8 = 72057594037927936 := by decide
          have : c.toNat * 128 ^ k ≤ 127 * 72057594037927936 := Nat.mul_le_mul (by omega) (by omega)
          omega
        · obtain rfl : k = 9 := by omega
          have e9 : (128 : Nat) ^ 9 = 9223372036854775808 := by decide
          rw [e9]
          omega
      · intro hk; omega
theorem tk_back {s : ByteArray} {n a : Int} (h : tk s = (n, a, 0)) : ∃ m : Nat, n = m ∧ a = ((dig m).length : Int) ∧ (bytesOf s).take (dig m).length = dig m ∧ (dig m).length ≤ s.size ∧ m < 18446744073709551616 := by
  obtain ⟨m, e1, e2, e3, e4, e5, _⟩ := scan_back (bytesOf s) 0 0 n a (fun c hc => bytesOf_range hc) h
  exact ⟨m, by simpa using e1, by simpa using e2, e3, by rw [bytesOf_length] at e4; exact e4, by simpa using e5⟩
theorem scan_form (l : List Int) : ∀ (k : Nat) (n0 : Int), (scan k l n0).2.2 = 0 ∨ ((scan k l n0).1 = 0 ∧ (scan k l n0).2.1 = 0 ∧ ((scan k l n0).2.2 = 30 ∨ (scan k l n0).2.2 = 31 ∨ (scan k l n0).2.2 = 32)) := by
  induction l with
  | nil => intro k n0; simp only [scan]; split <;> simp
  | cons c l ih =>
    intro k n0
    simp only [scan]
    split
    · simp
    split
    · exact ih _ _
    split
    · simp
    split
    · simp
    · simp
theorem scan_cut (m : Nat) : ∀ (k j : Nat) (n : Int), j < (dig m).length → k + (dig m).length ≤ 10 → scan k ((dig m).take j) n = (0, 0, 30) := by
  induction m using Nat.strongRecOn with
  | _ m ih =>
    intro k j n hj hk
    cases j with
    | zero => simp only [List.take_zero, scan]; rw [if_pos (by omega)]
    | succ j =>
      by_cases h : m < 128
      · rw [dig_lt h] at hj; simp at hj
      · rw [dig_ge h] at hj hk ⊢
        simp only [List.length_cons] at hj hk
        simp only [List.take_succ_cons, scan]
        rw [if_neg (by omega), if_pos (by omega)]
        exact ih (m / 128) (by omega) (k + 1) j _ (by omega) (by omega)
theorem dig_apart {a b : Nat} (ha : a < 18446744073709551616) (hb : b < 18446744073709551616) (h : (dig a).take (dig b).length = dig b) : a = b := by
  have h1 : scan 0 (dig a) 0 = ((a : Int), ((dig a).length : Int), 0) := by
    have := scan_dig a 0 0 [] (by omega) (by simpa using ha) (fun h => by omega)
    simpa using this
  have h2 : scan 0 (dig a) 0 = ((b : Int), ((dig b).length : Int), 0) := by
    have := scan_dig b 0 0 ((dig a).drop (dig b).length) (by omega) (by simpa using hb) (fun h => by omega)
    have e : dig b ++ (dig a).drop (dig b).length = dig a := by
      conv => lhs; lhs; rw [← h]
      exact List.take_append_drop _ _
    rw [e] at this
    simpa using this
  rw [h1] at h2
  simp only [Prod.mk.injEq] at h2
  omega
end Go.Proofs.Ytlnpphagcmhojaa.Y
