/- Numbers in so many digits (Fixed, Unfixed) of layer 2 and of its reference, and what its statements need of them. The numbers are of 64 bits. -/
import Derived.Test.YtngjfibaaoaphaaDoorYdec
import Derived.Sort.Walk0
namespace Go.Proofs.YtngjfibaaoaphaaDoor.Y
set_option linter.unusedVariables false
set_option linter.unusedSimpArgs false
open Go.RowKit Go.Proofs.YtngjfibaaoaphaaDoor.Print Go.Proofs.YtngjfibaaoaphaaDoorW.PrintWords Go.Proofs.YtngjfibaaoaphaaDoorW.PrintLast Go.Proofs.YtngjfibaaoaphaaDoorW.PrintMore

def fixD : Nat → Nat → List Int
  | 0, _ => []
  | w + 1, n => fixD w (n / 10) ++ [48 + ((n % 10 : Nat) : Int)]
theorem fixD_len (w : Nat) : ∀ n, (fixD w n).length = w := by
  induction w with
  | zero => intro n; rfl
  | succ w ih => intro n; simp [fixD, ih]
theorem fixD_range (w : Nat) : ∀ n, ∀ x ∈ fixD w n, 48 ≤ x ∧ x ≤ 57 := by
  induction w with
  | zero => intro n x hx; cases hx
  | succ w ih =>
    intro n x hx
    rcases List.mem_append.mp hx with e | e
    · exact ih _ x e
    · simp only [List.mem_singleton] at e; omega
theorem fixD_bytes (w n : Nat) : ∀ x ∈ fixD w n, 0 ≤ x ∧ x < 256 := fun x hx => by have := fixD_range w n x hx; omega
theorem fixD_zero (w : Nat) : fixD w 0 = List.replicate w 48 := by
  induction w with
  | zero => rfl
  | succ w ih => rw [fixD, Nat.zero_div, ih, List.replicate_succ']; rfl
theorem fixD_dd (w : Nat) : ∀ n, n < 10 ^ (w + 1) → fixD (w + 1) n = List.replicate (w + 1 - (dd n).length) 48 ++ dd n := by
  induction w with
  | zero =>
    intro n h
    have h : n < 10 := by simpa using h
    rw [dd_lt h]
    simp only [fixD, List.nil_append, List.length_singleton]
    rw [Nat.mod_eq_of_lt h]
    rfl
  | succ w ih =>
    intro n h
    by_cases hn : n < 10
    · rw [dd_lt hn, fixD, show n / 10 = 0 by omega, fixD_zero, Nat.mod_eq_of_lt hn]
      rfl
    · rw [dd_ge hn, fixD, ih (n / 10) (by rw [Nat.pow_succ] at h; omega), List.append_assoc]
      simp only [List.length_append, List.length_singleton]
      rw [show w + 1 + 1 - ((dd (n / 10)).length + 1) = w + 1 - (dd (n / 10)).length by omega]
theorem valD_fixD (w : Nat) : ∀ n a, valD (fixD w n) a = some (a * 10 ^ w + n % 10 ^ w) := by
  induction w with
  | zero => intro n a; simp [fixD, valD, Nat.mod_one]
  | succ w ih =>
    intro n a
    rw [fixD, valD_snoc (by omega), ih, Option.map_some]
    congr 1
    have e : (48 + ((n % 10 : Nat) : Int) - 48).toNat = n % 10 := by omega
    rw [e, Nat.pow_succ, Nat.mul_comm (10 ^ w) 10, Nat.mod_mul, Nat.mul_add, ← Nat.mul_assoc, Nat.mul_comm 10 a, Nat.mul_assoc]
    omega
theorem snoc_ind {P : List Int → Prop} (h0 : P []) (h1 : ∀ l c, P l → P (l ++ [c])) (l : List Int) : P l := by
  rw [← List.reverse_reverse l]
  induction l.reverse with
  | nil => exact h0
  | cons c l ih => rw [List.reverse_cons]; exact h1 _ _ ih
theorem fixD_val (l : List Int) : ∀ m : Nat, valD l 0 = some m → fixD l.length m = l ∧ m < 10 ^ l.length := by
  apply snoc_ind (P := fun l => ∀ m : Nat, valD l 0 = some m → fixD l.length m = l ∧ m < 10 ^ l.length)
  · intro m h; simp only [valD] at h; have := Option.some.inj h; subst this; exact ⟨rfl, by decide⟩
  · intro l c ih m h
    rw [valD_append] at h
    cases hl : valD l 0 with
    | none => rw [hl] at h; cases h
    | some q =>
      rw [hl] at h
      simp only [Option.bind_some, valD] at h
      split at h
      · have hm := Option.some.inj h
        obtain ⟨h1, h2⟩ := ih q hl
        rw [List.length_append, List.length_singleton, fixD, Nat.pow_succ, show m / 10 = q by omega, h1]
        refine ⟨?_, by omega⟩
        congr 2
        omega
      · cases h
theorem fixD_mod (w : Nat) : ∀ n m, n % 10 ^ w = m % 10 ^ w → fixD w n = fixD w m := by
  intro n m h
  have h1 := fixD_val (fixD w n) (n % 10 ^ w) (by rw [valD_fixD]; simp)
  have h2 := fixD_val (fixD w m) (m % 10 ^ w) (by rw [valD_fixD]; simp)
  rw [fixD_len] at h1 h2
  rw [← h1.1, ← h2.1, h]
theorem fixD_inj {w n m : Nat} (hn : n < 10 ^ w) (hm : m < 10 ^ w) (h : fixD w n = fixD w m) : n = m := by
  have a := valD_fixD w n 0
  have b := valD_fixD w m 0
  rw [h, b] at a
  have := Option.some.inj a
  rw [Nat.mod_eq_of_lt hn, Nat.mod_eq_of_lt hm] at this
  omega

/-! ### order -/
def lexL : List Int → List Int → Bool
  | _, [] => false
  | [], _ :: _ => true
  | a :: x, b :: y => decide (a < b) || (decide (a = b) && lexL x y)
theorem bytesLess_lexL : ∀ x y : List UInt8, Op.bytesLess x y = lexL (x.map fun b => (b.toNat : Int)) (y.map fun b => (b.toNat : Int))
  | _, [] => by cases ‹List UInt8› <;> rfl
  | [], _ :: _ => rfl
  | a :: x, b :: y => by
    simp only [Op.bytesLess, List.map_cons, lexL]
    rw [bytesLess_lexL x y]
    congr 1
    · rw [Bool.eq_iff_iff, decide_eq_true_iff, decide_eq_true_iff, UInt8.lt_iff_toNat_lt]; omega
    · congr 1
      rw [Bool.eq_iff_iff, beq_iff_eq, decide_eq_true_iff, ← UInt8.toNat_inj]; omega
theorem less_bytes (s t : ByteArray) : Op.bytesLess s.toList t.toList = lexL (bytesOf s) (bytesOf t) := by
  rw [toList_data, toList_data, bytesLess_lexL]; rfl
theorem lexL_snoc (x y : List Int) (h : x.length = y.length) (c d : Int) : lexL (x ++ [c]) (y ++ [d]) = (lexL x y || (decide (x = y) && decide (c < d))) := by
  induction x generalizing y with
  | nil => cases y with
    | nil => simp [lexL]
    | cons _ _ => simp at h
  | cons a x ih => cases y with
    | nil => simp at h
    | cons b y =>
      simp only [List.cons_append, lexL, ih y (by simpa using h), List.cons.injEq]
      by_cases hab : a = b
      · subst hab; simp
      · simp [hab]
theorem lexL_fixD (w : Nat) : ∀ n m, n < 10 ^ w → m < 10 ^ w → lexL (fixD w n) (fixD w m) = decide (n < m) := by
  induction w with
  | zero => intro n m hn hm; simp [fixD, lexL]; simp at hn hm; omega
  | succ w ih =>
    intro n m hn hm
    rw [Nat.pow_succ] at hn hm
    rw [fixD, fixD, lexL_snoc _ _ (by rw [fixD_len, fixD_len]), ih _ _ (by omega) (by omega), Bool.eq_iff_iff]
    simp only [Bool.or_eq_true, Bool.and_eq_true, decide_eq_true_iff]
    constructor
    · rintro (h | ⟨h, h'⟩)
      · omega
      · have := fixD_inj (w := w) (n := n / 10) (m := m / 10) (by omega) (by omega) h
        omega
    · intro h
      by_cases h1 : n / 10 < m / 10
      · exact .inl h1
      · exact .inr ⟨by rw [show n / 10 = m / 10 by omega], by omega⟩

/-! ### Fixed -/
def fixOk (n w : Int) : Prop := 1 ≤ w ∧ w ≤ 18 ∧ 0 ≤ n ∧ n.toNat < 10 ^ w.toNat
instance (n w : Int) : Decidable (fixOk n w) := by unfold fixOk; infer_instance
def fixB (n w : Int) : ByteArray := if fixOk n w then strOfNums (fixD w.toNat n.toNat) else ⟨#[]⟩
theorem set_mid (j : Nat) (v : Int) (suf : List Int) : (List.replicate (j + 1) (0 : Int) ++ suf).set j v = List.replicate j 0 ++ (v :: suf) := by
  induction j with
  | zero => rfl
  | succ j ih => rw [List.replicate_succ, List.cons_append, List.set_cons_succ, ih, List.replicate_succ, List.cons_append]
theorem w32 {n : Int} (h : -2147483648 ≤ n) (h' : n ≤ 2147483647) : wrap32 n = n := by unfold wrap32; omega
theorem fixed_loop (j : Nat) : ∀ (n : Nat) (suf : List Int), j ≤ 18 → n ≤ 9223372036854775807 → Ev (fun k => dec_Fixed.l0 k n (List.replicate j 0 ++ suf) ((j : Int) - 1)) (if n / 10 ^ j = 0 then strOfNums (fixD j n ++ suf) else ⟨#[]⟩) := by
  induction j with
  | zero =>
    intro n suf hj hn
    apply ev_succ
    simp only [dec_Fixed.l0]
    refine ev_neg (by omega) ?_
    rw [Nat.pow_zero, Nat.div_one]
    by_cases h : n = 0
    · rw [if_pos h]; exact ev_neg (by omega) (ev_now _)
    · rw [if_neg h]; exact ev_pos (by omega) (ev_now _)
  | succ j ih =>
    intro n suf hj hn
    apply ev_succ
    simp only [dec_Fixed.l0]
    refine ev_pos (by omega) (ev_pos (by omega) (ev_pos (by simp only [List.length_append, List.length_replicate]; omega) ?_))
    rw [show Int.tdiv (n : Int) 10 = ((n / 10 : Nat) : Int) by rw [Int.tdiv_eq_ediv_of_nonneg (by omega)]; omega, show Int.tmod (n : Int) 10 = ((n % 10 : Nat) : Int) by rw [Int.tmod_eq_emod_of_nonneg (by omega)]; omega,
      w32 (n := ((n % 10 : Nat) : Int)) (by omega) (by omega), w32 (by omega) (by omega), w64 (n := ((n / 10 : Nat) : Int)) (by omega) (by omega), w64 (n := ((j + 1 : Nat) : Int) - 1 - 1) (by omega) (by omega),
      show (48 + ((n % 10 : Nat) : Int)) % 256 = 48 + ((n % 10 : Nat) : Int) by omega, show (((j + 1 : Nat) : Int) - 1).toNat = j by omega, set_mid, show ((j + 1 : Nat) : Int) - 1 - 1 = (j : Int) - 1 by omega]
    refine ev_eq (ih (n / 10) _ (by omega) (by omega)) ?_
    rw [fixD, List.append_assoc, Nat.pow_succ, Nat.mul_comm (10 ^ j) 10, ← Nat.div_div_eq_div_mul]
    rfl
theorem fixed_ev {n w : Int} (hn : InI n) : Ev (fun k => dec_Fixed.f k n w) (fixB n w) := by
  have hn' := hn
  unfold InI at hn'
  have hno : ¬ fixOk n w → Ev (fun k => dec_Fixed.j0 k n w true) (fixB n w) := by
    intro h
    apply ev_succ
    simp only [dec_Fixed.j0]
    unfold fixB
    rw [if_neg h]
    exact ev_pos (by trivial) (ev_now _)
  simp only [dec_Fixed.f]
  by_cases h1 : w < 1
  · exact ev_pos h1 (hno (fun h => by unfold fixOk at h; omega))
  refine ev_neg h1 ?_
  by_cases h2 : w > 18
  · exact ev_pos h2 (hno (fun h => by unfold fixOk at h; omega))
  refine ev_neg h2 ?_
  by_cases h3 : n < 0
  · rw [decide_eq_true h3]
    exact hno (fun h => by unfold fixOk at h; omega)
  rw [decide_eq_false h3]
  apply ev_succ
  simp only [dec_Fixed.j0]
  refine ev_neg (by simp) (ev_pos (by omega) (ev_pos (by omega) ?_))
  have hl := fixed_loop w.toNat n.toNat [] (by omega) (by omega)
  rw [List.append_nil, List.append_nil, show ((n.toNat : Nat) : Int) = n by omega, show ((w.toNat : Nat) : Int) - 1 = w - 1 by omega] at hl
  rw [w64 (n := w - 1) (by omega) (by omega)]
  refine ev_eq hl ?_
  unfold fixB
  by_cases h4 : n.toNat < 10 ^ w.toNat
  · rw [if_pos (Nat.div_eq_of_lt h4), if_pos ⟨by omega, by omega, by omega, h4⟩]
  · rw [if_neg (by intro e; exact h4 (by rcases Nat.div_eq_zero_iff.mp e with h | h; (· have := Nat.pow_pos (n := w.toNat) (show 0 < 10 by decide); omega); exact h)), if_neg (fun h => h4 h.2.2.2)]
theorem bytesOf_fix {n w : Int} (h : fixOk n w) : bytesOf (fixB n w) = fixD w.toNat n.toNat := by
  unfold fixB
  rw [if_pos h, bytesOf_str (fixD_bytes _ _)]
theorem fix_size {n w : Int} (h : fixOk n w) : (fixB n w).size = w.toNat := by rw [← bytesOf_length, bytesOf_fix h, fixD_len]
theorem fix_no {n w : Int} (h : ¬ fixOk n w) : fixB n w = ⟨#[]⟩ := by unfold fixB; rw [if_neg h]
theorem toList_nil : (⟨#[]⟩ : ByteArray).toList = [] := by rw [toList_data]
theorem toList_nil_iff {s : ByteArray} : s.toList = [] ↔ s.size = 0 := by
  rw [← toList_nil, toList_eq_iff, bytesOf_empty, bytesOf_nil_iff]
theorem fix_nil {n w : Int} : (fixB n w).toList = [] ↔ ¬ fixOk n w := by
  rw [toList_nil_iff]
  constructor
  · intro h hk
    rw [fix_size hk] at h
    have := hk.1
    omega
  · intro h; rw [fix_no h]; rfl
theorem ref_pad (w : Int) (hw : w ≤ 18) (d : Nat) : ∀ x : ByteArray, (x.size : Int) + d = w → Ev (fun k => cracknelref02_Fixed.l0 k w x) (strOfNums (List.replicate d 48 ++ bytesOf x)) := by
  induction d with
  | zero =>
    intro x hx
    apply ev_succ
    simp only [cracknelref02_Fixed.l0]
    refine ev_neg (by omega) (ev_eq (ev_now _) ?_)
    rw [List.replicate_zero, List.nil_append, str_bytesOf]
  | succ d ih =>
    intro x hx
    apply ev_succ
    simp only [cracknelref02_Fixed.l0]
    refine ev_pos (by omega) (ev_pos (by omega) (ev_eq (ih _ (by rw [ByteArray.size_append]; simp only [show (⟨#[48]⟩ : ByteArray).size = 1 from rfl]; omega)) ?_))
    rw [bytesOf_append, show bytesOf (⟨#[48]⟩ : ByteArray) = [48] from rfl, ← List.append_assoc, List.replicate_succ']
theorem ref_fixed_ev {n w : Int} (hn : InI n) : Ev (fun k => cracknelref02_Fixed.f k n w) (fixB n w) := by
  have hn' := hn
  unfold InI at hn'
  have hno : ¬ fixOk n w → Ev (fun k => cracknelref02_Fixed.j0 k n w true) (fixB n w) := by
    intro h
    apply ev_succ
    simp only [cracknelref02_Fixed.j0]
    unfold fixB
    rw [if_neg h]
    exact ev_pos (by trivial) (ev_now _)
  simp only [cracknelref02_Fixed.f]
  by_cases h1 : w < 1
  · exact ev_pos h1 (hno (fun h => by unfold fixOk at h; omega))
  refine ev_neg h1 ?_
  by_cases h2 : w > 18
  · exact ev_pos h2 (hno (fun h => by unfold fixOk at h; omega))
  refine ev_neg h2 ?_
  by_cases h3 : n < 0
  · rw [decide_eq_true h3]
    exact hno (fun h => by unfold fixOk at h; omega)
  rw [decide_eq_false h3]
  apply ev_succ
  simp only [cracknelref02_Fixed.j0]
  refine ev_neg (by simp) (ev_bind (ref_print_ev hn) ?_)
  have hb : bytesOf (itoaB n) = dd n.toNat := by rw [bytesOf_itoa]; unfold itoaL; rw [if_neg h3]
  have hs : (itoaB n).size = (dd n.toNat).length := by rw [← bytesOf_length, hb]
  have hd := dd_len (w.toNat - 1) n.toNat
  rw [show w.toNat - 1 + 1 = w.toNat by omega] at hd
  by_cases h4 : ((itoaB n).size : Int) > w
  · refine ev_pos h4 (ev_eq (ev_now _) ?_)
    rw [fix_no]
    intro h
    have := hd.mpr h.2.2.2
    omega
  · refine ev_neg h4 ?_
    have hlt := hd.mp (by omega)
    refine ev_eq (ref_pad w (by omega) (w.toNat - (itoaB n).size) _ (by omega)) ?_
    unfold fixB
    rw [if_pos ⟨by omega, by omega, by omega, hlt⟩, hb, hs]
    have := fixD_dd (w.toNat - 1) n.toNat (by rw [show w.toNat - 1 + 1 = w.toNat by omega]; exact hlt)
    rw [show w.toNat - 1 + 1 = w.toNat by omega] at this
    rw [this]

/-! ### Unfixed -/
def unfB (s : ByteArray) : Int × Bool := if 1 ≤ s.size ∧ s.size ≤ 18 then valB s else (0, false)
theorem digit_f {c : Int} (h0 : 0 ≤ c) (h1 : c < 256) : dec_digit.f (wrap32 c) = some (if 48 ≤ c ∧ c ≤ 57 then c - 48 else -1) := by
  unfold dec_digit.f
  rw [w32 (by omega) (by omega)]
  by_cases a : c < 48
  · rw [if_pos a, if_neg (by omega)]
  · rw [if_neg a]
    by_cases b : c > 57
    · rw [if_pos b, if_neg (by omega)]
    · rw [if_neg b, if_pos (by omega), w32 (by omega) (by omega), w64 (by omega) (by omega)]
theorem unfixed_loop (s : ByteArray) (hs : s.size ≤ 18) (d : Nat) : ∀ (i acc : Nat), i + d = s.size → acc < 10 ^ i → Ev (fun k => dec_Unfixed.l0 k s acc (s.size : Int) i) (match valD ((bytesOf s).drop i) acc with | some n => ((n : Int), true) | none => (0, false)) := by
  induction d with
  | zero =>
    intro i acc hi ha
    apply ev_succ
    simp only [dec_Unfixed.l0]
    rw [List.drop_eq_nil_of_le (by rw [bytesOf_length]; omega)]
    exact ev_neg (by omega) (ev_neg (by omega) (ev_now _))
  | succ d ih =>
    intro i acc hi ha
    apply ev_succ
    simp only [dec_Unfixed.l0]
    rcases drop_cases s (show i ≤ s.size by omega) with ⟨e, _⟩ | ⟨hlt, hd⟩
    · omega
    rw [hd]
    obtain ⟨b0, b1⟩ := bt_range s i
    generalize bt s i = c at *
    have h18 : (10 : Nat) ^ i ≤ 10 ^ 17 := Nat.pow_le_pow_right (by decide) (by omega)
    have e18 : (10 : Nat) ^ 17 = 100000000000000000 := by decide
    rw [digit_f b0 b1]
    simp only [Option.bind_some]
    refine ev_pos (by omega) (ev_pos (by omega) (ev_pos (by omega) ?_))
    simp only [valD]
    by_cases h1 : 48 ≤ c ∧ c ≤ 57
    · rw [if_pos h1]
      refine ev_neg (by omega) ?_
      rw [w64 (n := 10 * (acc : Int)) (by omega) (by omega), w64 (n := 10 * (acc : Int) + (c - 48)) (by omega) (by omega), w64 (n := (i : Int) + 1) (by omega) (by omega),
        show 10 * (acc : Int) + (c - 48) = ((10 * acc + (c - 48).toNat : Nat) : Int) by omega, show (i : Int) + 1 = ((i + 1 : Nat) : Int) by omega, if_pos h1]
      exact ih (i + 1) _ (by omega) (by rw [Nat.pow_succ]; omega)
    · rw [if_neg h1, if_neg h1]
      exact ev_pos (by omega) (ev_now _)
theorem unfixed_ev (s : ByteArray) : Ev (fun k => dec_Unfixed.f k s) (unfB s) := by
  simp only [dec_Unfixed.f]
  unfold unfB
  by_cases h1 : (s.size : Int) < 1
  · rw [if_neg (by omega)]
    refine ev_pos h1 (ev_succ ?_)
    simp only [dec_Unfixed.j0]
    exact ev_pos (by trivial) (ev_now _)
  · refine ev_neg h1 (ev_succ ?_)
    simp only [dec_Unfixed.j0]
    by_cases h2 : (s.size : Int) > 18
    · rw [if_neg (by omega), decide_eq_true h2]
      exact ev_pos rfl (ev_now _)
    · rw [if_pos (by omega), decide_eq_false h2]
      refine ev_neg (by simp) ?_
      refine ev_eq (unfixed_loop s (by omega) s.size 0 0 (by omega) (by decide)) ?_
      unfold valB
      rw [List.drop_zero]
      cases valD (bytesOf s) 0 <;> rfl
theorem ref_unfixed_ev (s : ByteArray) : Ev (fun k => cracknelref02_Unfixed.f k s) (unfB s) := by
  simp only [cracknelref02_Unfixed.f]
  refine ev_bind (ref_value_ev s (by omega)) (ev_eq (ev_now _) ?_)
  unfold unfB
  by_cases h : 1 ≤ s.size ∧ s.size ≤ 18
  · rw [if_pos h, if_pos (by omega)]
    have := valB_range (s := s) (n := (valB s).1) (b := (valB s).2) (by omega) rfl
    obtain ⟨c0, c1⟩ : (valB s).1 ≤ 9223372036854775807 ∧ True := by
      refine ⟨?_, trivial⟩
      unfold valB
      cases hv : valD (bytesOf s) 0 with
      | none => simp
      | some m =>
        have := (fixD_val _ _ hv).2
        rw [bytesOf_length] at this
        have h18 : (10 : Nat) ^ s.size ≤ 10 ^ 18 := Nat.pow_le_pow_right (by decide) (by omega)
        have e18 : (10 : Nat) ^ 18 = 1000000000000000000 := by decide
        simp only
        omega
    rw [w64 (by omega) (by omega)]
  · rw [if_neg h, if_neg (by omega)]
    show (wrap64 0, false) = _
    rw [w64 (by omega) (by omega)]
theorem unf_fix {n w : Int} (h : fixOk n w) : unfB (fixB n w) = (n, true) := by
  unfold unfB valB
  have h' := h
  unfold fixOk at h'
  rw [fix_size h, bytesOf_fix h, valD_fixD, if_pos (by omega), Nat.zero_mul, Nat.zero_add, Nat.mod_eq_of_lt h'.2.2.2]
  simp only [Prod.mk.injEq, and_true]
  omega
theorem unf_nil : unfB (⟨#[]⟩ : ByteArray) = (0, false) := by rfl
theorem unf_yes {s : ByteArray} (h : (unfB s).2 = true) : fixOk (unfB s).1 s.size ∧ bytesOf (fixB (unfB s).1 s.size) = bytesOf s := by
  unfold unfB at h ⊢
  by_cases hc : 1 ≤ s.size ∧ s.size ≤ 18
  · rw [if_pos hc] at h ⊢
    unfold valB at h ⊢
    cases hv : valD (bytesOf s) 0 with
    | none => rw [hv] at h; cases h
    | some m =>
      simp only
      obtain ⟨h1, h2⟩ := fixD_val _ _ hv
      rw [bytesOf_length] at h1 h2
      have hk : fixOk (m : Int) (s.size : Int) := ⟨by omega, by omega, by omega, by rw [Int.toNat_natCast, Int.toNat_natCast]; exact h2⟩
      exact ⟨hk, by rw [bytesOf_fix hk, Int.toNat_natCast, Int.toNat_natCast, h1]⟩
  · rw [if_neg hc] at h; cases h
theorem alive02_ev : Ev (fun k => cracknellaw02_alive.f k) true := by
  have r1 : readB (⟨#[45, 49, 50, 48]⟩ : ByteArray) = (-120, true) := by decide +kernel
  have r2 : readB (⟨#[48, 48, 55]⟩ : ByteArray) = (0, false) := by decide +kernel
  have hp : (itoaB (-120)).toList = ([45, 49, 50, 48] : List UInt8) := by decide +kernel
  have u1 : unfB (⟨#[48, 48, 55]⟩ : ByteArray) = (7, true) := by decide +kernel
  have f1 : (fixB 7 3).toList = ([48, 48, 55] : List UInt8) := by decide +kernel
  have f2 : (fixB 1000 3).toList = ([] : List UInt8) := fix_nil.mpr (by decide)
  have g1 := unfixed_ev (⟨#[48, 48, 55]⟩ : ByteArray)
  have g2 := fixed_ev (n := 7) (w := 3) (by unfold InI; omega)
  have g3 := fixed_ev (n := 1000) (w := 3) (by unfold InI; omega)
  simp only [cracknellaw02_alive.f, dec_Read.f, r1, r2, Option.bind_some]
  refine ev_bind g1 ?_
  rw [print_f (by unfold InI; omega), u1]
  simp only [Option.bind_some]
  refine ev_pos hp (ev_pos (by trivial) (ev_pos (by trivial) (ev_neg (by simp) (ev_bind g2 (ev_pos f1 (ev_bind g3 (ev_pos f2 (ev_pos (by trivial) (ev_now _)))))))))
end Go.Proofs.YtngjfibaaoaphaaDoor.Y
