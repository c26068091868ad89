/- What the functions of layer 11 (host), and its reference, tell, as plain functions on texts; and that the printed ones come to them. -/
import Derived.Test.YtcblmcehbjlmfaaDoorYdec
import Derived.Lib.SplitLaws
namespace Go.Proofs.YtcblmcehbjlmfaaDoor.Y
set_option linter.unusedVariables false
set_option linter.unusedSimpArgs false
open Go.RowKit Go.Proofs.YtcblmcehbjlmfaaDoor.Print Go.Proofs.YtcblmcehbjlmfaaDoorW.PrintWords Go.Proofs.YtcblmcehbjlmfaaDoorW.PrintLast Go.Proofs.YtcblmcehbjlmfaaDoorW.PrintMore

theorem ev_mono {α : Type} {f : Nat → Option α} {r : α} (hm : ∀ k, LeO (f k) (f (k + 1))) (K : Nat) (h : f K = some r) : Ev f r := by
  refine ⟨K, fun k hk => ?_⟩
  obtain ⟨d, rfl⟩ : ∃ d, k = K + d := ⟨k - K, by omega⟩
  clear hk
  induction d with
  | zero => exact h
  | succ d ih => exact hm _ _ ih

/-! ### small letters -/
theorem lowL_idem (c : Int) : lowL (lowL c) = lowL c := by unfold lowL; repeat (first | omega | split)
theorem lowL_range {c : Int} (h : 0 ≤ c ∧ c < 256) : 0 ≤ lowL c ∧ lowL c < 256 := by unfold lowL; split <;> omega
theorem lowL_dot {c : Int} : lowL c = 46 ↔ c = 46 := by unfold lowL; split <;> omega
theorem bytesOf_low (s : ByteArray) : bytesOf (lowB s) = (bytesOf s).map lowL := by
  unfold lowB
  refine bytesOf_str fun x hx => ?_
  obtain ⟨c, hc, rfl⟩ := List.mem_map.mp hx
  exact lowL_range (bytesOf_range hc)
theorem low_size (s : ByteArray) : (lowB s).size = s.size := by
  rw [← bytesOf_length, bytesOf_low, List.length_map, bytesOf_length]
theorem low_idem (s : ByteArray) : lowB (lowB s) = lowB s := by
  apply bytesOf_inj
  rw [bytesOf_low, bytesOf_low, List.map_map]
  exact List.map_congr_left fun c _ => lowL_idem c
theorem low_f {s : ByteArray} (hs : s.size ≤ 9223372036854775806) : ascii_Lower.f s = some (lowB s) := by unfold ascii_Lower.f; rw [if_pos hs]
theorem ref_low_f {s : ByteArray} (hs : s.size ≤ 9223372036854775806) : cracknelref01_Lower.f s = some (lowB s) := by unfold cracknelref01_Lower.f; rw [if_pos hs]

/-! ### the parts between dots -/
def addH (x : Int) : List (List Int) → List (List Int)
  | [] => [[x]]
  | h :: t => (x :: h) :: t
def splitL : List Int → List (List Int)
  | [] => [[]]
  | x :: l => if x = 46 then [] :: splitL l else addH x (splitL l)
theorem splitL_ne (l : List Int) : splitL l ≠ [] := by
  cases l with
  | nil => simp [splitL]
  | cons x l =>
    unfold splitL
    split
    · simp
    · cases splitL l <;> simp [addH]
theorem splitL_none {a : List Int} (h : ∀ c ∈ a, c ≠ 46) : splitL a = [a] := by
  induction a with
  | nil => rfl
  | cons x a ih =>
    rw [splitL, if_neg (h x (List.mem_cons_self ..)), ih fun c hc => h c (List.mem_cons_of_mem _ hc)]
    rfl
theorem splitL_dot {a b : List Int} (h : ∀ c ∈ a, c ≠ 46) : splitL (a ++ 46 :: b) = a :: splitL b := by
  induction a with
  | nil => simp [splitL]
  | cons x a ih =>
    rw [List.cons_append, splitL, if_neg (h x (List.mem_cons_self ..)), ih fun c hc => h c (List.mem_cons_of_mem _ hc)]
    rfl
theorem addH_append (x : Int) {l : List (List Int)} (h : l ≠ []) (m : List (List Int)) : addH x (l ++ m) = addH x l ++ m := by
  cases l with
  | nil => exact absurd rfl h
  | cons => rfl
theorem splitL_join (a b : List Int) : splitL (a ++ 46 :: b) = splitL a ++ splitL b := by
  induction a with
  | nil => simp [splitL]
  | cons x a ih =>
    rw [List.cons_append, splitL, splitL, ih]
    split
    · rfl
    · exact addH_append x (splitL_ne a) _
theorem splitL_range {l : List Int} (h : ∀ c ∈ l, 0 ≤ c ∧ c < 256) : ∀ p ∈ splitL l, ∀ c ∈ p, 0 ≤ c ∧ c < 256 := by
  induction l with
  | nil => intro p hp c hc; simp [splitL] at hp; subst hp; simp at hc
  | cons x l ih =>
    have ih := ih fun c hc => h c (List.mem_cons_of_mem _ hc)
    intro p hp c hc
    unfold splitL at hp
    split at hp
    · rcases List.mem_cons.mp hp with rfl | e
      · simp at hc
      · exact ih p e c hc
    · cases hs : splitL l with
      | nil => exact absurd hs (splitL_ne l)
      | cons q t =>
        rw [hs] at hp ih
        simp only [addH] at hp
        rcases List.mem_cons.mp hp with rfl | e
        · rcases List.mem_cons.mp hc with rfl | e
          · exact h c (List.mem_cons_self ..)
          · exact ih q (List.mem_cons_self ..) c e
        · exact ih p (List.mem_cons_of_mem _ e) c hc
theorem splitL_le {l : List Int} {m : Int} (hm : 46 ≤ m) (h : ∀ p ∈ splitL l, ∀ c ∈ p, c ≤ m) : ∀ c ∈ l, c ≤ m := by
  induction l with
  | nil => intro c hc; simp at hc
  | cons x l ih =>
    unfold splitL at h
    split at h
    · rename_i hx
      intro c hc
      rcases List.mem_cons.mp hc with rfl | e
      · omega
      · exact ih (fun p hp => h p (List.mem_cons_of_mem _ hp)) c e
    · cases hs : splitL l with
      | nil => exact absurd hs (splitL_ne l)
      | cons q t =>
        rw [hs] at h ih
        simp only [addH] at h
        intro c hc
        rcases List.mem_cons.mp hc with rfl | e
        · exact h _ (List.mem_cons_self ..) c (List.mem_cons_self ..)
        · refine ih (fun p hp d hd => ?_) c e
          rcases List.mem_cons.mp hp with rfl | e
          · exact h _ (List.mem_cons_self ..) d (List.mem_cons_of_mem _ hd)
          · exact h p (List.mem_cons_of_mem _ e) d hd
theorem splitL_sum (l : List Int) : l.length + 1 = ((splitL l).map List.length).sum + (splitL l).length := by
  induction l with
  | nil => rfl
  | cons x l ih =>
    unfold splitL
    split
    · simp only [List.length_cons, List.map_cons, List.sum_cons, List.length_nil]; omega
    · cases hs : splitL l with
      | nil => exact absurd hs (splitL_ne l)
      | cons q t =>
        rw [hs] at ih
        simp only [addH, List.length_cons, List.map_cons, List.sum_cons] at ih ⊢
        omega
theorem sum_le {l : List (List Int)} {m : Nat} (h : ∀ p ∈ l, p.length ≤ m) : (l.map List.length).sum ≤ m * l.length := by
  induction l with
  | nil => simp
  | cons p l ih =>
    have := ih fun q hq => h q (List.mem_cons_of_mem _ hq)
    have := h p (List.mem_cons_self ..)
    simp only [List.map_cons, List.sum_cons, List.length_cons, Nat.mul_add, Nat.mul_one]
    omega
def parts (s : ByteArray) : List ByteArray := (splitL (bytesOf s)).map strOfNums
theorem parts_bytes (s : ByteArray) : (parts s).map bytesOf = splitL (bytesOf s) := by
  unfold parts
  rw [List.map_map]
  conv => rhs; rw [← List.map_id (splitL (bytesOf s))]
  exact List.map_congr_left fun p hp => bytesOf_str (splitL_range (fun c hc => bytesOf_range hc) p hp)
theorem map_bytes_inj {a b : List ByteArray} (h : a.map bytesOf = b.map bytesOf) : a = b := by
  induction a generalizing b with
  | nil => cases b with
    | nil => rfl
    | cons => simp at h
  | cons x a ih => cases b with
    | nil => simp at h
    | cons y b =>
      simp only [List.map_cons, List.cons.injEq] at h
      rw [bytesOf_inj h.1, ih h.2]
theorem splitK_dot (n : Nat) : ∀ l : List UInt8, l.length ≤ n → (Lib.splitK [46] 0 (Lib.count l [46]) l).map (List.map fun b => (b.toNat : Int)) = splitL (l.map fun b => (b.toNat : Int)) := by
  induction n with
  | zero =>
    intro l hl
    have : l = [] := List.length_eq_zero_iff.mp (by omega)
    subst this
    rfl
  | succ n ih =>
    intro l hl
    by_cases hm : Lib.index l [46] = -1
    · have hb := hm
      rw [Lib.index_one] at hb
      rw [Lib.count_miss hm]
      rw [splitL_none]
      · rfl
      · intro c hc
        obtain ⟨b, hb2, rfl⟩ := List.mem_map.mp hc
        obtain ⟨k, hk, hk2⟩ := List.getElem_of_mem hb2
        have := Lib.indexByte_none hb k
        intro e
        apply this
        rw [List.getElem?_eq_getElem hk, hk2]
        congr 1
        exact UInt8.toNat_inj.mp (by simp; omega)
    · have hge := Lib.index_ge l [46]
      obtain ⟨i, hi⟩ : ∃ i : Nat, Lib.index l [46] = i := ⟨(Lib.index l [46]).toNat, by omega⟩
      have hb := hi
      rw [Lib.index_one] at hb
      obtain ⟨h1, h2⟩ := Lib.indexByte_some hb
      have hlt : i < l.length := by
        rcases Nat.lt_or_ge i l.length with h | h
        · exact h
        · rw [List.getElem?_eq_none h] at h1; cases h1
      rw [Lib.count_hit (by simp) hi, Nat.add_comm 1]
      have hs : l.map (fun b => (b.toNat : Int)) = (l.take i).map (fun b => (b.toNat : Int)) ++ 46 :: (l.drop (i + 1)).map (fun b => (b.toNat : Int)) := by
        conv => lhs; rw [← List.take_append_drop i l, List.drop_eq_getElem_cons hlt]
        rw [List.map_append, List.map_cons]
        rw [List.getElem?_eq_getElem hlt] at h1
        rw [Option.some.inj h1]
        rfl
      rw [hs, splitL_dot, Lib.splitK, if_neg (by simpa using hm), hi]
      · simp only [List.map_cons, Int.toNat_natCast, Nat.add_zero, List.length_cons, List.length_nil, Nat.zero_add]
        rw [ih _ (by rw [List.length_drop]; omega)]
      · intro c hc
        obtain ⟨b, hb2, rfl⟩ := List.mem_map.mp hc
        obtain ⟨k, hk, hk2⟩ := List.getElem_of_mem hb2
        rw [List.length_take] at hk
        have := h2 k (by omega)
        intro e
        apply this
        rw [List.getElem_take] at hk2
        rw [List.getElem?_eq_getElem (by omega), hk2]
        congr 1
        exact UInt8.toNat_inj.mp (by simp; omega)
theorem split_parts (s : ByteArray) : splitS s (⟨#[46]⟩ : ByteArray) = parts s := by
  apply map_bytes_inj
  rw [parts_bytes]
  have h := Lib.splitB_data (⟨#[46]⟩ : ByteArray) 0 (Lib.countB s ⟨#[46]⟩) s
  have h2 := splitK_dot s.data.toList.length s.data.toList (Nat.le_refl _)
  unfold splitS
  have e : bytesOf = (fun l : List UInt8 => l.map fun b => (b.toNat : Int)) ∘ fun x : ByteArray => x.data.toList := rfl
  rw [e, ← List.map_map, h]
  exact h2
theorem split_f {s : ByteArray} (hs : s.size < 4294967281) : strings_Split.f s (⟨#[46]⟩ : ByteArray) = some (parts s) := by
  unfold strings_Split.f
  rw [if_pos ⟨hs, by decide⟩, split_parts]
theorem take_snoc {l : List Int} {a k : Nat} {c : Int} {r : List Int} (hak : a ≤ k) (h : l.drop k = c :: r) : (l.drop a).take (k + 1 - a) = (l.drop a).take (k - a) ++ [c] := by
  have hk : l[k]? = some c := by
    have := congrArg (fun x => x[0]?) h
    simpa [List.getElem?_drop] using this
  rw [show k + 1 - a = (k - a) + 1 by omega, List.take_add_one, List.getElem?_drop, show a + (k - a) = k by omega, hk]
  rfl
theorem parts_loop (s : ByteArray) (hs : s.size ≤ 4294967296) (d : Nat) : ∀ (a k : Nat) (acc : List ByteArray), k + d = s.size → a ≤ k → acc.length ≤ a → (∀ c ∈ ((bytesOf s).drop a).take (k - a), c ≠ 46) → Ev (fun n => cracknelref11_Parts.l0 n s acc a k) (acc ++ (splitL ((bytesOf s).drop a)).map strOfNums) := by
  induction d with
  | zero =>
    intro a k acc hk hak hacc hno
    apply ev_succ
    simp only [cracknelref11_Parts.l0]
    refine ev_neg (by omega) (ev_pos (by omega) (ev_pos (by omega) (ev_pos (by omega) (ev_eq (ev_now _) ?_))))
    have hl := bytesOf_length s
    rw [List.take_of_length_le (by rw [List.length_drop]; omega)] at hno
    rw [splitL_none hno]
    congr 1
    simp only [List.map_cons, List.map_nil]
    congr 1
    apply bytesOf_inj
    rw [bytesOf_extract, bytesOf_str fun c hc => bytesOf_range (List.mem_of_mem_drop hc), Int.toNat_natCast, List.take_of_length_le (by rw [List.length_drop]; omega)]
  | succ d ih =>
    intro a k acc hk hak hacc hno
    apply ev_succ
    simp only [cracknelref11_Parts.l0]
    refine ev_pos (by omega) (ev_pos (by omega) ?_)
    have hw : wrap64 ((k : Int) + 1) = ((k + 1 : Nat) : Int) := by rw [w64 (by omega) (by omega)]; omega
    rw [hw]
    have hl := bytesOf_length s
    rcases drop_cases s (i := k) (by omega) with ⟨h1, _⟩ | ⟨h1, h2⟩
    · omega
    · by_cases hc : bt s k = 46
      · refine ev_pos hc (ev_pos (by omega) (ev_pos (by omega) (ev_pos (by omega) (ev_pos (by omega) ?_))))
        refine ev_eq (ih (k + 1) (k + 1) _ (by omega) (by omega) (by simp; omega) (by simp)) ?_
        rw [hc] at h2
        have e : (bytesOf s).drop a = ((bytesOf s).drop a).take (k - a) ++ 46 :: (bytesOf s).drop (k + 1) := by
          conv => lhs; rw [← List.take_append_drop (k - a) ((bytesOf s).drop a)]
          rw [List.drop_drop, show a + (k - a) = k by omega, h2]
        rw [e, splitL_dot hno, List.map_cons, List.append_assoc]
        congr 1
        rw [List.singleton_append]
        congr 1
        apply bytesOf_inj
        rw [bytesOf_extract, bytesOf_str fun c hc => bytesOf_range (List.mem_of_mem_drop (List.mem_of_mem_take hc)), Int.toNat_natCast, Int.toNat_natCast]
      · refine ev_neg hc (ih a (k + 1) acc (by omega) (by omega) hacc ?_)
        rw [take_snoc hak h2]
        intro c hcm
        rcases List.mem_append.mp hcm with e | e
        · exact hno c e
        · simp only [List.mem_singleton] at e
          rw [e]; exact hc
theorem ref_parts_ev {s : ByteArray} (hs : s.size ≤ 4294967296) : Ev (fun n => cracknelref11_Parts.f n s) (parts s) := by
  simp only [cracknelref11_Parts.f]
  have := parts_loop s hs s.size 0 0 [] (by omega) (Nat.le_refl _) (Nat.le_refl _) (by simp)
  simpa [parts] using this

/-! ### what a part may be -/
def okb (c : Int) : Bool := decide (97 ≤ c ∧ c ≤ 122) || decide (48 ≤ c ∧ c ≤ 57) || decide (c = 45)
def okP (s : ByteArray) : Bool := decide (1 ≤ s.size) && (decide (s.size ≤ 63) && (!decide (bt s 0 = 45) && (!decide (bt s ((s.size : Int) - 1) = 45) && (bytesOf s).all okb)))
theorem part_loop (s : ByteArray) (hs : s.size ≤ 63) (d : Nat) : ∀ k : Nat, k + d = s.size → Ev (fun n => cracknelref11_part.l0 n s k) (((bytesOf s).drop k).all okb) := by
  induction d with
  | zero =>
    intro k hk
    apply ev_succ
    simp only [cracknelref11_part.l0]
    have hl := bytesOf_length s
    exact ev_neg (by omega) (ev_eq (ev_now _) (by rw [List.drop_eq_nil_of_le (by omega)]; rfl))
  | succ d ih =>
    intro k hk
    apply ev_succ
    simp only [cracknelref11_part.l0]
    have hw : wrap64 ((k : Int) + 1) = ((k + 1 : Nat) : Int) := by rw [w64 (by omega) (by omega)]; omega
    rw [hw]
    refine ev_pos (by omega) (ev_pos (by omega) ?_)
    rcases drop_cases s (i := k) (by omega) with ⟨h1, _⟩ | ⟨h1, h2⟩
    · omega
    · have ih := ih (k + 1) (by omega)
      rw [h2, List.all_cons]
      have yes : okb (bt s k) = true → Ev (fun n => cracknelref11_part.l0 n s ((k + 1 : Nat) : Int)) (okb (bt s k) && ((bytesOf s).drop (k + 1)).all okb) := fun h => ev_eq ih (by rw [h]; rfl)
      have no : okb (bt s k) = false → Ev (fun _ => some false) (okb (bt s k) && ((bytesOf s).drop (k + 1)).all okb) := fun h => ev_eq (ev_now _) (by rw [h]; rfl)
      have fin : Ev (fun n => if bt s k = 45 then cracknelref11_part.l0 n s ((k + 1 : Nat) : Int) else some false) (okb (bt s k) && ((bytesOf s).drop (k + 1)).all okb) ∨ (97 ≤ bt s k ∧ bt s k ≤ 122) ∨ (48 ≤ bt s k ∧ bt s k ≤ 57) := by
        by_cases a : 97 ≤ bt s k ∧ bt s k ≤ 122
        · exact .inr (.inl a)
        · by_cases b : 48 ≤ bt s k ∧ bt s k ≤ 57
          · exact .inr (.inr b)
          · left
            by_cases c : bt s k = 45
            · exact ev_pos c (yes (by unfold okb; rw [decide_eq_true c]; simp))
            · exact ev_neg c (no (by unfold okb; rw [decide_eq_false a, decide_eq_false b, decide_eq_false c]; rfl))
      by_cases a : bt s k ≥ 97
      · refine ev_pos a ?_
        by_cases b : bt s k ≤ 122
        · exact ev_pos b (yes (by unfold okb; rw [decide_eq_true ⟨a, b⟩]; rfl))
        · refine ev_neg b (ev_pos (by omega) (ev_neg (by omega) ?_))
          rcases fin with h | h | h
          · exact h
          · omega
          · omega
      · refine ev_neg a ?_
        by_cases b : bt s k ≥ 48
        · refine ev_pos b ?_
          by_cases c : bt s k ≤ 57
          · exact ev_pos c (yes (by unfold okb; rw [decide_eq_true (p := 48 ≤ bt s k ∧ bt s k ≤ 57) ⟨b, c⟩]; simp))
          · refine ev_neg c ?_
            rcases fin with h | h | h
            · exact h
            · omega
            · omega
        · refine ev_neg b ?_
          rcases fin with h | h | h
          · exact h
          · omega
          · omega
theorem part_ev (s : ByteArray) (hs : s.size ≤ 140737488351232) : Ev (fun n => cracknelref11_part.f n s) (okP s) := by
  have no : okP s = false → Ev (fun n => cracknelref11_part.j0 n s true) (okP s) := fun h => by
    apply ev_succ
    simp only [cracknelref11_part.j0]
    exact ev_pos (by trivial) (ev_eq (ev_now _) h.symm)
  simp only [cracknelref11_part.f]
  unfold okP at no ⊢
  by_cases h1 : (s.size : Int) < 1
  · exact ev_pos h1 (no (by rw [decide_eq_false (show ¬ 1 ≤ s.size by omega)]; rfl))
  · refine ev_neg h1 ?_
    by_cases h2 : (s.size : Int) > 63
    · exact ev_pos h2 (no (by rw [decide_eq_false (show ¬ s.size ≤ 63 by omega)]; simp))
    · refine ev_neg h2 (ev_pos (by omega) ?_)
      by_cases h3 : bt s 0 = 45
      · exact ev_pos h3 (no (by rw [decide_eq_true h3]; simp))
      · refine ev_neg h3 ?_
        rw [w64 (by omega) (by omega)]
        refine ev_pos (by omega) (ev_pos (by omega) ?_)
        by_cases h4 : bt s ((s.size : Int) - 1) = 45
        · rw [beq_iff_eq.mpr h4]
          exact no (by rw [decide_eq_true h4]; simp)
        · rw [beq_eq_false_iff_ne.mpr h4]
          apply ev_succ
          simp only [cracknelref11_part.j0]
          refine ev_neg (by simp) (ev_eq (part_loop s (by omega) s.size 0 (by omega)) ?_)
          rw [decide_eq_true (show 1 ≤ s.size by omega), decide_eq_true (show s.size ≤ 63 by omega), decide_eq_false h3, decide_eq_false h4]
          rfl
end Go.Proofs.YtcblmcehbjlmfaaDoor.Y
