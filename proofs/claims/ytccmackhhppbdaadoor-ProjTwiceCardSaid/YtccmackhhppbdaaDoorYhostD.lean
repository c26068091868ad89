/- What host.Canon and host.Ip tell, as plain functions on texts; and that the printed ones come to it. -/
import Derived.Test.YtccmackhhppbdaaDoorYa
import Derived.Test.YtccmackhhppbdaaDoorPrint6
import Derived.Test.YtccmackhhppbdaaDoorPrint7
import Derived.Lib.AtoiAll
import Derived.Lib.AtoiAllCases
import Derived.Lib.ItoaNum
import Derived.Lib.SplitLaws
namespace Go.Proofs.YtccmackhhppbdaaDoor.Y
set_option linter.unusedVariables false
set_option linter.unusedSimpArgs false
open Go.RowKit Go.Proofs.YtccmackhhppbdaaDoor.Print Go.Proofs.YtccmackhhppbdaaDoorW.PrintWords Go.Proofs.YtccmackhhppbdaaDoorW.PrintLast Go.Proofs.YtccmackhhppbdaaDoorW.PrintMore
theorem lowL_range {c : Int} (h : 0 ≤ c ∧ c < 256) : 0 ≤ lowL c ∧ lowL c < 256 := by unfold lowL; split <;> omega
theorem bytesOf_low (s : ByteArray) : bytesOf (lowB s) = (bytesOf s).map lowL := by
  unfold lowB
  refine bytesOf_str fun x hx => ?_
  obtain ⟨c, hc, rfl⟩ := List.mem_map.mp hx
  exact lowL_range (bytesOf_range hc)
theorem low_size (s : ByteArray) : (lowB s).size = s.size := by
  rw [← bytesOf_length, bytesOf_low, List.length_map, bytesOf_length]
theorem low_f {s : ByteArray} (hs : s.size ≤ 9223372036854775806) : ascii_Lower.f s = some (lowB s) := by unfold ascii_Lower.f; rw [if_pos hs]
def addH (x : Int) : List (List Int) → List (List Int)
  | [] => [[x]]
  | h :: t => (x :: h) :: t
def splitL : List Int → List (List Int)
  | [] => [[]]
  | x :: l => if x = 46 then [] :: splitL l else addH x (splitL l)
theorem splitL_ne (l : List Int) : splitL l ≠ [] := by
  cases l with
  | nil => simp [splitL]
  | cons x l =>
    unfold splitL
    split
    · simp
    · cases splitL l <;> simp [addH]
theorem splitL_none {a : List Int} (h : ∀ c ∈ a, c ≠ 46) : splitL a = [a] := by
  induction a with
  | nil => rfl
  | cons x a ih =>
    rw [splitL, if_neg (h x (List.mem_cons_self ..)), ih fun c hc => h c (List.mem_cons_of_mem _ hc)]
    rfl
theorem splitL_dot {a b : List Int} (h : ∀ c ∈ a, c ≠ 46) : splitL (a ++ 46 :: b) = a :: splitL b := by
  induction a with
  | nil => simp [splitL]
  | cons x a ih =>
    rw [List.cons_append, splitL, if_neg (h x (List.mem_cons_self ..)), ih fun c hc => h c (List.mem_cons_of_mem _ hc)]
    rfl
theorem splitL_range {l : List Int} (h : ∀ c ∈ l, 0 ≤ c ∧ c < 256) : ∀ p ∈ splitL l, ∀ c ∈ p, 0 ≤ c ∧ c < 256 := by
  induction l with
  | nil => intro p hp c hc; simp [splitL] at hp; subst hp; simp at hc
  | cons x l ih =>
    have ih := ih fun c hc => h c (List.mem_cons_of_mem _ hc)
    intro p hp c hc
    unfold splitL at hp
    split at hp
    · rcases List.mem_cons.mp hp with rfl | e
      · simp at hc
      · exact ih p e c hc
    · cases hs : splitL l with
      | nil => exact absurd hs (splitL_ne l)
      | cons q t =>
        rw [hs] at hp ih
        simp only [addH] at hp
        rcases List.mem_cons.mp hp with rfl | e
        · rcases List.mem_cons.mp hc with rfl | e
          · exact h c (List.mem_cons_self ..)
          · exact ih q (List.mem_cons_self ..) c e
        · exact ih p (List.mem_cons_of_mem _ e) c hc
theorem splitL_sum (l : List Int) : l.length + 1 = ((splitL l).map List.length).sum + (splitL l).length := by
  induction l with
  | nil => rfl
  | cons x l ih =>
    unfold splitL
    split
    · simp only [List.length_cons, List.map_cons, List.sum_cons, List.length_nil]; omega
    · cases hs : splitL l with
      | nil => exact absurd hs (splitL_ne l)
      | cons q t =>
        rw [hs] at ih
        simp only [addH, List.length_cons, List.map_cons, List.sum_cons] at ih ⊢
        omega
def parts (s : ByteArray) : List ByteArray := (splitL (bytesOf s)).map strOfNums
theorem parts_bytes (s : ByteArray) : (parts s).map bytesOf = splitL (bytesOf s) := by
  unfold parts
  rw [List.map_map]
  conv => rhs; rw [← List.map_id (splitL (bytesOf s))]
  exact List.map_congr_left fun p hp => bytesOf_str (splitL_range (fun c hc => bytesOf_range hc) p hp)
theorem map_bytes_inj {a b : List ByteArray} (h : a.map bytesOf = b.map bytesOf) : a = b := by
  induction a generalizing b with
  | nil => cases b with
    | nil => rfl
    | cons => simp at h
  | cons x a ih => cases b with
    | nil => simp at h
    | cons y b =>
      simp only [List.map_cons, List.cons.injEq] at h
      rw [bytesOf_inj h.1, ih h.2]
theorem splitK_dot (n : Nat) : ∀ l : List UInt8, l.length ≤ n → (Lib.splitK [46] 0 (Lib.count l [46]) l).map (List.map fun b => (b.toNat : Int)) = splitL (l.map fun b => (b.toNat : Int)) := by
  induction n with
  | zero =>
    intro l hl
    have : l = [] := List.length_eq_zero_iff.mp (by omega)
    subst this
    rfl
  | succ n ih =>
    intro l hl
    by_cases hm : Lib.index l [46] = -1
    · have hb := hm
      rw [Lib.index_one] at hb
      rw [Lib.count_miss hm]
      rw [splitL_none]
      · rfl
      · intro c hc
        obtain ⟨b, hb2, rfl⟩ := List.mem_map.mp hc
        obtain ⟨k, hk, hk2⟩ := List.getElem_of_mem hb2
        have := Lib.indexByte_none hb k
        intro e
        apply this
        rw [List.getElem?_eq_getElem hk, hk2]
        congr 1
        exact UInt8.toNat_inj.mp (by simp; omega)
    · have hge := Lib.index_ge l [46]
      obtain ⟨i, hi⟩ : ∃ i : Nat, Lib.index l [46] = i := ⟨(Lib.index l [46]).toNat, by omega⟩
      have hb := hi
      rw [Lib.index_one] at hb
      obtain ⟨h1, h2⟩ := Lib.indexByte_some hb
      have hlt : i < l.length := by
        rcases Nat.lt_or_ge i l.length with h | h
        · exact h
        · rw [List.getElem?_eq_none h] at h1; cases h1
      rw [Lib.count_hit (by simp) hi, Nat.add_comm 1]
      have hs : l.map (fun b => (b.toNat : Int)) = (l.take i).map (fun b => (b.toNat : Int)) ++ 46 :: (l.drop (i + 1)).map (fun b => (b.toNat : Int)) := by
        conv => lhs; rw [← List.take_append_drop i l, List.drop_eq_getElem_cons hlt]
        rw [List.map_append, List.map_cons]
        rw [List.getElem?_eq_getElem hlt] at h1
        rw [Option.some.inj h1]
        rfl
      rw [hs, splitL_dot, Lib.splitK, if_neg (by simpa using hm), hi]
      · simp only [List.map_cons, Int.toNat_natCast, Nat.add_zero, List.length_cons, List.length_nil, Nat.zero_add]
        rw [ih _ (by rw [List.length_drop]; omega)]
      · intro c hc
        obtain ⟨b, hb2, rfl⟩ := List.mem_map.mp hc
        obtain ⟨k, hk, hk2⟩ := List.getElem_of_mem hb2
        rw [List.length_take] at hk
        have := h2 k (by omega)
        intro e
        apply this
        rw [List.getElem_take] at hk2
        rw [List.getElem?_eq_getElem (by omega), hk2]
        congr 1
        exact UInt8.toNat_inj.mp (by simp; omega)
theorem split_parts (s : ByteArray) : splitS s (⟨#[46]⟩ : ByteArray) = parts s := by
  apply map_bytes_inj
  rw [parts_bytes]
  have h := Lib.splitB_data (⟨#[46]⟩ : ByteArray) 0 (Lib.countB s ⟨#[46]⟩) s
  have h2 := splitK_dot s.data.toList.length s.data.toList (Nat.le_refl _)
  unfold splitS
  have e : bytesOf = (fun l : List UInt8 => l.map fun b => (b.toNat : Int)) ∘ fun x : ByteArray => x.data.toList := rfl
  rw [e, ← List.map_map, h]
  exact h2
theorem split_f {s : ByteArray} (hs : s.size < 4294967281) : strings_Split.f s (⟨#[46]⟩ : ByteArray) = some (parts s) := by
  unfold strings_Split.f
  rw [if_pos ⟨hs, by decide⟩, split_parts]
def okb (c : Int) : Bool := decide (97 ≤ c ∧ c ≤ 122) || decide (48 ≤ c ∧ c ≤ 57) || decide (c = 45)
def okP (s : ByteArray) : Bool := decide (1 ≤ s.size) && (decide (s.size ≤ 63) && (!decide (bt s 0 = 45) && (!decide (bt s ((s.size : Int) - 1) = 45) && (bytesOf s).all okb)))
theorem rdOf_drop {l : List ByteArray} {i : Nat} {c : ByteArray} {r : List ByteArray} (h : l.drop i = c :: r) : rdOf ByteArray.empty l (i : Int) = c := by
  unfold rdOf
  have := congrArg (fun x => x[0]?) h
  simp only [List.getElem?_drop, Nat.add_zero, List.getElem?_cons_zero] at this
  rw [Int.toNat_natCast, List.getD_eq_getElem?_getD, this]
  rfl
theorem drop_casesL {α : Type} (l : List α) {i : Nat} (h : i ≤ l.length) : (i = l.length ∧ l.drop i = []) ∨ (∃ c, i < l.length ∧ l.drop i = c :: l.drop (i + 1)) := by
  rcases Nat.lt_or_ge i l.length with h1 | h1
  · exact .inr ⟨l[i], h1, List.drop_eq_getElem_cons h1⟩
  · exact .inl ⟨by omega, List.drop_eq_nil_of_le h1⟩
theorem may_f (c : Int) (e : Bool) : host_may.f c e = some (okb c && !(e && decide (c = 45))) := by
  unfold host_may.f okb
  by_cases a : c ≥ 97
  · rw [if_pos a]
    by_cases b : c ≤ 122
    · rw [if_pos b, decide_eq_true (show 97 ≤ c ∧ c ≤ 122 from ⟨a, b⟩), decide_eq_false (show ¬ c = 45 by omega)]; simp
    · rw [if_neg b, if_pos (by omega), if_neg (by omega), if_neg (by omega), decide_eq_false (by omega), decide_eq_false (by omega), decide_eq_false (by omega)]; rfl
  · rw [if_neg a]
    by_cases b : c ≥ 48
    · rw [if_pos b]
      by_cases d : c ≤ 57
      · rw [if_pos d, decide_eq_true (show 48 ≤ c ∧ c ≤ 57 from ⟨b, d⟩), decide_eq_false (show ¬ c = 45 by omega)]; simp
      · rw [if_neg d, if_neg (by omega), decide_eq_false (by omega), decide_eq_false (by omega), decide_eq_false (by omega)]; rfl
    · rw [if_neg b]
      by_cases d : c = 45
      · rw [if_pos d, decide_eq_true d]; simp
      · rw [if_neg d, decide_eq_false (by omega), decide_eq_false (by omega), decide_eq_false d]; rfl
def endb (s : ByteArray) (i : Nat) : Bool := decide (i = 0) || decide (i + 1 = s.size)
def mayAt (s : ByteArray) (i : Nat) : Bool := okb (bt s i) && !(endb s i && decide (bt s i = 45))
def mayFrom (s : ByteArray) (i d : Nat) : Bool := (List.range' i d).all (mayAt s)
theorem right_inner (s : ByteArray) (l : List ByteArray) (n j : Int) (hs : s.size ≤ 63) (r : Bool) (K : Ev (fun k => host_right.l0 k l n (wrap64 (j + 1))) r) (d : Nat) : ∀ i : Nat, i + d = s.size → Ev (fun k => host_right.l1 k s l n j (s.size : Int) i) (mayFrom s i d && r) := by
  induction d with
  | zero =>
    intro i hi
    apply ev_succ
    simp only [host_right.l1]
    exact ev_neg (by omega) (ev_eq K (by simp [mayFrom]))
  | succ d ih =>
    intro i hi
    have ih := ih (i + 1) (by omega)
    have hw : wrap64 ((i : Int) + 1) = ((i + 1 : Nat) : Int) := by rw [w64 (by omega) (by omega)]; omega
    have hf : mayFrom s i (d + 1) = (mayAt s i && mayFrom s (i + 1) d) := by unfold mayFrom; rw [List.range'_succ, List.all_cons]
    have main : ∀ e : Bool, e = endb s i → Ev (fun k => (host_may.f (bt s i) e).bind fun t => if t = true then host_right.l1 k s l n j (s.size : Int) ((i + 1 : Nat) : Int) else some false) (mayFrom s i (d + 1) && r) := by
      intro e he
      rw [may_f, hf, he]
      show Ev _ (((okb (bt s i) && !(endb s i && decide (bt s i = 45))) && mayFrom s (i + 1) d) && r)
      cases (okb (bt s i) && !(endb s i && decide (bt s i = 45))) with
      | true => exact ev_bind (ev_now true) (ev_pos rfl ih)
      | false => exact ev_bind (ev_now false) (ev_neg (by simp) (ev_now _))
    apply ev_succ
    simp only [host_right.l1]
    rw [hw]
    refine ev_pos (by omega) (ev_pos (by omega) (ev_pos (by omega) ?_))
    by_cases h0 : (i : Int) = 0
    · exact ev_pos h0 (main true (by unfold endb; rw [decide_eq_true (show i = 0 by omega)]; rfl))
    · refine ev_neg h0 (main _ ?_)
      unfold endb
      rw [w64 (by omega) (by omega), decide_eq_false (show ¬ i = 0 by omega), Bool.false_or, Bool.eq_iff_iff, beq_iff_eq, decide_eq_true_iff]
      omega
theorem mayFrom_mid (s : ByteArray) (d : Nat) : ∀ i, 1 ≤ i → i + d + 1 = s.size → mayFrom s i d = (((bytesOf s).drop i).take d).all okb := by
  induction d with
  | zero => intro i _ _; simp [mayFrom]
  | succ d ih =>
    intro i h1 h2
    have hl := bytesOf_length s
    rcases drop_cases s (i := i) (by omega) with ⟨h3, _⟩ | ⟨h3, h4⟩
    · omega
    · have ih := ih (i + 1) (by omega) (by omega)
      unfold mayFrom at ih ⊢
      rw [List.range'_succ, List.all_cons, ih, h4, List.take_succ_cons, List.all_cons]
      congr 1
      unfold mayAt endb
      rw [decide_eq_false (show ¬ i = 0 by omega), decide_eq_false (show ¬ i + 1 = s.size by omega)]
      simp
theorem okP_may (s : ByteArray) : okP s = (decide (1 ≤ s.size) && (decide (s.size ≤ 63) && mayFrom s 0 s.size)) := by
  unfold okP
  by_cases h1 : 1 ≤ s.size
  · rw [decide_eq_true h1]
    by_cases h2 : s.size ≤ 63
    · rw [decide_eq_true h2, Bool.true_and, Bool.true_and, Bool.true_and, Bool.true_and]
      have hl := bytesOf_length s
      by_cases he : s.size = 1
      · rcases drop_cases s (i := 0) (by omega) with ⟨h3, _⟩ | ⟨h3, h4⟩
        · omega
        · rw [List.drop_zero] at h4
          have h5 : (bytesOf s).drop (0 + 1) = [] := List.drop_eq_nil_of_le (by omega)
          rw [h5] at h4
          rw [h4, he]
          simp only [mayFrom, List.range'_one, List.all_cons, List.all_nil, Bool.and_true, mayAt, endb]
          rw [show ((1 : Nat) : Int) - 1 = ((0 : Nat) : Int) by omega]
          show ((!decide (bt s ((0 : Nat) : Int) = 45)) && _) = _
          generalize decide (bt s ((0 : Nat) : Int) = 45) = x
          generalize okb (bt s ((0 : Nat) : Int)) = y
          cases x <;> cases y <;> simp
      · obtain ⟨m, hm⟩ : ∃ m, s.size = m + 2 := ⟨s.size - 2, by omega⟩
        have hmid := mayFrom_mid s m 1 (by omega) (by omega)
        rcases drop_cases s (i := 0) (by omega) with ⟨h3, _⟩ | ⟨h3, h4⟩
        · omega
        · rw [List.drop_zero] at h4
          rcases drop_cases s (i := m + 1) (by omega) with ⟨h5, _⟩ | ⟨h5, h6⟩
          · omega
          · have h7 : (bytesOf s).drop (m + 1 + 1) = [] := List.drop_eq_nil_of_le (by omega)
            rw [h7] at h6
            have e : bytesOf s = bt s ((0 : Nat) : Int) :: ((((bytesOf s).drop 1).take m) ++ [bt s ((m + 1 : Nat) : Int)]) := by
              conv => lhs; rw [h4]
              congr 1
              show (bytesOf s).drop 1 = _
              conv => lhs; rw [← List.take_append_drop m ((bytesOf s).drop 1)]
              rw [List.drop_drop, show 1 + m = m + 1 by omega, h6]
            have f : mayFrom s 0 (m + 2) = (mayAt s 0 && (mayFrom s 1 m && mayAt s (m + 1))) := by
              unfold mayFrom
              rw [List.range'_succ, List.all_cons, show m + 1 = m + 1 from rfl, List.range'_concat, List.all_append]
              simp
              rw [Nat.add_comm 1 m]
            conv => lhs; rw [show (bytesOf s).all okb = (bt s ((0 : Nat) : Int) :: ((((bytesOf s).drop 1).take m) ++ [bt s ((m + 1 : Nat) : Int)])).all okb by rw [← e]]
            rw [hm, f, hmid]
            rw [List.all_cons, List.all_append]
            simp only [mayAt, endb, List.all_cons, List.all_nil, Bool.and_true]
            rw [show ((m + 2 : Nat) : Int) - 1 = ((m + 1 : Nat) : Int) by omega, decide_eq_true (show m + 1 + 1 = s.size by omega)]
            show ((!decide (bt s ((0 : Nat) : Int) = 45)) && _) = _
            generalize decide (bt s ((0 : Nat) : Int) = 45) = x
            generalize okb (bt s ((0 : Nat) : Int)) = y
            generalize decide (bt s ((m + 1 : Nat) : Int) = 45) = z
            generalize okb (bt s ((m + 1 : Nat) : Int)) = u
            generalize List.all _ okb = v
            cases x <;> cases y <;> cases z <;> cases u <;> cases v <;> simp
    · rw [decide_eq_false h2]; simp
  · rw [decide_eq_false h1]; rfl
theorem right_loop (l : List ByteArray) (hl : l.length ≤ 8796093022208) (d : Nat) : ∀ i : Nat, i + d = l.length → Ev (fun k => host_right.l0 k l (l.length : Int) i) ((l.drop i).all okP) := by
  induction d with
  | zero =>
    intro i hi
    apply ev_succ
    simp only [host_right.l0]
    exact ev_neg (by omega) (ev_eq (ev_now _) (by rw [List.drop_eq_nil_of_le (by omega)]; rfl))
  | succ d ih =>
    intro i hi
    apply ev_succ
    simp only [host_right.l0]
    refine ev_pos (by omega) (ev_pos (by omega) (ev_pos (by omega) ?_))
    rcases drop_casesL l (i := i) (by omega) with ⟨h1, _⟩ | ⟨c, h1, h2⟩
    · omega
    · rw [rdOf_drop h2, h2, List.all_cons]
      have ih := ih (i + 1) (by omega)
      have hw : wrap64 ((i : Int) + 1) = ((i + 1 : Nat) : Int) := by rw [w64 (by omega) (by omega)]; omega
      have no : okP c = false → Ev (fun k => host_right.j1 k c l (l.length : Int) i true) (okP c && (l.drop (i + 1)).all okP) := fun h => by
        apply ev_succ
        simp only [host_right.j1]
        exact ev_pos (by trivial) (ev_eq (ev_now _) (by rw [h]; rfl))
      by_cases a : (c.size : Int) < 1
      · exact ev_pos a (no (by unfold okP; rw [decide_eq_false (show ¬ 1 ≤ c.size by omega)]; rfl))
      · refine ev_neg a ?_
        by_cases b : (c.size : Int) > 63
        · rw [decide_eq_true b]
          exact no (by unfold okP; rw [decide_eq_false (show ¬ c.size ≤ 63 by omega)]; simp)
        · rw [decide_eq_false b]
          apply ev_succ
          simp only [host_right.j1]
          refine ev_neg (by simp) (ev_eq (right_inner c l _ i (by omega) _ (by rw [hw]; exact ih) c.size 0 (by omega)) ?_)
          rw [okP_may, decide_eq_true (show 1 ≤ c.size by omega), decide_eq_true (show c.size ≤ 63 by omega)]
          rfl
theorem right_ev {l : List ByteArray} (hl : l.length ≤ 8796093022208) : Ev (fun k => host_right.f k l) (l.all okP) := by
  have := right_loop l hl l.length 0 (by omega)
  simpa [host_right.f] using this
def canonB (s : ByteArray) : ByteArray × Bool := if s.size ≤ 64 ∧ (parts (lowB s)).all okP = true then (lowB s, true) else (⟨#[]⟩, false)
theorem parts_len (s : ByteArray) : (parts s).length ≤ s.size + 1 := by
  have := splitL_sum (bytesOf s)
  rw [bytesOf_length] at this
  unfold parts
  rw [List.length_map]
  omega
theorem canon_ev (s : ByteArray) : Ev (fun k => host_Canon.f k s) (canonB s) := by
  simp only [host_Canon.f]
  unfold canonB
  by_cases h : (s.size : Int) > 64
  · exact ev_pos h (ev_eq (ev_now _) (by rw [if_neg (by omega)]))
  · refine ev_neg h ?_
    have hs := low_size s
    have hp := parts_len (lowB s)
    rw [low_f (by omega)]
    refine ev_bind (ev_now _) ?_
    rw [split_f (by omega)]
    refine ev_bind (ev_now _) (ev_bind (right_ev (by omega)) ?_)
    by_cases hr : (parts (lowB s)).all okP = true
    · exact ev_pos hr (ev_eq (ev_now _) (by rw [if_pos ⟨by omega, hr⟩]))
    · exact ev_neg hr (ev_eq (ev_now _) (by rw [if_neg fun e => hr e.2]))
theorem canon_yes {s t : ByteArray} (h : canonB s = (t, true)) : t = lowB s ∧ s.size ≤ 64 ∧ (parts (lowB s)).all okP = true := by
  unfold canonB at h
  split at h
  · rename_i hc
    exact ⟨(Prod.mk.inj h).1.symm, hc⟩
  · cases h
def byteP (p : ByteArray) : Bool := (readB p).2 && (decide (0 ≤ (readB p).1) && decide ((readB p).1 ≤ 255))
def ipB (s : ByteArray) : Bool := (parts s).all byteP && decide ((parts s).length = 4)
theorem byte_step (p : ByteArray) (g : Nat → Option Bool) (r : Bool) (h : Ev g r) (x : Int × Bool) (hx : x = readB p) : Ev (fun k => if x.2 = true then (if x.1 < 0 then some false else if x.1 > 255 then some false else g k) else some false) (byteP p && r) := by
  subst hx
  unfold byteP
  by_cases a : (readB p).2 = true
  · refine ev_pos a ?_
    by_cases b : (readB p).1 < 0
    · exact ev_pos b (ev_eq (ev_now _) (by rw [a, decide_eq_false (show ¬ 0 ≤ (readB p).1 by omega)]; rfl))
    · refine ev_neg b ?_
      by_cases c : (readB p).1 > 255
      · exact ev_pos c (ev_eq (ev_now _) (by rw [a, decide_eq_false (show ¬ (readB p).1 ≤ 255 by omega)]; simp))
      · exact ev_neg c (ev_eq h (by rw [a, decide_eq_true (show 0 ≤ (readB p).1 by omega), decide_eq_true (show (readB p).1 ≤ 255 by omega)]; rfl))
  · refine ev_neg a (ev_eq (ev_now _) ?_)
    rw [Bool.not_eq_true] at a
    rw [a]; rfl
theorem ip_loop (l : List ByteArray) (hl : l.length ≤ 8796093022208) (d : Nat) : ∀ i : Nat, i + d = l.length → Ev (fun k => host_Ip.l0 k l l (l.length : Int) i) ((l.drop i).all byteP && decide (l.length = 4)) := by
  induction d with
  | zero =>
    intro i hi
    apply ev_succ
    simp only [host_Ip.l0]
    refine ev_neg (by omega) (ev_eq (ev_now _) ?_)
    rw [List.drop_eq_nil_of_le (by omega), List.all_nil, Bool.true_and, Bool.eq_iff_iff, beq_iff_eq, decide_eq_true_iff]
    omega
  | succ d ih =>
    intro i hi
    apply ev_succ
    simp only [host_Ip.l0]
    refine ev_pos (by omega) (ev_pos (by omega) (ev_pos (by omega) ?_))
    rcases drop_casesL l (i := i) (by omega) with ⟨h1, _⟩ | ⟨c, h1, h2⟩
    · omega
    · have ih := ih (i + 1) (by omega)
      have hw : wrap64 ((i : Int) + 1) = ((i + 1 : Nat) : Int) := by rw [w64 (by omega) (by omega)]; omega
      rw [rdOf_drop h2, h2, List.all_cons, hw, Bool.and_assoc]
      exact ev_bind (ev_now (readB c)) (byte_step c _ _ ih _ rfl)
theorem ip_ev {s : ByteArray} (hs : s.size < 4294967281) : Ev (fun k => host_Ip.f k s) (ipB s) := by
  simp only [host_Ip.f]
  rw [split_f hs]
  have hp := parts_len s
  refine ev_bind (ev_now _) (ev_eq (ip_loop (parts s) (by omega) _ 0 (Nat.zero_add _)) ?_)
  rw [List.drop_zero]; rfl
end Go.Proofs.YtccmackhhppbdaaDoor.Y
