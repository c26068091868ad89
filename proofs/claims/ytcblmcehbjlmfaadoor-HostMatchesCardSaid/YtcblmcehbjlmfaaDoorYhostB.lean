/- Layer 11 (host), second text: hosts, addresses, domains. -/
import Derived.Test.YtcblmcehbjlmfaaDoorYhost
namespace Go.Proofs.YtcblmcehbjlmfaaDoor.Y
set_option linter.unusedVariables false
set_option linter.unusedSimpArgs false
open Go.RowKit Go.Proofs.YtcblmcehbjlmfaaDoor.Print Go.Proofs.YtcblmcehbjlmfaaDoorW.PrintWords Go.Proofs.YtcblmcehbjlmfaaDoorW.PrintLast Go.Proofs.YtcblmcehbjlmfaaDoorW.PrintMore

theorem rdOf_drop {l : List ByteArray} {i : Nat} {c : ByteArray} {r : List ByteArray} (h : l.drop i = c :: r) : rdOf ByteArray.empty l (i : Int) = c := by
  unfold rdOf
  have := congrArg (fun x => x[0]?) h
  simp only [List.getElem?_drop, Nat.add_zero, List.getElem?_cons_zero] at this
  rw [Int.toNat_natCast, List.getD_eq_getElem?_getD, this]
  rfl
theorem drop_casesL {α : Type} (l : List α) {i : Nat} (h : i ≤ l.length) : (i = l.length ∧ l.drop i = []) ∨ (∃ c, i < l.length ∧ l.drop i = c :: l.drop (i + 1)) := by
  rcases Nat.lt_or_ge i l.length with h1 | h1
  · exact .inr ⟨l[i], h1, List.drop_eq_getElem_cons h1⟩
  · exact .inl ⟨by omega, List.drop_eq_nil_of_le h1⟩

/-! ### may, right -/
theorem may_f (c : Int) (e : Bool) : host_may.f c e = some (okb c && !(e && decide (c = 45))) := by
  unfold host_may.f okb
  by_cases a : c ≥ 97
  · rw [if_pos a]
    by_cases b : c ≤ 122
    · rw [if_pos b, decide_eq_true (show 97 ≤ c ∧ c ≤ 122 from ⟨a, b⟩), decide_eq_false (show ¬ c = 45 by omega)]; simp
    · rw [if_neg b, if_pos (by omega), if_neg (by omega), if_neg (by omega), decide_eq_false (by omega), decide_eq_false (by omega), decide_eq_false (by omega)]; rfl
  · rw [if_neg a]
    by_cases b : c ≥ 48
    · rw [if_pos b]
      by_cases d : c ≤ 57
      · rw [if_pos d, decide_eq_true (show 48 ≤ c ∧ c ≤ 57 from ⟨b, d⟩), decide_eq_false (show ¬ c = 45 by omega)]; simp
      · rw [if_neg d, if_neg (by omega), decide_eq_false (by omega), decide_eq_false (by omega), decide_eq_false (by omega)]; rfl
    · rw [if_neg b]
      by_cases d : c = 45
      · rw [if_pos d, decide_eq_true d]; simp
      · rw [if_neg d, decide_eq_false (by omega), decide_eq_false (by omega), decide_eq_false d]; rfl
def endb (s : ByteArray) (i : Nat) : Bool := decide (i = 0) || decide (i + 1 = s.size)
def mayAt (s : ByteArray) (i : Nat) : Bool := okb (bt s i) && !(endb s i && decide (bt s i = 45))
def mayFrom (s : ByteArray) (i d : Nat) : Bool := (List.range' i d).all (mayAt s)
theorem right_inner (s : ByteArray) (l : List ByteArray) (n j : Int) (hs : s.size ≤ 63) (r : Bool) (K : Ev (fun k => host_right.l0 k l n (wrap64 (j + 1))) r) (d : Nat) : ∀ i : Nat, i + d = s.size → Ev (fun k => host_right.l1 k s l n j (s.size : Int) i) (mayFrom s i d && r) := by
  induction d with
  | zero =>
    intro i hi
    apply ev_succ
    simp only [host_right.l1]
    exact ev_neg (by omega) (ev_eq K (by simp [mayFrom]))
  | succ d ih =>
    intro i hi
    have ih := ih (i + 1) (by omega)
    have hw : wrap64 ((i : Int) + 1) = ((i + 1 : Nat) : Int) := by rw [w64 (by omega) (by omega)]; omega
    have hf : mayFrom s i (d + 1) = (mayAt s i && mayFrom s (i + 1) d) := by unfold mayFrom; rw [List.range'_succ, List.all_cons]
    have main : ∀ e : Bool, e = endb s i → Ev (fun k => (host_may.f (bt s i) e).bind fun t => if t = true then host_right.l1 k s l n j (s.size : Int) ((i + 1 : Nat) : Int) else some false) (mayFrom s i (d + 1) && r) := by
      intro e he
      rw [may_f, hf, he]
      show Ev _ (((okb (bt s i) && !(endb s i && decide (bt s i = 45))) && mayFrom s (i + 1) d) && r)
      cases (okb (bt s i) && !(endb s i && decide (bt s i = 45))) with
      | true => exact ev_bind (ev_now true) (ev_pos rfl ih)
      | false => exact ev_bind (ev_now false) (ev_neg (by simp) (ev_now _))
    apply ev_succ
    simp only [host_right.l1]
    rw [hw]
    refine ev_pos (by omega) (ev_pos (by omega) (ev_pos (by omega) ?_))
    by_cases h0 : (i : Int) = 0
    · exact ev_pos h0 (main true (by unfold endb; rw [decide_eq_true (show i = 0 by omega)]; rfl))
    · refine ev_neg h0 (main _ ?_)
      unfold endb
      rw [w64 (by omega) (by omega), decide_eq_false (show ¬ i = 0 by omega), Bool.false_or, Bool.eq_iff_iff, beq_iff_eq, decide_eq_true_iff]
      omega
theorem mayFrom_mid (s : ByteArray) (d : Nat) : ∀ i, 1 ≤ i → i + d + 1 = s.size → mayFrom s i d = (((bytesOf s).drop i).take d).all okb := by
  induction d with
  | zero => intro i _ _; simp [mayFrom]
  | succ d ih =>
    intro i h1 h2
    have hl := bytesOf_length s
    rcases drop_cases s (i := i) (by omega) with ⟨h3, _⟩ | ⟨h3, h4⟩
    · omega
    · have ih := ih (i + 1) (by omega) (by omega)
      unfold mayFrom at ih ⊢
      rw [List.range'_succ, List.all_cons, ih, h4, List.take_succ_cons, List.all_cons]
      congr 1
      unfold mayAt endb
      rw [decide_eq_false (show ¬ i = 0 by omega), decide_eq_false (show ¬ i + 1 = s.size by omega)]
      simp
theorem okP_may (s : ByteArray) : okP s = (decide (1 ≤ s.size) && (decide (s.size ≤ 63) && mayFrom s 0 s.size)) := by
  unfold okP
  by_cases h1 : 1 ≤ s.size
  · rw [decide_eq_true h1]
    by_cases h2 : s.size ≤ 63
    · rw [decide_eq_true h2, Bool.true_and, Bool.true_and, Bool.true_and, Bool.true_and]
      have hl := bytesOf_length s
      by_cases he : s.size = 1
      · rcases drop_cases s (i := 0) (by omega) with ⟨h3, _⟩ | ⟨h3, h4⟩
        · omega
        · rw [List.drop_zero] at h4
          have h5 : (bytesOf s).drop (0 + 1) = [] := List.drop_eq_nil_of_le (by omega)
          rw [h5] at h4
          rw [h4, he]
          simp only [mayFrom, List.range'_one, List.all_cons, List.all_nil, Bool.and_true, mayAt, endb]
          rw [show ((1 : Nat) : Int) - 1 = ((0 : Nat) : Int) by omega]
          show ((!decide (bt s ((0 : Nat) : Int) = 45)) && _) = _
          generalize decide (bt s ((0 : Nat) : Int) = 45) = x
          generalize okb (bt s ((0 : Nat) : Int)) = y
          cases x <;> cases y <;> simp
      · obtain ⟨m, hm⟩ : ∃ m, s.size = m + 2 := ⟨s.size - 2, by omega⟩
        have hmid := mayFrom_mid s m 1 (by omega) (by omega)
        rcases drop_cases s (i := 0) (by omega) with ⟨h3, _⟩ | ⟨h3, h4⟩
        · omega
        · rw [List.drop_zero] at h4
          rcases drop_cases s (i := m + 1) (by omega) with ⟨h5, _⟩ | ⟨h5, h6⟩
          · omega
          · have h7 : (bytesOf s).drop (m + 1 + 1) = [] := List.drop_eq_nil_of_le (by omega)
            rw [h7] at h6
            have e : bytesOf s = bt s ((0 : Nat) : Int) :: ((((bytesOf s).drop 1).take m) ++ [bt s ((m + 1 : Nat) : Int)]) := by
              conv => lhs; rw [h4]
              congr 1
              show (bytesOf s).drop 1 = _
              conv => lhs; rw [← List.take_append_drop m ((bytesOf s).drop 1)]
              rw [List.drop_drop, show 1 + m = m + 1 by omega, h6]
            have f : mayFrom s 0 (m + 2) = (mayAt s 0 && (mayFrom s 1 m && mayAt s (m + 1))) := by
              unfold mayFrom
              rw [List.range'_succ, List.all_cons, show m + 1 = m + 1 from rfl, List.range'_concat, List.all_append]
              simp
              rw [Nat.add_comm 1 m]
            conv => lhs; rw [show (bytesOf s).all okb = (bt s ((0 : Nat) : Int) :: ((((bytesOf s).drop 1).take m) ++ [bt s ((m + 1 : Nat) : Int)])).all okb by rw [← e]]
            rw [hm, f, hmid]
            rw [List.all_cons, List.all_append]
            simp only [mayAt, endb, List.all_cons, List.all_nil, Bool.and_true]
            rw [show ((m + 2 : Nat) : Int) - 1 = ((m + 1 : Nat) : Int) by omega, decide_eq_true (show m + 1 + 1 = s.size by omega)]
            show ((!decide (bt s ((0 : Nat) : Int) = 45)) && _) = _
            generalize decide (bt s ((0 : Nat) : Int) = 45) = x
            generalize okb (bt s ((0 : Nat) : Int)) = y
            generalize decide (bt s ((m + 1 : Nat) : Int) = 45) = z
            generalize okb (bt s ((m + 1 : Nat) : Int)) = u
            generalize List.all _ okb = v
            cases x <;> cases y <;> cases z <;> cases u <;> cases v <;> simp
    · rw [decide_eq_false h2]; simp
  · rw [decide_eq_false h1]; rfl
theorem right_loop (l : List ByteArray) (hl : l.length ≤ 8796093022208) (d : Nat) : ∀ i : Nat, i + d = l.length → Ev (fun k => host_right.l0 k l (l.length : Int) i) ((l.drop i).all okP) := by
  induction d with
  | zero =>
    intro i hi
    apply ev_succ
    simp only [host_right.l0]
    exact ev_neg (by omega) (ev_eq (ev_now _) (by rw [List.drop_eq_nil_of_le (by omega)]; rfl))
  | succ d ih =>
    intro i hi
    apply ev_succ
    simp only [host_right.l0]
    refine ev_pos (by omega) (ev_pos (by omega) (ev_pos (by omega) ?_))
    rcases drop_casesL l (i := i) (by omega) with ⟨h1, _⟩ | ⟨c, h1, h2⟩
    · omega
    · rw [rdOf_drop h2, h2, List.all_cons]
      have ih := ih (i + 1) (by omega)
      have hw : wrap64 ((i : Int) + 1) = ((i + 1 : Nat) : Int) := by rw [w64 (by omega) (by omega)]; omega
      have no : okP c = false → Ev (fun k => host_right.j1 k c l (l.length : Int) i true) (okP c && (l.drop (i + 1)).all okP) := fun h => by
        apply ev_succ
        simp only [host_right.j1]
        exact ev_pos (by trivial) (ev_eq (ev_now _) (by rw [h]; rfl))
      by_cases a : (c.size : Int) < 1
      · exact ev_pos a (no (by unfold okP; rw [decide_eq_false (show ¬ 1 ≤ c.size by omega)]; rfl))
      · refine ev_neg a ?_
        by_cases b : (c.size : Int) > 63
        · rw [decide_eq_true b]
          exact no (by unfold okP; rw [decide_eq_false (show ¬ c.size ≤ 63 by omega)]; simp)
        · rw [decide_eq_false b]
          apply ev_succ
          simp only [host_right.j1]
          refine ev_neg (by simp) (ev_eq (right_inner c l _ i (by omega) _ (by rw [hw]; exact ih) c.size 0 (by omega)) ?_)
          rw [okP_may, decide_eq_true (show 1 ≤ c.size by omega), decide_eq_true (show c.size ≤ 63 by omega)]
          rfl
theorem right_ev {l : List ByteArray} (hl : l.length ≤ 8796093022208) : Ev (fun k => host_right.f k l) (l.all okP) := by
  have := right_loop l hl l.length 0 (by omega)
  simpa [host_right.f] using this

/-! ### Canon -/
def canonB (s : ByteArray) : ByteArray × Bool := if s.size ≤ 64 ∧ (parts (lowB s)).all okP = true then (lowB s, true) else (⟨#[]⟩, false)
theorem parts_len (s : ByteArray) : (parts s).length ≤ s.size + 1 := by
  have := splitL_sum (bytesOf s)
  rw [bytesOf_length] at this
  unfold parts
  rw [List.length_map]
  omega
theorem canon_ev (s : ByteArray) : Ev (fun k => host_Canon.f k s) (canonB s) := by
  simp only [host_Canon.f]
  unfold canonB
  by_cases h : (s.size : Int) > 64
  · exact ev_pos h (ev_eq (ev_now _) (by rw [if_neg (by omega)]))
  · refine ev_neg h ?_
    have hs := low_size s
    have hp := parts_len (lowB s)
    rw [low_f (by omega)]
    refine ev_bind (ev_now _) ?_
    rw [split_f (by omega)]
    refine ev_bind (ev_now _) (ev_bind (right_ev (by omega)) ?_)
    by_cases hr : (parts (lowB s)).all okP = true
    · exact ev_pos hr (ev_eq (ev_now _) (by rw [if_pos ⟨by omega, hr⟩]))
    · exact ev_neg hr (ev_eq (ev_now _) (by rw [if_neg fun e => hr e.2]))
theorem ref_canon_loop (s : ByteArray) (l : List ByteArray) (hl : l.length ≤ 8796093022208) (hsz : ∀ p ∈ l, p.size ≤ 140737488351232) (d : Nat) : ∀ i : Nat, i + d = l.length → Ev (fun k => cracknelref11_Canon.l0 k s l i) (if (l.drop i).all okP = true then (s, true) else (⟨#[]⟩, false)) := by
  induction d with
  | zero =>
    intro i hi
    apply ev_succ
    simp only [cracknelref11_Canon.l0]
    exact ev_neg (by omega) (ev_eq (ev_now _) (by rw [List.drop_eq_nil_of_le (by omega)]; rfl))
  | succ d ih =>
    intro i hi
    apply ev_succ
    simp only [cracknelref11_Canon.l0]
    refine ev_pos (by omega) (ev_pos (by omega) ?_)
    rcases drop_casesL l (i := i) (by omega) with ⟨h1, _⟩ | ⟨c, h1, h2⟩
    · omega
    · have ih := ih (i + 1) (by omega)
      have hw : wrap64 ((i : Int) + 1) = ((i + 1 : Nat) : Int) := by rw [w64 (by omega) (by omega)]; omega
      rw [rdOf_drop h2, h2, List.all_cons, hw]
      refine ev_bind (part_ev c (hsz c (List.mem_of_mem_drop (by rw [h2]; exact List.mem_cons_self ..)))) ?_
      by_cases hc : okP c = true
      · refine ev_pos hc (ev_eq ih ?_)
        rw [hc, Bool.true_and]
      · refine ev_neg hc (ev_eq (ev_now _) ?_)
        rw [Bool.not_eq_true] at hc
        rw [hc]; rfl
theorem mem_sum {l : List Nat} {x : Nat} (h : x ∈ l) : x ≤ l.sum := by
  induction l with
  | nil => simp at h
  | cons y l ih =>
    rw [List.sum_cons]
    rcases List.mem_cons.mp h with rfl | e
    · omega
    · have := ih e; omega
theorem parts_size {s p : ByteArray} (h : p ∈ parts s) : p.size ≤ s.size := by
  have h1 : bytesOf p ∈ splitL (bytesOf s) := by rw [← parts_bytes]; exact List.mem_map_of_mem h
  have h2 := splitL_sum (bytesOf s)
  have h3 : (bytesOf p).length ≤ ((splitL (bytesOf s)).map List.length).sum := mem_sum (List.mem_map_of_mem h1)
  have h4 : 1 ≤ (splitL (bytesOf s)).length := List.length_pos_iff.mpr (splitL_ne _)
  rw [bytesOf_length] at h2 h3
  omega
theorem ref_canon_ev {s : ByteArray} (hs : s.size ≤ 140737488351232) : Ev (fun k => cracknelref11_Canon.f k s) (canonB s) := by
  simp only [cracknelref11_Canon.f]
  rw [ref_low_f (by omega)]
  refine ev_bind (ev_now _) ?_
  have hz := low_size s
  have no : ¬ (s.size ≤ 64 ∧ (parts (lowB s)).all okP = true) → Ev (fun n => cracknelref11_Canon.j0 n (lowB s) true) (canonB s) := fun h => by
    apply ev_succ
    simp only [cracknelref11_Canon.j0]
    exact ev_pos (by trivial) (ev_eq (ev_now _) (by unfold canonB; rw [if_neg h]))
  by_cases h1 : ((lowB s).size : Int) < 1
  · refine ev_pos h1 (no fun h => ?_)
    have hb : bytesOf (lowB s) = [] := bytesOf_nil_iff.mpr (by omega)
    have h2 := h.2
    unfold parts at h2
    rw [hb] at h2
    exact absurd h2 (by decide +kernel)
  · refine ev_neg h1 ?_
    by_cases h2 : ((lowB s).size : Int) > 64
    · rw [decide_eq_true h2]
      exact no fun h => by omega
    · rw [decide_eq_false h2]
      apply ev_succ
      simp only [cracknelref11_Canon.j0]
      have hp := parts_len (lowB s)
      refine ev_neg (by simp) (ev_bind (ref_parts_ev (by omega)) (ev_eq (ref_canon_loop (lowB s) _ (by omega) (fun p hp => by have := parts_size hp; omega) (parts (lowB s)).length 0 (by omega)) ?_))
      rw [List.drop_zero]
      unfold canonB
      by_cases hr : (parts (lowB s)).all okP = true
      · rw [if_pos hr, if_pos ⟨by omega, hr⟩]
      · rw [if_neg hr, if_neg fun e => hr e.2]
theorem canon_low (s : ByteArray) : canonB (lowB s) = canonB s := by
  unfold canonB
  rw [low_size, low_idem]
theorem canon_yes {s t : ByteArray} (h : canonB s = (t, true)) : t = lowB s ∧ s.size ≤ 64 ∧ (parts (lowB s)).all okP = true := by
  unfold canonB at h
  split at h
  · rename_i hc
    exact ⟨(Prod.mk.inj h).1.symm, hc⟩
  · cases h

/-! ### Ip -/
def byteP (p : ByteArray) : Bool := (readB p).2 && (decide (0 ≤ (readB p).1) && decide ((readB p).1 ≤ 255))
def ipB (s : ByteArray) : Bool := (parts s).all byteP && decide ((parts s).length = 4)
theorem byte_step (p : ByteArray) (g : Nat → Option Bool) (r : Bool) (h : Ev g r) (x : Int × Bool) (hx : x = readB p) : Ev (fun k => if x.2 = true then (if x.1 < 0 then some false else if x.1 > 255 then some false else g k) else some false) (byteP p && r) := by
  subst hx
  unfold byteP
  by_cases a : (readB p).2 = true
  · refine ev_pos a ?_
    by_cases b : (readB p).1 < 0
    · exact ev_pos b (ev_eq (ev_now _) (by rw [a, decide_eq_false (show ¬ 0 ≤ (readB p).1 by omega)]; rfl))
    · refine ev_neg b ?_
      by_cases c : (readB p).1 > 255
      · exact ev_pos c (ev_eq (ev_now _) (by rw [a, decide_eq_false (show ¬ (readB p).1 ≤ 255 by omega)]; simp))
      · exact ev_neg c (ev_eq h (by rw [a, decide_eq_true (show 0 ≤ (readB p).1 by omega), decide_eq_true (show (readB p).1 ≤ 255 by omega)]; rfl))
  · refine ev_neg a (ev_eq (ev_now _) ?_)
    rw [Bool.not_eq_true] at a
    rw [a]; rfl
theorem ip_loop (l : List ByteArray) (hl : l.length ≤ 8796093022208) (d : Nat) : ∀ i : Nat, i + d = l.length → Ev (fun k => host_Ip.l0 k l l (l.length : Int) i) ((l.drop i).all byteP && decide (l.length = 4)) := by
  induction d with
  | zero =>
    intro i hi
    apply ev_succ
    simp only [host_Ip.l0]
    refine ev_neg (by omega) (ev_eq (ev_now _) ?_)
    rw [List.drop_eq_nil_of_le (by omega), List.all_nil, Bool.true_and, Bool.eq_iff_iff, beq_iff_eq, decide_eq_true_iff]
    omega
  | succ d ih =>
    intro i hi
    apply ev_succ
    simp only [host_Ip.l0]
    refine ev_pos (by omega) (ev_pos (by omega) (ev_pos (by omega) ?_))
    rcases drop_casesL l (i := i) (by omega) with ⟨h1, _⟩ | ⟨c, h1, h2⟩
    · omega
    · have ih := ih (i + 1) (by omega)
      have hw : wrap64 ((i : Int) + 1) = ((i + 1 : Nat) : Int) := by rw [w64 (by omega) (by omega)]; omega
      rw [rdOf_drop h2, h2, List.all_cons, hw, Bool.and_assoc]
      exact ev_bind (ev_now (readB c)) (byte_step c _ _ ih _ rfl)
theorem ip_ev {s : ByteArray} (hs : s.size < 4294967281) : Ev (fun k => host_Ip.f k s) (ipB s) := by
  simp only [host_Ip.f]
  rw [split_f hs]
  have hp := parts_len s
  refine ev_bind (ev_now _) (ev_eq (ip_loop (parts s) (by omega) _ 0 (Nat.zero_add _)) ?_)
  rw [List.drop_zero]; rfl
theorem ref_ip_loop (l : List ByteArray) (hl : l.length ≤ 8796093022208) (hsz : ∀ p ∈ l, p.size ≤ 140737488351232) (d : Nat) : ∀ i : Nat, i + d = l.length → Ev (fun k => cracknelref11_Ip.l0 k l i) ((l.drop i).all byteP && decide (l.length = 4)) := by
  induction d with
  | zero =>
    intro i hi
    apply ev_succ
    simp only [cracknelref11_Ip.l0]
    refine ev_neg (by omega) (ev_eq (ev_now _) ?_)
    rw [List.drop_eq_nil_of_le (by omega), List.all_nil, Bool.true_and, Bool.eq_iff_iff, beq_iff_eq, decide_eq_true_iff]
    omega
  | succ d ih =>
    intro i hi
    apply ev_succ
    simp only [cracknelref11_Ip.l0]
    refine ev_pos (by omega) (ev_pos (by omega) ?_)
    rcases drop_casesL l (i := i) (by omega) with ⟨h1, _⟩ | ⟨c, h1, h2⟩
    · omega
    · have ih := ih (i + 1) (by omega)
      have hw : wrap64 ((i : Int) + 1) = ((i + 1 : Nat) : Int) := by rw [w64 (by omega) (by omega)]; omega
      rw [rdOf_drop h2, h2, List.all_cons, hw, Bool.and_assoc]
      exact ev_bind (ref_read_ev (hsz c (List.mem_of_mem_drop (by rw [h2]; exact List.mem_cons_self ..)))) (byte_step c _ _ ih _ rfl)
theorem ref_ip_ev {s : ByteArray} (hs : s.size < 4294967281) : Ev (fun k => cracknelref11_Ip.f k s) (ipB s) := by
  simp only [cracknelref11_Ip.f]
  have hp := parts_len s
  refine ev_bind (ref_parts_ev (by omega)) (ev_eq (ref_ip_loop (parts s) (by omega) (fun p hp => by have := parts_size hp; omega) _ 0 (Nat.zero_add _)) ?_)
  rw [List.drop_zero]; rfl

/-! ### Match -/
def sufP (a b : ByteArray) : Prop := 46 :: bytesOf b <:+ bytesOf a
instance (a b : ByteArray) : Decidable (sufP a b) := inferInstanceAs (Decidable (46 :: bytesOf b <:+ bytesOf a))
def matchB (a b : ByteArray) : Bool := decide (bytesOf a = bytesOf b) || (decide (sufP a b) && !ipB a)
theorem suf_size {a b : ByteArray} (h : sufP a b) : b.size + 1 ≤ a.size := by
  have := h.length_le
  rw [List.length_cons, bytesOf_length, bytesOf_length] at this
  exact this
theorem suf_drop {a b : ByteArray} : sufP a b ↔ b.size + 1 ≤ a.size ∧ (bytesOf a).drop (a.size - (b.size + 1)) = 46 :: bytesOf b := by
  constructor
  · intro h
    refine ⟨suf_size h, ?_⟩
    have := List.suffix_iff_eq_drop.mp h
    rw [List.length_cons, bytesOf_length, bytesOf_length] at this
    exact this.symm
  · intro ⟨_, h⟩
    exact ⟨_, by rw [← h]; exact List.take_append_drop _ _⟩
theorem hasSuffix_f (a b : ByteArray) (ha : a.size ≤ 4294967296) (hb : b.size ≤ 4294967296) : strings_HasSuffix.f a ((⟨#[46]⟩ : ByteArray) ++ b) = some (decide (sufP a b)) := by
  unfold strings_HasSuffix.f stringslite_HasSuffix.f
  have hz : ((⟨#[46]⟩ : ByteArray) ++ b).size = b.size + 1 := by rw [ByteArray.size_append, Nat.add_comm]; rfl
  rw [hz]
  by_cases h : b.size + 1 ≤ a.size
  · rw [if_pos (by omega), w64 (by omega) (by omega), if_pos (by omega), if_pos (by omega), Option.bind_some]
    congr 1
    rw [toList_beq, show (((a.size : Int) - ((b.size + 1 : Nat) : Int)).toNat) = a.size - (b.size + 1) by omega, bytesOf_extract, bytesOf_append, List.take_of_length_le (by rw [List.length_drop, bytesOf_length]; omega), Bool.eq_iff_iff, decide_eq_true_iff, decide_eq_true_iff, suf_drop]
    exact ⟨fun e => ⟨h, e⟩, fun e => e.2⟩
  · rw [if_neg (by omega), Option.bind_some]
    congr 1
    exact (decide_eq_false fun e => h (suf_size e)).symm
theorem match_ev {a b : ByteArray} (ha : a.size ≤ 4294967280) (hb : b.size ≤ 4294967280) : Ev (fun k => host_Match.f k a b) (matchB a b) := by
  simp only [host_Match.f]
  unfold matchB
  by_cases h : bytesOf a = bytesOf b
  · exact ev_pos (toList_eq_iff.mpr h) (ev_eq (ev_now _) (by rw [decide_eq_true h]; rfl))
  · refine ev_neg (fun e => h (toList_eq_iff.mp e)) (ev_pos (by omega) ?_)
    rw [hasSuffix_f a b (by omega) (by omega), decide_eq_false h, Bool.false_or]
    refine ev_bind (ev_now _) ?_
    by_cases hs : sufP a b
    · rw [decide_eq_true hs]
      exact ev_pos rfl (ev_bind (ip_ev (by omega)) (ev_eq (ev_now _) (by simp)))
    · rw [decide_eq_false hs]
      exact ev_neg (by simp) (ev_now _)
theorem ref_match_ev {a b : ByteArray} (ha : a.size ≤ 4294967280) (hb : b.size ≤ 4294967280) : Ev (fun k => cracknelref11_Match.f k a b) (matchB a b) := by
  simp only [cracknelref11_Match.f]
  unfold matchB
  by_cases h : bytesOf a = bytesOf b
  · exact ev_pos (toList_eq_iff.mpr h) (ev_eq (ev_now _) (by rw [decide_eq_true h]; rfl))
  · refine ev_neg (fun e => h (toList_eq_iff.mp e)) ?_
    rw [decide_eq_false h, Bool.false_or, w64 (by omega) (by omega)]
    have hla := bytesOf_length a
    have hlb := bytesOf_length b
    by_cases hn : (a.size : Int) - (b.size : Int) > 0
    · refine ev_pos hn (ev_pos (by omega) (ev_pos (by omega) ?_))
      have he : (bytesOf (a.extract ((a.size : Int) - (b.size : Int)).toNat a.size)) = (bytesOf a).drop (a.size - (b.size + 1) + 1) := by
        rw [bytesOf_extract, List.take_of_length_le (by rw [List.length_drop]; omega)]
        congr 1
        omega
      rcases drop_cases a (i := a.size - (b.size + 1)) (by omega) with ⟨h1, _⟩ | ⟨h1, h2⟩
      · omega
      · by_cases hb2 : bytesOf (a.extract ((a.size : Int) - (b.size : Int)).toNat a.size) = bytesOf b
        · refine ev_pos (toList_eq_iff.mpr hb2) ?_
          rw [w64 (by omega) (by omega)]
          refine ev_pos (by omega) (ev_pos (by omega) ?_)
          rw [show (a.size : Int) - (b.size : Int) - 1 = ((a.size - (b.size + 1) : Nat) : Int) by omega]
          rw [he] at hb2
          rw [hb2] at h2
          by_cases hd : bt a ((a.size - (b.size + 1) : Nat) : Int) = 46
          · refine ev_pos hd (ev_bind (ref_ip_ev (by omega)) (ev_eq (ev_now _) ?_))
            rw [decide_eq_true (suf_drop.mpr ⟨by omega, by rw [h2, hd]⟩)]
            rfl
          · refine ev_neg hd (ev_eq (ev_now _) ?_)
            rw [decide_eq_false fun e => hd ?_]
            · rfl
            · have := (suf_drop.mp e).2
              rw [h2] at this
              exact (List.cons.inj this).1
        · refine ev_neg (fun e => hb2 (toList_eq_iff.mp e)) (ev_eq (ev_now _) ?_)
          rw [decide_eq_false fun e => hb2 ?_]
          · rfl
          · have := (suf_drop.mp e).2
            rw [h2] at this
            rw [he]
            exact (List.cons.inj this).2
    · refine ev_neg hn (ev_eq (ev_now _) ?_)
      rw [decide_eq_false fun e => hn ?_]
      · rfl
      · have := suf_size e
        omega
theorem match_self (a : ByteArray) : matchB a a = true := by unfold matchB; rw [decide_eq_true rfl]; rfl
theorem match_cases {a b : ByteArray} (h : matchB a b = true) : a = b ∨ (sufP a b ∧ ipB a = false) := by
  unfold matchB at h
  rw [Bool.or_eq_true, decide_eq_true_iff, Bool.and_eq_true, decide_eq_true_iff, Bool.not_eq_true'] at h
  rcases h with h | h
  · exact .inl (bytesOf_inj h)
  · exact .inr h
theorem match_of {a b : ByteArray} (h : sufP a b) (h2 : ipB a = false) : matchB a b = true := by unfold matchB; rw [decide_eq_true h, h2]; simp

theorem alive11_ev : Ev (fun k => cracknellaw11_alive.f k) true := ev_mono cracknellaw11_alive.mono 40 (by decide +kernel)
end Go.Proofs.YtcblmcehbjlmfaaDoor.Y
