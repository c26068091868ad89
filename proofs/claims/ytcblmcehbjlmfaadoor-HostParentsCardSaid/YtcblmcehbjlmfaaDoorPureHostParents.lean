/- HostParents: what any text's parents are is the reference's; it matches just them. -/
import Derived.Test.YtcblmcehbjlmfaaDoorPrint10
import Derived.Test.YtcblmcehbjlmfaaDoorYhostB
namespace Go.Proofs.YtcblmcehbjlmfaaDoor.Pure
open Go.RowKit Go.Proofs.YtcblmcehbjlmfaaDoor.Print Go.Proofs.YtcblmcehbjlmfaaDoorW.PrintWords Go.Proofs.YtcblmcehbjlmfaaDoorW.PrintLast Go.Proofs.YtcblmcehbjlmfaaDoorW.PrintMore Go.Proofs.YtcblmcehbjlmfaaDoor.Y

def tailsL : List Int → List (List Int)
  | [] => []
  | c :: l => if c = 46 then l :: tailsL l else tailsL l
theorem mem_tailsL {d : List Int} : ∀ l : List Int, d ∈ tailsL l ↔ 46 :: d <:+ l := by
  intro l
  induction l with
  | nil => simp [tailsL]
  | cons c l ih =>
    unfold tailsL
    rw [List.suffix_cons_iff]
    by_cases h : c = 46
    · rw [if_pos h, List.mem_cons, ih, h]
      constructor
      · rintro (rfl | e)
        · exact .inl rfl
        · exact .inr e
      · rintro (e | e)
        · exact .inl (List.cons.inj e).2
        · exact .inr e
    · rw [if_neg h, ih]
      constructor
      · exact .inr
      · rintro (e | e)
        · exact absurd (List.cons.inj e).1.symm h
        · exact e
theorem tailsL_len (l : List Int) : (tailsL l).length ≤ l.length := by
  induction l with
  | nil => simp [tailsL]
  | cons c l ih => unfold tailsL; split <;> simp only [List.length_cons] <;> omega
def parentsB (s : ByteArray) : List ByteArray := s :: (if ipB s = true then [] else (tailsL (bytesOf s)).map strOfNums)
theorem tail_str (s : ByteArray) (i : Nat) : s.extract i s.size = strOfNums ((bytesOf s).drop i) := by
  apply bytesOf_inj
  rw [bytesOf_extract, bytesOf_str fun c hc => bytesOf_range (List.mem_of_mem_drop hc), List.take_of_length_le (by rw [List.length_drop, bytesOf_length]; omega)]
theorem parents_loop (s : ByteArray) (hs : s.size ≤ 4294967280) (d : Nat) : ∀ (i : Nat) (acc : List ByteArray), i + d = s.size → acc.length ≤ i + 1 → Ev (fun k => host_Parents.l0 k s acc (s.size : Int) i) (acc ++ (if ipB s = true then [] else (tailsL ((bytesOf s).drop i)).map strOfNums)) := by
  induction d with
  | zero =>
    intro i acc hi hacc
    apply ev_succ
    simp only [host_Parents.l0]
    refine ev_neg (by omega) (ev_eq (ev_now _) ?_)
    rw [List.drop_eq_nil_of_le (by rw [bytesOf_length]; omega)]
    simp [tailsL]
  | succ d ih =>
    intro i acc hi hacc
    apply ev_succ
    simp only [host_Parents.l0]
    have hw : wrap64 ((i : Int) + 1) = ((i + 1 : Nat) : Int) := by rw [w64 (by omega) (by omega)]; omega
    rw [hw]
    refine ev_pos (by omega) (ev_pos (by omega) (ev_pos (by omega) ?_))
    rcases drop_cases s (i := i) (by omega) with ⟨h1, _⟩ | ⟨h1, h2⟩
    · omega
    · rw [h2, tailsL]
      by_cases hc : bt s i = 46
      · rw [if_pos hc]
        refine ev_pos hc (ev_bind (ip_ev (by omega)) ?_)
        by_cases hp : ipB s = true
        · refine ev_pos hp (ev_eq (ih (i + 1) acc (by omega) (by omega)) ?_)
          rw [if_pos hp, if_pos hp]
        · refine ev_neg hp (ev_pos (by omega) (ev_pos (by omega) (ev_pos (by omega) (ev_eq (ih (i + 1) _ (by omega) (by simp; omega)) ?_))))
          rw [if_neg hp, if_neg hp, List.append_assoc, List.map_cons, Int.toNat_natCast, tail_str]
          rfl
      · rw [if_neg hc]
        exact ev_neg hc (ih (i + 1) acc (by omega) (by omega))
theorem parents_ev {s : ByteArray} (hs : s.size ≤ 4294967280) : Ev (fun k => host_Parents.f k s) (parentsB s) := by
  simp only [host_Parents.f]
  have := parents_loop s hs s.size 0 [s] (by omega) (by simp)
  rw [List.drop_zero] at this
  exact this
theorem ref_parents_loop (s : ByteArray) (hs : s.size ≤ 4294967280) (d : Nat) : ∀ (i : Nat) (acc : List ByteArray), i + d = s.size → acc.length ≤ i + 1 → Ev (fun k => cracknelref11_Parents.l0 k s acc i) (acc ++ (tailsL ((bytesOf s).drop i)).map strOfNums) := by
  induction d with
  | zero =>
    intro i acc hi hacc
    apply ev_succ
    simp only [cracknelref11_Parents.l0]
    refine ev_neg (by omega) (ev_eq (ev_now _) ?_)
    rw [List.drop_eq_nil_of_le (by rw [bytesOf_length]; omega)]
    simp [tailsL]
  | succ d ih =>
    intro i acc hi hacc
    apply ev_succ
    simp only [cracknelref11_Parents.l0]
    have hw : wrap64 ((i : Int) + 1) = ((i + 1 : Nat) : Int) := by rw [w64 (by omega) (by omega)]; omega
    rw [hw]
    refine ev_pos (by omega) (ev_pos (by omega) ?_)
    rcases drop_cases s (i := i) (by omega) with ⟨h1, _⟩ | ⟨h1, h2⟩
    · omega
    · rw [h2, tailsL]
      by_cases hc : bt s i = 46
      · rw [if_pos hc]
        refine ev_pos hc (ev_pos (by omega) (ev_pos (by omega) (ev_pos (by omega) (ev_eq (ih (i + 1) _ (by omega) (by simp; omega)) ?_))))
        rw [List.append_assoc, List.map_cons, Int.toNat_natCast, tail_str]
        rfl
      · rw [if_neg hc]
        exact ev_neg hc (ih (i + 1) acc (by omega) (by omega))
theorem ref_parents_ev {s : ByteArray} (hs : s.size ≤ 4294967280) : Ev (fun k => cracknelref11_Parents.f k s) (parentsB s) := by
  simp only [cracknelref11_Parents.f]
  refine ev_bind (ev_now _) (ev_bind (ref_ip_ev (by omega)) ?_)
  unfold parentsB
  by_cases hp : ipB s = true
  · exact ev_pos hp (ev_eq (ev_now _) (by rw [if_pos hp]))
  · refine ev_neg hp (ev_eq (ref_parents_loop s hs s.size 0 [s] (by omega) (by simp)) ?_)
    rw [if_neg hp, List.drop_zero]
    rfl
theorem same_loop (l : List ByteArray) (hl : l.length ≤ 4294967296) (d : Nat) : ∀ i : Nat, i + d = l.length → Ev (fun k => cracknelref06_Same.l0 k l l i) true := by
  induction d with
  | zero =>
    intro i hi
    apply ev_succ
    simp only [cracknelref06_Same.l0]
    exact ev_neg (by omega) (ev_now _)
  | succ d ih =>
    intro i hi
    apply ev_succ
    simp only [cracknelref06_Same.l0]
    have hw : wrap64 ((i : Int) + 1) = ((i + 1 : Nat) : Int) := by rw [w64 (by omega) (by omega)]; omega
    rw [hw]
    exact ev_pos (by omega) (ev_pos (by omega) (ev_pos (by omega) (ev_pos (by trivial) (ih (i + 1) (by omega)))))
theorem same_ev {l : List ByteArray} (hl : l.length ≤ 4294967296) : Ev (fun k => cracknelref06_Same.f k l l) true := by
  simp only [cracknelref06_Same.f]
  exact ev_pos (by trivial) (same_loop l hl l.length 0 (by omega))
theorem in_loop (s t : ByteArray) (l : List ByteArray) (hl : l.length ≤ 4294967296) (r : Bool → Bool) (d : Nat) : ∀ (i : Nat) (b : Bool), i + d = l.length →
    (∀ q, Ev (fun k => cracknellaw11_HostParents.l0 k s t l q l (l.length : Int) (l.length : Int)) (r q)) →
    Ev (fun k => cracknellaw11_HostParents.l0 k s t l b l (l.length : Int) i) (r (b || (l.drop i).any fun x => decide (bytesOf x = bytesOf t))) := by
  induction d with
  | zero =>
    intro i b hi K
    have e : i = l.length := by omega
    subst e
    rw [List.drop_length, List.any_nil, Bool.or_false]
    exact K b
  | succ d ih =>
    intro i b hi K
    apply ev_succ
    simp only [cracknellaw11_HostParents.l0]
    have hw : wrap64 ((i : Int) + 1) = ((i + 1 : Nat) : Int) := by rw [w64 (by omega) (by omega)]; omega
    rw [hw]
    refine ev_pos (by omega) (ev_pos (by omega) (ev_pos (by omega) ?_))
    rcases drop_casesL l (i := i) (by omega) with ⟨h1, _⟩ | ⟨c, h1, h2⟩
    · omega
    · rw [rdOf_drop h2, h2, List.any_cons]
      cases b with
      | true =>
        refine ev_pos rfl (ev_eq (ih (i + 1) true (by omega) K) ?_)
        rw [Bool.true_or, Bool.true_or]
      | false =>
        refine ev_neg (by simp) (ev_eq (ih (i + 1) _ (by omega) K) ?_)
        rw [toList_beq, Bool.false_or]
theorem HostParents : cracknellaw11_HostParents.Pure := by
  intro s t hs ht
  apply Ev.rounds
  simp only [cracknellaw11_HostParents.f]
  have no : Ev (fun k => cracknellaw11_HostParents.j0 k s t true) true := by
    apply ev_succ
    simp only [cracknellaw11_HostParents.j0]
    exact ev_pos (by trivial) (ev_bind alive11_ev (ev_now _))
  by_cases h : (s.size : Int) > 200
  · exact ev_pos h no
  · refine ev_neg h ?_
    by_cases h2 : (t.size : Int) > 200
    · rw [decide_eq_true h2]; exact no
    · rw [decide_eq_false h2]
      apply ev_succ
      simp only [cracknellaw11_HostParents.j0]
      have hl : (parentsB s).length ≤ 4294967296 := by
        unfold parentsB
        have := tailsL_len (bytesOf s)
        rw [bytesOf_length] at this
        split <;> simp <;> omega
      have hm : matchB s t = (parentsB s).any fun x => decide (bytesOf x = bytesOf t) := by
        unfold matchB parentsB
        rw [List.any_cons]
        congr 1
        by_cases hp : ipB s = true
        · rw [if_pos hp, hp]; simp
        · rw [if_neg hp]
          rw [Bool.not_eq_true] at hp
          rw [hp, Bool.eq_iff_iff, Bool.not_false, Bool.and_true, decide_eq_true_iff, List.any_eq_true]
          unfold sufP
          rw [← mem_tailsL]
          have hstr : ∀ q ∈ tailsL (bytesOf s), bytesOf (strOfNums q) = q := by
            intro q hq
            refine bytesOf_str fun c hc => ?_
            have hsuf := (mem_tailsL _).mp hq
            exact bytesOf_range (hsuf.subset (List.mem_cons_of_mem _ hc))
          constructor
          · intro e
            exact ⟨_, List.mem_map_of_mem e, decide_eq_true (hstr _ e)⟩
          · rintro ⟨x, hx, e⟩
            obtain ⟨q, hq, rfl⟩ := List.mem_map.mp hx
            rw [decide_eq_true_iff, hstr q hq] at e
            rw [← e]; exact hq
      have fin : ∀ q : Bool, Ev (fun k => cracknellaw11_HostParents.l0 k s t (parentsB s) q (parentsB s) ((parentsB s).length : Int) ((parentsB s).length : Int)) (matchB s t == q) := by
        intro q
        apply ev_succ
        simp only [cracknellaw11_HostParents.l0]
        refine ev_neg (by omega) (ev_bind alive11_ev (ev_pos rfl (ev_bind (ref_parents_ev (by omega)) (ev_bind (same_ev hl) (ev_pos rfl (ev_bind (match_ev (by omega) (by omega)) ?_))))))
        by_cases e : (matchB s t == q) = true
        · refine ev_pos e (ev_pos (by unfold parentsB; simp) (ev_pos (by unfold parentsB; simp) (ev_eq (ev_now _) ?_)))
          rw [e]
          show ((rdOf ByteArray.empty (parentsB s) ((0 : Nat) : Int)).toList == s.toList) = true
          rw [rdOf_drop (c := s) (r := (parentsB s).drop 1) (by unfold parentsB; rfl), beq_iff_eq]
        · refine ev_neg e (ev_eq (ev_now _) ?_)
          rw [Bool.not_eq_true] at e
          exact e.symm
      refine ev_neg (by simp) (ev_bind (parents_ev (by omega)) (ev_eq (in_loop s t (parentsB s) hl _ _ 0 false (Nat.zero_add _) fin) ?_))
      rw [List.drop_zero, Bool.false_or, hm]
      simp

end Go.Proofs.YtcblmcehbjlmfaaDoor.Pure
