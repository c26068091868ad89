/- The table's functions, and the document's, at rows that rise: what they tell. -/
import Derived.Test.YtmpccjkdfdgedaaYtabL
import Derived.Test.YtmpccjkdfdgedaaYtab
import Derived.Test.YtmpccjkdfdgedaaGtableB
import Derived.Test.YtmpccjkdfdgedaaGgrowB
import Derived.Test.YtmpccjkdfdgedaaPrint10
namespace Go.Proofs.Ytmpccjkdfdgedaa.Y
open Go.RowKit Go.Proofs.Ytmpccjkdfdgedaa.Print Go.Proofs.YtmpccjkdfdgedaaW.PrintWords Go.Proofs.YtmpccjkdfdgedaaW.PrintLast Go.Proofs.YtmpccjkdfdgedaaW.PrintMore
set_option linter.unusedVariables false
set_option linter.unusedSimpArgs false

abbrev SB := S72
def kB (x : SB) : Int := x.f0
def ordB : Ordr Int := ⟨fun a b => b < a, fun a b => inferInstanceAs (Decidable (b < a)), Int.lt_irrefl, fun h h' => Int.lt_trans h' h, fun a b => by omega⟩
theorem cmpB_lt {a b : Int} : cmpB a b < 0 ↔ b < a := cmpT_lt
theorem cmpB_eq {a b : Int} : cmpB a b = 0 ↔ a = b := cmpT_eq.trans eq_comm
/-! ### the search -/
theorem place_eqB {l : List SB} (t : Int) (h : Rises ordB kB l) : bsIB l t = (lessR ordB kB t l).length ∧ bsHitB l t = !(atR ordB kB t l).isEmpty := by
  obtain ⟨hs, ha⟩ := split_rises t h
  have hl := congrArg List.length hs
  rw [List.length_append] at hl
  have e1 : bsIB l t = (lessR ordB kB t l).length := by
    unfold bsIB
    refine bsN_eq _ _ _ 0 _ (Nat.zero_le _) (by omega) (by omega) (fun x hx => ?_) (fun x hx hx2 => ?_)
    · have hm := getD_app (lessR ordB kB t l) (atR ordB kB t l ++ moreR ordB kB t l) z72 x hx
      rw [← hs] at hm
      exact decide_eq_true (cmpB_lt.2 (mem_lessR.1 hm).2)
    · have hm := getD_app2 (lessR ordB kB t l) (atR ordB kB t l ++ moreR ordB kB t l) z72 x hx (by rw [← hs]; exact hx2)
      rw [← hs] at hm
      refine decide_eq_false fun h1 => ?_
      have h2 : t < kB (l.getD x z72) := cmpB_lt.1 h1
      rcases List.mem_append.1 hm with h3 | h3
      · have := (mem_atR.1 h3).2; omega
      · have : kB (l.getD x z72) < t := (mem_moreR.1 h3).2; omega
  refine ⟨e1, ?_⟩
  unfold bsHitB
  rw [e1]
  have key : ∀ i, keyAtB l i = kB (l.getD i z72) := fun i => rfl
  rcases ha with h0 | ⟨x, h0, hx⟩
  · rw [h0]
    show _ = false
    by_cases hlt : (lessR ordB kB t l).length < l.length
    · rw [decide_eq_true hlt, Bool.true_and]
      have hm := getD_app2 (lessR ordB kB t l) (atR ordB kB t l ++ moreR ordB kB t l) z72 _ (Nat.le_refl _) (by rw [← hs]; exact hlt)
      rw [← hs, h0, List.nil_append] at hm
      refine decide_eq_false fun h1 => ?_
      rw [key] at h1
      have h2 := cmpB_eq.1 h1
      have : kB (l.getD (lessR ordB kB t l).length z72) < t := (mem_moreR.1 hm).2
      omega
    · rw [decide_eq_false hlt, Bool.false_and]
  · rw [h0]
    show _ = true
    have hlt : (lessR ordB kB t l).length < l.length := by rw [hl, h0]; simp
    rw [decide_eq_true hlt, Bool.true_and]
    have e2 : l.getD (lessR ordB kB t l).length z72 = x := by
      conv => lhs; arg 1; rw [hs, h0]
      rw [List.getD_eq_getElem?_getD, List.getElem?_append_right (Nat.le_refl _), Nat.sub_self]
      rfl
    exact decide_eq_true (cmpB_eq.2 (by rw [key, e2]; exact hx))

/-! ### putting rows one behind the other -/
theorem rdL_atB {xs : List (List SB)} {j : Nat} (h : j < xs.length) : rd_L10 xs (j : Int) = xs[j] := by
  unfold rd_L10
  rw [Int.toNat_natCast, List.getD_eq_getElem?_getD, List.getElem?_eq_getElem h]
  rfl
theorem concat1B (xs : List (List SB)) (hx : xs.length ≤ 1000) : ∀ n j (acc : List SB), xs.length - j = n → j ≤ xs.length → acc.length + (xs.drop j).flatten.length ≤ 1000000 →
    Ev (fun k => cracknellaw14_Back_int_32.l1 k acc xs (xs.length : Int) (j : Int)) (acc ++ (xs.drop j).flatten) := by
  intro n
  induction n with
  | zero =>
    intro j acc hn hj hb
    obtain rfl : j = xs.length := by omega
    rw [List.drop_length, List.flatten_nil, List.append_nil]
    refine ev_succ ?_
    simp only [cracknellaw14_Back_int_32.l1]
    exact ev_neg (by omega) (ev_now _)
  | succ n ih =>
    intro j acc hn hj hb
    have hlt : j < xs.length := by omega
    rw [List.drop_eq_getElem_cons hlt, List.flatten_cons, ← List.append_assoc]
    rw [List.drop_eq_getElem_cons hlt, List.flatten_cons, List.length_append] at hb
    refine ev_succ ?_
    simp only [cracknellaw14_Back_int_32.l1]
    rw [rdL_atB hlt]
    refine ev_pos (by omega) (ev_pos (by omega) (ev_pos (by omega) (ev_pos (by omega) ?_)))
    have := ih (j + 1) (acc ++ xs[j]) (by omega) (by omega) (by rw [List.length_append]; omega)
    rw [show wrap64 ((j : Int) + 1) = ((j + 1 : Nat) : Int) by unfold wrap64; omega]
    exact this
theorem concat0B (xs : List (List SB)) (hx : xs.length ≤ 1000) : ∀ n j (s : Nat), xs.length - j = n → j ≤ xs.length → s + (xs.drop j).flatten.length ≤ 1000000 → xs.flatten.length ≤ 1000000 →
    Ev (fun k => cracknellaw14_Back_int_32.l0 k xs (s : Int) xs (xs.length : Int) (j : Int)) xs.flatten := by
  intro n
  induction n with
  | zero =>
    intro j s hn hj hb hb2
    obtain rfl : j = xs.length := by omega
    refine ev_succ ?_
    simp only [cracknellaw14_Back_int_32.l0]
    refine ev_neg (by omega) ?_
    have hg : slices_Grow_Back.f ([] : List SB) (s : Int) = some [] := by unfold slices_Grow_Back.f; rw [if_pos ⟨rfl, by omega, by omega⟩]
    simp only [hg, Option.bind_some]
    have := concat1B xs hx _ 0 [] rfl (Nat.zero_le _) (by simpa using hb2)
    simpa using this
  | succ n ih =>
    intro j s hn hj hb hb2
    have hlt : j < xs.length := by omega
    rw [List.drop_eq_getElem_cons hlt, List.flatten_cons, List.length_append] at hb
    refine ev_succ ?_
    simp only [cracknellaw14_Back_int_32.l0]
    rw [rdL_atB hlt, show wrap64 ((s : Int) + (xs[j].length : Int)) = ((s + xs[j].length : Nat) : Int) by unfold wrap64; omega, show wrap64 ((j : Int) + 1) = ((j + 1 : Nat) : Int) by unfold wrap64; omega]
    refine ev_pos (by omega) (ev_pos (by omega) (ev_pos (by omega) (ev_neg (by omega) ?_)))
    exact ih (j + 1) (s + xs[j].length) (by omega) (by omega) (by omega) hb2
theorem concat_evB (xs : List (List SB)) (hx : xs.length ≤ 1000) (hb : xs.flatten.length ≤ 1000000) :
    Ev (fun k => cracknellaw14_Back_int_32.f k xs) xs.flatten :=
  concat0B xs hx _ 0 0 rfl (Nat.zero_le _) (by simpa using hb) hb

/-! ### Put, Drop, Get -/
theorem place_fB {l : List SB} (t : Int) (h : Rises ordB kB l) (hb : l.length ≤ 1000) : table_place_Back.f l t = some (((lessR ordB kB t l).length : Int), !(atR ordB kB t l).isEmpty) := by
  unfold table_place_Back.f
  rw [if_pos (by omega), (place_eqB t h).1, (place_eqB t h).2]
theorem less_lenB (l : List SB) (t : Int) : (lessR ordB kB t l).length ≤ l.length := List.length_filter_le _ _
theorem take_lessB {l : List SB} (t : Int) (h : Rises ordB kB l) : l.take (lessR ordB kB t l).length = lessR ordB kB t l ∧ l.drop (lessR ordB kB t l).length = atR ordB kB t l ++ moreR ordB kB t l := by
  obtain ⟨hs, _⟩ := split_rises t h
  constructor
  · conv => lhs; arg 2; rw [hs]
    exact List.take_left
  · conv => lhs; arg 2; rw [hs]
    exact List.drop_left
theorem put_evB {l : List SB} (a b : Int) (h : Rises ordB kB l) (hb : l.length ≤ 1000) : Ev (fun k => cracknellaw14_Back_int_Put.f k l a b) (putR ordB kB a ⟨a, b⟩ l) := by
  have hpl := put_len a (⟨a, b⟩ : SB) h
  have hle := less_lenB l a
  obtain ⟨ht, hd⟩ := take_lessB a h
  unfold cracknellaw14_Back_int_Put.f
  simp only [place_fB a h hb, Option.bind_some, Int.toNat_natCast, hd]
  refine ev_pos (by omega) (ev_pos (by omega) ?_)
  rw [ht]
  rcases (split_rises a h).2 with h0 | ⟨x, h0, hx⟩
  · rw [h0]
    refine ev_neg (by decide) ?_
    refine ev_bind (concat_evB _ (by simp) ?_) ?_
    · simp only [List.nil_append, List.flatten_cons, List.flatten_nil, List.append_nil, List.length_append, List.length_cons, List.length_nil]
      unfold putR at hpl
      rw [List.length_append, List.length_cons] at hpl
      omega
    · exact ev_eq (ev_now _) (by simp [putR])
  · rw [h0]
    refine ev_pos rfl (ev_pos (by simp; omega) ?_)
    refine ev_bind (concat_evB _ (by simp) ?_) ?_
    · simp only [List.cons_append, List.nil_append, List.drop_succ_cons, List.drop_zero, List.flatten_cons, List.flatten_nil, List.append_nil, List.length_append, List.length_cons, List.length_nil]
      unfold putR at hpl
      rw [List.length_append, List.length_cons] at hpl
      omega
    · exact ev_eq (ev_now _) (by simp [putR])
end Go.Proofs.Ytmpccjkdfdgedaa.Y
