/- The table's functions, and the document's, at rows that rise: what they tell. -/
import Derived.Test.YtmpccjkdfdgedaaYtabL
import Derived.Test.YtmpccjkdfdgedaaPrint1
import Derived.Test.YtmpccjkdfdgedaaPrint2
import Derived.Test.YtmpccjkdfdgedaaPrint4
import Derived.Test.YtmpccjkdfdgedaaPrint4
import Derived.Test.YtmpccjkdfdgedaaGsame
namespace Go.Proofs.Ytmpccjkdfdgedaa.Y
open Go.RowKit Go.Proofs.Ytmpccjkdfdgedaa.Print Go.Proofs.YtmpccjkdfdgedaaW.PrintWords Go.Proofs.YtmpccjkdfdgedaaW.PrintLast Go.Proofs.YtmpccjkdfdgedaaW.PrintMore
set_option linter.unusedVariables false
set_option linter.unusedSimpArgs false

abbrev SR := S65
abbrev SD := S53
abbrev SO := S43
def ordI : Ordr Int := ⟨fun a b => a < b, fun a b => inferInstanceAs (Decidable (a < b)), Int.lt_irrefl, fun h h' => Int.lt_trans h h', fun a b => by omega⟩
def kR (x : SR) : Int := x.f0
def kD (x : SD) : Int := x.f0
def cv (x : SR) : SD := ⟨x.f0, x.f1⟩

/-! ### the search -/
theorem bsN_eq (p : Nat → Bool) (m : Nat) : ∀ n i j, i ≤ m → m ≤ j → j - i ≤ n → (∀ x, x < m → p x = true) → (∀ x, m ≤ x → x < j → p x = false) → bsN p n i j = m
  | 0, i, j, h1, h2, h3, _, _ => by
    show i = m
    omega
  | n + 1, i, j, h1, h2, h3, ht, hf => by
    unfold bsN
    split
    · rename_i hlt
      by_cases hm : (i + j) / 2 < m
      · rw [if_pos (ht _ hm)]
        exact bsN_eq p m n _ j (by omega) h2 (by omega) ht hf
      · rw [if_neg (by rw [hf _ (by omega) (by omega)]; decide)]
        exact bsN_eq p m n i _ h1 (by omega) (by omega) ht (fun x h4 h5 => hf x h4 (by omega))
    · omega
theorem getD_app {α : Type} (a b : List α) (z : α) (i : Nat) (h : i < a.length) : (a ++ b).getD i z ∈ a := by
  rw [List.getD_eq_getElem?_getD, List.getElem?_append_left h, List.getElem?_eq_getElem h]
  exact List.getElem_mem h
theorem getD_app2 {α : Type} (a b : List α) (z : α) (i : Nat) (h : a.length ≤ i) (h' : i < (a ++ b).length) : (a ++ b).getD i z ∈ b := by
  rw [List.length_append] at h'
  rw [List.getD_eq_getElem?_getD, List.getElem?_append_right h, List.getElem?_eq_getElem (show i - a.length < b.length by omega)]
  exact List.getElem_mem _
theorem cmpT_lt {a b : Int} : cmpT a b < 0 ↔ a < b := by unfold cmpT; split <;> (try split) <;> omega
theorem cmpT_eq {a b : Int} : cmpT a b = 0 ↔ a = b := by unfold cmpT; split <;> (try split) <;> omega
theorem place_eq {l : List SR} (t : Int) (h : Rises ordI kR l) : bsI l t = (lessR ordI kR t l).length ∧ bsHit l t = !(atR ordI kR t l).isEmpty := by
  obtain ⟨hs, ha⟩ := split_rises t h
  have hl := congrArg List.length hs
  rw [List.length_append] at hl
  have e1 : bsI l t = (lessR ordI kR t l).length := by
    unfold bsI
    refine bsN_eq _ _ _ 0 _ (Nat.zero_le _) (by omega) (by omega) (fun x hx => ?_) (fun x hx hx2 => ?_)
    · have hm := getD_app (lessR ordI kR t l) (atR ordI kR t l ++ moreR ordI kR t l) z65 x hx
      rw [← hs] at hm
      exact decide_eq_true (cmpT_lt.2 (mem_lessR.1 hm).2)
    · have hm := getD_app2 (lessR ordI kR t l) (atR ordI kR t l ++ moreR ordI kR t l) z65 x hx (by rw [← hs]; exact hx2)
      rw [← hs] at hm
      refine decide_eq_false fun h1 => ?_
      have h2 : kR (l.getD x z65) < t := cmpT_lt.1 h1
      rcases List.mem_append.1 hm with h3 | h3
      · have := (mem_atR.1 h3).2; omega
      · have : t < kR (l.getD x z65) := (mem_moreR.1 h3).2; omega
  refine ⟨e1, ?_⟩
  unfold bsHit
  rw [e1]
  have key : ∀ i, keyAt l i = kR (l.getD i z65) := fun i => rfl
  rcases ha with h0 | ⟨x, h0, hx⟩
  · rw [h0]
    show _ = false
    by_cases hlt : (lessR ordI kR t l).length < l.length
    · rw [decide_eq_true hlt, Bool.true_and]
      have hm := getD_app2 (lessR ordI kR t l) (atR ordI kR t l ++ moreR ordI kR t l) z65 _ (Nat.le_refl _) (by rw [← hs]; exact hlt)
      rw [← hs, h0, List.nil_append] at hm
      refine decide_eq_false fun h1 => ?_
      rw [key] at h1
      have h2 := cmpT_eq.1 h1
      have : t < kR (l.getD (lessR ordI kR t l).length z65) := (mem_moreR.1 hm).2
      omega
    · rw [decide_eq_false hlt, Bool.false_and]
  · rw [h0]
    show _ = true
    have hlt : (lessR ordI kR t l).length < l.length := by rw [hl, h0]; simp
    rw [decide_eq_true hlt, Bool.true_and]
    have e2 : l.getD (lessR ordI kR t l).length z65 = x := by
      conv => lhs; arg 1; rw [hs, h0]
      rw [List.getD_eq_getElem?_getD, List.getElem?_append_right (Nat.le_refl _), Nat.sub_self]
      rfl
    exact decide_eq_true (cmpT_eq.2 (by rw [key, e2]; exact hx))

/-! ### putting rows one behind the other -/
theorem rdL_at {xs : List (List SR)} {j : Nat} (h : j < xs.length) : rd_L3 xs (j : Int) = xs[j] := by
  unfold rd_L3
  rw [Int.toNat_natCast, List.getD_eq_getElem?_getD, List.getElem?_eq_getElem h]
  rfl
theorem concat1 (xs : List (List SR)) (hx : xs.length ≤ 1000) : ∀ n j (acc : List SR), xs.length - j = n → j ≤ xs.length → acc.length + (xs.drop j).flatten.length ≤ 1000000 →
    Ev (fun k => cracknellaw14_Int_int_30.l1 k acc xs (xs.length : Int) (j : Int)) (acc ++ (xs.drop j).flatten) := by
  intro n
  induction n with
  | zero =>
    intro j acc hn hj hb
    obtain rfl : j = xs.length := by omega
    rw [List.drop_length, List.flatten_nil, List.append_nil]
    refine ev_succ ?_
    simp only [cracknellaw14_Int_int_30.l1]
    exact ev_neg (by omega) (ev_now _)
  | succ n ih =>
    intro j acc hn hj hb
    have hlt : j < xs.length := by omega
    rw [List.drop_eq_getElem_cons hlt, List.flatten_cons, ← List.append_assoc]
    rw [List.drop_eq_getElem_cons hlt, List.flatten_cons, List.length_append] at hb
    refine ev_succ ?_
    simp only [cracknellaw14_Int_int_30.l1]
    rw [rdL_at hlt]
    refine ev_pos (by omega) (ev_pos (by omega) (ev_pos (by omega) (ev_pos (by omega) ?_)))
    have := ih (j + 1) (acc ++ xs[j]) (by omega) (by omega) (by rw [List.length_append]; omega)
    rw [show wrap64 ((j : Int) + 1) = ((j + 1 : Nat) : Int) by unfold wrap64; omega]
    exact this
theorem concat0 (xs : List (List SR)) (hx : xs.length ≤ 1000) : ∀ n j (s : Nat), xs.length - j = n → j ≤ xs.length → s + (xs.drop j).flatten.length ≤ 1000000 → xs.flatten.length ≤ 1000000 →
    Ev (fun k => cracknellaw14_Int_int_30.l0 k xs (s : Int) xs (xs.length : Int) (j : Int)) xs.flatten := by
  intro n
  induction n with
  | zero =>
    intro j s hn hj hb hb2
    obtain rfl : j = xs.length := by omega
    refine ev_succ ?_
    simp only [cracknellaw14_Int_int_30.l0]
    refine ev_neg (by omega) ?_
    have hg : slices_Grow_Int.f ([] : List SR) (s : Int) = some [] := by unfold slices_Grow_Int.f; rw [if_pos ⟨rfl, by omega, by omega⟩]
    simp only [hg, Option.bind_some]
    have := concat1 xs hx _ 0 [] rfl (Nat.zero_le _) (by simpa using hb2)
    simpa using this
  | succ n ih =>
    intro j s hn hj hb hb2
    have hlt : j < xs.length := by omega
    rw [List.drop_eq_getElem_cons hlt, List.flatten_cons, List.length_append] at hb
    refine ev_succ ?_
    simp only [cracknellaw14_Int_int_30.l0]
    rw [rdL_at hlt, show wrap64 ((s : Int) + (xs[j].length : Int)) = ((s + xs[j].length : Nat) : Int) by unfold wrap64; omega, show wrap64 ((j : Int) + 1) = ((j + 1 : Nat) : Int) by unfold wrap64; omega]
    refine ev_pos (by omega) (ev_pos (by omega) (ev_pos (by omega) (ev_neg (by omega) ?_)))
    exact ih (j + 1) (s + xs[j].length) (by omega) (by omega) (by omega) hb2
theorem concat_ev (xs : List (List SR)) (hx : xs.length ≤ 1000) (hb : xs.flatten.length ≤ 1000000) :
    Ev (fun k => cracknellaw14_Int_int_30.f k xs) xs.flatten :=
  concat0 xs hx _ 0 0 rfl (Nat.zero_le _) (by simpa using hb) hb

/-! ### Put, Drop, Get -/
theorem place_f {l : List SR} (t : Int) (h : Rises ordI kR l) (hb : l.length ≤ 1000) : table_place_Int.f l t = some (((lessR ordI kR t l).length : Int), !(atR ordI kR t l).isEmpty) := by
  unfold table_place_Int.f
  rw [if_pos (by omega), (place_eq t h).1, (place_eq t h).2]
theorem less_len (l : List SR) (t : Int) : (lessR ordI kR t l).length ≤ l.length := List.length_filter_le _ _
theorem take_less {l : List SR} (t : Int) (h : Rises ordI kR l) : l.take (lessR ordI kR t l).length = lessR ordI kR t l ∧ l.drop (lessR ordI kR t l).length = atR ordI kR t l ++ moreR ordI kR t l := by
  obtain ⟨hs, _⟩ := split_rises t h
  constructor
  · conv => lhs; arg 2; rw [hs]
    exact List.take_left
  · conv => lhs; arg 2; rw [hs]
    exact List.drop_left
theorem put_ev {l : List SR} (a b : Int) (h : Rises ordI kR l) (hb : l.length ≤ 1000) : Ev (fun k => cracknellaw14_Int_int_Put.f k l a b) (putR ordI kR a ⟨a, b⟩ l) := by
  have hpl := put_len a (⟨a, b⟩ : SR) h
  have hle := less_len l a
  obtain ⟨ht, hd⟩ := take_less a h
  unfold cracknellaw14_Int_int_Put.f
  simp only [place_f a h hb, Option.bind_some, Int.toNat_natCast, hd]
  refine ev_pos (by omega) (ev_pos (by omega) ?_)
  rw [ht]
  rcases (split_rises a h).2 with h0 | ⟨x, h0, hx⟩
  · rw [h0]
    refine ev_neg (by decide) ?_
    refine ev_bind (concat_ev _ (by simp) ?_) ?_
    · simp only [List.nil_append, List.flatten_cons, List.flatten_nil, List.append_nil, List.length_append, List.length_cons, List.length_nil]
      unfold putR at hpl
      rw [List.length_append, List.length_cons] at hpl
      omega
    · exact ev_eq (ev_now _) (by simp [putR])
  · rw [h0]
    refine ev_pos rfl (ev_pos (by simp; omega) ?_)
    refine ev_bind (concat_ev _ (by simp) ?_) ?_
    · simp only [List.cons_append, List.nil_append, List.drop_succ_cons, List.drop_zero, List.flatten_cons, List.flatten_nil, List.append_nil, List.length_append, List.length_cons, List.length_nil]
      unfold putR at hpl
      rw [List.length_append, List.length_cons] at hpl
      omega
    · exact ev_eq (ev_now _) (by simp [putR])
theorem drop_ev {l : List SR} (a : Int) (h : Rises ordI kR l) (hb : l.length ≤ 1000) : Ev (fun k => cracknellaw14_Int_int_Drop.f k l a) (othR ordI kR a l, !(atR ordI kR a l).isEmpty) := by
  have hol := oth_len a h
  have hle := less_len l a
  obtain ⟨ht, hd⟩ := take_less a h
  have hl := congrArg List.length (split_rises a h).1
  unfold cracknellaw14_Int_int_Drop.f
  simp only [place_f a h hb, Option.bind_some]
  rcases (split_rises a h).2 with h0 | ⟨x, h0, hx⟩
  · rw [h0]
    refine ev_neg (by decide) (ev_eq (ev_now _) ?_)
    have := (split_rises a h).1
    rw [h0, List.nil_append] at this
    rw [show othR ordI kR a l = l from this.symm]
    rfl
  · rw [h0] at hl ⊢
    rw [List.length_append, List.length_append, List.length_singleton] at hl
    refine ev_pos rfl (ev_pos (by omega) (ev_pos (by omega) ?_))
    rw [show wrap64 (((lessR ordI kR a l).length : Int) + 1) = (((lessR ordI kR a l).length + 1 : Nat) : Int) by unfold wrap64; omega]
    refine ev_pos (by omega) (ev_pos (by omega) ?_)
    simp only [Int.toNat_natCast]
    rw [ht, ← List.drop_drop, hd, h0]
    refine ev_bind (concat_ev _ (by simp) ?_) ?_
    · simp only [List.cons_append, List.nil_append, List.drop_succ_cons, List.drop_zero, List.flatten_cons, List.flatten_nil, List.append_nil, List.length_append]
      unfold othR at hol
      rw [List.length_append] at hol
      omega
    · exact ev_eq (ev_now _) (by simp [othR])
theorem get_f {l : List SR} (a : Int) (h : Rises ordI kR l) (hb : l.length ≤ 1000) : cracknellaw14_Int_int_Get.f l a = some (match look kR l a with | some x => (x.f1, true) | none => (0, false)) := by
  unfold cracknellaw14_Int_int_Get.f
  rw [place_f a h hb]
  simp only [Option.bind_some]
  obtain ⟨hs, ha⟩ := split_rises a h
  have hl := congrArg List.length hs
  rcases ha with h0 | ⟨x, h0, hx⟩
  · have hn : look kR l a = none := look_none.2 fun y hy e => by
      have : y ∈ atR ordI kR a l := mem_atR.2 ⟨hy, e⟩
      rw [h0] at this
      simp at this
    rw [hn, h0]
    rfl
  · have hm : x ∈ l := (mem_atR.1 (show x ∈ atR ordI kR a l by rw [h0]; exact List.mem_singleton.2 rfl)).1
    rw [(look_some h).2 ⟨hm, hx⟩, h0]
    rw [h0, List.length_append, List.length_append, List.length_singleton] at hl
    rw [if_pos (show (!([x] : List SR).isEmpty) = true from rfl), if_pos (by omega), if_pos (by omega)]
    have e2 : rd_T65 l ((lessR ordI kR a l).length : Int) = x := by
      unfold rd_T65
      rw [Int.toNat_natCast]
      conv => lhs; arg 1; rw [hs, h0]
      rw [List.getD_eq_getElem?_getD, List.getElem?_append_right (Nat.le_refl _), Nat.sub_self]
      rfl
    rw [e2]
end Go.Proofs.Ytmpccjkdfdgedaa.Y
