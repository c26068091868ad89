/- The document's functions at rows that rise; a table, and the document's rows, behind any ops. -/
import Derived.Test.YtmpccjkdfdgedaaYtab
namespace Go.Proofs.Ytmpccjkdfdgedaa.Y
open Go.RowKit Go.Proofs.Ytmpccjkdfdgedaa.Print Go.Proofs.YtmpccjkdfdgedaaW.PrintWords Go.Proofs.YtmpccjkdfdgedaaW.PrintLast Go.Proofs.YtmpccjkdfdgedaaW.PrintMore
set_option linter.unusedVariables false
set_option linter.unusedSimpArgs false

theorem rdD {m : List SD} {j : Nat} (h : j < m.length) : rd_T53 m (j : Int) = m[j] := by
  unfold rd_T53
  rw [Int.toNat_natCast, List.getD_eq_getElem?_getD, List.getElem?_eq_getElem h]
  rfl
theorem rdO {m : List SO} {j : Nat} (h : j < m.length) : rd_T43 m (j : Int) = m[j] := by
  unfold rd_T43
  rw [Int.toNat_natCast, List.getD_eq_getElem?_getD, List.getElem?_eq_getElem h]
  rfl
theorem next1 {j : Nat} (h : j ≤ 1000000) : wrap64 ((j : Int) + 1) = ((j + 1 : Nat) : Int) := by unfold wrap64; omega
/-! ### the document's -/
theorem rdrop_l (m : List SD) (a : Int) (hb : m.length ≤ 10000) : ∀ n j (acc : List SD), m.length - j = n → j ≤ m.length → acc.length ≤ j →
    Ev (fun k => cracknelref14_Drop.l0 k m a acc (j : Int)) (acc ++ (m.drop j).filter fun x => decide (x.f0 ≠ a)) := by
  intro n
  induction n with
  | zero =>
    intro j acc hn hj ha
    obtain rfl : j = m.length := by omega
    rw [List.drop_length]
    refine ev_succ ?_
    simp only [cracknelref14_Drop.l0]
    exact ev_neg (by omega) (ev_eq (ev_now _) (by simp))
  | succ n ih =>
    intro j acc hn hj ha
    have hlt : j < m.length := by omega
    rw [List.drop_eq_getElem_cons hlt]
    refine ev_succ ?_
    simp only [cracknelref14_Drop.l0]
    rw [rdD hlt, next1 (by omega)]
    refine ev_pos (by omega) (ev_pos (by omega) ?_)
    by_cases h : m[j].f0 = a
    · rw [List.filter_cons_of_neg (by simpa using h)]
      exact ev_pos h (ih (j + 1) acc (by omega) (by omega) (by omega))
    · rw [List.filter_cons_of_pos (by simpa using h)]
      refine ev_neg h (ev_pos (by omega) ?_)
      exact ev_eq (ih (j + 1) (acc ++ [m[j]]) (by omega) (by omega) (by simp; omega)) (by simp)
theorem rdrop_ev {m : List SD} (a : Int) (h : Rises ordI kD m) (hb : m.length ≤ 1000) : Ev (fun k => cracknelref14_Drop.f k m a) (othR ordI kD a m) := by
  refine ev_eq (rdrop_l m a (by omega) _ 0 [] rfl (Nat.zero_le _) (Nat.le_refl _)) ?_
  rw [List.nil_append, List.drop_zero]
  refine rises_ext (rises_filter h _) (rises_oth h) fun x => ?_
  rw [mem_othR, List.mem_filter]
  simp [kD]
theorem rput_t (m : List SD) (a b : Int) (hb : m.length ≤ 10000) : ∀ n j (acc : List SD), m.length - j = n → j ≤ m.length → acc.length ≤ j + 1 →
    Ev (fun k => cracknelref14_Put.l0 k m a b acc true (j : Int)) (acc ++ m.drop j) := by
  intro n
  induction n with
  | zero =>
    intro j acc hn hj ha
    obtain rfl : j = m.length := by omega
    rw [List.drop_length]
    refine ev_succ ?_
    simp only [cracknelref14_Put.l0]
    exact ev_neg (by omega) (ev_pos trivial (ev_eq (ev_now _) (by simp)))
  | succ n ih =>
    intro j acc hn hj ha
    have hlt : j < m.length := by omega
    rw [List.drop_eq_getElem_cons hlt]
    refine ev_succ ?_
    simp only [cracknelref14_Put.l0]
    rw [rdD hlt, next1 (by omega)]
    refine ev_pos (by omega) (ev_pos trivial (ev_pos (by omega) (ev_pos (by omega) ?_)))
    exact ev_eq (ih (j + 1) (acc ++ [m[j]]) (by omega) (by omega) (by simp; omega)) (by simp)
theorem rput_f (m : List SD) (a b : Int) (hb : m.length ≤ 10000) (hne : ∀ x ∈ m, x.f0 ≠ a) (hr : Rises ordI kD m) : ∀ n j (acc : List SD), m.length - j = n → j ≤ m.length → acc.length ≤ j →
    Ev (fun k => cracknelref14_Put.l0 k m a b acc false (j : Int)) (acc ++ putR ordI kD a ⟨a, b⟩ (m.drop j)) := by
  intro n
  induction n with
  | zero =>
    intro j acc hn hj ha
    obtain rfl : j = m.length := by omega
    rw [List.drop_length]
    refine ev_succ ?_
    simp only [cracknelref14_Put.l0]
    exact ev_neg (by omega) (ev_neg (by decide) (ev_pos (by omega) (ev_eq (ev_now _) (by simp [putR, lessR, moreR]))))
  | succ n ih =>
    intro j acc hn hj ha
    have hlt : j < m.length := by omega
    have hd : Rises ordI kD (m.drop j) := List.Pairwise.sublist (List.drop_sublist _ _) hr
    rw [List.drop_eq_getElem_cons hlt] at hd ⊢
    obtain ⟨hx, _⟩ := List.pairwise_cons.1 hd
    refine ev_succ ?_
    simp only [cracknelref14_Put.l0]
    rw [rdD hlt, next1 (by omega)]
    refine ev_pos (by omega) (ev_neg (by decide) (ev_pos (by omega) ?_))
    by_cases h : a < m[j].f0
    · refine ev_pos h (ev_pos (by omega) ?_)
      have hall : ∀ y ∈ m[j] :: m.drop (j + 1), ordI.lt a (kD y) := fun y hy => by
        rcases List.mem_cons.1 hy with rfl | hy
        · exact h
        · exact Int.lt_trans h (hx y hy)
      refine ev_bind_some (fun _ => rfl) (ev_pos (by simp; omega) ?_)
      refine ev_eq (rput_t m a b hb _ (j + 1) (acc ++ [⟨a, b⟩] ++ [m[j]]) rfl (by omega) (by simp; omega)) ?_
      unfold putR
      rw [less_all hall, more_all hall]
      simp
    · refine ev_neg h (ev_pos (by omega) ?_)
      have h2 : ordI.lt (kD m[j]) a := by
        have := hne m[j] (List.getElem_mem hlt)
        show m[j].f0 < a
        omega
      refine ev_eq (ih (j + 1) (acc ++ [m[j]]) (by omega) (by omega) (by simp; omega)) ?_
      unfold putR
      rw [less_cons_lt h2, more_cons_not (fun h3 => h h3)]
      simp
theorem rput_ev {m : List SD} (a b : Int) (h : Rises ordI kD m) (hb : m.length ≤ 1000) : Ev (fun k => cracknelref14_Put.f k m a b) (putR ordI kD a ⟨a, b⟩ m) := by
  unfold cracknelref14_Put.f
  refine ev_bind (rdrop_ev a h hb) ?_
  have hl := oth_len a h
  have hr := rises_oth (k := a) h
  refine ev_eq (rput_f (othR ordI kD a m) a b (by omega) (fun x hx => (mem_othR.1 hx).2) hr _ 0 [] rfl (Nat.zero_le _) (Nat.le_refl _)) ?_
  rw [List.nil_append, List.drop_zero]
  refine rises_ext (rises_put hr rfl) (rises_put h rfl) fun x => ?_
  rw [mem_putR, mem_putR, mem_othR]
  constructor
  · rintro (h1 | ⟨⟨h1, _⟩, h2⟩)
    · exact .inl h1
    · exact .inr ⟨h1, h2⟩
  · rintro (h1 | ⟨h1, h2⟩)
    · exact .inl h1
    · exact .inr ⟨⟨h1, h2⟩, h2⟩

/-! ### a table and the document's rows -/
theorem cv_less (a : Int) (l : List SR) : (lessR ordI kR a l).map cv = lessR ordI kD a (l.map cv) := by unfold lessR; rw [List.filter_map]; rfl
theorem cv_more (a : Int) (l : List SR) : (moreR ordI kR a l).map cv = moreR ordI kD a (l.map cv) := by unfold moreR; rw [List.filter_map]; rfl
theorem cv_put (a b : Int) (l : List SR) : (putR ordI kR a ⟨a, b⟩ l).map cv = putR ordI kD a ⟨a, b⟩ (l.map cv) := by unfold putR; rw [List.map_append, List.map_cons, cv_less, cv_more]; rfl
theorem cv_oth (a : Int) (l : List SR) : (othR ordI kR a l).map cv = othR ordI kD a (l.map cv) := by unfold othR; rw [List.map_append, cv_less, cv_more]
theorem cv_rises {l : List SR} (h : Rises ordI kR l) : Rises ordI kD (l.map cv) := List.pairwise_map.2 h
theorem cv_look (l : List SR) (a : Int) : look kD (l.map cv) a = (look kR l a).map cv := by unfold look; rw [List.find?_map]; rfl
def step (t : List SR) (o : SO) : List SR := if o.f0 = 1 then othR ordI kR o.f1 t else putR ordI kR o.f1 ⟨o.f1, o.f2⟩ t
def behind (l : List SO) : List SR := l.foldl step []
theorem step_rises {t : List SR} (h : Rises ordI kR t) (o : SO) : Rises ordI kR (step t o) := by
  unfold step
  split
  · exact rises_oth h
  · exact rises_put h rfl
theorem step_len {t : List SR} (h : Rises ordI kR t) (o : SO) : (step t o).length ≤ t.length + 1 := by
  unfold step
  split
  · have := oth_len o.f1 h; omega
  · exact put_len _ _ h
theorem behind_ok (l : List SO) : ∀ t : List SR, Rises ordI kR t → Rises ordI kR (l.foldl step t) ∧ (l.foldl step t).length ≤ t.length + l.length := by
  induction l with
  | nil => exact fun t h => ⟨h, by simp⟩
  | cons o l ih =>
    intro t h
    obtain ⟨h1, h2⟩ := ih (step t o) (step_rises h o)
    have := step_len h o
    exact ⟨h1, by rw [List.foldl_cons, List.length_cons]; omega⟩
theorem nil_rises : Rises ordI kR ([] : List SR) := List.Pairwise.nil
theorem behind_rises (l : List SO) : Rises ordI kR (behind l) := (behind_ok l [] nil_rises).1
theorem behind_len (l : List SO) : (behind l).length ≤ l.length := by have := (behind_ok l [] nil_rises).2; rw [List.length_nil, Nat.zero_add] at this; exact this
theorem made_l (l : List SO) (hb : l.length ≤ 500) : ∀ n j (t : List SR), l.length - j = n → j ≤ l.length → Rises ordI kR t → t.length ≤ j →
    Ev (fun k => cracknellaw14_made.l0 k l (l.length : Int) (j : Int) t) ((l.drop j).foldl step t) := by
  intro n
  induction n with
  | zero =>
    intro j t hn hj hr ht
    obtain rfl : j = l.length := by omega
    rw [List.drop_length]
    refine ev_succ ?_
    simp only [cracknellaw14_made.l0]
    exact ev_neg (by omega) (ev_now _)
  | succ n ih =>
    intro j t hn hj hr ht
    have hlt : j < l.length := by omega
    rw [List.drop_eq_getElem_cons hlt, List.foldl_cons]
    refine ev_succ ?_
    simp only [cracknellaw14_made.l0]
    rw [rdO hlt, next1 (by omega)]
    refine ev_pos (by omega) (ev_pos (by omega) (ev_pos (by omega) ?_))
    have hs := step_len hr l[j]
    have := ih (j + 1) (step t l[j]) (by omega) (by omega) (step_rises hr _) (by omega)
    unfold step at this ⊢
    by_cases h : l[j].f0 = 1
    · rw [if_pos h] at this ⊢
      exact ev_pos h (ev_bind (drop_ev _ hr (by omega)) this)
    · rw [if_neg h] at this ⊢
      exact ev_neg h (ev_bind (put_ev _ _ hr (by omega)) this)
theorem made_ev (l : List SO) (hb : l.length ≤ 500) : Ev (fun k => cracknellaw14_made.f k l) (behind l) := made_l l hb _ 0 [] rfl (Nat.zero_le _) nil_rises (Nat.le_refl _)
theorem model_l (l : List SO) (hb : l.length ≤ 500) : ∀ n j (t : List SR), l.length - j = n → j ≤ l.length → Rises ordI kR t → t.length ≤ j →
    Ev (fun k => cracknellaw14_model.l0 k (t.map cv) l (l.length : Int) (j : Int)) (((l.drop j).foldl step t).map cv) := by
  intro n
  induction n with
  | zero =>
    intro j t hn hj hr ht
    obtain rfl : j = l.length := by omega
    rw [List.drop_length]
    refine ev_succ ?_
    simp only [cracknellaw14_model.l0]
    exact ev_neg (by omega) (ev_now _)
  | succ n ih =>
    intro j t hn hj hr ht
    have hlt : j < l.length := by omega
    rw [List.drop_eq_getElem_cons hlt, List.foldl_cons]
    refine ev_succ ?_
    simp only [cracknellaw14_model.l0]
    rw [rdO hlt, next1 (by omega)]
    refine ev_pos (by omega) (ev_pos (by omega) (ev_pos (by omega) ?_))
    have hs := step_len hr l[j]
    have := ih (j + 1) (step t l[j]) (by omega) (by omega) (step_rises hr _) (by omega)
    unfold step at this ⊢
    by_cases h : l[j].f0 = 1
    · rw [if_pos h] at this ⊢
      rw [cv_oth] at this
      exact ev_pos h (ev_bind (rdrop_ev _ (cv_rises hr) (by rw [List.length_map]; omega)) this)
    · rw [if_neg h] at this ⊢
      rw [cv_put] at this
      exact ev_neg h (ev_bind (rput_ev _ _ (cv_rises hr) (by rw [List.length_map]; omega)) this)
theorem model_ev (l : List SO) (hb : l.length ≤ 500) : Ev (fun k => cracknellaw14_model.f k l) ((behind l).map cv) := model_l l hb _ 0 [] rfl (Nat.zero_le _) nil_rises (Nat.le_refl _)
theorem same_f {t : List SR} (hb : t.length ≤ 1000000) {m : List SD} (h : t.map cv = m) : law14_same.f t m = some true := by
  subst h
  unfold law14_same.f
  rw [if_pos ⟨by omega, by rw [List.map_map]; rfl⟩]
end Go.Proofs.Ytmpccjkdfdgedaa.Y
