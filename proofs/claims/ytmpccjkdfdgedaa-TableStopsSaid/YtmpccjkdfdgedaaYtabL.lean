/- Rows that rise by their keys: putting, dropping, merging, looking up; two such with the same members are the same. No program in sight. -/
import Derived.Test.YtmpccjkdfdgedaaYa
namespace Go.Proofs.Ytmpccjkdfdgedaa.Y
set_option linter.unusedVariables false
set_option linter.unusedSimpArgs false

structure Ordr (κ : Type) where
  lt : κ → κ → Prop
  dec : ∀ a b, Decidable (lt a b)
  irr : ∀ a, ¬ lt a a
  tr : ∀ {a b c}, lt a b → lt b c → lt a c
  tot : ∀ a b, lt a b ∨ a = b ∨ lt b a
instance {κ : Type} (O : Ordr κ) (a b : κ) : Decidable (O.lt a b) := O.dec a b
section
variable {κ ρ : Type} (O : Ordr κ) (key : ρ → κ)
theorem Ordr.asy {a b : κ} (h : O.lt a b) (h' : O.lt b a) : False := O.irr a (O.tr h h')
def Rises (l : List ρ) : Prop := l.Pairwise fun x y => O.lt (key x) (key y)
def lessR (k : κ) (l : List ρ) : List ρ := l.filter fun x => decide (O.lt (key x) k)
def moreR (k : κ) (l : List ρ) : List ρ := l.filter fun x => decide (O.lt k (key x))
def atR (k : κ) (l : List ρ) : List ρ := l.filter fun x => !decide (O.lt (key x) k) && !decide (O.lt k (key x))
def othR (k : κ) (l : List ρ) : List ρ := lessR O key k l ++ moreR O key k l
def putR (k : κ) (y : ρ) (l : List ρ) : List ρ := lessR O key k l ++ y :: moreR O key k l
variable {O key}
theorem Ordr.eq_of {a b : κ} (h : ¬ O.lt a b) (h' : ¬ O.lt b a) : a = b := by
  rcases O.tot a b with h1 | h1 | h1
  · exact absurd h1 h
  · exact h1
  · exact absurd h1 h'
theorem mem_lessR {k : κ} {l : List ρ} {x : ρ} : x ∈ lessR O key k l ↔ x ∈ l ∧ O.lt (key x) k := by simp [lessR]
theorem mem_moreR {k : κ} {l : List ρ} {x : ρ} : x ∈ moreR O key k l ↔ x ∈ l ∧ O.lt k (key x) := by simp [moreR]
theorem mem_atR {k : κ} {l : List ρ} {x : ρ} : x ∈ atR O key k l ↔ x ∈ l ∧ key x = k := by
  simp only [atR, List.mem_filter, Bool.and_eq_true, Bool.not_eq_true', decide_eq_false_iff_not]
  refine and_congr_right fun _ => ⟨fun h => O.eq_of h.1 h.2, ?_⟩
  rintro rfl
  exact ⟨O.irr _, O.irr _⟩
theorem mem_othR {k : κ} {l : List ρ} {x : ρ} : x ∈ othR O key k l ↔ x ∈ l ∧ key x ≠ k := by
  rw [othR, List.mem_append, mem_lessR, mem_moreR]
  constructor
  · rintro (⟨h, h1⟩ | ⟨h, h1⟩)
    · exact ⟨h, fun e => O.irr _ (e ▸ h1)⟩
    · exact ⟨h, fun e => O.irr _ (e ▸ h1)⟩
  · rintro ⟨h, h1⟩
    rcases O.tot (key x) k with h2 | h2 | h2
    · exact .inl ⟨h, h2⟩
    · exact absurd h2 h1
    · exact .inr ⟨h, h2⟩
theorem mem_putR {k : κ} {y x : ρ} {l : List ρ} : x ∈ putR O key k y l ↔ x = y ∨ (x ∈ l ∧ key x ≠ k) := by
  rw [← mem_othR (O := O), othR, putR]
  simp only [List.mem_append, List.mem_cons]
  constructor
  · rintro (h | h | h)
    · exact .inr (.inl h)
    · exact .inl h
    · exact .inr (.inr h)
  · rintro (h | h | h)
    · exact .inr (.inl h)
    · exact .inl h
    · exact .inr (.inr h)
theorem rises_filter {l : List ρ} (h : Rises O key l) (p : ρ → Bool) : Rises O key (l.filter p) := List.Pairwise.filter p h
theorem rises_put {k : κ} {y : ρ} {l : List ρ} (h : Rises O key l) (hy : key y = k) : Rises O key (putR O key k y l) := by
  subst hy
  refine List.pairwise_append.2 ⟨rises_filter h _, List.pairwise_cons.2 ⟨fun x hx => (mem_moreR.1 hx).2, rises_filter h _⟩, fun a ha b hb => ?_⟩
  have h1 := (mem_lessR.1 ha).2
  rcases List.mem_cons.1 hb with rfl | hb
  · exact h1
  · exact O.tr h1 (mem_moreR.1 hb).2
theorem rises_oth {k : κ} {l : List ρ} (h : Rises O key l) : Rises O key (othR O key k l) :=
  List.pairwise_append.2 ⟨rises_filter h _, rises_filter h _, fun a ha b hb => O.tr (mem_lessR.1 ha).2 (mem_moreR.1 hb).2⟩
theorem less_all {k : κ} {l : List ρ} (h : ∀ x ∈ l, O.lt k (key x)) : lessR O key k l = [] := List.filter_eq_nil_iff.2 fun x hx hd => O.asy (of_decide_eq_true hd) (h x hx)
theorem more_all {k : κ} {l : List ρ} (h : ∀ x ∈ l, O.lt k (key x)) : moreR O key k l = l := List.filter_eq_self.2 fun x hx => decide_eq_true (h x hx)
theorem at_all {k : κ} {l : List ρ} (h : ∀ x ∈ l, O.lt k (key x)) : atR O key k l = [] := List.filter_eq_nil_iff.2 fun x hx hd => by
  simp only [Bool.and_eq_true, Bool.not_eq_true', decide_eq_false_iff_not] at hd
  exact hd.2 (h x hx)
theorem less_cons_lt {k : κ} {x : ρ} {l : List ρ} (h : O.lt (key x) k) : lessR O key k (x :: l) = x :: lessR O key k l := List.filter_cons_of_pos (p := fun x => decide (O.lt (key x) k)) (decide_eq_true h)
theorem less_cons_not {k : κ} {x : ρ} {l : List ρ} (h : ¬ O.lt (key x) k) : lessR O key k (x :: l) = lessR O key k l := by unfold lessR; rw [List.filter_cons_of_neg (by simpa using h)]
theorem more_cons_lt {k : κ} {x : ρ} {l : List ρ} (h : O.lt k (key x)) : moreR O key k (x :: l) = x :: moreR O key k l := List.filter_cons_of_pos (p := fun x => decide (O.lt k (key x))) (decide_eq_true h)
theorem more_cons_not {k : κ} {x : ρ} {l : List ρ} (h : ¬ O.lt k (key x)) : moreR O key k (x :: l) = moreR O key k l := by unfold moreR; rw [List.filter_cons_of_neg (by simpa using h)]
theorem at_cons_not {k : κ} {x : ρ} {l : List ρ} (h : O.lt (key x) k ∨ O.lt k (key x)) : atR O key k (x :: l) = atR O key k l := by
  unfold atR
  rw [List.filter_cons_of_neg]
  rcases h with h | h <;> simp [h]
theorem at_cons {k : κ} {x : ρ} {l : List ρ} (h : key x = k) : atR O key k (x :: l) = x :: atR O key k l := by
  unfold atR
  rw [List.filter_cons_of_pos]
  subst h
  simp [O.irr]
/-- Rows that rise, about a key. -/
theorem split_rises {l : List ρ} (k : κ) (h : Rises O key l) : l = lessR O key k l ++ (atR O key k l ++ moreR O key k l) ∧ (atR O key k l = [] ∨ ∃ x, atR O key k l = [x] ∧ key x = k) := by
  induction l with
  | nil => exact ⟨rfl, .inl rfl⟩
  | cons x l ih =>
    obtain ⟨hx, hl⟩ := List.pairwise_cons.1 h
    obtain ⟨ih1, ih2⟩ := ih hl
    rcases O.tot (key x) k with h1 | h1 | h1
    · rw [less_cons_lt h1, at_cons_not (.inl h1), more_cons_not (fun h2 => O.asy h1 h2)]
      exact ⟨by rw [List.cons_append, ← ih1], ih2⟩
    · have ha : ∀ y ∈ l, O.lt k (key y) := fun y hy => h1 ▸ hx y hy
      rw [less_cons_not (by rw [h1]; exact O.irr k), at_cons h1, more_cons_not (by rw [h1]; exact O.irr k), less_all ha, at_all ha, more_all ha]
      exact ⟨rfl, .inr ⟨x, rfl, h1⟩⟩
    · have ha : ∀ y ∈ x :: l, O.lt k (key y) := fun y hy => by
        rcases List.mem_cons.1 hy with rfl | hy
        · exact h1
        · exact O.tr h1 (hx y hy)
      rw [less_all ha, at_all ha, more_all ha]
      exact ⟨rfl, .inl rfl⟩
theorem oth_len {l : List ρ} (k : κ) (h : Rises O key l) : (othR O key k l).length ≤ l.length := by
  have := congrArg List.length (split_rises k h).1
  simp only [List.length_append] at this
  unfold othR
  rw [List.length_append]
  omega
theorem put_len {l : List ρ} (k : κ) (y : ρ) (h : Rises O key l) : (putR O key k y l).length ≤ l.length + 1 := by
  have := oth_len k h
  unfold othR at this
  rw [List.length_append] at this
  unfold putR
  rw [List.length_append, List.length_cons]
  omega
/-- The same members, and both rise: the same rows. -/
theorem rises_ext {l : List ρ} : ∀ {m : List ρ}, Rises O key l → Rises O key m → (∀ x, x ∈ l ↔ x ∈ m) → l = m := by
  induction l with
  | nil =>
    intro m _ _ h
    cases m with
    | nil => rfl
    | cons y m => exact absurd ((h y).2 (List.mem_cons_self ..)) (by simp)
  | cons x l ih =>
    intro m hl hm h
    cases m with
    | nil => exact absurd ((h x).1 (List.mem_cons_self ..)) (by simp)
    | cons y m =>
      obtain ⟨hx, hl'⟩ := List.pairwise_cons.1 hl
      obtain ⟨hy, hm'⟩ := List.pairwise_cons.1 hm
      have hxy : x = y := by
        rcases List.mem_cons.1 ((h x).1 (List.mem_cons_self ..)) with h1 | h1
        · exact h1
        · rcases List.mem_cons.1 ((h y).2 (List.mem_cons_self ..)) with h2 | h2
          · exact h2.symm
          · exact (O.asy (hx y h2) (hy x h1)).elim
      subst hxy
      rw [ih hl' hm' fun z => ⟨fun hz => ?_, fun hz => ?_⟩]
      · rcases List.mem_cons.1 ((h z).1 (List.mem_cons_of_mem _ hz)) with rfl | h1
        · exact (O.irr _ (hx z hz)).elim
        · exact h1
      · rcases List.mem_cons.1 ((h z).2 (List.mem_cons_of_mem _ hz)) with rfl | h1
        · exact (O.irr _ (hy z hz)).elim
        · exact h1
theorem mem_unique {l : List ρ} (h : Rises O key l) {x y : ρ} (hx : x ∈ l) (hy : y ∈ l) (e : key x = key y) : x = y := by
  induction l with
  | nil => simp at hx
  | cons z l ih =>
    obtain ⟨hz, hl⟩ := List.pairwise_cons.1 h
    rcases List.mem_cons.1 hx with h1 | h1 <;> rcases List.mem_cons.1 hy with h2 | h2
    · rw [h1, h2]
    · exact (O.irr _ (e ▸ (h1 ▸ hz y h2 : O.lt (key x) (key y)))).elim
    · exact (O.irr _ (e ▸ (h2 ▸ hz x h1 : O.lt (key y) (key x)))).elim
    · exact ih hl h1 h2
theorem put_same {l : List ρ} (h : Rises O key l) {y : ρ} (hy : y ∈ l) : putR O key (key y) y l = l :=
  rises_ext (rises_put h rfl) h fun x => by
    rw [mem_putR]
    constructor
    · rintro (rfl | ⟨h1, _⟩)
      · exact hy
      · exact h1
    · intro hx
      by_cases e : key x = key y
      · exact .inl (mem_unique h hx hy e)
      · exact .inr ⟨hx, e⟩

/-! ### merging -/
variable (O key)
def mergeR (pick : ρ → ρ → ρ) : List ρ → List ρ → List ρ
  | [], b => b
  | x :: a, [] => x :: a
  | x :: a, y :: b => if O.lt (key x) (key y) then x :: mergeR pick a (y :: b) else if O.lt (key y) (key x) then y :: mergeR pick (x :: a) b else pick x y :: mergeR pick a b
termination_by a b => a.length + b.length
variable {O key}
variable {pick : ρ → ρ → ρ}
theorem mergeR_nil (l : List ρ) : mergeR O key pick l [] = l := by cases l <;> simp [mergeR]
theorem mergeR_keys (hp : ∀ x y, key x = key y → key (pick x y) = key x) : ∀ (n : Nat) (a b : List ρ), a.length + b.length ≤ n → Rises O key a → Rises O key b →
    Rises O key (mergeR O key pick a b) ∧ ∀ z, z ∈ mergeR O key pick a b ↔ (z ∈ a ∧ ∀ y ∈ b, key y ≠ key z) ∨ (z ∈ b ∧ ∀ x ∈ a, key x ≠ key z) ∨ ∃ x ∈ a, ∃ y ∈ b, key x = key y ∧ z = pick x y := by
  intro n
  induction n with
  | zero =>
    intro a b hn ha hb
    obtain rfl : a = [] := List.length_eq_zero_iff.1 (by omega)
    obtain rfl : b = [] := List.length_eq_zero_iff.1 (by omega)
    exact ⟨by simp [mergeR, Rises], by simp [mergeR]⟩
  | succ n ih =>
    intro a b hn ha hb
    match a, b, hn, ha, hb with
    | [], b, _, _, hb => exact ⟨by simpa [mergeR] using hb, fun z => by simp [mergeR]⟩
    | x :: a, [], _, ha, _ => exact ⟨by rw [mergeR_nil]; exact ha, fun z => by rw [mergeR_nil]; simp⟩
    | x :: a, y :: b, hn, ha, hb =>
      obtain ⟨hx, ha'⟩ := List.pairwise_cons.1 ha
      obtain ⟨hy, hb'⟩ := List.pairwise_cons.1 hb
      simp only [List.length_cons] at hn
      unfold mergeR
      split
      · rename_i h1
        obtain ⟨hr, hm⟩ := ih a (y :: b) (by simp only [List.length_cons]; omega) ha' hb
        have hyb : ∀ u ∈ y :: b, O.lt (key x) (key u) := fun u hu => by
          rcases List.mem_cons.1 hu with rfl | hu
          · exact h1
          · exact O.tr h1 (hy u hu)
        refine ⟨List.pairwise_cons.2 ⟨fun z hz => ?_, hr⟩, fun z => ?_⟩
        · rcases (hm z).1 hz with ⟨h2, _⟩ | ⟨h2, _⟩ | ⟨u, hu, v, hv, e, rfl⟩
          · exact hx z h2
          · exact hyb z h2
          · rw [hp u v e]; exact hx u hu
        · rw [List.mem_cons, hm z]
          constructor
          · rintro (rfl | ⟨h2, h3⟩ | ⟨h2, h3⟩ | ⟨u, hu, v, hv, e, h3⟩)
            · exact .inl ⟨List.mem_cons_self .., fun u hu e => O.irr _ (e ▸ hyb u hu)⟩
            · exact .inl ⟨List.mem_cons_of_mem _ h2, h3⟩
            · refine .inr (.inl ⟨h2, fun u hu e => ?_⟩)
              rcases List.mem_cons.1 hu with rfl | hu
              · exact O.irr _ (e ▸ hyb z h2)
              · exact h3 u hu e
            · exact .inr (.inr ⟨u, List.mem_cons_of_mem _ hu, v, hv, e, h3⟩)
          · rintro (⟨h2, h3⟩ | ⟨h2, h3⟩ | ⟨u, hu, v, hv, e, h3⟩)
            · rcases List.mem_cons.1 h2 with rfl | h2
              · exact .inl rfl
              · exact .inr (.inl ⟨h2, h3⟩)
            · exact .inr (.inr (.inl ⟨h2, fun u hu => h3 u (List.mem_cons_of_mem _ hu)⟩))
            · rcases List.mem_cons.1 hu with rfl | hu
              · exact (O.irr _ (e ▸ hyb v hv)).elim
              · exact .inr (.inr (.inr ⟨u, hu, v, hv, e, h3⟩))
      · rename_i h1
        split
        · rename_i h2
          obtain ⟨hr, hm⟩ := ih (x :: a) b (by simp only [List.length_cons]; omega) ha hb'
          have hxa : ∀ u ∈ x :: a, O.lt (key y) (key u) := fun u hu => by
            rcases List.mem_cons.1 hu with rfl | hu
            · exact h2
            · exact O.tr h2 (hx u hu)
          refine ⟨List.pairwise_cons.2 ⟨fun z hz => ?_, hr⟩, fun z => ?_⟩
          · rcases (hm z).1 hz with ⟨h3, _⟩ | ⟨h3, _⟩ | ⟨u, hu, v, hv, e, rfl⟩
            · exact hxa z h3
            · exact hy z h3
            · rw [hp u v e]; exact hxa u hu
          · rw [List.mem_cons, hm z]
            constructor
            · rintro (rfl | ⟨h3, h4⟩ | ⟨h3, h4⟩ | ⟨u, hu, v, hv, e, h4⟩)
              · exact .inr (.inl ⟨List.mem_cons_self .., fun u hu e => O.irr _ (e ▸ hxa u hu)⟩)
              · refine .inl ⟨h3, fun u hu e => ?_⟩
                rcases List.mem_cons.1 hu with rfl | hu
                · exact O.irr _ (e ▸ hxa z h3)
                · exact h4 u hu e
              · exact .inr (.inl ⟨List.mem_cons_of_mem _ h3, h4⟩)
              · exact .inr (.inr ⟨u, hu, v, List.mem_cons_of_mem _ hv, e, h4⟩)
            · rintro (⟨h3, h4⟩ | ⟨h3, h4⟩ | ⟨u, hu, v, hv, e, h4⟩)
              · exact .inr (.inl ⟨h3, fun u hu => h4 u (List.mem_cons_of_mem _ hu)⟩)
              · rcases List.mem_cons.1 h3 with rfl | h3
                · exact .inl rfl
                · exact .inr (.inr (.inl ⟨h3, h4⟩))
              · rcases List.mem_cons.1 hv with rfl | hv
                · exact (O.irr _ (e ▸ hxa u hu)).elim
                · exact .inr (.inr (.inr ⟨u, hu, v, hv, e, h4⟩))
        · rename_i h2
          have e0 : key x = key y := O.eq_of h1 h2
          obtain ⟨hr, hm⟩ := ih a b (by omega) ha' hb'
          have hxb : ∀ u ∈ b, O.lt (key x) (key u) := fun u hu => e0 ▸ hy u hu
          have hya : ∀ u ∈ a, O.lt (key y) (key u) := fun u hu => e0 ▸ hx u hu
          refine ⟨List.pairwise_cons.2 ⟨fun z hz => ?_, hr⟩, fun z => ?_⟩
          · rw [hp x y e0]
            rcases (hm z).1 hz with ⟨h3, _⟩ | ⟨h3, _⟩ | ⟨u, hu, v, hv, e, rfl⟩
            · exact hx z h3
            · exact hxb z h3
            · rw [hp u v e]; exact hx u hu
          · rw [List.mem_cons, hm z]
            constructor
            · rintro (rfl | ⟨h3, h4⟩ | ⟨h3, h4⟩ | ⟨u, hu, v, hv, e, h4⟩)
              · exact .inr (.inr ⟨x, List.mem_cons_self .., y, List.mem_cons_self .., e0, rfl⟩)
              · refine .inl ⟨List.mem_cons_of_mem _ h3, fun u hu e => ?_⟩
                rcases List.mem_cons.1 hu with rfl | hu
                · exact O.irr _ (e ▸ hya z h3)
                · exact h4 u hu e
              · refine .inr (.inl ⟨List.mem_cons_of_mem _ h3, fun u hu e => ?_⟩)
                rcases List.mem_cons.1 hu with rfl | hu
                · exact O.irr _ (e ▸ hxb z h3)
                · exact h4 u hu e
              · exact .inr (.inr ⟨u, List.mem_cons_of_mem _ hu, v, List.mem_cons_of_mem _ hv, e, h4⟩)
            · rintro (⟨h3, h4⟩ | ⟨h3, h4⟩ | ⟨u, hu, v, hv, e, h4⟩)
              · rcases List.mem_cons.1 h3 with rfl | h3
                · exact absurd e0.symm (h4 y (List.mem_cons_self ..))
                · exact .inr (.inl ⟨h3, fun u hu => h4 u (List.mem_cons_of_mem _ hu)⟩)
              · rcases List.mem_cons.1 h3 with rfl | h3
                · exact absurd e0 (h4 x (List.mem_cons_self ..))
                · exact .inr (.inr (.inl ⟨h3, fun u hu => h4 u (List.mem_cons_of_mem _ hu)⟩))
              · rcases List.mem_cons.1 hu with h5 | hu <;> rcases List.mem_cons.1 hv with h6 | hv
                · subst h5; subst h6; exact .inl h4
                · subst h5; exact (O.irr _ (e ▸ hxb v hv)).elim
                · subst h6; exact (O.irr _ (e ▸ hya u hu)).elim
                · exact .inr (.inr (.inr ⟨u, hu, v, hv, e, h4⟩))
theorem rises_merge (hp : ∀ x y, key x = key y → key (pick x y) = key x) {a b : List ρ} (ha : Rises O key a) (hb : Rises O key b) : Rises O key (mergeR O key pick a b) := (mergeR_keys hp _ a b (Nat.le_refl _) ha hb).1
theorem mem_merge (hp : ∀ x y, key x = key y → key (pick x y) = key x) {a b : List ρ} (ha : Rises O key a) (hb : Rises O key b) {z : ρ} :
    z ∈ mergeR O key pick a b ↔ (z ∈ a ∧ ∀ y ∈ b, key y ≠ key z) ∨ (z ∈ b ∧ ∀ x ∈ a, key x ≠ key z) ∨ ∃ x ∈ a, ∃ y ∈ b, key x = key y ∧ z = pick x y := (mergeR_keys hp _ a b (Nat.le_refl _) ha hb).2 z
theorem merge_len : ∀ (n : Nat) (a b : List ρ), a.length + b.length ≤ n → (mergeR O key pick a b).length ≤ a.length + b.length := by
  intro n
  induction n with
  | zero =>
    intro a b hn
    obtain rfl : a = [] := List.length_eq_zero_iff.1 (by omega)
    simp [mergeR]
  | succ n ih =>
    intro a b hn
    match a, b, hn with
    | [], b, _ => simp [mergeR]
    | x :: a, [], _ => rw [mergeR_nil]; simp
    | x :: a, y :: b, hn =>
      simp only [List.length_cons] at hn
      unfold mergeR
      split
      · have := ih a (y :: b) (by simp only [List.length_cons]; omega)
        simp only [List.length_cons] at this ⊢; omega
      · split
        · have := ih (x :: a) b (by simp only [List.length_cons]; omega)
          simp only [List.length_cons] at this ⊢; omega
        · have := ih a b (by omega)
          simp only [List.length_cons]; omega

/-! ### looking up -/
variable [DecidableEq κ]
variable (key)
def look (l : List ρ) (k : κ) : Option ρ := l.find? fun x => decide (key x = k)
variable {key}
theorem look_some {l : List ρ} (h : Rises O key l) {k : κ} {x : ρ} : look key l k = some x ↔ x ∈ l ∧ key x = k := by
  constructor
  · intro e
    exact ⟨List.mem_of_find?_eq_some e, by simpa using List.find?_some e⟩
  · rintro ⟨hx, rfl⟩
    cases e : look key l (key x) with
    | none => exact absurd (List.find?_eq_none.1 e x hx) (by simp)
    | some y => rw [mem_unique h (List.mem_of_find?_eq_some e) hx (by simpa using List.find?_some e)]
theorem look_none {l : List ρ} {k : κ} : look key l k = none ↔ ∀ x ∈ l, key x ≠ k := by
  unfold look
  rw [List.find?_eq_none]
  simp
theorem look_ext {l m : List ρ} (hl : Rises O key l) (hm : Rises O key m) (h : ∀ k, look key l k = look key m k) : l = m :=
  rises_ext hl hm fun x => by
    have h1 := look_some hl (k := key x) (x := x)
    have h2 := look_some hm (k := key x) (x := x)
    rw [h] at h1
    simp only [and_true] at h1 h2
    exact h1.symm.trans h2
theorem look_put {l : List ρ} (h : Rises O key l) {k : κ} {y : ρ} (hy : key y = k) (j : κ) : look key (putR O key k y l) j = if j = k then some y else look key l j := by
  have hp := rises_put (k := k) h hy
  split
  · rename_i e
    exact (look_some hp).2 ⟨mem_putR.2 (.inl rfl), by rw [hy, e]⟩
  · rename_i e
    cases e1 : look key l j with
    | some x =>
      obtain ⟨h1, h2⟩ := (look_some h).1 e1
      exact (look_some hp).2 ⟨mem_putR.2 (.inr ⟨h1, by rw [h2]; exact e⟩), h2⟩
    | none =>
      refine look_none.2 fun x hx e2 => ?_
      rcases mem_putR.1 hx with rfl | ⟨h1, _⟩
      · exact e (by rw [← e2, hy])
      · exact look_none.1 e1 x h1 e2
theorem look_oth {l : List ρ} (h : Rises O key l) {k : κ} (j : κ) : look key (othR O key k l) j = if j = k then none else look key l j := by
  have hp := rises_oth (k := k) h
  split
  · rename_i e
    exact look_none.2 fun x hx e2 => (mem_othR.1 hx).2 (by rw [e2, e])
  · rename_i e
    cases e1 : look key l j with
    | some x =>
      obtain ⟨h1, h2⟩ := (look_some h).1 e1
      exact (look_some hp).2 ⟨mem_othR.2 ⟨h1, by rw [h2]; exact e⟩, h2⟩
    | none => exact look_none.2 fun x hx => look_none.1 e1 x (mem_othR.1 hx).1
def comb (pick : ρ → ρ → ρ) : Option ρ → Option ρ → Option ρ
  | some x, some y => some (pick x y)
  | some x, none => some x
  | none, r => r
theorem look_merge (hp : ∀ x y, key x = key y → key (pick x y) = key x) {a b : List ρ} (ha : Rises O key a) (hb : Rises O key b) (k : κ) : look key (mergeR O key pick a b) k = comb pick (look key a k) (look key b k) := by
  have hr := rises_merge hp ha hb
  cases ea : look key a k with
  | none =>
    cases eb : look key b k with
    | none =>
      refine look_none.2 fun z hz e => ?_
      rcases (mem_merge hp ha hb).1 hz with ⟨h1, _⟩ | ⟨h1, _⟩ | ⟨u, hu, v, hv, e1, rfl⟩
      · exact look_none.1 ea z h1 e
      · exact look_none.1 eb z h1 e
      · exact look_none.1 ea u hu (by rw [← e, hp u v e1])
    | some y =>
      obtain ⟨h1, h2⟩ := (look_some hb).1 eb
      exact (look_some hr).2 ⟨(mem_merge hp ha hb).2 (.inr (.inl ⟨h1, fun x hx => by rw [h2]; exact look_none.1 ea x hx⟩)), h2⟩
  | some x =>
    obtain ⟨h1, h2⟩ := (look_some ha).1 ea
    cases eb : look key b k with
    | none => exact (look_some hr).2 ⟨(mem_merge hp ha hb).2 (.inl ⟨h1, fun y hy => by rw [h2]; exact look_none.1 eb y hy⟩), h2⟩
    | some y =>
      obtain ⟨h3, h4⟩ := (look_some hb).1 eb
      exact (look_some hr).2 ⟨(mem_merge hp ha hb).2 (.inr (.inr ⟨x, h1, y, h3, by rw [h2, h4], rfl⟩)), by rw [hp x y (by rw [h2, h4]), h2]⟩
/-- The document's way: each of the second's put into the first one. -/
theorem look_puts (new : ρ → ρ) (hn : ∀ y, key (new y) = key y) : ∀ (b out : List ρ), Rises O key b → Rises O key out →
    Rises O key (b.foldl (fun o y => putR O key (key y) (new y) o) out) ∧ ∀ k, look key (b.foldl (fun o y => putR O key (key y) (new y) o) out) k = match look key b k with | some y => some (new y) | none => look key out k
  | [], out, _, ho => ⟨ho, fun k => rfl⟩
  | y :: b, out, hb, ho => by
    obtain ⟨hy, hb'⟩ := List.pairwise_cons.1 hb
    obtain ⟨h1, h2⟩ := look_puts new hn b (putR O key (key y) (new y) out) hb' (rises_put ho (hn y))
    refine ⟨h1, fun k => ?_⟩
    rw [List.foldl_cons, h2 k]
    have e0 : look key (y :: b) k = if key y = k then some y else look key b k := by
      unfold look
      rw [List.find?_cons]
      by_cases e : key y = k <;> simp [e]
    rw [e0]
    by_cases e : key y = k
    · have eb : look key b k = none := look_none.2 fun x hx e2 => O.irr k (by have := hy x hx; rw [e, e2] at this; exact this)
      rw [eb, if_pos e]
      simp only
      rw [look_put ho (hn y), if_pos e.symm]
    · rw [if_neg e]
      cases look key b k with
      | some z => rfl
      | none => simp only; rw [look_put ho (hn y), if_neg (fun h => e h.symm)]
theorem puts_merge (new : ρ → ρ) (hn : ∀ y, key (new y) = key y) (hp : ∀ x y, key x = key y → key (pick x y) = key x) {a b : List ρ} (ha : Rises O key a) (hb : Rises O key b)
    (h : ∀ y ∈ b, some (new y) = comb pick (look key a (key y)) (some y)) : b.foldl (fun o y => putR O key (key y) (new y) o) a = mergeR O key pick a b := by
  obtain ⟨h1, h2⟩ := look_puts new hn b a hb ha
  refine look_ext h1 (rises_merge hp ha hb) fun k => ?_
  rw [h2 k, look_merge hp ha hb k]
  cases eb : look key b k with
  | none => cases look key a k <;> rfl
  | some y =>
    obtain ⟨hy, rfl⟩ := (look_some hb).1 eb
    exact h y hy
theorem merge_comm (hp : ∀ x y, key x = key y → key (pick x y) = key x) (hc : ∀ x y, key x = key y → pick x y = pick y x) {a b : List ρ} (ha : Rises O key a) (hb : Rises O key b) : mergeR O key pick a b = mergeR O key pick b a :=
  look_ext (rises_merge hp ha hb) (rises_merge hp hb ha) fun k => by
    rw [look_merge hp ha hb, look_merge hp hb ha]
    cases ea : look key a k with
    | none => cases look key b k <;> rfl
    | some x =>
      cases eb : look key b k with
      | none => rfl
      | some y => exact congrArg some (hc x y (by rw [((look_some ha).1 ea).2, ((look_some hb).1 eb).2]))
theorem merge_self (hp : ∀ x y, key x = key y → key (pick x y) = key x) (hs : ∀ x, pick x x = x) {a : List ρ} (ha : Rises O key a) : mergeR O key pick a a = a :=
  look_ext (rises_merge hp ha ha) ha fun k => by
    rw [look_merge hp ha ha]
    cases look key a k with
    | none => rfl
    | some x => exact congrArg some (hs x)
theorem merge_assoc (hp : ∀ x y, key x = key y → key (pick x y) = key x) (hc : ∀ x y z, key x = key y → key y = key z → pick (pick x y) z = pick x (pick y z)) {a b c : List ρ} (ha : Rises O key a) (hb : Rises O key b) (hcc : Rises O key c) :
    mergeR O key pick (mergeR O key pick a b) c = mergeR O key pick a (mergeR O key pick b c) :=
  look_ext (rises_merge hp (rises_merge hp ha hb) hcc) (rises_merge hp ha (rises_merge hp hb hcc)) fun k => by
    rw [look_merge hp (rises_merge hp ha hb) hcc, look_merge hp ha hb, look_merge hp ha (rises_merge hp hb hcc), look_merge hp hb hcc]
    cases ea : look key a k with
    | none => cases look key b k <;> cases look key c k <;> rfl
    | some x =>
      cases eb : look key b k with
      | none => cases look key c k <;> rfl
      | some y =>
        cases ec : look key c k with
        | none => rfl
        | some z => exact congrArg some (hc x y z (by rw [((look_some ha).1 ea).2, ((look_some hb).1 eb).2]) (by rw [((look_some hb).1 eb).2, ((look_some hcc).1 ec).2]))
end
end Go.Proofs.Ytmpccjkdfdgedaa.Y
