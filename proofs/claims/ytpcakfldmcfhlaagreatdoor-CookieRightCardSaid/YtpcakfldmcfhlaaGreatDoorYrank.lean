/- Orders: numbers, texts, keys and cookies, by plain functions, and what makes them orders. No condition. -/
import Derived.Test.YtpcakfldmcfhlaaGreatDoorYa
import Derived.Test.YtpcakfldmcfhlaaGreatDoorGcmp
namespace Go.Proofs.YtpcakfldmcfhlaaGreatDoor.Y
set_option linter.unusedVariables false
set_option linter.unusedSimpArgs false
open Go.RowKit Go.Proofs.YtpcakfldmcfhlaaGreatDoor.Print Go.Proofs.YtpcakfldmcfhlaaGreatDoorW.PrintWords Go.Proofs.YtpcakfldmcfhlaaGreatDoorW.PrintLast Go.Proofs.YtpcakfldmcfhlaaGreatDoorW.PrintMore

theorem ev_mono {α : Type} {f : Nat → Option α} {r : α} (hm : ∀ k, LeO (f k) (f (k + 1))) (K : Nat) (h : f K = some r) : Ev f r := by
  refine ⟨K, fun k hk => ?_⟩
  obtain ⟨d, rfl⟩ : ∃ d, k = K + d := ⟨k - K, by omega⟩
  clear hk
  induction d with
  | zero => exact h
  | succ d ih => exact hm _ _ ih
structure Rank {α : Type} (f : α → α → Int) : Prop where
  val : ∀ a b, f a b = -1 ∨ f a b = 0 ∨ f a b = 1
  anti : ∀ a b, f b a = - f a b
  same : ∀ a b, f a b = 0 ↔ a = b
  trans : ∀ a b c, f a b ≤ 0 → f b c ≤ 0 → f a c ≤ 0
theorem rank_int : Rank cmpI := by
  constructor
  · intro a b; unfold cmpI; repeat (first | omega | split)
  · intro a b; unfold cmpI; repeat (first | omega | split)
  · intro a b; unfold cmpI; repeat (first | omega | split)
  · intro a b c; unfold cmpI; repeat (first | omega | split)
def twoC {α β : Type} (f : α → α → Int) (g : β → β → Int) (x y : α × β) : Int := if f x.1 y.1 = 0 then g x.2 y.2 else f x.1 y.1
theorem rank_two {α β : Type} {f : α → α → Int} {g : β → β → Int} (hf : Rank f) (hg : Rank g) : Rank (twoC f g) := by
  constructor
  · intro a b; unfold twoC; split
    · exact hg.val _ _
    · exact hf.val _ _
  · intro a b; unfold twoC
    rw [hf.anti a.1 b.1]
    by_cases h : f a.1 b.1 = 0
    · rw [if_pos (by omega), if_pos h, hg.anti]
    · rw [if_neg (by omega), if_neg h]
  · intro a b; unfold twoC
    by_cases h : f a.1 b.1 = 0
    · rw [if_pos h, hg.same, Prod.ext_iff, (hf.same _ _).mp h]; simp
    · rw [if_neg h]
      refine ⟨fun e => absurd e h, fun e => ?_⟩
      rw [e]; exact (hf.same _ _).mpr rfl
  · intro a b c
    unfold twoC
    by_cases h : f a.1 b.1 = 0
    · rw [if_pos h, (hf.same _ _).mp h]
      by_cases h' : f b.1 c.1 = 0
      · rw [if_pos h', if_pos h']; exact hg.trans _ _ _
      · rw [if_neg h', if_neg h']; exact fun _ e => e
    · rw [if_neg h]
      by_cases h' : f b.1 c.1 = 0
      · rw [if_pos h', ← (hf.same _ _).mp h', if_neg h]; exact fun e _ => e
      · rw [if_neg h']
        intro e e'
        by_cases h2 : f a.1 c.1 = 0
        · have := hf.anti a.1 b.1
          have e2 := (hf.same _ _).mp h2
          rw [← e2] at e' h'
          omega
        · rw [if_neg h2]; exact hf.trans _ _ _ e e'
theorem rank_map {α β : Type} {f : α → α → Int} (hf : Rank f) (u : β → α) (hu : ∀ a b, u a = u b → a = b) : Rank fun x y => f (u x) (u y) :=
  ⟨fun a b => hf.val _ _, fun a b => hf.anti _ _, fun a b => (hf.same _ _).trans ⟨hu a b, fun e => by rw [e]⟩, fun a b c => hf.trans _ _ _⟩
def lexL : List Int → List Int → Bool
  | _, [] => false
  | [], _ :: _ => true
  | a :: x, b :: y => decide (a < b) || (decide (a = b) && lexL x y)
def cmpL : List Int → List Int → Int
  | [], [] => 0
  | [], _ :: _ => -1
  | _ :: _, [] => 1
  | a :: x, b :: y => if cmpI a b = 0 then cmpL x y else cmpI a b
theorem rank_list : Rank cmpL := by
  constructor
  · intro a; induction a with
    | nil => intro b; cases b <;> simp [cmpL]
    | cons x a ih => intro b; cases b with
      | nil => simp [cmpL]
      | cons y b =>
        simp only [cmpL]; split
        · exact ih b
        · exact rank_int.val _ _
  · intro a; induction a with
    | nil => intro b; cases b <;> simp [cmpL]
    | cons x a ih => intro b; cases b with
      | nil => simp [cmpL]
      | cons y b =>
        simp only [cmpL]
        rw [rank_int.anti x y]
        by_cases h : cmpI x y = 0
        · rw [if_pos (by omega), if_pos h, ih]
        · rw [if_neg (by omega), if_neg h]
  · intro a; induction a with
    | nil => intro b; cases b <;> simp [cmpL]
    | cons x a ih => intro b; cases b with
      | nil => simp [cmpL]
      | cons y b =>
        simp only [cmpL]
        by_cases h : cmpI x y = 0
        · rw [if_pos h, ih, (rank_int.same _ _).mp h]; simp
        · rw [if_neg h]
          refine ⟨fun e => absurd e h, fun e => ?_⟩
          cases e; exact absurd ((rank_int.same _ _).mpr rfl) h
  · intro a; induction a with
    | nil => intro b c; cases b <;> cases c <;> simp [cmpL]
    | cons x a ih => intro b c; cases b with
      | nil => simp [cmpL]
      | cons y b => cases c with
        | nil => simp [cmpL]
        | cons z c =>
          simp only [cmpL]
          by_cases h : cmpI x y = 0
          · rw [if_pos h, (rank_int.same _ _).mp h]
            by_cases h' : cmpI y z = 0
            · rw [if_pos h', if_pos h']; exact ih b c
            · rw [if_neg h', if_neg h']; exact fun _ e => e
          · rw [if_neg h]
            by_cases h' : cmpI y z = 0
            · rw [if_pos h', ← (rank_int.same _ _).mp h', if_neg h]; exact fun e _ => e
            · rw [if_neg h']
              intro e e'
              by_cases h2 : cmpI x z = 0
              · have := rank_int.anti x y
                have e2 := (rank_int.same _ _).mp h2
                rw [← e2] at e' h'
                omega
              · rw [if_neg h2]; exact rank_int.trans _ _ _ e e'
theorem cmpL_lex (a b : List Int) : cmpL a b = if lexL a b = true then -1 else if lexL b a = true then 1 else 0 := by
  induction a generalizing b with
  | nil => cases b <;> simp [cmpL, lexL]
  | cons x a ih => cases b with
    | nil => simp [cmpL, lexL]
    | cons y b =>
      simp only [cmpL, lexL, ih, Bool.or_eq_true, Bool.and_eq_true, decide_eq_true_iff]
      unfold cmpI
      rcases Int.lt_trichotomy x y with h | h | h
      · have h2 : ¬ y < x := by omega
        simp [h]
      · subst h
        simp
      · have h1 : ¬ x < y := by omega
        have h2 : ¬ x = y := by omega
        simp [h, h1, h2]

theorem bytesLess_lexL : ∀ x y : List UInt8, Op.bytesLess x y = lexL (x.map fun b => (b.toNat : Int)) (y.map fun b => (b.toNat : Int))
  | _, [] => by cases ‹List UInt8› <;> rfl
  | [], _ :: _ => rfl
  | a :: x, b :: y => by
    simp only [Op.bytesLess, List.map_cons, lexL]
    rw [bytesLess_lexL x y]
    congr 1
    · rw [Bool.eq_iff_iff, decide_eq_true_iff, decide_eq_true_iff, UInt8.lt_iff_toNat_lt]; omega
    · congr 1
      rw [Bool.eq_iff_iff, beq_iff_eq, decide_eq_true_iff, ← UInt8.toNat_inj]; omega
theorem less_bytes (s t : ByteArray) : Op.bytesLess s.toList t.toList = lexL (bytesOf s) (bytesOf t) := by
  rw [toList_data, toList_data, bytesLess_lexL]; rfl
theorem cmpS_list (a b : ByteArray) : cmpS a b = cmpL (bytesOf a) (bytesOf b) := by
  rw [cmpL_lex]; unfold cmpS; rw [less_bytes, less_bytes]
theorem rank_text : Rank cmpS := by
  have h := rank_map rank_list bytesOf fun _ _ => bytesOf_inj
  have e : (fun x y => cmpL (bytesOf x) (bytesOf y)) = cmpS := by funext a b; rw [cmpS_list]
  exact e ▸ h
theorem rank_bool : Rank fun a b : Bool => cmpI (tl a) (tl b) := rank_map rank_int tl (by decide)

/-! ### keys and cookies as nested pairs -/
abbrev KeyT := ByteArray × ByteArray × ByteArray
def keyC : KeyT → KeyT → Int := twoC cmpS (twoC cmpS cmpS)
theorem rank_key : Rank keyC := rank_two rank_text (rank_two rank_text rank_text)
theorem cmpK_key (a0 a1 a2 b0 b1 b2 : ByteArray) : cmpK a0 a1 a2 b0 b1 b2 = keyC (a0, a1, a2) (b0, b1, b2) := by
  unfold cmpK keyC twoC
  simp only [orL]
  split
  · split
    · split
      · exact Eq.symm ‹_›
      · rfl
    · rfl
  · rfl
abbrev CookT := ByteArray × ByteArray × ByteArray × ByteArray × Int × Int × Int × Bool × Bool × Bool × Int
abbrev RowT := KeyT × Int × Int × ByteArray × Int × Bool × Bool × Bool × Int
def rowC : RowT → RowT → Int := twoC keyC (twoC cmpI (twoC cmpI (twoC cmpS (twoC cmpI (twoC (fun a b => cmpI (tl a) (tl b)) (twoC (fun a b => cmpI (tl a) (tl b)) (twoC (fun a b => cmpI (tl a) (tl b)) cmpI)))))))
theorem rank_row : Rank rowC := rank_two rank_key (rank_two rank_int (rank_two rank_int (rank_two rank_text (rank_two rank_int (rank_two rank_bool (rank_two rank_bool (rank_two rank_bool rank_int)))))))
def rowOf (c : CookT) : RowT := ((c.1, c.2.1, c.2.2.1), c.2.2.2.2.1, c.2.2.2.2.2.1, c.2.2.2.1, c.2.2.2.2.2.2.1, c.2.2.2.2.2.2.2.1, c.2.2.2.2.2.2.2.2.1, c.2.2.2.2.2.2.2.2.2.1, c.2.2.2.2.2.2.2.2.2.2)
def cookC (x y : CookT) : Int := rowC (rowOf x) (rowOf y)
theorem rank_cook : Rank cookC := rank_map rank_row rowOf (by
  rintro ⟨a0, a1, a2, a3, a4, a5, a6, a7, a8, a9, a10⟩ ⟨b0, b1, b2, b3, b4, b5, b6, b7, b8, b9, b10⟩ h
  simp only [rowOf, Prod.mk.injEq] at h
  obtain ⟨⟨h0, h1, h2⟩, h4, h5, h3, h6, h7, h8, h9, h10⟩ := h
  subst h0 h1 h2 h3 h4 h5 h6 h7 h8 h9 h10
  rfl)
theorem or_cons (x : Int) (l : List Int) : orL (x :: l) = if x = 0 then orL l else x := rfl
theorem or_one (x : Int) : orL [x] = x := by simp only [orL]; split <;> simp_all
theorem lexI_cons (x y : Int) (l m : List Int) : lexI (x :: l) (y :: m) = if cmpI x y = 0 then lexI l m else cmpI x y := rfl
theorem lexI_one (x y : Int) : lexI [x] [y] = cmpI x y := by rw [lexI_cons]; simp only [lexI]; split <;> simp_all
theorem cmpC_cook (a0 a1 a2 a3 : ByteArray) (a4 a5 a6 : Int) (a7 a8 a9 : Bool) (a10 : Int) (b0 b1 b2 b3 : ByteArray) (b4 b5 b6 : Int) (b7 b8 b9 : Bool) (b10 : Int) : cmpC a0 a1 a2 a3 a4 a5 a6 a7 a8 a9 a10 b0 b1 b2 b3 b4 b5 b6 b7 b8 b9 b10 = cookC (a0, a1, a2, a3, a4, a5, a6, a7, a8, a9, a10) (b0, b1, b2, b3, b4, b5, b6, b7, b8, b9, b10) := by
  unfold cmpC cookC rowC
  rw [cmpK_key]
  rw [or_cons, or_cons, or_cons, or_cons, or_one, lexI_cons, lexI_cons, lexI_cons, lexI_cons, lexI_one]
  simp only [rowOf, twoC]
  first | done | rfl | (congr; done)

theorem cookie_cmp_f (a0 a1 a2 a3 : ByteArray) (a4 a5 a6 : Int) (a7 a8 a9 : Bool) (a10 : Int) (b0 b1 b2 b3 : ByteArray) (b4 b5 b6 : Int) (b7 b8 b9 : Bool) (b10 : Int) : cookie_Cmp.f a0 a1 a2 a3 a4 a5 a6 a7 a8 a9 a10 b0 b1 b2 b3 b4 b5 b6 b7 b8 b9 b10 = some (cookC (a0, a1, a2, a3, a4, a5, a6, a7, a8, a9, a10) (b0, b1, b2, b3, b4, b5, b6, b7, b8, b9, b10)) := by
  unfold cookie_Cmp.f
  rw [cmpC_cook]
end Go.Proofs.YtpcakfldmcfhlaaGreatDoor.Y
