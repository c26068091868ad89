/- What a format keeps of a cookie, as a plain function, and that the printed functions come to it; the words of the formats; the sample tells true. No condition. -/
import Derived.Test.YtccmackhhppbdaaDoorYa
import Derived.Test.YtccmackhhppbdaaDoorPrint4
import Derived.Test.YtccmackhhppbdaaDoorPrint3
import Derived.Test.YtccmackhhppbdaaDoorPrint13
namespace Go.Proofs.YtccmackhhppbdaaDoor.Y
set_option linter.unusedVariables false
set_option linter.unusedSimpArgs false
open Go.RowKit Go.Proofs.YtccmackhhppbdaaDoor.Print Go.Proofs.YtccmackhhppbdaaDoorW.PrintWords Go.Proofs.YtccmackhhppbdaaDoorW.PrintLast Go.Proofs.YtccmackhhppbdaaDoorW.PrintMore

theorem ev_monoP {α : Type} {f : Nat → Option α} {r : α} (hm : ∀ k, LeO (f k) (f (k + 1))) (K : Nat) (h : f K = some r) : Ev f r := by
  refine ⟨K, fun k hk => ?_⟩
  obtain ⟨d, rfl⟩ : ∃ d, k = K + d := ⟨k - K, by omega⟩
  clear hk
  induction d with
  | zero => exact h
  | succ d ih => exact hm _ _ ih
theorem alive18_ev : Ev (fun k => cracknellaw18_alive.f k) true := ev_monoP cracknellaw18_alive.mono 60 (by decide +kernel)

abbrev CkT := ByteArray × ByteArray × ByteArray × ByteArray × Int × Int × Int × Bool × Bool × Bool × Int × Bool
def mayF (f now : Int) : Prop := (1 ≤ f ∧ f ≤ 6) ∧ 0 ≤ now ∧ now ≤ 253402300799
instance (f now : Int) : Decidable (mayF f now) := inferInstanceAs (Decidable (_ ∧ _))
def keepY (f now : Int) (d p n v : ByteArray) (c4 c5 c6 : Int) (b7 b8 b9 : Bool) (ss : Int) : CkT :=
  (d, p, n, v, (if f ≤ 3 then now else c4), (if f ≤ 3 then now else if f = 4 then c4 else c5), c6, (if f = 2 then true else if f = 4 then true else b7), b8, b9, (if f = 1 then 0 else if f = 4 then 0 else if f = 5 then 0 else ss), true)
def keepB (f now : Int) (d p n v : ByteArray) (c4 c5 c6 : Int) (b7 b8 b9 : Bool) (ss : Int) : CkT :=
  if mayF f now then keepY f now d p n v c4 c5 c6 b7 b8 b9 ss else (⟨#[]⟩, ⟨#[]⟩, ⟨#[]⟩, ⟨#[]⟩, 0, 0, 0, false, false, false, 0, false)
theorem six {f : Int} (h : 1 ≤ f ∧ f ≤ 6) : f = 1 ∨ f = 2 ∨ f = 3 ∨ f = 4 ∨ f = 5 ∨ f = 6 := by omega
theorem word_no {f : Int} (h : ¬ (1 ≤ f ∧ f ≤ 6)) : proj_Word.f f = some ⟨#[]⟩ := by
  unfold proj_Word.f
  by_cases h1 : f < 1
  · rw [if_pos h1]
  · rw [if_neg h1, if_pos (by omega)]
def wordB (f : Int) : ByteArray := if f = 1 then ⟨#[110, 101, 116, 115, 99, 97, 112, 101]⟩ else if f = 2 then ⟨#[104, 97, 114]⟩ else if f = 3 then ⟨#[114, 101, 112, 108, 97, 121]⟩ else if f = 4 then ⟨#[118, 49]⟩ else if f = 5 then ⟨#[118, 50]⟩ else ⟨#[118, 51]⟩
theorem word_yes {f : Int} (h : 1 ≤ f ∧ f ≤ 6) : proj_Word.f f = some (wordB f) ∧ (wordB f).toList ≠ [] := by
  rcases six h with rfl | rfl | rfl | rfl | rfl | rfl <;> exact ⟨by decide +kernel, by decide +kernel⟩
section
variable {f now : Int} {d p n v : ByteArray} {c4 c5 c6 : Int} {b7 b8 b9 : Bool} {ss : Int}
theorem keep_ev : Ev (fun k => proj_Cookie.f k f now d p n v c4 c5 c6 b7 b8 b9 ss) (keepB f now d p n v c4 c5 c6 b7 b8 b9 ss) := by
  have no : ∀ x : Bool, x = true → Ev (fun k => proj_Cookie.j0 k f now x d p n v c4 c5 c6 b7 b8 b9 ss) (⟨#[]⟩, ⟨#[]⟩, ⟨#[]⟩, ⟨#[]⟩, 0, 0, 0, false, false, false, 0, false) := by
    rintro x rfl
    apply ev_succ
    simp only [proj_Cookie.j0]
    exact ev_pos trivial (ev_now _)
  unfold keepB proj_Cookie.f
  by_cases h : 1 ≤ f ∧ f ≤ 6
  · obtain ⟨h1, h2⟩ := word_yes h
    rw [h1]
    refine ev_bind (ev_now _) (ev_neg h2 ?_)
    by_cases h3 : now < 0
    · rw [if_neg (fun hm => by have := hm.2; omega)]
      exact ev_pos h3 (no _ rfl)
    refine ev_neg h3 ?_
    by_cases h4 : now > 253402300799
    · rw [if_neg (fun hm => by have := hm.2; omega)]
      exact no _ (decide_eq_true h4)
    rw [if_pos ⟨h, by omega, by omega⟩, decide_eq_false h4]
    clear h1 h2 no
    apply ev_succ
    refine ⟨0, fun k _ => ?_⟩
    rcases six h with rfl | rfl | rfl | rfl | rfl | rfl <;> simp [proj_Cookie.j0, keepY]
  · rw [word_no h, if_neg (fun hm => h hm.1)]
    exact ev_bind (ev_now _) (ev_pos (by decide +kernel) (no _ rfl))
theorem keep_may (h : mayF f now) : keepB f now d p n v c4 c5 c6 b7 b8 b9 ss = keepY f now d p n v c4 c5 c6 b7 b8 b9 ss := if_pos h
theorem keep_not (h : ¬ mayF f now) : keepB f now d p n v c4 c5 c6 b7 b8 b9 ss = (⟨#[]⟩, ⟨#[]⟩, ⟨#[]⟩, ⟨#[]⟩, 0, 0, 0, false, false, false, 0, false) := if_neg h
end
end Go.Proofs.YtccmackhhppbdaaDoor.Y
