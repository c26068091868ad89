/- What the document's format keeps of a cookie is what the program's does. -/
import Derived.Test.YtccmackhhppbdaaDoorYproj
import Derived.Test.YtccmackhhppbdaaDoorPrint16
namespace Go.Proofs.YtccmackhhppbdaaDoor.Y
set_option linter.unusedVariables false
set_option linter.unusedSimpArgs false
open Go.RowKit Go.Proofs.YtccmackhhppbdaaDoor.Print Go.Proofs.YtccmackhhppbdaaDoorW.PrintWords Go.Proofs.YtccmackhhppbdaaDoorW.PrintLast Go.Proofs.YtccmackhhppbdaaDoorW.PrintMore
theorem may_f18 (f now : Int) : cracknelref18_May.f f now = some (decide (mayF f now)) := by
  by_cases h : mayF f now
  · obtain ⟨⟨h1, h2⟩, h3, h4⟩ := id h
    rw [decide_eq_true h]
    unfold cracknelref18_May.f
    rw [if_pos h1, if_pos h2, if_pos h3, decide_eq_true h4]
  · rw [decide_eq_false h]
    unfold cracknelref18_May.f
    by_cases h1 : f ≥ 1
    · rw [if_pos h1]
      by_cases h2 : f ≤ 6
      · rw [if_pos h2]
        by_cases h3 : now ≥ 0
        · rw [if_pos h3, decide_eq_false (fun h4 => h ⟨⟨h1, h2⟩, h3, h4⟩)]
        · rw [if_neg h3]
      · rw [if_neg h2]
    · rw [if_neg h1]
theorem ref_keep_ev {f now : Int} {d p n v : ByteArray} {c4 c5 c6 : Int} {b7 b8 b9 : Bool} {ss : Int} : Ev (fun k => cracknelref18_Cookie.f k f now d p n v c4 c5 c6 b7 b8 b9 ss) (keepB f now d p n v c4 c5 c6 b7 b8 b9 ss) := by
  unfold cracknelref18_Cookie.f
  rw [may_f18]
  refine ev_bind (ev_now _) ?_
  by_cases h : mayF f now
  · rw [decide_eq_true h, keep_may h]
    refine ev_pos rfl ⟨3, fun k hk => ?_⟩
    obtain ⟨k, rfl⟩ : ∃ m, k = m + 3 := ⟨k - 3, by omega⟩
    rcases six h.1 with rfl | rfl | rfl | rfl | rfl | rfl <;> cases b7 <;> simp [cracknelref18_Cookie.j0, cracknelref18_Cookie.j1, cracknelref18_Cookie.j2, keepY]
  · rw [decide_eq_false h, keep_not h]
    exact ev_neg (by decide) (ev_now _)
end Go.Proofs.YtccmackhhppbdaaDoor.Y
