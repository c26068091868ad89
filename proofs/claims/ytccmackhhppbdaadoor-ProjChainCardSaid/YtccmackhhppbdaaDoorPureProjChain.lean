/- ProjChain: what V1 keeps of what V2 keeps is what V1 keeps, and V2 of V1's the same; V3 keeps all. -/
import Derived.Test.YtccmackhhppbdaaDoorPrint14
import Derived.Test.YtccmackhhppbdaaDoorYproj
namespace Go.Proofs.YtccmackhhppbdaaDoor.Pure
open Go.RowKit Go.Proofs.YtccmackhhppbdaaDoor.Print Go.Proofs.YtccmackhhppbdaaDoorW.PrintWords Go.Proofs.YtccmackhhppbdaaDoorW.PrintLast Go.Proofs.YtccmackhhppbdaaDoorW.PrintMore Go.Proofs.YtccmackhhppbdaaDoor.Y

theorem ProjChain : cracknellaw18_ProjChain.Pure := by
  intro now d p n v c4 c5 c6 b7 b8 b9 ss _ _ _ _ _ _ _ _ _
  apply Ev.rounds
  simp only [cracknellaw18_ProjChain.f]
  refine ev_bind keep_ev (ev_bind keep_ev (ev_bind keep_ev (ev_bind keep_ev (ev_bind keep_ev ?_))))
  by_cases h : 0 ≤ now ∧ now ≤ 253402300799
  · have m4 : mayF 4 now := ⟨by decide, h⟩
    have m5 : mayF 5 now := ⟨by decide, h⟩
    have m6 : mayF 6 now := ⟨by decide, h⟩
    rw [keep_may m4, keep_may m5, keep_may m6, keep_may m4, keep_may m5]
    refine ev_pos rfl (ev_bind alive18_ev (ev_pos rfl (ev_pos rfl (ev_pos rfl (ev_pos rfl (ev_pos rfl (ev_pos (by simp [keepY]) (ev_pos (by simp [keepY]) (ev_eq (ev_now _) (by simp [keepY]))))))))))
  · have m4 : ¬ mayF 4 now := fun hm => h hm.2
    have m5 : ¬ mayF 5 now := fun hm => h hm.2
    have m6 : ¬ mayF 6 now := fun hm => h hm.2
    rw [keep_not m4, keep_not m5, keep_not m6]
    refine ev_neg (by decide) (ev_bind alive18_ev (ev_pos rfl (ev_neg (by decide) (ev_neg (by decide) ?_))))
    by_cases h1 : now < 0
    · exact ev_pos h1 (ev_now _)
    · exact ev_neg h1 (ev_eq (ev_now _) (decide_eq_true (by omega)))

end Go.Proofs.YtccmackhhppbdaaDoor.Pure
