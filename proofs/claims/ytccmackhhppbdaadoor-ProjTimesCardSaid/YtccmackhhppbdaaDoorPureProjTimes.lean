/- ProjTimes: how Created and Accessed are is of no account to Netscape, Har and Replay; of another time nothing else is another one. -/
import Derived.Test.YtccmackhhppbdaaDoorPrint18
import Derived.Test.YtccmackhhppbdaaDoorYproj
namespace Go.Proofs.YtccmackhhppbdaaDoor.Pure
open Go.RowKit Go.Proofs.YtccmackhhppbdaaDoor.Print Go.Proofs.YtccmackhhppbdaaDoorW.PrintWords Go.Proofs.YtccmackhhppbdaaDoorW.PrintLast Go.Proofs.YtccmackhhppbdaaDoorW.PrintMore Go.Proofs.YtccmackhhppbdaaDoor.Y

section
variable {d p n v : ByteArray} {c4 c5 c6 : Int} {b7 b8 b9 : Bool} {ss : Int} {z0 z1 m0 m1 : Int}
theorem times_round (xs : List Int) (i : Nat) (hi : i < 3) (hx : xs.length = 3) {f : Int} (hf : rd xs i = f) (h1 : 1 ≤ f ∧ f ≤ 3)
    (K : Ev (fun k => cracknellaw18_ProjTimes.l0 k xs (xs.length : Int) ((i + 1 : Nat) : Int) d p n v c4 c5 c6 b7 b8 b9 ss m0 m1 d p n v z0 z1 c6 b7 b8 b9 ss) true) :
    Ev (fun k => cracknellaw18_ProjTimes.l0 k xs (xs.length : Int) (i : Int) d p n v c4 c5 c6 b7 b8 b9 ss m0 m1 d p n v z0 z1 c6 b7 b8 b9 ss) true := by
  have hw : wrap64 ((i : Int) + 1) = ((i + 1 : Nat) : Int) := by unfold wrap64; omega
  have j2t : ∀ (y0 y1 y2 y3 : ByteArray) (y4 y5 y6 : Int) (y7 y8 y9 : Bool) (y10 : Int) (e0 e1 e2 e3 : ByteArray) (e4 e5 e6 : Int) (e7 e8 e9 : Bool) (e10 : Int),
      Ev (fun k => cracknellaw18_ProjTimes.j2 k xs (xs.length : Int) (i : Int) true d p n v c4 c5 c6 b7 b8 b9 ss m0 m1 d p n v z0 z1 c6 b7 b8 b9 ss y0 y1 y2 y3 y4 y5 y6 y7 y8 y9 y10 e0 e1 e2 e3 e4 e5 e6 e7 e8 e9 e10) true := by
    intros
    apply ev_succ
    simp only [cracknellaw18_ProjTimes.j2]
    rw [hw]
    exact ev_pos trivial K
  apply ev_succ
  simp only [cracknellaw18_ProjTimes.l0]
  rw [hf]
  refine ev_pos (by omega) (ev_pos (by omega) (ev_pos (by omega) (ev_bind keep_ev (ev_bind keep_ev (ev_bind keep_ev ?_)))))
  by_cases h0 : mayF f m0
  · rw [keep_may h0, keep_may h0]
    refine ev_neg (by simp [keepY, h1.2]) ?_
    apply ev_succ
    simp only [cracknellaw18_ProjTimes.j1]
    refine ev_neg (by simp [keepY]) (ev_pos rfl ?_)
    by_cases h2 : mayF f m1
    · rw [keep_may h2]
      apply ev_succ
      simp only [cracknellaw18_ProjTimes.j2]
      refine ev_neg (by simp [keepY]) (ev_pos (by simp [keepY, h1.2]) ?_)
      apply ev_succ
      simp only [cracknellaw18_ProjTimes.j3]
      rw [hw]
      refine ev_neg (by simp [keepY, h1.2]) (ev_neg (by simp [keepY, h1.2]) K)
    · rw [keep_not h2]
      exact j2t _ _ _ _ _ _ _ _ _ _ _ _ _ _ _ _ _ _ _ _ _ _
  · rw [keep_not h0, keep_not h0]
    refine ev_neg (by simp) ?_
    apply ev_succ
    simp only [cracknellaw18_ProjTimes.j1]
    exact ev_neg (by decide) (ev_neg (by decide) (j2t _ _ _ _ _ _ _ _ _ _ _ _ _ _ _ _ _ _ _ _ _ _))
end
theorem ProjTimes : cracknellaw18_ProjTimes.Pure := by
  intro d p n v c4 c5 c6 b7 b8 b9 ss z0 z1 m0 m1 _ _ _ _ _ _ _ _ _ _ _ _
  apply Ev.rounds
  simp only [cracknellaw18_ProjTimes.f, Option.bind_some]
  refine times_round [1, 2, 3] 0 (by decide) rfl (f := 1) rfl (by decide) (times_round [1, 2, 3] 1 (by decide) rfl (f := 2) rfl (by decide) (times_round [1, 2, 3] 2 (by decide) rfl (f := 3) rfl (by decide) ?_))
  apply ev_succ
  simp only [cracknellaw18_ProjTimes.l0]
  exact ev_neg (by decide) (ev_bind alive18_ev (ev_now _))

end Go.Proofs.YtccmackhhppbdaaDoor.Pure
