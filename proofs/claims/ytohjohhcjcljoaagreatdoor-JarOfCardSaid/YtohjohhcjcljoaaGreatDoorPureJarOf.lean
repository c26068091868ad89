/- JarOf: the jar of any cookies, or why there is none, is the document's; it has them in order. -/
import Derived.Test.YtohjohhcjcljoaaGreatDoorPrint22
import Derived.Test.YtohjohhcjcljoaaGreatDoorYB
namespace Go.Proofs.YtohjohhcjcljoaaGreatDoor.Pure
open RowKit Print Ak BR BS Y
theorem JarOf:DX.Pure:=by
 intro l hw;apply Ev.rounds;simp only [DX.f];refine Az (JK l) ?_;by_cases hf:Kg l=true
 ·refine AZ hf ?_;obtain ⟨hl,hs⟩:=IC.1 hf;have hb:=Mw l;refine Az (JL hl hs) (Az (Rm hl hs) ?_);simp only [Bh.f,FC.f,Dv.f,F8 (show (OE l).1.length<=10000 by omega),Option.bind_some,List.length_map];refine AZ trivial (Az (Fb _ _ (by omega)) (AZ (EY _) (AZ trivial (AZ trivial (Az (KE hl hs) (Az (Gr hl hs) (AZ (by simp) ?_)))))));by_cases h:(OE l).2=0
  ·obtain ⟨hj,hs2⟩:=Px hs h;exact AZ h (Az (KE (by omega) hs2) (Ba (Ay _) ((Fu hs2).2 hj)))
  ·exact Aq h (Ay _)
 ·refine Aq hf ?_;simp only [Bh.f,Option.bind_some];exact Ay _
end Go.Proofs.YtohjohhcjcljoaaGreatDoor.Pure
