/- JarMerges: two jars, put together, are the document's, in either order; with itself a jar is the same. -/
import Derived.Test.YtohjohhcjcljoaaGreatDoorPrint26
import Derived.Test.YtohjohhcjcljoaaGreatDoorYG
namespace Go.Proofs.YtohjohhcjcljoaaGreatDoor.Pure
open RowKit Print Ak BR BS Y
theorem JarMerges:Au.Pure:=by
 intro l m hw _;apply Ev.rounds;simp only [Au.f];have no:Ev (λk=>Au.j0 k l m true) true:=by
  refine BQ ?_;simp only [Au.j0,Bh.f,Option.bind_some];exact AZ trivial (Ay _)
 refine Az (JK l) ?_;by_cases hf:Kg l=true
 ·refine AZ hf (Az (JK m) ?_);obtain ⟨hl,hs⟩:=IC.1 hf;by_cases hg:Kg m=true
  ·refine AZ hg ?_;obtain ⟨hl2,hs2⟩:=IC.1 hg;refine Az (Gr hl hs) ?_;by_cases hr:F9 l=true
   ·have hj:=(Fu hs).1 hr;refine AZ hr (Az (Gr hl2 hs2) ?_);by_cases hr2:F9 m=true
    ·have hj2:=(Fu hs2).1 hr2;rw [hr2];have hlen:=O5 l m;refine BQ ?_;simp only [Au.j0];refine Aq (by decide) (Az (JL hl hs) (Az (JL hl2 hs2) ?_));simp only [Hz hj,Hz hj2];refine Az (KA hj.rises hj2.rises (by omega)) (Az (KA hj2.rises hj.rises (by omega)) (Az (KA hj.rises hj.rises (by omega)) (Az (O4 hj.rises hj2.rises (by omega) (λx hx=>(hs x hx).sm) (λx hx=>(hs2 x hx).sm)) ?_)));rw [N8 hj,N9 hj2.rises hj.rises];simp only [Bh.f,F8 (show l.length<=10000 by omega),F8 (show m.length<=10000 by omega),F8 (show (GM l m).1.length<=10000 by omega),Option.bind_some];exact AZ trivial (Az (Fb _ _ (by omega)) (AZ (EY _) (AZ trivial (Az (OA _ _ (by omega) (by omega)) (AZ (EY _) (AZ trivial (Az (OA _ _ (by omega) (by omega)) (AZ (EY _) (AZ trivial (Az (Fb _ _ (by omega)) (AZ (EY _) (Az (Fb _ _ (by omega)) (Ba (Ay _) (EY _))))))))))))))
    ·rw [show F9 m=false by simpa using hr2];exact no
   ·exact Aq hr no
  ·exact Aq hg no
 ·exact Aq hf no
end Go.Proofs.YtohjohhcjcljoaaGreatDoor.Pure
