/- ProjJars: what a format keeps of a jar is the document's; kept again it is the same. -/
import Derived.Test.YtccmackhhppbdaaGreatDoorPrint19
import Derived.Test.YtccmackhhppbdaaGreatDoorYC
namespace Go.Proofs.YtccmackhhppbdaaGreatDoor.Pure
open RowKit Print Af BI BM Y
theorem ProjJars:Br.Pure:=by
 intro l f now _ _ _;apply Ev.rounds;simp only [Br.f];refine BN (Ow l) ?_;by_cases hb:(F5 l).2=true
 ·obtain ⟨e1,hl,hj,hs⟩:=NZ hb;rw [e1,hb];have hj2:=NV (f:=f) (now:=now) hj;have hs2:=NW (f:=f) (now:=now) hs;have hl2:=NY f now l;have h2:=LB f now (by omega) hj2 hs2;rw [Lp] at h2;refine AU rfl (BN (LB f now hl hj hs) (BN (Ou f now (by omega)) (BN h2 (BN JD (AU rfl ?_)))));simp only [JB (show (Ee f now l).1.length<=10000 by omega),JB (show l.length<=10000 by omega),Option.bind_some];refine BN (JA _ _ (by omega)) (AU (FH _) (AU (by simp) (AU (by simp) (BN (Ov _ _ (by omega) (by omega)) (AU (FH _) (BN (JA _ _ (by omega)) (BL (Ao _) (FH _))))))))
 ·exact Ah hb (BN JD (Ao _))
end Go.Proofs.YtccmackhhppbdaaGreatDoor.Pure
