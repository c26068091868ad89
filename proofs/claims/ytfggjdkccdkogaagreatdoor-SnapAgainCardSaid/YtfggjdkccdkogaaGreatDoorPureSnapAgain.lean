/- SnapAgain: what was read right is written again as it was; what was not read right is nothing. -/
import Derived.Test.YtfggjdkccdkogaaGreatDoorPrint30
import Derived.Test.YtfggjdkccdkogaaGreatDoorYV
namespace Go.Proofs.YtfggjdkccdkogaaGreatDoor.Pure
open RowKit Print Ac Aq Aw Y
theorem QF {s:ByteArray} (hs:s.size<=1000000000):Ev (λk=>BM.j0 k s) true:=by
 apply Az;unfold BM.j0;obtain ⟨⟨v,out,no⟩,e1,e2,e3⟩:=Lh hs;refine AY e1 ?_;dsimp only
 by_cases h0:no=0
 ·subst h0;obtain ⟨hj,hv⟩:=e3.good rfl;have hl:out.length<=60:=e3.len;obtain ⟨hb,_⟩:=UI hs e1;have ho:=NG (l:=out) (by omega) e3.few;rw [Kv hj] at ho;have hw:=K8 (v:=v) (l:=out) (by omega) e3.few;unfold Lp at hw;rw [if_pos hv] at hw;refine AU rfl (AY ho (AY hw (AY Ez (AU rfl (AU rfl (AU rfl (BJ (Ad _) ?_)))))));rw [<-hb];exact beq_self_eq_true _
 ·obtain ⟨h1,h2⟩:=e3.bad h0;refine Ab h0 (AY Ez (AU rfl (AU h1 (BJ (Ad _) ?_))));dsimp only at h2;rw [h2];rfl
theorem SnapAgain:BM.Pure:=by
 intro a0 a1 _;apply Ev.rounds;unfold BM.f;by_cases h:(a0.size:Int)>2000
 ·exact AU h (AY Ez (Ad _))
 ·have hz:=IX a0;refine Ab h ?_;by_cases ha:a1=true
  ·exact AU ha (AY (Il (by omega)) (AU (by omega) (QF (by rw [ByteArray.size_append];omega))))
  ·exact Ab ha (QF (by omega))
end Go.Proofs.YtfggjdkccdkogaaGreatDoor.Pure
