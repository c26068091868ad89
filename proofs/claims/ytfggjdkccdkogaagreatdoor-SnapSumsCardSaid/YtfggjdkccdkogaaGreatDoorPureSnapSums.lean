/- SnapSums: with a right sum behind it a text is read as the document reads it. -/
import Derived.Test.YtfggjdkccdkogaaGreatDoorPrint34
import Derived.Test.YtfggjdkccdkogaaGreatDoorYT
namespace Go.Proofs.YtfggjdkccdkogaaGreatDoor.Pure
open RowKit Print Ac Aq Aw Y
theorem SnapSums:DT.Pure:=by
 intro a0 _;apply Ev.rounds;unfold DT.f;by_cases h:(a0.size:Int)>2000
 ·exact AU h (AY Ez (Ad _))
 ·have hz:=IX a0;obtain ⟨r,e1,e2,e3⟩:=Lh (s:=a0++F5 a0) (by rw [ByteArray.size_append];omega);refine Ab h (AY (Il (by omega)) (AU (by omega) (AY e1 (AY e2 (AY Ez (AU rfl (AU rfl (AY (Ku _ _ (by have:=e3.len;omega)) ?_))))))));rw [JA];exact AU rfl (BJ (Ad _) (beq_self_eq_true _))
end Go.Proofs.YtfggjdkccdkogaaGreatDoor.Pure
