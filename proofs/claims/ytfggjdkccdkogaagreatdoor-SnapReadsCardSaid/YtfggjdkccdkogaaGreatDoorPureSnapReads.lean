/- SnapReads: what is read of any text, no longer than a row may be, is what the document reads. -/
import Derived.Test.YtfggjdkccdkogaaGreatDoorPJ
import Derived.Test.YtfggjdkccdkogaaGreatDoorYT
namespace Go.Proofs.YtfggjdkccdkogaaGreatDoor.Pure
open RowKit Print Ac Aq Aw Y
theorem SnapReads:DL.Pure:=by
 intro a0 _;apply Ev.rounds;unfold DL.f;by_cases h:(a0.size:Int)>2000
 ·exact AU h (AY Ez (Ad _))
 ·obtain ⟨r,e1,e2,e3⟩:=Lh (s:=a0) (by omega);refine Ab h (AY e1 (AY e2 (AY Ez (AU rfl (AU rfl (AY (Ku _ _ (by have:=e3.len;omega)) ?_))))));rw [JA];exact AU rfl (BJ (Ad _) (beq_self_eq_true _))
end Go.Proofs.YtfggjdkccdkogaaGreatDoor.Pure
