/- SnapWrites: what is written of a jar is what the document writes. -/
import Derived.Test.YtfggjdkccdkogaaGreatDoorPrint36
import Derived.Test.YtfggjdkccdkogaaGreatDoorYU
namespace Go.Proofs.YtfggjdkccdkogaaGreatDoor.Pure
open RowKit Print Ac Aq Aw Y
theorem SnapWrites:DF.Pure:=by
 intro v l _ _;apply Ev.rounds;unfold DF.f;refine AY (Qq l) ?_;by_cases hb:(Hf l).2=true
 ·obtain ⟨e1,hl,hj,hs⟩:=OY hb;rw [e1,hb];exact AU rfl (AY (K8 hl hs) (AY (Pg hl hs) (AY Ez (AU rfl (AU rfl (BJ (Ad _) (beq_self_eq_true _)))))))
 ·exact Ab hb (AY Ez (Ad _))
end Go.Proofs.YtfggjdkccdkogaaGreatDoor.Pure
