/- NetsWrites: what is written of a jar is what the document writes. -/
import Derived.Test.YtikggnalmidlhaaGreatDoorM33
import Derived.Test.YtikggnalmidlhaaGreatDoorYnetsD
namespace Go.Proofs.YtikggnalmidlhaaGreatDoor.Pure
open RowKit Print AR Aa Ad Y
theorem NetsWrites:Bu.Pure:=by
 intro l _;apply Ev.rounds;unfold Bu.f;refine BL (RF l) ?_;by_cases hb:(GQ l).2=true
 ·obtain ⟨e1,hl,hj,hs⟩:=Po hb;have hg:=Q5 hj hs;rw [e1,hb];exact AU rfl (BL J4 (AU rfl (BL (Pj hl hg) (BL (Nr hl hg) (BG (Am _) (beq_self_eq_true _))))))
 ·exact Ah hb (BL J4 (Am _))
end Go.Proofs.YtikggnalmidlhaaGreatDoor.Pure
