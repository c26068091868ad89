/- NetsReads: what is read of any text, no longer than may be, is what the document reads. -/
import Derived.Test.YtikggnalmidlhaaGreatDoorYnetsE
namespace Go.Proofs.YtikggnalmidlhaaGreatDoor.Pure
open RowKit Print AR Aa Ad Y
theorem NetsReads:Vd.Pure:=by
 intro a0 a1 _ _;apply Ev.rounds;unfold Vd.f;by_cases h:(a0.size:Int)>2000
 ·exact AU h (BL J4 (Am _))
 ·have hl:∀ x∈Vi a0,x.size<=3000:=λx hx=>by have:=(WO hx).1;omega
  have hn:=XH a0 a1;refine Ah h (BL (XC (by omega) hl) (BL (XG (by omega) hl) (BL J4 (AU rfl (BL (Qn _ _ (by omega)) ?_)))));rw [Kw];exact AU rfl (BG (Am _) (beq_self_eq_true _))
end Go.Proofs.YtikggnalmidlhaaGreatDoor.Pure
