/- NetsBack: what was written of a jar is read as what the format keeps of it. -/
import Derived.Test.YtikggnalmidlhaaGreatDoorM34
import Derived.Test.YtikggnalmidlhaaGreatDoorYnetsD
namespace Go.Proofs.YtikggnalmidlhaaGreatDoor.Pure
open RowKit Print AR Aa Ad Y
theorem NetsBack:XW.Pure:=by
 intro l now _ _;apply Ev.rounds;unfold XW.f;refine BL (RF l) ?_;by_cases hb:(GQ l).2=true
 ·obtain ⟨e1,hl,hj,hs⟩:=Po hb;have hg:=Q5 hj hs;have hp:=X6 1 now (l:=l) (by omega);rw [e1,hb];refine AU rfl (BL (Pj hl hg) (BL (X8 now hl hj hs) (BL hp (BL J4 (AU rfl ?_)))));unfold X5;by_cases hm:VO 1 now
  ·rw [if_pos hm,if_pos hm];refine AU rfl (BL (Qn _ _ (by rw [List.length_map];omega)) ?_);rw [Kw];exact Am _
  ·rw [if_neg hm,if_neg hm];refine AU rfl (BL (Qn _ _ (Nat.zero_le _)) ?_);rw [Kw];exact Am _
 ·exact Ah hb (BL J4 (Am _))
end Go.Proofs.YtikggnalmidlhaaGreatDoor.Pure
