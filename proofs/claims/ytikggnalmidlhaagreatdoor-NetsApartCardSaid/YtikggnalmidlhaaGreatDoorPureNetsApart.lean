/- NetsApart: two jars are written alike just if the same is kept of them. -/
import Derived.Test.YtikggnalmidlhaaGreatDoorM34
import Derived.Test.YtikggnalmidlhaaGreatDoorYnetsD
namespace Go.Proofs.YtikggnalmidlhaaGreatDoor.Pure
open RowKit Print AR Aa Ad Y
theorem Yd (l m:List SC) (b:Bool) (j k:List Cj) (h:b=true):Ev (λn=>Yb.j0 n l m b j k) true:=by
 subst h;apply BB;unfold Yb.j0;exact AU rfl (BL J4 (Am _))
theorem Ye:VO 1 0:=⟨by omega,by decide⟩
theorem NetsApart:Yb.Pure:=by
 intro l m _ _;apply Ev.rounds;unfold Yb.f;refine BL (RF l) (BL (RF m) ?_);by_cases hb:(GQ l).2=true
 ·by_cases hc:(GQ m).2=true
  ·obtain ⟨e1,hl,hj,hs⟩:=Po hb;obtain ⟨e2,hl2,hj2,hs2⟩:=Po hc;have hg:=Q5 hj hs;have hg2:=Q5 hj2 hs2;have hp:=X6 1 0 (l:=l) (by omega);have hq:=X6 1 0 (l:=m) (by omega);have b1:=YA 0 hg λc hc=>hj.right c hc
   have b2:=YA 0 hg2 λc hc=>hj2.right c hc
   unfold X5 at hp hq;rw [if_pos Ye] at hp hq b1 b2;rw [e1,e2,hb,hc];refine AU rfl ?_;apply BB;unfold Yb.j0;refine Ah (by decide) (BL hp (BL hq (BL J4 (AU rfl (BL (Pj hl hg) (BL (Pj hl2 hg2) (BL (Qn _ _ (by rw [List.length_map];omega)) (BG (Am _) ?_))))))));rw [beq_iff_eq,Bool.eq_iff_iff,same_iff,beq_iff_eq,toList_inj];constructor
   ·intro h;rw [h,b2] at b1;exact (congrArg Prod.fst b1).symm
   ·intro h;replace h:l.map (Xa 1 0)=m.map (Xa 1 0):=h;rw [<-Yc 0 l,h,Yc]
  ·rw [hb];refine AU rfl (Yd _ _ _ _ _ ?_);simpa using hc
 ·exact Ah hb (Yd _ _ _ _ _ rfl)
end Go.Proofs.YtikggnalmidlhaaGreatDoor.Pure
