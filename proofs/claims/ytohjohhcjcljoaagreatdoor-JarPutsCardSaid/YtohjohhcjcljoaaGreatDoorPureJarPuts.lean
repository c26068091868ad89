/- JarPuts: a jar with a cookie more is the document's; the cookie is in it; the jar that was stays. -/
import Derived.Test.YtohjohhcjcljoaaGreatDoorPrint24
import Derived.Test.YtohjohhcjcljoaaGreatDoorYjarP
namespace Go.Proofs.YtohjohhcjcljoaaGreatDoor.Pure
open RowKit Print Ak BR BS Y
theorem JarPuts:AY.Pure:=by
 intro l c0 c1 c2 c3 c4 c5 c6 c7 c8 c9 c10 hw _ _ _ _ _ _ _ _;apply Ev.rounds;simp only [AY.f];have no:Ev (λk=>AY.j0 k l true c0 c1 c2 c3 c4 c5 c6 c7 c8 c9 c10) true:=by
  refine BQ ?_;simp only [AY.j0,Bh.f,Option.bind_some];exact AZ trivial (Ay _)
 refine Az (JK l) ?_;by_cases hf:Kg l=true
 ·refine AZ hf ?_;obtain ⟨hl,hs⟩:=IC.1 hf;refine Az (Gr hl hs) ?_;by_cases hr:F9 l=true
  ·have hj:=(Fu hs).1 hr;refine AZ hr (Az (JK _) ?_);by_cases hg:Kg [(⟨c0,c1,c2,c3,c4,c5,c6,c7,c8,c9,c10⟩:SC)]=true
   ·rw [hg];have hc:Gn (⟨c0,c1,c2,c3,c4,c5,c6,c7,c8,c9,c10⟩:SC):=(IC.1 hg).2 _ (List.mem_singleton.2 rfl);have hp:=Rt (⟨c0,c1,c2,c3,c4,c5,c6,c7,c8,c9,c10⟩:SC) hj;have ep:=Qe hj hl hc;have er:=Rq hj hl hc hs;refine BQ ?_;simp only [AY.j0];refine Aq (by decide) (Az (JL hl hs) ?_);simp only [Hz hj];refine Az ep (Az er ?_);simp only [F8 (show l.length<=10000 by omega),F8 (show (Y.I1 l (⟨c0,c1,c2,c3,c4,c5,c6,c7,c8,c9,c10⟩:SC)).1.length<=10000 by omega),Option.bind_some];refine Az (Fb _ _ (by omega)) (AZ (EY _) (AZ trivial (Az (Fb _ _ (by omega)) ?_)));rw [EY];refine BQ ?_;simp only [AY.j1,CQ.Da.f,Bh.f,Option.bind_some];refine Aq (by decide) ?_;by_cases h0:(Y.I1 l (⟨c0,c1,c2,c3,c4,c5,c6,c7,c8,c9,c10⟩:SC)).2=0
    ·obtain ⟨e1,hj2⟩:=Rs hj h0;have hlen:=IE (⟨c0,c1,c2,c3,c4,c5,c6,c7,c8,c9,c10⟩:SC) hj.rises;have hfd:=O7 (kC (⟨c0,c1,c2,c3,c4,c5,c6,c7,c8,c9,c10⟩:SC)) hj2.rises (by omega);rw [Ru _ hj.rises] at hfd;rw [e1];have hfd2:Cv.f ((Gg (⟨c0,c1,c2,c3,c4,c5,c6,c7,c8,c9,c10⟩:SC) l).map Dx) c0 c1 c2=some (c0,c1,c2,c3,c4,c5,c6,c7,c8,c9,c10,true):=hfd;simp only [hfd2,Option.bind_some,F8 (show (Gg (⟨c0,c1,c2,c3,c4,c5,c6,c7,c8,c9,c10⟩:SC) l).length<=10000 by omega)];have hl2:(Gg (⟨c0,c1,c2,c3,c4,c5,c6,c7,c8,c9,c10⟩:SC) l).length<=100:=by
      have:=hj2.few;unfold Gi at this;simp only [Bool.or_eq_false_iff,decide_eq_false_iff_not] at this;omega
     refine AZ trivial (AZ h0 (AZ trivial (AZ ((VJ (⟨c0,c1,c2,c3,c4,c5,c6,c7,c8,c9,c10⟩:SC) ⟨c0,c1,c2,c3,c4,c5,c6,c7,c8,c9,c10⟩).2 rfl) (Az (KE hl2 (λx hx=>(Jj hx).elim (λe=>e▸hc) (hs x))) (Ba (Ay _) ?_)))));exact (Fu (λx hx=>(Jj hx).elim (λe=>e▸hc) (hs x))).2 hj2
    ·have hz:(Y.I1 l (⟨c0,c1,c2,c3,c4,c5,c6,c7,c8,c9,c10⟩:SC)).1=[]:=by
      unfold Y.I1 at h0⊢
      split
      ·rename_i h1;rw [if_pos h1] at h0;split
       ·rfl
       ·rename_i h2;rw [if_neg h2] at h0;exact absurd rfl h0
      ·rfl
     rw [hz];have hfd:=O7 (m:=[]) (kC (⟨c0,c1,c2,c3,c4,c5,c6,c7,c8,c9,c10⟩:SC)) List.Pairwise.nil (Nat.zero_le _);have hfd2:Cv.f (([]:List SC).map Dx) c0 c1 c2=some (⟨#[]⟩,⟨#[]⟩,⟨#[]⟩,⟨#[]⟩,0,0,0,false,false,false,0,false):=hfd;simp only [hfd2,Option.bind_some];exact AZ trivial (Aq h0 (Ay _))
   ·rw [show Kg [(⟨c0,c1,c2,c3,c4,c5,c6,c7,c8,c9,c10⟩:SC)]=false by simpa using hg];exact no
  ·exact Aq hr no
 ·exact Aq hf no
end Go.Proofs.YtohjohhcjcljoaaGreatDoor.Pure
