/- SnapBack: what was written of a jar is read as the jar that the format keeps. -/
import Derived.Test.YtfggjdkccdkogaaGreatDoorPrint31
import Derived.Test.YtfggjdkccdkogaaGreatDoorYV
namespace Go.Proofs.YtfggjdkccdkogaaGreatDoor.Pure
open RowKit Print Ac Aq Aw Y
theorem SnapBack:BQ.Pure:=by
 intro v l hw _;apply Ev.rounds;unfold BQ.f;refine AY (Qq l) ?_;have bad:∀ b (t:ByteArray) x,x=true->(b=true->¬(1<=v/\v<=3))->Ev (λk=>BQ.j0 k v l b t x) true:=by
  rintro b t x rfl hb;apply Az;unfold BQ.j0;refine AU rfl (AY Ez (AU rfl ?_));by_cases h:b=true
  ·refine AU h ?_;have:=hb h;by_cases h1:v<1
   ·exact AU h1 (Ad _)
   ·exact Ab h1 (BJ (Ad _) (decide_eq_true (by omega)))
  ·exact Ab h (Ad _)
 by_cases hb:(Hf l).2=true
 ·obtain ⟨e1,hl,hj,hs⟩:=OY hb;rw [e1,hb];refine AY (K8 hl hs) (AU rfl ?_);unfold Lp;by_cases hv:1<=v/\v<=3
  ·rw [if_pos hv];apply Az;unfold BQ.j0;have hm:KA (3+v) 0:=⟨by omega,by decide⟩;have hp:=Vr (3+v) 0 (l:=l) (by omega);unfold Vo at hp;rw [if_pos hm] at hp;refine Ab (by simp) (AY (Rn hv hs hj) ?_);rw [show wrap64 (3+v)=3+v by unfold wrap64;omega];refine AY hp (AY Ez (AU rfl (AU rfl (AY (Ku _ _ (by rw [List.length_map];omega)) ?_))));rw [JA];exact AU rfl (BJ (Ad _) rfl)
  ·rw [if_neg hv];exact bad _ _ _ rfl λ_=>hv
 ·have hbf:(Hf l).2=false:=by simpa using hb
  have h0:(Hf l).1=[]:=by
   unfold Hf at hb⊢
   split at hb
   ·exact absurd rfl hb
   ·rename_i hh;rw [if_neg hh]
  rw [hbf,h0];refine AY (K8 (v:=v) (l:=[]) (Nat.zero_le _) (λc hc=>by cases hc)) (Ab (by decide) (bad _ _ _ rfl λh=>by cases h))
end Go.Proofs.YtfggjdkccdkogaaGreatDoor.Pure
