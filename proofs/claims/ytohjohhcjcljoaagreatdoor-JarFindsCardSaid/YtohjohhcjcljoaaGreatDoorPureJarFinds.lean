/- JarFinds: the cookie with any key, or none, and how many of a domain, are the document's; without it all others are there. -/
import Derived.Test.YtohjohhcjcljoaaGreatDoorPrint25
import Derived.Test.YtohjohhcjcljoaaGreatDoorYjarP
namespace Go.Proofs.YtohjohhcjcljoaaGreatDoor.Pure
open RowKit Print Ak BR BS Y
theorem UJ {l:List SC} (a:E9) (hl:l.length<=100) (hj:LW l):Ev (λk=>AU.j1 k l false a.f0 a.f1 a.f2 (l.map Dx) ((IG Cs kC a l).map Dx)) true:=by
 have ho:=Ko a hj.rises;refine BQ ?_;simp only [AU.j1,Bh.f,TM a.f0 (show l.length<=10000 by omega),F8 (show l.length<=10000 by omega),F8 (show (IG Cs kC a l).length<=10000 by omega),Option.bind_some];exact Aq (by decide) (AZ trivial (Az (ME a.f0 (by omega)) (AZ rfl (Az (OG a hj.rises (by omega)) (Az (Fb _ _ (by omega)) (AZ (EY _) (Az (Fb _ _ (by omega)) (Ba (Ay _) (EY _)))))))))
theorem JarFinds:AU.Pure:=by
 intro l a0 a1 a2 hw _ _ _;apply Ev.rounds;simp only [AU.f];have no:Ev (λk=>AU.j0 k l true a0 a1 a2) true:=by
  refine BQ ?_;simp only [AU.j0,Bh.f,Option.bind_some];exact AZ trivial (Ay _)
 refine Az (JK l) ?_;by_cases hf:Kg l=true
 ·refine AZ hf ?_;obtain ⟨hl,hs⟩:=IC.1 hf;refine Az (Gr hl hs) ?_;by_cases hr:F9 l=true
  ·have hj:=(Fu hs).1 hr;rw [hr];obtain ⟨a,ha⟩:∃ a:E9,a=⟨a0,a1,a2⟩:=⟨_,rfl⟩;have hfd:=O7 (⟨a0,a1,a2⟩:E9) hj.rises (show l.length<=1000 by omega);have hdr:=Rp (⟨a0,a1,a2⟩:E9) hj.rises (show l.length<=1000 by omega);have hix:=OH (m:=l) (⟨a0,a1,a2⟩:E9) (by omega);have h1:=UJ (⟨a0,a1,a2⟩:E9) hl hj;obtain ⟨hn,hy⟩:=Mx (⟨a0,a1,a2⟩:E9) l;rw [TN] at hdr;refine BQ ?_;simp only [AU.j0];refine Aq (by decide) (Az (JL hl hs) ?_);simp only [Hz hj];dsimp only at hfd;cases h:Y.look kC l (⟨a0,a1,a2⟩:E9) with
   |none=>
    rw [h] at hfd hdr;rw [hn h] at hix;simp only [hfd,Option.bind_some];refine Az hix (Az hdr (Aq (by decide) (Aq (λh2=>absurd h2 (by rw [show ((none:Option SC).isSome != false)=false from rfl];decide)) (Aq (by decide) ?_))));simp only [show (⟨#[]⟩:ByteArray).toList=[] by rw [toList_data]];exact h1
   |some x=>
    rw [h] at hfd hdr;obtain ⟨i,hi,e1,e2⟩:=hy x h;rw [e1] at hix;simp only [hfd,Option.bind_some];refine Az hix (Az hdr (Aq ?_ (Aq (λh2=>absurd h2 (by rw [show ((some x).isSome != true)=false from rfl];decide)) (AZ trivial (AZ (by omega) (AZ (by omega) ?_))))))
    ·rw [decide_eq_true (show (i:Int)>=0 by omega)];decide
    rw [OV hi,e2];exact Aq (λh2=>(Rj x x).1 h2 rfl) h1
  ·rw [show F9 l=false by simpa using hr];exact no
 ·exact Aq hf no
end Go.Proofs.YtohjohhcjcljoaaGreatDoor.Pure
