/- JarGreater's plain law: of two jars put together each cookie is one of theirs, and no less than what either has of its key. -/
import Derived.Test.YtohjohhcjcljoaaGreatDoorGgreat
import Derived.Test.YtohjohhcjcljoaaGreatDoorYthree
namespace Go.Proofs.YtohjohhcjcljoaaGreatDoor.Y
set_option linter.unusedVariables false
open RowKit Print Ak BR BS
def Xd:SC:=⟨⟨#[]⟩,⟨#[]⟩,⟨#[]⟩,⟨#[]⟩,0,0,0,false,false,false,0⟩
theorem XN {m:List SC} (k:SC) (h:Ct WG kC m) (hb:m.length<=1000):finds (m.map Dx) k ((look kC m (kC k)).getD Xd) (look kC m (kC k)).isSome:=by
 have:=O7 (kC k) h hb;unfold finds;refine this.trans ?_;cases look kC m (kC k)<;>rfl
theorem Xi (x y:SC):FE.f x.f0 x.f1 x.f2 x.f3 x.f4 x.f5 x.f6 x.f7 x.f8 x.f9 x.f10 y.f0 y.f1 y.f2 y.f3 y.f4 y.f5 y.f6 y.f7 y.f8 y.f9 y.f10=some (JD (O3 x) (O3 y)):=M5 _ _ _ _ _ _ _ _ _ _ _ _ _ _ _ _ _ _ _ _ _ _
theorem XY (x y:SC):0<=JD (O3 (gC x y)) (O3 x)/\0<=JD (O3 (gC x y)) (O3 y):=by
 have h1:=Pm KH (O3 x) (O3 y);have h2:=Nl KH (O3 x) (O3 y);have a1:=KH.anti (O3 x) (SE (O3 x) (O3 y));have a2:=KH.anti (O3 y) (SE (O3 x) (O3 y));unfold gC;rw [XD];unfold SE at a1 a2⊢
 omega
theorem great (l m:List SC):∃ k,XX k l m:=by
 by_cases hf:Kg l=true/\Kg m=true
 ·obtain ⟨hl,hs⟩:=IC.1 hf.1;obtain ⟨hl2,hs2⟩:=IC.1 hf.2;by_cases hr:F9 l=true/\F9 m=true
  ·have hj:=(Fu hs).1 hr.1;have hj2:=(Fu hs2).1 hr.2;have q1:=O5 l m;have q3:=Mv l m;have O0:=JL hl hs;have O1:=JL hl2 hs2;rw [Hz hj] at O0;rw [Hz hj2] at O1;have hri:=Qd hj.rises hj2.rises;obtain ⟨k,f0,f1,r0,r1,o0,o1,m0⟩:=Ew.of (Ew.and (JK l) (Ew.and (JK m) (Ew.and (Gr hl hs) (Ew.and (Gr hl2 hs2) (Ew.and O0 (Ew.and O1 (KA hj.rises hj2.rises (by omega))))))));refine ⟨k,_,f0,λ_=>⟨_,f1,λ_=>⟨_,r0,λ_=>⟨_,r1,λ_=>⟨_,_,_,_,_,_,o0,o1,m0,by omega,λhe=>?_,λhe=>?_⟩⟩⟩⟩⟩
   ·cases h1:Gi (Qb l m) with
    |true=>rw [WO h1];rfl
    |false=>rw [WL h1] at he;exact absurd rfl he
   ·have h1:Gi (Qb l m)=false:=by
     cases h:Gi (Qb l m) with
     |true=>rw [WO h] at he;exact absurd he (by decide)
     |false=>rfl
    rw [WL h1];refine ⟨λc hc=>?_,Qb l m,F8 (m:=Qb l m) (by omega),by omega,λd hd=>?_⟩
    ·have hk:=XN c hri (by omega);have hm:=II J4 hj.rises hj2.rises (kC c);have hz:∃ d,look kC (Qb l m) (kC c)=some d/\0<=JD (O3 d) (O3 c):=by
      have e0:0<=JD (O3 c) (O3 c):=by rw [L8 KH];exact Int.le_refl _
      rcases List.mem_append.1 hc with h|h
      ·rw [(EJ hj.rises).2 ⟨h,rfl⟩] at hm;cases e:look kC m (kC c) with
       |none=>rw [e] at hm;exact ⟨_,hm,e0⟩
       |some y=>rw [e] at hm;exact ⟨_,hm,(XY c y).1⟩
      ·rw [(EJ hj2.rises).2 ⟨h,rfl⟩] at hm;cases e:look kC l (kC c) with
       |none=>rw [e] at hm;exact ⟨_,hm,e0⟩
       |some y=>rw [e] at hm;exact ⟨_,hm,(XY y c).2⟩
     obtain ⟨d,hd,hge⟩:=hz;rw [hd] at hk;exact ⟨d,_,hk,Xi d c,hge⟩
    ·refine ⟨_,_,_,_,XN (m:=l) d hj.rises (by omega),XN (m:=m) d hj2.rises (by omega),?_⟩;have left:∀ u∈l,u=d->(look kC l (kC d)).isSome=true/\(look kC l (kC d)).getD Xd=d:=by
      rintro u hu rfl;rw [(EJ hj.rises).2 ⟨hu,rfl⟩];exact ⟨rfl,rfl⟩
     have right:∀ u∈m,u=d->(look kC m (kC d)).isSome=true/\(look kC m (kC d)).getD Xd=d:=by
      rintro u hu rfl;rw [(EJ hj2.rises).2 ⟨hu,rfl⟩];exact ⟨rfl,rfl⟩
     rcases (mem_merge J4 hj.rises hj2.rises).1 hd with ⟨h,_⟩|⟨h,_⟩|⟨u,hu,v,hv,_,e⟩
     ·exact .inl (left d h rfl)
     ·exact .inr (right d h rfl)
     ·rcases Wt u v with h|h
      ·exact .inl (left u hu (by rw [e,h]))
      ·exact .inr (right v hv (by rw [e,h]))
  ·obtain ⟨k,f0,f1,r0,r1⟩:=Ew.of (Ew.and (JK l) (Ew.and (JK m) (Ew.and (Gr hl hs) (Gr hl2 hs2))));exact ⟨k,_,f0,λ_=>⟨_,f1,λ_=>⟨_,r0,λa=>⟨_,r1,λb=>absurd ⟨a,b⟩ hr⟩⟩⟩⟩
 ·obtain ⟨k,f0,f1⟩:=Ew.of (Ew.and (JK l) (JK m));exact ⟨k,_,f0,λa=>⟨_,f1,λb=>absurd ⟨a,b⟩ hf⟩⟩
end Go.Proofs.YtohjohhcjcljoaaGreatDoor.Y
