/- JarThree's plain law: three jars are the same, or too many, however they are put together. -/
import Derived.Test.YtohjohhcjcljoaaGreatDoorGthree2
import Derived.Test.YtohjohhcjcljoaaGreatDoorYG
namespace Go.Proofs.YtohjohhcjcljoaaGreatDoor.Y
set_option linter.unusedVariables false
open RowKit Print Ak BR BS
def Ew (P:Nat->Prop):Prop:=∃ K,∀ k,K<=k->P k
theorem Ew.and {P Q:Nat->Prop} (h:Ew P) (h':Ew Q):Ew λk=>P k/\Q k:=by
 obtain ⟨a,ha⟩:=h;obtain ⟨b,hb⟩:=h';exact ⟨a+b,λk hk=>⟨ha k (by omega),hb k (by omega)⟩⟩
theorem Ew.of {P:Nat->Prop} (h:Ew P):∃ k,P k:=h.elim λK hK=>⟨K,hK _ (Nat.le_refl _)⟩
theorem Wv {a b:List SC}:∀ n,a.length+b.length<=n->(a.map kC).Sublist ((Qb a b).map kC):=by
 intro n;induction n generalizing a b with
 |zero=>
  intro h;obtain rfl:a=[]:=List.eq_nil_of_length_eq_zero (by omega);exact List.nil_sublist _
 |succ n ih=>
  intro h
  match a,b,h with
  |[],b,_=>exact List.nil_sublist _
  |x::a,[],_=>rw [show Qb (x::a) []=x::a from JM _];exact List.Sublist.refl _
  |x::a,y::b,h=>
   simp only [List.length_cons] at h;unfold Qb EG;split
   ·exact List.Sublist.cons_cons _ (ih (a:=a) (b:=y::b) (by simp only [List.length_cons];omega))
   ·split
    ·exact List.Sublist.cons _ (ih (a:=x::a) (b:=b) (by simp only [List.length_cons];omega))
    ·rename_i h1 h2;rw [List.map_cons,List.map_cons,J4 x y (WG.R9 h1 h2)];exact List.Sublist.cons_cons _ (ih (a:=a) (b:=b) (by omega))
theorem Ww (d:ByteArray) (m:List SC):KC d m=((m.map kC).filter λx=>decide (x.f0=d)).length:=by
 rw [List.filter_map,List.length_map];rfl
theorem Wj {a b:List SC} (h:Gi a=true):Gi (Qb a b)=true:=by
 have hs:=Wv (a:=a) (b:=b) _ (Nat.le_refl _);simp only [Gi,Bool.or_eq_true,List.any_eq_true,decide_eq_true_eq] at h⊢
 rcases h with ⟨x,hx,h⟩|h
 ·have hc:12<KC x.f0 (Qb a b):=by
   rw [Ww] at h⊢
   exact Nat.lt_of_lt_of_le h (hs.filter _).length_le
  refine .inl ?_;have hp:0<KC x.f0 (Qb a b):=by omega
  obtain ⟨z,hz⟩:=List.exists_mem_of_length_pos hp;simp only [List.mem_filter,decide_eq_true_eq] at hz;exact ⟨z,hz.1,by rw [hz.2];exact hc⟩
 ·refine .inr ?_;have:=hs.length_le;rw [List.length_map,List.length_map] at this;omega
theorem XE {a b:List SC} (ha:Ct WG kC a) (hb:Ct WG kC b) (hsa:∀ x∈a,ND x) (hsb:∀ x∈b,ND x):∀ x∈Qb a b,ND x:=by
 intro x hx;rcases (mem_merge J4 ha hb).1 hx with ⟨h,_⟩|⟨h,_⟩|⟨u,hu,v,hv,_,rfl⟩
 ·exact hsa _ h
 ·exact hsb _ h
 ·rcases Wt u v with h|h<;>rw [h]
  ·exact hsa _ hu
  ·exact hsb _ hv
theorem WS {a b:List SC} (ha:Ct WG kC a) (hb:Ct WG kC b):Ct WG kC (GM a b).1:=by
 unfold GM;split
 ·exact List.Pairwise.nil
 ·exact Qd ha hb
theorem WO {a b:List SC} (h:Gi (Qb a b)=true):GM a b=([],152):=by unfold GM;rw [if_pos h]
theorem WL {a b:List SC} (h:Gi (Qb a b)=false):GM a b=(Qb a b,0):=by unfold GM;rw [if_neg (by rw [h];simp)]
theorem three (l m n:List SC):∃ k,Wi k l m n:=by
 by_cases hf:Kg l=true/\Kg m=true/\Kg n=true
 ·obtain ⟨hl,hs⟩:=IC.1 hf.1;obtain ⟨hl2,hs2⟩:=IC.1 hf.2.1;obtain ⟨hl3,hs3⟩:=IC.1 hf.2.2;by_cases hr:F9 l=true/\F9 m=true/\F9 n=true
  ·have hj:=(Fu hs).1 hr.1;have hj2:=(Fu hs2).1 hr.2.1;have hj3:=(Fu hs3).1 hr.2.2;have q1:=O5 l m;have q2:=O5 m n;have q3:=Mv l m;have q4:=Mv (Qb l m) n;have q5:=O5 (GM l m).1 n;have q6:=O5 l (GM m n).1;have sm1:∀ x∈l,ND x:=λx hx=>(hs x hx).sm
   have sm2:∀ x∈m,ND x:=λx hx=>(hs2 x hx).sm
   have sm3:∀ x∈n,ND x:=λx hx=>(hs3 x hx).sm
   have hass:=Wo hj.rises hj2.rises hj3.rises;have O0:=JL hl hs;have O1:=JL hl2 hs2;have O2:=JL hl3 hs3;rw [Hz hj] at O0;rw [Hz hj2] at O1;rw [Hz hj3] at O2;obtain ⟨k,h⟩:=Ew.of (Ew.and (JK l) (Ew.and (JK m) (Ew.and (JK n) (Ew.and (Gr hl hs) (Ew.and (Gr hl2 hs2) (Ew.and (Gr hl3 hs3) (Ew.and O0 (Ew.and O1 (Ew.and O2
    (Ew.and (KA hj.rises hj2.rises (by omega)) (Ew.and (KA hj2.rises hj3.rises (by omega)) (Ew.and (KA (WS hj.rises hj2.rises) hj3.rises (by omega)) (Ew.and (KA hj.rises (WS hj2.rises hj3.rises) (by omega))
    (Ew.and (Re hj.rises hj2.rises (by omega) sm1 sm2) (Ew.and (Re (Qd hj.rises hj2.rises) hj3.rises (by omega) (XE hj.rises hj2.rises sm1 sm2) sm3) (Ew.and (LV (m:=Qb (Qb l m) n) (by omega))
    (Ew.and (Fb (Qb (Qb l m) n) (Qb (Qb l m) n) (by omega)) (OA (GM (GM l m).1 n).1 (GM l (GM m n).1).1 (by omega) (by omega)))))))))))))))))))
   obtain ⟨f0,f1,f2,r0,r1,r2,o0,o1,o2,m0,m1,m2,m3,j0,j1,mn,sm,js⟩:=h;refine ⟨k,_,f0,λ_=>⟨_,f1,λ_=>⟨_,f2,λ_=>⟨_,r0,λ_=>⟨_,r1,λ_=>⟨_,r2,λ_=>⟨_,_,_,_,_,_,_,_,_,_,_,_,_,_,_,_,o0,o1,o2,m0,m1,m2,m3,j0,j1,_,mn,λhm=>⟨?_,?_⟩,λhm=>?_⟩⟩⟩⟩⟩⟩⟩
   ·cases h1:Gi (Qb l m) with
    |true=>exact .inl (by rw [WO h1])
    |false=>exact .inr (by rw [WL h1,WO hm])
   ·cases h1:Gi (Qb m n) with
    |true=>exact .inl (by rw [WO h1])
    |false=>exact .inr (by rw [WL h1,WO (by rw [<-hass];exact hm)])
   ·have h1:Gi (Qb l m)=false:=by
     cases h:Gi (Qb l m) with
     |true=>rw [Wj h] at hm;exact absurd hm (by simp)
     |false=>rfl
    have h2:Gi (Qb m n)=false:=by
     cases h:Gi (Qb m n) with
     |true=>
      have e:Qb l (Qb m n)=Qb (Qb m n) l:=Rf hj.rises (Qd hj2.rises hj3.rises);rw [hass,e,Wj h] at hm;exact absurd hm (by simp)
     |false=>rfl
    have hm':Gi (Qb l (Qb m n))=false:=by rw [<-hass];exact hm
    have e1:=WL h1;have e2:=WL h2;have e3:GM (GM l m).1 n=(Qb (Qb l m) n,0):=by rw [e1];exact WL hm
    have e4:GM l (GM m n).1=(Qb l (Qb m n),0):=by rw [e2];exact WL hm'
    refine ⟨by rw [e1],by rw [e2],by rw [e3],by rw [e4],Qb (Qb l m) n,?_,?_,?_⟩
    ·rw [e3];exact F8 (m:=Qb (Qb l m) n) (by omega)
    ·exact sm.trans (by rw [EY])
    ·exact js.trans (by rw [e3,e4,hass,EY])
  ·obtain ⟨k,f0,f1,f2,r0,r1,r2⟩:=Ew.of (Ew.and (JK l) (Ew.and (JK m) (Ew.and (JK n) (Ew.and (Gr hl hs) (Ew.and (Gr hl2 hs2) (Gr hl3 hs3))))));exact ⟨k,_,f0,λ_=>⟨_,f1,λ_=>⟨_,f2,λ_=>⟨_,r0,λa=>⟨_,r1,λb=>⟨_,r2,λc=>absurd ⟨a,b,c⟩ hr⟩⟩⟩⟩⟩⟩
 ·obtain ⟨k,f0,f1,f2⟩:=Ew.of (Ew.and (JK l) (Ew.and (JK m) (JK n)));exact ⟨k,_,f0,λa=>⟨_,f1,λb=>⟨_,f2,λc=>absurd ⟨a,b,c⟩ hf⟩⟩⟩
end Go.Proofs.YtohjohhcjcljoaaGreatDoor.Y
