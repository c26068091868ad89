/- What the program and the document write of a jar: the same lines; each line is read as what the format keeps of its cookie. -/
import Derived.Test.YtikggnalmidlhaaGreatDoorM42
namespace Go.Proofs.YtikggnalmidlhaaGreatDoor.Y
set_option linter.unusedVariables false
set_option linter.unusedSimpArgs false
open RowKit Print AR Aa Ad
theorem FM {α:Type} {o:Option α} {r:α} (h:o=some r):Ev (λ_=>o) r:=⟨0,λ_ _=>h⟩
def JC (b:Bool):ByteArray:=if b=true then ⟨#[84,82,85,69]⟩ else ⟨#[70,65,76,83,69]⟩
theorem Qx (b:Bool):EA.f b=some (JC b):=by cases b<;>rfl
theorem Ou (b:Bool):BV.f b=some (JC b):=by cases b<;>rfl
theorem Gz (b:Bool):(JC b).size<=5:=by cases b<;>decide
def F8 (c:SC):ByteArray:=if c.f7=true then c.f0 else O4++c.f0
def Fq (c:SC):ByteArray:=if c.f9=true then Fb++F8 c else F8 c
def Ec (c:SC):ByteArray:=GI [Fq c,JC (!c.f7),c.f1,JC c.f8,EW c.f6,c.f2,c.f3]
def XY (c:SC):ByteArray:=GI [F8 c,JC (!c.f7),c.f1,JC c.f8,EW c.f6,c.f2,c.f3]
theorem Kz {n:Int} (h:KE n):(EW n).size<=20:=by
 rw [<-bytesOf_length,Dm];exact Ku h.1 h.2
theorem Nn {c:SC} (h:EO c):(Fq c).size<=311:=by
 have h0:=h.1;have h1:Fb.size=10:=rfl;have h2:O4.size=1:=rfl;unfold Fq F8;split<;>split<;>(try simp only [ByteArray.size_append])<;>omega
theorem Io {c:SC} (h:EO c) (hi:KE c.f6):(Ec c).size<=2000:=by
 have h0:=Nn h;have h1:=Gz (!c.f7);have h2:=Gz c.f8;have h3:=Kz hi;have h4:=h.2.1;have h5:=h.2.2.1;have h6:=h.2.2.2;unfold Ec;rw [Nl];omega
theorem Ph {c:Int} (h:Hg c=true):c≠9/\c≠10/\c≠13/\c≠35/\c≠46:=by
 unfold Hg at h;simp only [Bool.or_eq_true,decide_eq_true_iff] at h;omega
theorem Qy {l:List Int}:∀ c∈l,c=46\/∃ p∈Bq l,c∈p:=by
 induction l with
 |nil=>intro c hc;cases hc
 |cons x l ih=>
  intro c hc;by_cases hx:x=46
  ·rcases List.mem_cons.1 hc with rfl|hc
   ·exact .inl hx
   ·rcases ih c hc with h|⟨p,hp,h⟩
    ·exact .inl h
    ·exact .inr ⟨p,by unfold Bq;rw [if_pos hx];exact .tail _ hp,h⟩
  ·cases hs:Bq l with
   |nil=>exact absurd hs (Gw l)
   |cons q t=>
    have e:Bq (x::l)=(x::q)::t:=by rw [Bq,if_neg hx,hs];rfl
    rw [e];rcases List.mem_cons.1 hc with rfl|hc
    ·exact .inr ⟨_, .head _, .head _⟩
    ·rcases ih c hc with h|⟨p,hp,h⟩
     ·exact .inl h
     ·rw [hs] at hp;rcases List.mem_cons.1 hp with rfl|hp
      ·exact .inr ⟨_, .head _, .tail _ h⟩
      ·exact .inr ⟨p, .tail _ hp,h⟩
theorem M5 {l:List Int} (h:∀ p∈Bq l,p≠[]):∃ x r,l=x::r/\x≠46:=by
 cases l with
 |nil=>exact absurd rfl (h [] (by simp [Bq]))
 |cons x r=>
  refine ⟨x,r,rfl,λhx=>?_⟩;exact absurd rfl (h [] (by unfold Bq;rw [if_pos hx];exact .head _))
structure F9 (c:SC):Prop where
 canon:EK c.f0=(c.f0,true)
 dom:∀ x∈bytesOf c.f0,x=46\/Hg x=true
 first:∃ x r,bytesOf c.f0=x::r/\Hg x=true
 path:ED (bytesOf c.f1)
 name:ED (bytesOf c.f2)
 value:ED (bytesOf c.f3)
 exp:KE c.f6
theorem Sc {c:SC} (h:GN c=true):F9 c:=by
 unfold GN Ir Pn M8 Iq JE Nt Nu J7 at h;simp only [Bool.and_eq_true,decide_eq_true_eq] at h;obtain ⟨h1,h2,_,⟨_,_,_,h3⟩,⟨_,h4⟩,_,h5,_,⟨_,_,h6⟩,_⟩:=h;rcases hc:EK c.f0 with ⟨t,b⟩
 rw [hc] at h1 h2;dsimp only at h1 h2;subst h1;have ht:t=c.f0:=DI h2;subst ht;obtain ⟨e,_,hp⟩:=PV hc;rw [<-e] at hp;have hall:∀ p∈Bq (bytesOf c.f0),p≠[]/\∀ x∈p,Hg x=true:=by
  intro p hpm;rw [<-Gn] at hpm;obtain ⟨q,hq,rfl⟩:=List.mem_map.1 hpm;have:=List.all_eq_true.1 hp q hq;unfold KT at this;simp only [Bool.and_eq_true,decide_eq_true_eq] at this;refine ⟨λe=>?_,List.all_eq_true.1 this.2.2.2.2⟩;have:=GX.1 e;omega
 have hdom:∀ x∈bytesOf c.f0,x=46\/Hg x=true:=by
  intro x hx;rcases Qy x hx with h|⟨p,hp,h⟩
  ·exact .inl h
  ·exact .inr ((hall p hp).2 x h)
 obtain ⟨x,r,hl,hx⟩:=M5 λp hp=>(hall p hp).1
 refine ⟨hc,hdom,⟨x,r,hl,?_⟩,λx hx=>?_,λx hx=>?_,λx hx=>?_,?_⟩
 ·rcases hdom x (by rw [hl];exact .head _) with h|h
  ·exact absurd h hx
  ·exact h
 ·have:=List.all_eq_true.1 h3 x hx;unfold FP at this;simp only [Bool.and_eq_true,decide_eq_true_eq] at this;omega
 ·have:=List.all_eq_true.1 h4 x hx;unfold Ga at this;simp only [Bool.or_eq_true,decide_eq_true_eq] at this;omega
 ·have:=List.all_eq_true.1 h5 x hx;unfold Gb at this;simp only [Bool.and_eq_true,decide_eq_true_eq] at this;omega
 ·unfold L6 at h6;simp only [Bool.and_eq_true,decide_eq_true_eq] at h6;unfold KE;omega
theorem J2 (b:Bool):ED (bytesOf (JC b)):=by
 unfold ED;cases b<;>decide
theorem Np (n:Int):ED (bytesOf (EW n)):=by
 intro x hx;rw [Dm] at hx;unfold EJ at hx;split at hx
 ·rcases List.mem_cons.1 hx with rfl|hx
  ·decide
  ·have:=II _ x hx;omega
 ·have:=II _ x hx;omega
theorem K3 {a b:ByteArray} (ha:ED (bytesOf a)) (hb:ED (bytesOf b)):ED (bytesOf (a++b)):=by
 intro x hx;rw [Dw] at hx;rcases List.mem_append.1 hx with h|h
 ·exact ha x h
 ·exact hb x h
theorem J3 {c:SC} (h:F9 c):ED (bytesOf (F8 c)):=by
 have hd:ED (bytesOf c.f0):=λx hx=>by
  rcases h.dom x hx with rfl|h
  ·decide
  ·have:=Ph h;exact ⟨this.1,this.2.1,this.2.2.1⟩
 unfold F8;split
 ·exact hd
 ·exact K3 (by unfold ED;decide) hd
theorem JD {c:SC} (h:F9 c):ED (bytesOf (Fq c)):=by
 unfold Fq;split
 ·exact K3 (by unfold ED;decide) (J3 h)
 ·exact J3 h
theorem IM {c:SC} (h:F9 c) {w:ByteArray} (hw:ED (bytesOf w)):∀ x∈[w,JC (!c.f7),c.f1,JC c.f8,EW c.f6,c.f2,c.f3],ED (bytesOf x):=by
 simp only [List.mem_cons,List.not_mem_nil,or_false,forall_eq_or_imp,forall_eq];exact ⟨hw,J2 _,h.path,J2 _,Np _,h.name,h.value⟩
theorem Sd {n:Int} (h:KE n):Dr.f n=some (EW n):=by
 unfold Dr.f strconv_Itoa.f;rw [if_pos h.1,if_pos h.2]
theorem Sg {c:SC} (hf:EO c) (hg:F9 c):Ev (λk=>Au.j1 k (Fq c) c.f0 c.f1 c.f2 c.f3 c.f4 c.f5 c.f6 c.f7 c.f8 c.f9 c.f10) (Ec c):=by
 apply BB;unfold Au.j1;refine BL (FM (Qx _)) (BL (FM (Qx _)) (BL (FM (Sd hg.exp)) ?_));rw [Qw (IM hg (JD hg)) (by have:=Io hf hg.exp;unfold Ec at this;omega)];exact Am _
theorem Si {c:SC} (hf:EO c) (hg:F9 c):Ev (λk=>Au.f k c.f0 c.f1 c.f2 c.f3 c.f4 c.f5 c.f6 c.f7 c.f8 c.f9 c.f10) (Ec c):=by
 have h1:=Sg hf hg;have hs:=hf.1;have j0:Ev (λk=>Au.j0 k (F8 c) c.f0 c.f1 c.f2 c.f3 c.f4 c.f5 c.f6 c.f7 c.f8 c.f9 c.f10) (Ec c):=by
  apply BB;unfold Au.j0;have hn:(F8 c).size<=301:=by
   have h2:O4.size=1:=rfl;unfold F8;split
   ·omega
   ·rw [ByteArray.size_append];omega
  by_cases h9:c.f9=true
  ·refine AU h9 (AU (by omega) ?_);unfold Fq at h1;rw [if_pos h9] at h1;exact h1
  ·refine Ah h9 ?_;unfold Fq at h1;rw [if_neg h9] at h1;exact h1
 unfold Au.f;by_cases h7:c.f7=true
 ·refine AU h7 ?_;unfold F8 at j0;rw [if_pos h7] at j0;exact j0
 ·refine Ah h7 (AU (by omega) ?_);unfold F8 at j0;rw [if_neg h7] at j0;exact j0
theorem K4:bytesOf (⟨#[9]⟩:ByteArray)=[9]:=rfl
theorem Nq {c:SC} (hf:EO c) (hi:KE c.f6):Ev (λk=>Al.f k c.f0 c.f1 c.f2 c.f3 c.f4 c.f5 c.f6 c.f7 c.f8 c.f9 c.f10) (Ec c):=by
 have s0:=hf.1;have s1:=hf.2.1;have s2:=hf.2.2.1;have s3:=hf.2.2.2;have sw:=Gz (!c.f7);have sv:=Gz c.f8;have si:=Kz hi;have st:(⟨#[9]⟩:ByteArray).size=1:=rfl;have sh:(⟨#[35,72,116,116,112,79,110,108,121,95]⟩:ByteArray).size=10:=rfl;have j0:∀ x:ByteArray,x=F8 c->x.size<=301->Ev (λk=>Al.j0 k x c.f0 c.f1 c.f2 c.f3 c.f4 c.f5 c.f6 c.f7 c.f8 c.f9 c.f10) (Ec c):=by
  intro x hx sx;apply BB;unfold Al.j0;by_cases h9:c.f9=true
  ·refine AU h9 ?_;repeat first|refine AU (by (try simp only [ByteArray.size_append,st,sh]);omega) ?_|refine BL (FM (Ou _)) ?_|refine BL (FH hi) ?_
   refine BG (Am _) (DI ?_);unfold Ec Fq;rw [Fj,if_pos h9,hx];simp only [Dw,K4,List.append_assoc,List.singleton_append,List.cons_append,List.nil_append];rfl
  ·refine Ah h9 ?_;repeat first|refine AU (by (try simp only [ByteArray.size_append,st,sh]);omega) ?_|refine BL (FM (Ou _)) ?_|refine BL (FH hi) ?_
   refine BG (Am _) (DI ?_);unfold Ec Fq;rw [Fj,if_neg h9,hx];simp only [Dw,K4,List.append_assoc,List.singleton_append,List.cons_append,List.nil_append]
 have sd:O4.size=1:=rfl;unfold Al.f;by_cases h7:c.f7=true
 ·exact AU h7 (j0 _ (by unfold F8;rw [if_pos h7]) (by omega))
 ·exact Ah h7 (AU (by omega) (j0 _ (by unfold F8;rw [if_neg h7];rfl) (by rw [ByteArray.size_append];show 1+_<=_;omega)))
def Lm (l:List SC):ByteArray:=UQ (G7::l.map Ec)
theorem Qz:KU (bytesOf G7)=false:=by decide
theorem Q0 {c:SC} (h:F9 c):KU (bytesOf (Ec c))=false:=by
 have hc:=IM h (JD h);simp only [List.mem_cons,List.not_mem_nil,or_false,forall_eq_or_imp,forall_eq] at hc;obtain ⟨c0,c1,c2,c3,c4,c5,c6⟩:=hc;have hm:∀ x∈bytesOf (Ec c),x≠10/\x≠13:=by
  intro x hx;unfold Ec at hx;rw [Fj] at hx;simp only [List.mem_append,List.mem_cons] at hx;rcases hx with h|h|h|h|h|h|h|h|h|h|h|h|h
  ·exact (c0 x h).2
  ·omega
  ·exact (c1 x h).2
  ·omega
  ·exact (c2 x h).2
  ·omega
  ·exact (c3 x h).2
  ·omega
  ·exact (c4 x h).2
  ·omega
  ·exact (c5 x h).2
  ·omega
  ·exact (c6 x h).2
 unfold KU;rw [Bool.or_eq_false_iff,List.any_eq_false];refine ⟨λx hx=>by simp [(hm x hx).1],decide_eq_false λe=>?_⟩;exact (hm 13 (List.mem_of_getLast? e)).2 rfl
theorem Q3 {l:List SC} (hg:∀ c∈l,EO c/\F9 c):∀ x∈G7::l.map Ec,x.size<=2000/\KU (bytesOf x)=false:=by
 intro x hx;rcases List.mem_cons.1 hx with rfl|hx
 ·exact ⟨by decide,Qz⟩
 ·obtain ⟨c,hc,rfl⟩:=List.mem_map.1 hx;exact ⟨Io (hg c hc).1 (hg c hc).2.exp,Q0 (hg c hc).2⟩
theorem Q4 (l:List SC) (hl:l.length<=100) (hg:∀ c∈l,EO c/\F9 c):∀ d j,j+d=l.length->
 Ev (λk=>BQ.l0 k (G7::(l.take j).map Ec) l (l.length:Int) (j:Int)) (Lm l):=by
 intro d;induction d with
 |zero=>
  intro j hj;apply BB;unfold BQ.l0;rw [List.take_of_length_le (by omega),UR (Q3 hg) (by simp;omega)];exact Ah (by omega) (Am _)
 |succ d ih=>
  intro j hj;have hlt:j<l.length:=by omega
  have hm:=hg _ (List.getElem_mem hlt);apply BB;unfold BQ.l0;refine AU (by omega) (AU (by omega) (AU (by omega) ?_));rw [Pq hlt,GY (by omega)];refine BL (Si hm.1 hm.2) (AU (by simp;omega) ?_);have e:(G7::(l.take j).map Ec)++[Ec l[j]]=G7::(l.take (j+1)).map Ec:=by
   rw [List.take_add_one,List.getElem?_eq_getElem hlt,List.map_append];rfl
  rw [e];exact ih (j+1) (by omega)
theorem Pj {l:List SC} (hl:l.length<=100) (hg:∀ c∈l,EO c/\F9 c):Ev (λk=>BQ.f k (l.map FC)) (Lm l):=by
 unfold BQ.f;exact BL (FM (UK (by omega))) (Q4 l hl hg l.length 0 (by omega))
theorem Pk (l:List SC) (hl:l.length<=100) (hg:∀ c∈l,EO c/\F9 c):∀ d j (out:ByteArray),j+d=l.length->out.size<=28+2001*j->
 Ev (λk=>BK.l0 k l out (j:Int)) (Qu out ((l.drop j).map Ec)):=by
 intro d;induction d with
 |zero=>
  intro j out hj ho;rw [List.drop_eq_nil_of_le (by omega)];apply BB;unfold BK.l0;exact Ah (by omega) (Am _)
 |succ d ih=>
  intro j out hj ho;have hlt:j<l.length:=by omega
  have hm:=hg _ (List.getElem_mem hlt);have hz:=Io hm.1 hm.2.exp;have h3:(⟨#[10]⟩:ByteArray).size=1:=rfl;apply BB;unfold BK.l0;refine AU (by omega) (AU (by omega) ?_);rw [Pq hlt,GY (by omega),List.drop_eq_getElem_cons hlt,List.map_cons,Ky];refine BL (Nq hm.1 hm.2.exp) (AU (by omega) (AU (by simp only [ByteArray.size_append];omega) ?_));exact ih (j+1) _ (by omega) (by simp only [ByteArray.size_append,h3];omega)
theorem Nr {l:List SC} (hl:l.length<=100) (hg:∀ c∈l,EO c/\F9 c):Ev (λk=>BK.f k l) (Lm l):=by
 unfold BK.f;have h:=Pk l hl hg l.length 0 ⟨#[35,32,78,101,116,115,99,97,112,101,32,72,84,84,80,32,67,111,111,107,105,101,32,70,105,108,101,10]⟩ (by omega) (by decide);refine BG h ?_;unfold Lm UQ;rw [Ky];rfl
theorem XZ {l:List SC} (hg:∀ c∈l,EO c/\F9 c):Vi (Lm l)=G7::l.map Ec:=Xn λx hx=>(Q3 hg x hx).2
theorem Xx (p s:ByteArray):TT (p++s) p=true/\Vg (p++s) p=s:=by
 have h:TT (p++s) p=true:=by
  unfold TT;rw [Bool.and_eq_true,decide_eq_true_iff,beq_iff_eq];refine ⟨by rw [ByteArray.size_append];omega,toList_inj.2 (DI ?_)⟩;rw [E9,Dw,List.drop_zero,Nat.sub_zero, <-bytesOf_length,List.take_left]
 refine ⟨h,?_⟩;unfold Vg;rw [if_pos h];apply DI;rw [E9,Dw, <-bytesOf_length p,List.drop_left,List.take_of_length_le];rw [ByteArray.size_append, <-bytesOf_length s, <-bytesOf_length p];omega
theorem Xj {s p:ByteArray} {x y:Int} {r q:List Int} (hs:bytesOf s=x::r) (hp:bytesOf p=y::q) (h:x≠y):TT s p=false/\Vg s p=s:=by
 have hf:TT s p=false:=by
  rw [Bool.eq_false_iff];intro e;unfold TT at e;rw [Bool.and_eq_true,decide_eq_true_iff,beq_iff_eq] at e;have e2:=congrArg bytesOf (toList_inj.1 e.2);rw [E9,hs,hp,List.drop_zero,Nat.sub_zero, <-bytesOf_length,hp,List.length_cons,List.take_succ_cons] at e2;exact h (List.cons.inj e2).1
 refine ⟨hf,?_⟩;unfold Vg;rw [if_neg (by rw [hf];decide)]
theorem Xd {c:SC} (h:F9 c):∃ x r,bytesOf (F8 c)=x::r/\x≠35:=by
 obtain ⟨x,r,hx,ho⟩:=h.first;unfold F8;split
 ·exact ⟨x,r,hx,(Ph ho).2.2.2.1⟩
 ·exact ⟨46,bytesOf c.f0,by rw [Dw];rfl,by decide⟩
theorem Xh {c:SC} (h:F9 c):TT (Ec c) Fb=c.f9/\Vg (Ec c) Fb=XY c:=by
 by_cases h9:c.f9=true
 ·have e:Ec c=Fb++XY c:=by
   apply DI;unfold Ec XY Fq;rw [Dw,Fj,Fj,if_pos h9,Dw,List.append_assoc]
  rw [e,h9];exact Xx _ _
 ·have e:Ec c=XY c:=by unfold Ec XY Fq;rw [if_neg h9]
  obtain ⟨x,r,hx,hn⟩:=Xd h;have hb:bytesOf (XY c)=x::(r++9::(bytesOf (JC (!c.f7))++9::(bytesOf c.f1++9::(bytesOf (JC c.f8)++9::(bytesOf (EW c.f6)++9::(bytesOf c.f2++9::bytesOf c.f3)))))):=by
   unfold XY;rw [Fj,hx];rfl
  have:=Xj hb (p:=Fb) (y:=35) (q:=[72,116,116,112,79,110,108,121,95]) rfl hn;rw [e,(by simpa using h9:c.f9=false)];exact this
theorem Xy {c:SC} (h:F9 c):TT (F8 c) O4=(!c.f7)/\Vg (F8 c) O4=c.f0:=by
 unfold F8;by_cases h7:c.f7=true
 ·obtain ⟨x,r,hx,ho⟩:=h.first;rw [if_pos h7,h7];exact Xj hx (p:=O4) (y:=46) (q:=[]) rfl (Ph ho).2.2.2.2
 ·rw [if_neg h7,(by simpa using h7:c.f7=false)];exact Xx _ _
theorem Xb (b:Bool):P6 (JC b)=b/\Hz (JC b)=false:=by cases b<;>decide+kernel
theorem YB (now:Int) (c:SC):Xa 1 now c=⟨c.f0,c.f1,c.f2,c.f3,now,now,c.f6,c.f7,c.f8,c.f9,0⟩:=rfl
theorem Xu {c:SC} {now:Int} (hr:GN c=true) (hm:VO 1 now):V8 now (Ec c)=(Xa 1 now c,0):=by
 have h:=Sc hr;obtain ⟨e1,e2⟩:=Xh h;obtain ⟨d1,d2⟩:=Xy h;have hx:=PR h.exp (Dm c.f6);have hk:=Xq hm hr;unfold V8;rw [e1,e2];unfold XY;rw [Xo (IM h (J3 h))];show WM c.f9 now (F8 c) (JC (!c.f7)) c.f1 (JC c.f8) (EW c.f6) c.f2 c.f3=_;unfold WM;rw [(Xb _).2,(Xb _).2,(Xb _).1,(Xb _).1,d1,d2,h.canon,hx];rw [if_neg (by simp),Bool.not_not];have hk':Ir c.f0 c.f1 c.f2 c.f3 now now c.f6 c.f7 0=true:=hk;rw [if_pos hk',YB]
theorem Xv {c:SC} (h:F9 c):GU (Ec c)=false:=by
 obtain ⟨e1,e2⟩:=Xh h;obtain ⟨x,r,hx,hn⟩:=Xd h;have hne:∃ y q,bytesOf (Ec c)=y::q/\(y=35->c.f9=true):=by
  unfold Ec Fq;rw [Fj];by_cases h9:c.f9=true
  ·rw [if_pos h9,Dw];exact ⟨35,_,rfl,λ_=>h9⟩
  ·rw [if_neg h9,hx];exact ⟨x,_,rfl,λe=>absurd e hn⟩
 obtain ⟨y,q,hy,h9⟩:=hne;have hp:0<(Ec c).size:=by rw [<-bytesOf_length,hy];simp
 have g:((Ec c).toList==([]:List UInt8))=false:=by
  refine beq_eq_false_iff_ne.2 λe=>?_
  rw [FX, <-toList_data,e] at hy;cases hy
 by_cases h35:((Ec c)[0].toNat:Int)=35
 ·rw [NF hp g h35,e1];have hb:bt (Ec c) (0:Nat)=y:=X7 (l:=q) (by rw [List.drop_zero];exact hy);have:=XE hp;rw [h9 (by rw [<-hb];exact this.trans h35)];rfl
 ·exact NG hp g h35
theorem Xe:∀ {l:List SC},(∀ c∈l,F9 c)->EE (l.map Ec)=l.map Ec
 |[],_=>rfl
 |c::l,h=>by rw [List.map_cons,WT (Xv (h c (.head _))),Xe λx hx=>h x (.tail _ hx)]
theorem Xi {now:Int} (hm:VO 1 now):∀ {l:List SC},(∀ c∈l,GN c=true)->Vq now (l.map Ec)=(l.map (Xa 1 now),0)
 |[],_=>rfl
 |c::l,h=>by
  rw [List.map_cons,List.map_cons];unfold Vq;rw [Xu (h c (.head _)) hm,Xi hm λx hx=>h x (.tail _ hx),if_pos rfl]
theorem YA {l:List SC} (now:Int) (hg:∀ c∈l,EO c/\F9 c) (hr:∀ c∈l,GN c=true):V7 (Lm l) now=if VO 1 now then (l.map (Xa 1 now),0) else ([],1):=by
 unfold V7 Vu;by_cases hm:VO 1 now
 ·have:=hm.2;rw [if_pos hm,if_neg (by omega),XZ hg];show (if G7=G7 then WE (Vq now (EE (l.map Ec))) else ([],190))=_;rw [if_pos rfl,Xe λc hc=>(hg c hc).2,Xi hm hr];rfl
 ·rw [if_neg hm,if_pos];unfold VO at hm;omega
theorem Yc (now:Int) (l:List SC):Lm (l.map (Xa 1 now))=Lm l:=by
 unfold Lm;rw [List.map_map];rfl
theorem Q5 {l:List SC} (hj:Pe l) (hs:∀ c∈l,EO c):∀ c∈l,EO c/\F9 c:=λc hc=>⟨hs c hc,Sc (hj.right c hc)⟩
theorem Xp {l:List SC} (hl:l.length<=100) (hg:∀ c∈l,EO c/\F9 c):(Lm l).size<=1000000000:=by
 have:=Xf (G7::l.map Ec) ⟨#[]⟩ λx hx=>(Q3 hg x hx).1
 have h0:(⟨#[]⟩:ByteArray).size=0:=rfl;rw [List.length_cons,List.length_map,h0] at this;exact Nat.le_trans this (by omega)
theorem X8 {l:List SC} (now:Int) (hl:l.length<=100) (hj:Pe l) (hs:∀ c∈l,EO c):Ev (λk=>CV.f k (Lm l) now) (if VO 1 now then (l.map (Xa 1 now),0) else ([],1)):=by
 have hg:=Q5 hj hs;have h:=XC (s:=Lm l) (now:=now) (Xp hl hg) λx hx=>by
  rw [XZ hg] at hx;have:=(Q3 hg x hx).1;omega
 rw [YA now hg λc hc=>hj.right c hc] at h;exact h
theorem Q6 {α:Type} {f:Nat->Option α} {r:α} (hm:∀ k,Bz (f k) (f (k+1))) (K:Nat) (h:f K=some r):Ev f r:=by
 refine ⟨K,λk hk=>?_⟩;induction k with
 |zero=>
  obtain rfl:K=0:=by omega
  exact h
 |succ k ih=>
  rcases Nat.lt_or_ge k K with h1|h1
  ·obtain rfl:K=k+1:=by omega
   exact h
  ·exact hm k _ (ih h1)
set_option maxRecDepth 100000 in
theorem J4:Ev (λk=>Bi.f k) true:=Q6 Bi.mono 80 (by decide+kernel)
end Go.Proofs.YtikggnalmidlhaaGreatDoor.Y
