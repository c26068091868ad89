/- Two jars put together: the program's merge and the document's; of two cookies of one key the greater one. -/
import Derived.Test.YtohjohhcjcljoaaGreatDoorPrint21
import Derived.Test.YtohjohhcjcljoaaGreatDoorYjarP
section
namespace Go.Proofs.YtohjohhcjcljoaaGreatDoor.Y
set_option linter.unusedVariables false
set_option linter.unusedSimpArgs false
open RowKit Print Ak BR BS
theorem Ng (l:List Int) (hl:l.length<=4294967296) (d:Nat):∀ i:Nat,i+d=l.length->Ev (λk=>Bc.l0 k l i) (PN (l.drop i)):=by
 induction d with
 |zero=>
  intro i hi;apply BQ;simp only [Bc.l0];exact Aq (by omega) (Ba (Ay _) (by rw [List.drop_eq_nil_of_le (by omega)];rfl))
 |succ d ih=>
  intro i hi;apply BQ;simp only [Bc.l0];have hw:wrap64 ((i:Int)+1)=((i+1:Nat):Int):=by rw [Kn (by omega) (by omega)];omega
  rw [hw];rcases WM l (i:=i) (by omega) with ⟨h1,_⟩|⟨c,h1,h2⟩
  ·omega
  ·rw [Ki h2,h2,PN];refine AZ (by omega) (AZ (by omega) ?_);by_cases hc:c=0
   ·rw [if_pos hc];exact AZ hc (ih (i+1) (by omega))
   ·rw [if_neg hc];exact Aq hc (Ay _)
theorem Ov {a0 a1 a2 a3:ByteArray} {a4 a5 a6:Int} {a7 a8 a9:Bool} {a10:Int} {b0 b1 b2 b3:ByteArray} {b4 b5 b6:Int} {b7 b8 b9:Bool} {b10:Int} (ha0:a0.size<=9223372036854775807) (ha1:a1.size<=9223372036854775807) (ha2:a2.size<=9223372036854775807) (ha3:a3.size<=9223372036854775807) (hb0:b0.size<=9223372036854775807) (hb1:b1.size<=9223372036854775807) (hb2:b2.size<=9223372036854775807) (hb3:b3.size<=9223372036854775807):Ev (λk=>Bc.f k a0 a1 a2 a3 a4 a5 a6 a7 a8 a9 a10 b0 b1 b2 b3 b4 b5 b6 b7 b8 b9 b10) (JD (a0,a1,a2,a3,a4,a5,a6,a7,a8,a9,a10) (b0,b1,b2,b3,b4,b5,b6,b7,b8,b9,b10)):=by
 unfold Bc.f BP.f;refine Az (Ay _) (Az (Ay _) (Az (KR ha0 ha1 ha2 hb0 hb1 hb2) ?_));simp only [Nh,VB];refine Az (Ay _) (Az (Ay _) (Az (Hl ha3 hb3) (Az (Ay _) (Az (Ay _) (Az (Ay _) (Az (Ay _) (Az (Ay _) (Az (Ay _) (Az (Ay _) (Az (Ay _) (Az (Ay _) (Az (Ay _) (Az (Ay _) ?_)))))))))))));refine Ba (Ng _ (by simp) 9 0 rfl) ?_;unfold JD TR;rw [List.drop_zero,or_cons,or_cons,or_cons,or_cons,or_cons,or_cons,or_cons,or_cons,or_one];simp only [rowOf,H5];first|done|rfl|(congr;done)
end Go.Proofs.YtohjohhcjcljoaaGreatDoor.Y
end
section
namespace Go.Proofs.YtohjohhcjcljoaaGreatDoor.Y
set_option linter.unusedVariables false
set_option linter.unusedSimpArgs false
open RowKit Print Ak BR BS
section
variable {α:Type} {f:α->α->Int} (hf:Rank f)
def Ox (f:α->α->Int) (x y:α):α:=if f x y<0 then y else x
include hf
theorem L8 (x:α):f x x=0:=(hf.same x x).mpr rfl
theorem Sr (x:α):Ox f x x=x:=by have _:=hf;unfold Ox;split<;>rfl
theorem XC (x y:α):Ox f x y=x\/Ox f x y=y:=by
 have _:=hf;unfold Ox;split
 ·exact .inr rfl
 ·exact .inl rfl
theorem Pm (x y:α):f x (Ox f x y)<=0:=by
 unfold Ox;split
 ·omega
 ·rw [L8 hf];exact Int.le_refl 0
theorem Nl (x y:α):f y (Ox f x y)<=0:=by
 unfold Ox;split
 ·rw [L8 hf];exact Int.le_refl 0
 ·have:=hf.anti x y;omega
theorem QP {x y:α} (h:f x y<=0) (h':f y x<=0):x=y:=(hf.same x y).mp (by have:=hf.anti x y;omega)
theorem Pn {x y z:α} (h:f x z<=0) (h':f y z<=0):f (Ox f x y) z<=0:=by
 rcases XC hf x y with e|e<;>rw [e]<;>assumption
theorem Su (x y:α):Ox f x y=Ox f y x:=QP hf (Pn hf (Nl hf _ _) (Pm hf _ _)) (Pn hf (Nl hf _ _) (Pm hf _ _))
theorem Ws (x y z:α):Ox f x (Ox f y z)=Ox f (Ox f x y) z:=
 QP hf
  (Pn hf (hf.trans _ _ _ (Pm hf x y) (Pm hf _ _)) (Pn hf (hf.trans _ _ _ (Nl hf x y) (Pm hf _ _)) (Nl hf _ _)))
  (Pn hf (Pn hf (Pm hf _ _) (hf.trans _ _ _ (Pm hf y z) (Nl hf _ _))) (hf.trans _ _ _ (Nl hf y z) (Nl hf _ _)))
end
def SE (x y:IK):IK:=Ox JD x y
theorem VC (x y:IK):FE.f x.1 x.2.1 x.2.2.1 x.2.2.2.1 x.2.2.2.2.1 x.2.2.2.2.2.1 x.2.2.2.2.2.2.1 x.2.2.2.2.2.2.2.1 x.2.2.2.2.2.2.2.2.1 x.2.2.2.2.2.2.2.2.2.1 x.2.2.2.2.2.2.2.2.2.2 y.1 y.2.1 y.2.2.1 y.2.2.2.1 y.2.2.2.2.1 y.2.2.2.2.2.1 y.2.2.2.2.2.2.1 y.2.2.2.2.2.2.2.1 y.2.2.2.2.2.2.2.2.1 y.2.2.2.2.2.2.2.2.2.1 y.2.2.2.2.2.2.2.2.2.2=some (JD x y):=M5 _ _ _ _ _ _ _ _ _ _ _ _ _ _ _ _ _ _ _ _ _ _
theorem VD (x y:IK):D6.f x.1 x.2.1 x.2.2.1 x.2.2.2.1 x.2.2.2.2.1 x.2.2.2.2.2.1 x.2.2.2.2.2.2.1 x.2.2.2.2.2.2.2.1 x.2.2.2.2.2.2.2.2.1 x.2.2.2.2.2.2.2.2.2.1 x.2.2.2.2.2.2.2.2.2.2 y.1 y.2.1 y.2.2.1 y.2.2.2.1 y.2.2.2.2.1 y.2.2.2.2.2.1 y.2.2.2.2.2.2.1 y.2.2.2.2.2.2.2.1 y.2.2.2.2.2.2.2.2.1 y.2.2.2.2.2.2.2.2.2.1 y.2.2.2.2.2.2.2.2.2.2=some (SE x y):=by
 unfold D6.f SE Ox;rw [VC];simp only [Option.bind_some];split<;>rfl
structure Small (x:IK):Prop where
 s0:x.1.size<=9223372036854775807
 s1:x.2.1.size<=9223372036854775807
 s2:x.2.2.1.size<=9223372036854775807
 s3:x.2.2.2.1.size<=9223372036854775807
theorem QQ {x y:IK} (hx:Small x) (hy:Small y):Ev (λk=>Bc.f k x.1 x.2.1 x.2.2.1 x.2.2.2.1 x.2.2.2.2.1 x.2.2.2.2.2.1 x.2.2.2.2.2.2.1 x.2.2.2.2.2.2.2.1 x.2.2.2.2.2.2.2.2.1 x.2.2.2.2.2.2.2.2.2.1 x.2.2.2.2.2.2.2.2.2.2 y.1 y.2.1 y.2.2.1 y.2.2.2.1 y.2.2.2.2.1 y.2.2.2.2.2.1 y.2.2.2.2.2.2.1 y.2.2.2.2.2.2.2.1 y.2.2.2.2.2.2.2.2.1 y.2.2.2.2.2.2.2.2.2.1 y.2.2.2.2.2.2.2.2.2.2) (JD x y):=Ov hx.s0 hx.s1 hx.s2 hx.s3 hy.s0 hy.s1 hy.s2 hy.s3
theorem RZ {x y:IK} (hx:Small x) (hy:Small y):Ev (λk=>Dl.f k x.1 x.2.1 x.2.2.1 x.2.2.2.1 x.2.2.2.2.1 x.2.2.2.2.2.1 x.2.2.2.2.2.2.1 x.2.2.2.2.2.2.2.1 x.2.2.2.2.2.2.2.2.1 x.2.2.2.2.2.2.2.2.2.1 x.2.2.2.2.2.2.2.2.2.2 y.1 y.2.1 y.2.2.1 y.2.2.2.1 y.2.2.2.2.1 y.2.2.2.2.2.1 y.2.2.2.2.2.2.1 y.2.2.2.2.2.2.2.1 y.2.2.2.2.2.2.2.2.1 y.2.2.2.2.2.2.2.2.2.1 y.2.2.2.2.2.2.2.2.2.2) (SE x y):=by
 unfold Dl.f SE Ox;refine Az (QQ hx hy) ?_;by_cases h:JD x y<0
 ·exact Ba (AZ h (Ay y)) (if_pos h).symm
 ·exact Ba (Aq h (Ay x)) (if_neg h).symm
end Go.Proofs.YtohjohhcjcljoaaGreatDoor.Y
end
section
namespace Go.Proofs.YtohjohhcjcljoaaGreatDoor.Y
open RowKit Print Ak BR BS
set_option linter.unusedVariables false
set_option linter.unusedSimpArgs false
def O3 (c:SC):IK:=(c.f0,c.f1,c.f2,c.f3,c.f4,c.f5,c.f6,c.f7,c.f8,c.f9,c.f10)
def V7 (x:IK):SC:=⟨x.1,x.2.1,x.2.2.1,x.2.2.2.1,x.2.2.2.2.1,x.2.2.2.2.2.1,x.2.2.2.2.2.2.1,x.2.2.2.2.2.2.2.1,x.2.2.2.2.2.2.2.2.1,x.2.2.2.2.2.2.2.2.2.1,x.2.2.2.2.2.2.2.2.2.2⟩
theorem XD (x:IK):O3 (V7 x)=x:=rfl
def gC (x y:SC):SC:=V7 (SE (O3 x) (O3 y))
theorem Wt (x y:SC):gC x y=x\/gC x y=y:=by
 unfold gC SE;rcases XC KH (O3 x) (O3 y) with h|h<;>rw [h]
 ·exact .inl rfl
 ·exact .inr rfl
theorem J4 (x y:SC) (h:kC x=kC y):kC (gC x y)=kC x:=by
 rcases Wt x y with e|e<;>rw [e]
 exact h.symm
theorem TC (x:SC):gC x x=x:=by unfold gC SE;rw [Sr KH];rfl
theorem TD (x y:SC):gC x y=gC y x:=by unfold gC SE;rw [Su KH]
theorem Wu (x y z:SC):gC (gC x y) z=gC x (gC y z):=by
 show V7 (SE (O3 (V7 (SE (O3 x) (O3 y)))) (O3 z))=V7 (SE (O3 x) (O3 (V7 (SE (O3 y) (O3 z)))));rw [XD,XD];unfold SE;rw [Ws KH]
theorem ND.small {x:SC} (h:ND x):Small (O3 x):=⟨h.1,h.2.1,h.2.2.1,h.2.2.2⟩
abbrev Qb (a b:List SC):List SC:=EG WG kC gC a b
theorem Vp (x:SK) (l:List SK):AO (x::l) 0=x:=rfl
theorem TE:∀ n (a b:List SC) (acc:List SK),a.length+b.length<=n->acc.length+a.length+b.length<=100000->
 Ev (λk=>Ae.l0 k acc (a.map Dx) (b.map Dx)) (acc++(Qb a b).map Dx):=by
 intro n;induction n with
 |zero=>
  intro a b acc hn hb;obtain rfl:a=[]:=List.length_eq_zero_iff.1 (by omega);obtain rfl:b=[]:=List.length_eq_zero_iff.1 (by omega);refine BQ ?_;simp only [Ae.l0];refine Aq (by simp) (BQ ?_);simp only [Ae.j1];refine Aq (by decide) (Az (Gt _ (by simp) (by simp at hb⊢;omega)) (Ba (Ay _) (by simp [EG])))
 |succ n ih=>
  intro a b acc hn hb
  match a,b,hn,hb with
  |[],b,hn,hb=>
   refine BQ ?_;simp only [Ae.l0];refine Aq (by simp) (BQ ?_);simp only [Ae.j1];exact Aq (by decide) (Az (Gt _ (by simp) (by simp at hb⊢;omega)) (Ba (Ay _) (by simp [EG])))
  |x::a,[],hn,hb=>
   refine BQ ?_;simp only [Ae.l0];refine AZ (by simp) (BQ ?_);simp only [Ae.j1];exact Aq (by simp) (Az (Gt _ (by simp) (by simp at hb⊢;omega)) (Ba (Ay _) (by simp [EG])))
  |x::a,y::b,hn,hb=>
   simp only [List.length_cons] at hn hb;refine BQ ?_;simp only [Ae.l0];refine AZ (by simp) (BQ ?_);simp only [Ae.j1];refine AZ (by simp) (AZ (by simp) (AZ (by simp) ?_));simp only [List.map_cons,Vp,List.drop_succ_cons,List.drop_zero];refine Az (Qp _ _ _ _ _ _) ?_;unfold Qb EG;by_cases h1:WG.lt (kC x) (kC y)
   ·rw [if_pos h1];refine AZ h1 (AZ (by omega) (AZ (by simp;omega) ?_));exact Ba (ih a (y::b) (acc++[Dx x]) (by simp;omega) (by simp;omega)) (by simp)
   ·rw [if_neg h1];refine Aq h1 ?_;by_cases h2:WG.lt (kC y) (kC x)
    ·rw [if_pos h2];refine AZ (show Gj (kC x) (kC y)>0 by
      have h3:Gj (kC y) (kC x)<0:=h2
      have:=GA.anti (kC y) (kC x)
      omega) (AZ (by omega) (AZ (by simp;omega) ?_))
     exact Ba (ih (x::a) b (acc++[Dx y]) (by simp;omega) (by simp;omega)) (by simp)
    ·rw [if_neg h2];have hk:kC x=kC y:=WG.R9 h1 h2;refine Aq (show ¬Gj (kC x) (kC y)>0 by
      have:=(GA.same (kC x) (kC y)).2 hk
      omega) ?_
     have hg:∀ {β:Type} (g:IK->Option β),((D6.f x.f0 x.f1 x.f2 x.f3 x.f4 x.f5 x.f6 x.f7 x.f8 x.f9 x.f10 y.f0 y.f1 y.f2 y.f3 y.f4 y.f5 y.f6 y.f7 y.f8 y.f9 y.f10).bind g)=g (SE (O3 x) (O3 y)):=λg=>by
      have:=VD (O3 x) (O3 y);exact congrArg (λo=>Option.bind o g) this
     refine Az (g:=λ_=>D6.f x.f0 x.f1 x.f2 x.f3 x.f4 x.f5 x.f6 x.f7 x.f8 x.f9 x.f10 y.f0 y.f1 y.f2 y.f3 y.f4 y.f5 y.f6 y.f7 y.f8 y.f9 y.f10) (r:=SE (O3 x) (O3 y)) ⟨0,λ_ _=>VD (O3 x) (O3 y)⟩ ?_;refine AZ (by omega) (AZ (by simp;omega) (AZ (by simp;omega) ?_));have e:Dx (gC x y)=⟨kC x,gC x y⟩:=by unfold Dx;rw [J4 x y hk]
     have:=ih a b (acc++[⟨kC x,gC x y⟩]) (by omega) (by simp;omega);exact Ba this (by simp [e])
theorem Qc {a b:List SC} (ha:a.length<=1000) (hb:b.length<=1000):
 Ev (λk=>Ae.f k (a.map Dx) (b.map Dx)) ((Qb a b).map Dx):=
 Ba (TE _ a b [] (Nat.le_refl _) (by simp;omega)) rfl
def J8 (a:List SC) (y:SC):SC:=match look kC a (kC y) with|some x=>gC x y|none=>y
theorem Ji (a:List SC) (y:SC):kC (J8 a y)=kC y:=by
 unfold J8;cases h:look kC a (kC y) with
 |none=>rfl
 |some x=>
  unfold look at h;have hx:kC x=kC y:=by simpa using List.find?_some h
  exact (J4 x y hx).trans hx
theorem TF (a b:List SC) (hb:Ct WG kC b) (hl:a.length+b.length<=900) (hsa:∀ x∈a,ND x) (hsb:∀ x∈b,ND x):∀ n j (out:List SC),b.length - j=n->j<=b.length->Ct WG kC out->out.length<=a.length+j->(∀ x∈out,ND x)->(∀ y∈b.drop j,look kC out (kC y)=look kC a (kC y))->
 Ev (λk=>BO.l0 k b out (j:Int)) ((b.drop j).foldl (λo y=>GN WG kC (kC y) (J8 a y) o) out):=by
 intro n;induction n with
 |zero=>
  intro j out hn hj hr ho hs hk;obtain rfl:j=b.length:=by omega
  rw [List.drop_length];refine BQ ?_;simp only [BO.l0];exact Aq (by omega) (Ay _)
 |succ n ih=>
  intro j out hn hj hr ho hs hk;have hlt:j<b.length:=by omega
  have hd:Ct WG kC (b.drop j):=List.Pairwise.sublist (List.drop_sublist _ _) hb;rw [List.drop_eq_getElem_cons hlt] at hk hd⊢
  obtain ⟨hx,_⟩:=List.pairwise_cons.1 hd;rw [List.foldl_cons];have hlen:=NC (kC b[j]) (J8 a b[j]) hr;have hsm:ND (J8 a b[j]):=by
   unfold J8;cases h:look kC a (kC b[j]) with
   |none=>exact hsb _ (List.getElem_mem hlt)
   |some x=>
    unfold look at h;rcases Wt x b[j] with e|e<;>rw [show (match some x with|some x=>gC x b[j]|none=>b[j])=gC x b[j] from rfl,e]
    ·exact hsa _ (List.mem_of_find?_eq_some h)
    ·exact hsb _ (List.getElem_mem hlt)
  have hnext:=ih (j+1) (GN WG kC (kC b[j]) (J8 a b[j]) out) (by omega) (by omega) (E5 hr (Ji a _)) (by omega)
   (λx h=>(HZ.1 h).elim (λe=>e▸hsm) (λh=>hs x h.1))
   (λy hy=>by
    rw [Jo hr (Ji a _),if_neg (λe=>WG.irr _ (by have:=hx y hy;rw [e] at this;exact this))]
    exact hk y (List.mem_cons_of_mem _ hy))
  have hlay:∀ c:SC,c=J8 a b[j]->Ev (λk=>Ah.f k out c.f0 c.f1 c.f2 c.f3 c.f4 c.f5 c.f6 c.f7 c.f8 c.f9 c.f10) (GN WG kC (kC b[j]) (J8 a b[j]) out):=λc e=>by
   have h3:=WX c hr (show out.length<=1000 by omega) (e▸hsm) hs;rw [show kC c=kC b[j] by rw [e,Ji]] at h3;exact Ba h3 (by rw [e])
  refine BQ ?_;simp only [BO.l0,BP.f,Option.bind_some];rw [OV hlt,G9 (by omega)];refine AZ (by omega) (AZ (by omega) (Az (OH (m:=out) (kC b[j]) (by omega)) ?_));obtain ⟨hn1,hy1⟩:=Mx (kC b[j]) out;have hk0:=hk b[j] List.mem_cons_self;cases hg:look kC a (kC b[j]) with
  |none=>
   rw [hg] at hk0;rw [hn1 hk0];refine AZ (by decide) (Az (hlay b[j] (by unfold J8;rw [hg])) hnext)
  |some x=>
   rw [hg] at hk0;obtain ⟨i,hi,e1,e2⟩:=hy1 x hk0;rw [e1];refine Aq (by omega) (AZ (by omega) (AZ (by omega) ?_));rw [OV hi,e2];refine Az (RZ (x:=O3 x) (y:=O3 b[j]) (by
    unfold look at hg
    exact (hsa _ (List.mem_of_find?_eq_some hg)).small) (hsb _ (List.getElem_mem hlt)).small) ?_
   exact Az (hlay (gC x b[j]) (by unfold J8;rw [hg])) hnext
theorem Re {a b:List SC} (ha:Ct WG kC a) (hb:Ct WG kC b) (hl:a.length+b.length<=900) (hsa:∀ x∈a,ND x) (hsb:∀ x∈b,ND x):Ev (λk=>BO.f k a b) (Qb a b):=by
 refine Ba (TF a b hb hl hsa hsb _ 0 a rfl (Nat.zero_le _) ha (by omega) hsa (λ_ _=>rfl)) ?_;rw [List.drop_zero];refine PI (J8 a) (Ji a) J4 ha hb λy hy=>?_
 unfold J8;cases hg:look kC a (kC y)<;>rfl
theorem Qd {a b:List SC} (ha:Ct WG kC a) (hb:Ct WG kC b):Ct WG kC (Qb a b):=Fx J4 ha hb
theorem Mv (a b:List SC):(Qb a b).length<=a.length+b.length:=Qj _ a b (Nat.le_refl _)
theorem Rf {a b:List SC} (ha:Ct WG kC a) (hb:Ct WG kC b):Qb a b=Qb b a:=PK J4 (λx y _=>TD x y) ha hb
theorem Rh {a:List SC} (ha:Ct WG kC a):Qb a a=a:=PL J4 TC ha
theorem Wo {a b c:List SC} (ha:Ct WG kC a) (hb:Ct WG kC b) (hc:Ct WG kC c):Qb (Qb a b) c=Qb a (Qb b c):=WY J4 (λx y z _ _=>Wu x y z) ha hb hc
def GM (a b:List SC):List SC×Int:=if Gi (Qb a b)=true then ([],152) else (Qb a b,0)
theorem KA {a b:List SC} (ha:Ct WG kC a) (hb:Ct WG kC b) (hl:a.length+b.length<=900):Ev (λk=>Dy.f k (a.map Dx) (b.map Dx)) ((GM a b).1.map Dx,(GM a b).2):=by
 have:=Mv a b;unfold Dy.f GM;refine Az (Qc (by omega) (by omega)) ?_;simp only [O6 (Qd ha hb) (by omega),Option.bind_some];by_cases h2:Gi (Qb a b)=true
 ·simp only [if_pos h2];exact Ba (Ay _) rfl
 ·simp only [if_neg h2];exact Ba (Ay _) rfl
theorem O4 {a b:List SC} (ha:Ct WG kC a) (hb:Ct WG kC b) (hl:a.length+b.length<=900) (hsa:∀ x∈a,ND x) (hsb:∀ x∈b,ND x):Ev (λk=>Dk.f k a b) (GM a b):=by
 have:=Mv a b;unfold Dk.f GM;refine Az (Re ha hb hl hsa hsb) (Az (LV (by omega)) ?_);by_cases h2:Gi (Qb a b)=true
 ·simp only [if_pos h2];exact Ay _
 ·simp only [if_neg h2];exact Ay _
theorem O5 (a b:List SC):(GM a b).1.length<=a.length+b.length:=by
 unfold GM;split
 ·simp
 ·exact Mv a b
theorem N8 {a:List SC} (h:LW a):GM a a=(a,0):=by
 unfold GM;rw [Rh h.rises,if_neg (by rw [h.few];decide)]
theorem N9 {a b:List SC} (ha:Ct WG kC a) (hb:Ct WG kC b):GM a b=GM b a:=by
 unfold GM;rw [Rf ha hb]
theorem OA (a b:List SC) (ha:a.length<=10000) (hb:b.length<=10000):Ev (λk=>ES.f k (a.map Dx) (b.map Dx)) (Hy a b):=by
 unfold ES.f;simp only [F8 ha,F8 hb,Option.bind_some];exact Az (OB a b ha) (Ay _)
end Go.Proofs.YtohjohhcjcljoaaGreatDoor.Y
end
