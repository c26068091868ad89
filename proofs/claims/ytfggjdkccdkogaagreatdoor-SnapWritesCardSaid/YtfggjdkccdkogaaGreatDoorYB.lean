/- jar.Of and the document's: both lay cookie by cookie; which rows are a jar's. -/
import Derived.Test.YtfggjdkccdkogaaGreatDoorPG
import Derived.Test.YtfggjdkccdkogaaGreatDoorYhostC
section
namespace Go.Proofs.YtfggjdkccdkogaaGreatDoor.Y
open RowKit Print Ac Aq Aw
set_option linter.unusedVariables false
set_option linter.unusedSimpArgs false
abbrev SK:=CO
abbrev JF:=LP
abbrev SC:=Cz
def Gd (a b:JF):Int:=LG a.f0 a.f1 a.f2 b.f0 b.f1 b.f2
theorem IC:Rank Gd:=by
 have h:=Qj VZ (λx:JF=>(x.f0,x.f1,x.f2)) (by
  rintro ⟨a0,a1,a2⟩ ⟨b0,b1,b2⟩ h
  simp only [Prod.mk.injEq] at h
  obtain ⟨h0,h1,h2⟩:=h
  subst h0 h1 h2
  rfl)
 have e:(λx y:JF=>Ra (x.f0,x.f1,x.f2) (y.f0,y.f1,y.f2))=Gd:=by funext a b;exact (NJ _ _ _ _ _ _).symm
 exact e▸h
instance:DecidableEq JF:=λa b=>decidable_of_iff (Gd a b=0) (IC.same a b)
def D9:Vy JF:=⟨λa b=>Gd a b<0,λa b=>inferInstanceAs (Decidable (Gd a b<0)),λa=>by rw [(IC.same a a).2 rfl];decide,
 λ {a b c} h h'=>by
  have h1:=IC.trans a b c (by omega) (by omega)
  have h2:Gd a c≠0:=λe=>by
   obtain rfl:=(IC.same _ _).1 e
   have:=IC.anti a b
   omega
  omega,
 λa b=>by
  rcases IC.val a b with h|h|h
  ·exact .inl (by omega)
  ·exact .inr (.inl ((IC.same _ _).1 h))
  ·have:=IC.anti a b
   exact .inr (.inr (by omega))⟩
def kK (x:SK):JF:=x.f0
theorem Sr {a b:JF}:Gd a b<0↔D9.lt a b:=Iff.rfl
theorem Su {a b:JF}:Gd a b=0↔a=b:=IC.same a b
theorem Rp (p:Nat->Bool) (m:Nat):∀ n i j,i<=m->m<=j->j - i<=n->(∀ x,x<m->p x=true)->(∀ x,m<=x->x<j->p x=false)->WS p n i j=m
 |0,i,j,h1,h2,h3,_,_=>by
  show i=m;omega
 |n+1,i,j,h1,h2,h3,ht,hf=>by
  unfold WS;split
  ·rename_i hlt;by_cases hm:(i+j)/2<m
   ·rw [if_pos (ht _ hm)];exact Rp p m n _ j (by omega) h2 (by omega) ht hf
   ·rw [if_neg (by rw [hf _ (by omega) (by omega)];decide)];exact Rp p m n i _ h1 (by omega) (by omega) ht (λx h4 h5=>hf x h4 (by omega))
  ·omega
theorem Vv {α:Type} (a b:List α) (z:α) (i:Nat) (h:i<a.length):(a++b).getD i z∈a:=by
 rw [List.getD_eq_getElem?_getD,List.getElem?_append_left h,List.getElem?_eq_getElem h];exact List.getElem_mem h
theorem OZ {α:Type} (a b:List α) (z:α) (i:Nat) (h:a.length<=i) (h':i<(a++b).length):(a++b).getD i z∈b:=by
 rw [List.length_append] at h';rw [List.getD_eq_getElem?_getD,List.getElem?_append_right h,List.getElem?_eq_getElem (show i - a.length<b.length by omega)];exact List.getElem_mem _
theorem Qs {l:List SK} (t:JF) (h:Eh D9 kK l):WT l t.f0 t.f1 t.f2=(FW D9 kK t l).length/\Lr l t.f0 t.f1 t.f2= !(atR D9 kK t l).isEmpty:=by
 obtain ⟨hs,ha⟩:=Iq t h;have hl:=congrArg List.length hs;rw [List.length_append] at hl;have e1:WT l t.f0 t.f1 t.f2=(FW D9 kK t l).length:=by
  unfold WT;refine Rp _ _ _ 0 _ (Nat.zero_le _) (by omega) (by omega) (λx hx=>?_) (λx hx hx2=>?_)
  ·have hm:=Vv (FW D9 kK t l) (atR D9 kK t l++G9 D9 kK t l) QB x hx;rw [<-hs] at hm;exact decide_eq_true (Sr.2 (J6.1 hm).2)
  ·have hm:=OZ (FW D9 kK t l) (atR D9 kK t l++G9 D9 kK t l) QB x hx (by rw [<-hs];exact hx2);rw [<-hs] at hm;refine decide_eq_false λh1=>?_
   have h2:D9.lt (kK (l.getD x QB)) t:=Sr.1 h1;rcases List.mem_append.1 hm with h3|h3
   ·have h4:=(XW.1 h3).2;rw [h4] at h2;exact D9.irr _ h2
   ·exact D9.ZH h2 (IG.1 h3).2
 refine ⟨e1,?_⟩;unfold Lr;rw [e1];have key:∀ i,R4 l t.f0 t.f1 t.f2 i=Gd (kK (l.getD i QB)) t:=λi=>rfl
 rcases ha with h0|⟨x,h0,hx⟩
 ·rw [h0];show _=false;by_cases hlt:(FW D9 kK t l).length<l.length
  ·rw [decide_eq_true hlt,Bool.true_and];have hm:=OZ (FW D9 kK t l) (atR D9 kK t l++G9 D9 kK t l) QB _ (Nat.le_refl _) (by rw [<-hs];exact hlt);rw [<-hs,h0,List.nil_append] at hm;refine decide_eq_false λh1=>?_
   rw [key] at h1;have h2:=Su.1 h1;have h3:=(IG.1 hm).2;rw [h2] at h3;exact D9.irr _ h3
  ·rw [decide_eq_false hlt,Bool.false_and]
 ·rw [h0];show _=true;have hlt:(FW D9 kK t l).length<l.length:=by rw [hl,h0];simp
  rw [decide_eq_true hlt,Bool.true_and];have e2:l.getD (FW D9 kK t l).length QB=x:=by
   conv=>lhs;arg 1;rw [hs,h0]
   rw [List.getD_eq_getElem?_getD,List.getElem?_append_right (Nat.le_refl _),Nat.sub_self];rfl
  exact decide_eq_true (by rw [key,e2];exact Su.2 hx)
theorem Vw {xs:List (List SK)} {j:Nat} (h:j<xs.length):H8 xs (j:Int)=xs[j]:=by
 unfold H8;rw [Int.toNat_natCast,List.getD_eq_getElem?_getD,List.getElem?_eq_getElem h];rfl
theorem XT (xs:List (List SK)) (hx:xs.length<=1000):∀ n j (acc:List SK),xs.length - j=n->j<=xs.length->acc.length+(xs.drop j).flatten.length<=1000000->
 Ev (λk=>Ar.l1 k acc xs (xs.length:Int) (j:Int)) (acc++(xs.drop j).flatten):=by
 intro n;induction n with
 |zero=>
  intro j acc hn hj hb;obtain rfl:j=xs.length:=by omega
  rw [List.drop_length,List.flatten_nil,List.append_nil];refine Az ?_;simp only [Ar.l1];exact Ab (by omega) (Ad _)
 |succ n ih=>
  intro j acc hn hj hb;have hlt:j<xs.length:=by omega
  rw [List.drop_eq_getElem_cons hlt,List.flatten_cons, <-List.append_assoc];rw [List.drop_eq_getElem_cons hlt,List.flatten_cons,List.length_append] at hb;refine Az ?_;simp only [Ar.l1];rw [Vw hlt];refine AU (by omega) (AU (by omega) (AU (by omega) (AU (by omega) ?_)));have:=ih (j+1) (acc++xs[j]) (by omega) (by omega) (by rw [List.length_append];omega);rw [show wrap64 ((j:Int)+1)=((j+1:Nat):Int) by unfold wrap64;omega];exact this
theorem XU (xs:List (List SK)) (hx:xs.length<=1000):∀ n j (s:Nat),xs.length - j=n->j<=xs.length->s+(xs.drop j).flatten.length<=1000000->xs.flatten.length<=1000000->
 Ev (λk=>Ar.l0 k xs (s:Int) xs (xs.length:Int) (j:Int)) xs.flatten:=by
 intro n;induction n with
 |zero=>
  intro j s hn hj hb hb2;obtain rfl:j=xs.length:=by omega
  refine Az ?_;simp only [Ar.l0];refine Ab (by omega) ?_;have hg:Ey.f ([]:List SK) (s:Int)=some []:=by unfold Ey.f;rw [if_pos ⟨rfl,by omega,by omega⟩]
  simp only [hg,Option.bind_some];have:=XT xs hx _ 0 [] rfl (Nat.zero_le _) (by simpa using hb2);simpa using this
 |succ n ih=>
  intro j s hn hj hb hb2;have hlt:j<xs.length:=by omega
  rw [List.drop_eq_getElem_cons hlt,List.flatten_cons,List.length_append] at hb;refine Az ?_;simp only [Ar.l0];rw [Vw hlt,show wrap64 ((s:Int)+(xs[j].length:Int))=((s+xs[j].length:Nat):Int) by unfold wrap64;omega,show wrap64 ((j:Int)+1)=((j+1:Nat):Int) by unfold wrap64;omega];refine AU (by omega) (AU (by omega) (AU (by omega) (Ab (by omega) ?_)));exact ih (j+1) (s+xs[j].length) (by omega) (by omega) (by omega) hb2
theorem Oa (xs:List (List SK)) (hx:xs.length<=1000) (hb:xs.flatten.length<=1000000):
 Ev (λk=>Ar.f k xs) xs.flatten:=
 XU xs hx _ 0 0 rfl (Nat.zero_le _) (by simpa using hb) hb
theorem XV {l:List SK} (t:JF) (h:Eh D9 kK l) (hb:l.length<=1000):EY.f l t.f0 t.f1 t.f2=some (((FW D9 kK t l).length:Int), !(atR D9 kK t l).isEmpty):=by
 unfold EY.f;rw [if_pos (by omega),(Qs t h).1,(Qs t h).2]
theorem Vx (l:List SK) (t:JF):(FW D9 kK t l).length<=l.length:=List.length_filter_le _ _
theorem UK {l:List SK} (t:JF) (h:Eh D9 kK l):l.take (FW D9 kK t l).length=FW D9 kK t l/\l.drop (FW D9 kK t l).length=atR D9 kK t l++G9 D9 kK t l:=by
 obtain ⟨hs,_⟩:=Iq t h;constructor
 ·conv=>lhs;arg 2;rw [hs]
  exact List.take_left
 ·conv=>lhs;arg 2;rw [hs]
  exact List.drop_left
theorem YU {l:List SK} (a:JF) (b:SC) (h:Eh D9 kK l) (hb:l.length<=1000):Ev (λk=>CG.f k l a.f0 a.f1 a.f2 b.f0 b.f1 b.f2 b.f3 b.f4 b.f5 b.f6 b.f7 b.f8 b.f9 b.f10) (JP D9 kK a ⟨a,b⟩ l):=by
 have hpl:=Sw a (⟨a,b⟩:SK) h;have hle:=Vx l a;obtain ⟨ht,hd⟩:=UK a h;unfold CG.f;simp only [XV a h hb,Option.bind_some,Int.toNat_natCast,hd];refine AU (by omega) (AU (by omega) ?_);rw [ht];rcases (Iq a h).2 with h0|⟨x,h0,hx⟩
 ·rw [h0];refine Ab (by decide) ?_;refine AY (Oa _ (by simp) ?_) ?_
  ·simp only [List.nil_append,List.flatten_cons,List.flatten_nil,List.append_nil,List.length_append,List.length_cons,List.length_nil];unfold JP at hpl;rw [List.length_append,List.length_cons] at hpl;omega
  ·exact BJ (Ad _) (by simp [JP])
 ·rw [h0];refine AU rfl (AU (by simp;omega) ?_);refine AY (Oa _ (by simp) ?_) ?_
  ·simp only [List.cons_append,List.nil_append,List.drop_succ_cons,List.drop_zero,List.flatten_cons,List.flatten_nil,List.append_nil,List.length_append,List.length_cons,List.length_nil];unfold JP at hpl;rw [List.length_append,List.length_cons] at hpl;omega
  ·exact BJ (Ad _) (by simp [JP])
end Go.Proofs.YtfggjdkccdkogaaGreatDoor.Y
end
section
namespace Go.Proofs.YtfggjdkccdkogaaGreatDoor.Y
set_option linter.unusedVariables false
set_option linter.unusedSimpArgs false
open RowKit Print Ac Aq Aw
theorem VG (a b:Int):Du.f a b=some (Ia a b):=by
 unfold Du.f Ia;split
 ·rfl
 ·split<;>rfl
theorem VH (l m:List Int) (h:l=[]\/m=[]):cmpL l m=Ia (l.length:Int) (m.length:Int):=by
 rcases h with rfl|rfl
 ·cases m with
  |nil=>rfl
  |cons _ _=>simp only [cmpL,Ia,List.length_cons,List.length_nil];rw [if_pos (by omega)]
 ·cases l with
  |nil=>rfl
  |cons _ _=>simp only [cmpL,Ia,List.length_cons,List.length_nil];rw [if_neg (by omega),if_pos (by omega)]
theorem RP (a b:Int) (n:Nat) (x y:Nat) (hx:a=(x:Int)+n) (hy:b=(y:Int)+n):Ia a b=Ia x y:=by
 subst hx hy;unfold Ia;repeat (first|omega|split)
theorem Nk (a b:ByteArray) (ha:a.size<=9223372036854775807) (hb:b.size<=9223372036854775807) (d:Nat):∀ i:Nat,i+d=a.size->i<=b.size->Ev (λk=>Ay.l0 k a b i) (cmpL ((bytesOf a).drop i) ((bytesOf b).drop i)):=by
 have last:∀ (i:Nat),i<=a.size->i<=b.size->(i=a.size\/i=b.size)->Ev (λk=>Ay.j1 k a b i false) (cmpL ((bytesOf a).drop i) ((bytesOf b).drop i)):=by
  intro i h1 h2 h3;apply Az;simp only [Ay.j1];refine Ab (by decide) ?_;rw [VG];refine AY (Ad _) (BJ (Ad _) ?_);have la:=bytesOf_length a;have lb:=bytesOf_length b;rw [VH]
  ·exact RP _ _ i _ _ (by rw [List.length_drop];omega) (by rw [List.length_drop];omega)
  ·rcases h3 with h3|h3
   ·exact .inl (List.drop_eq_nil_of_le (by omega))
   ·exact .inr (List.drop_eq_nil_of_le (by omega))
 induction d with
 |zero=>
  intro i hi hb';apply Az;simp only [Ay.l0];exact Ab (by omega) (last i (by omega) hb' (.inl (by omega)))
 |succ d ih=>
  intro i hi hb';apply Az;simp only [Ay.l0];refine AU (by omega) ?_;by_cases h:i=b.size
  ·have:decide ((i:Int)<(b.size:Int))=false:=by simp;omega
   rw [this];exact last i (by omega) hb' (.inr h)
  ·have:decide ((i:Int)<(b.size:Int))=true:=by simp;omega
   rw [this];apply Az;simp only [Ay.j1];have hw:wrap64 ((i:Int)+1)=((i+1:Nat):Int):=by rw [JV (by omega) (by omega)];omega
   rw [hw];rcases Ea a (i:=i) (by omega) with ⟨h1,_⟩|⟨h1,h2⟩
   ·omega
   ·rcases Ea b (i:=i) (by omega) with ⟨h3,_⟩|⟨h3,h4⟩
    ·omega
    ·rw [h2,h4];refine AU (by trivial) (AU (by omega) (AU (by omega) (AU (by omega) ?_)));simp only [cmpL,Ia];by_cases h5:bt a i<bt b i
     ·exact AU h5 (BJ (Ad _) (by simp [h5]))
     ·refine Ab h5 ?_;by_cases h6:bt a i>bt b i
      ·exact AU h6 (BJ (Ad _) (by simp [h5,h6]))
      ·refine Ab h6 (BJ (ih (i+1) (by omega) (by omega)) ?_);simp [h5,h6]
theorem Jj {a b:ByteArray} (ha:a.size<=9223372036854775807) (hb:b.size<=9223372036854775807):Ev (λk=>Ay.f k a b) (Iz a b):=by
 have:=Nk a b ha hb a.size 0 (by omega) (by omega);rw [Ld];simpa [Ay.f] using this
theorem QS {a0 a1 a2 b0 b1 b2:ByteArray} (ha0:a0.size<=9223372036854775807) (ha1:a1.size<=9223372036854775807) (ha2:a2.size<=9223372036854775807) (hb0:b0.size<=9223372036854775807) (hb1:b1.size<=9223372036854775807) (hb2:b2.size<=9223372036854775807):Ev (λk=>CL.f k a0 a1 a2 b0 b1 b2) (Ra (a0,a1,a2) (b0,b1,b2)):=by
 unfold CL.f Ra Nn;refine AY (Jj ha0 hb0) ?_;by_cases h0:Iz a0 b0=0
 ·simp only [if_pos h0];refine AY (Jj ha1 hb1) ?_;by_cases h1:Iz a1 b1=0
  ·simp only [if_pos h1];exact AY (Jj ha2 hb2) (Ad _)
  ·simp only [if_neg h1];exact Ad _
 ·simp only [if_neg h0];exact Ad _
end Go.Proofs.YtfggjdkccdkogaaGreatDoor.Y
end
section
namespace Go.Proofs.YtfggjdkccdkogaaGreatDoor.Y
open RowKit Print Ac Aq Aw
set_option linter.unusedVariables false
set_option linter.unusedSimpArgs false
def kC (x:SC):JF:=⟨x.f0,x.f1,x.f2⟩
def Xl (x:SC):Prop:=x.f0.size<=9223372036854775807/\x.f1.size<=9223372036854775807/\x.f2.size<=9223372036854775807/\x.f3.size<=9223372036854775807
theorem Hg {m:List SC} {j:Nat} (h:j<m.length):AB m (j:Int)=m[j]:=by
 unfold AB;rw [Int.toNat_natCast,List.getD_eq_getElem?_getD,List.getElem?_eq_getElem h];rfl
theorem JB {j:Nat} (h:j<=1000000):wrap64 ((j:Int)+1)=((j+1:Nat):Int):=by unfold wrap64;omega
theorem Qh {x y:SC} (hx:Xl x) (hy:Xl y):Ev (λk=>CL.f k x.f0 x.f1 x.f2 y.f0 y.f1 y.f2) (Gd (kC x) (kC y)):=
 BJ (QS hx.1 hx.2.1 hx.2.2.1 hy.1 hy.2.1 hy.2.2.1) (NJ _ _ _ _ _ _).symm
theorem ZE (x:SC) (a:JF):(x.f0.toList==a.f0.toList&&(x.f1.toList==a.f1.toList&&(x.f2.toList==a.f2.toList)))=true↔kC x=a:=by
 obtain ⟨a0,a1,a2⟩:=a;simp only [Bool.and_eq_true,beq_iff_eq,toList_inj,kC,LP.mk.injEq]
theorem Xm (x:SC) (a:JF):(!(x.f0.toList==a.f0.toList)||(!(x.f1.toList==a.f1.toList)||(!(x.f2.toList==a.f2.toList))))=true↔kC x≠a:=by
 refine Iff.trans ?_ (not_congr (ZE x a));cases x.f0.toList==a.f0.toList<;>cases x.f1.toList==a.f1.toList<;>cases x.f2.toList==a.f2.toList<;>decide
theorem XK (m:List SC) (a:JF) (hb:m.length<=10000):∀ n j (acc:List SC),m.length - j=n->j<=m.length->acc.length<=j->
 Ev (λk=>CF.l0 k m acc (j:Int) a.f0 a.f1 a.f2) (acc++(m.drop j).filter λx=>decide (kC x≠a)):=by
 intro n;induction n with
 |zero=>
  intro j acc hn hj ha;obtain rfl:j=m.length:=by omega
  rw [List.drop_length];refine Az ?_;simp only [CF.l0];exact Ab (by omega) (BJ (Ad _) (by simp))
 |succ n ih=>
  intro j acc hn hj ha;have hlt:j<m.length:=by omega
  rw [List.drop_eq_getElem_cons hlt];refine Az ?_;simp only [CF.l0,BS.f,Option.bind_some];rw [Hg hlt,JB (by omega)];refine AU (by omega) (AU (by omega) ?_);by_cases h:kC m[j]=a
  ·rw [List.filter_cons_of_neg (by simpa using h)];exact Ab (λh1=>(Xm _ _).1 h1 h) (ih (j+1) acc (by omega) (by omega) (by omega))
  ·rw [List.filter_cons_of_pos (by simpa using h)];refine AU ((Xm _ _).2 h) (AU (by omega) ?_);exact BJ (ih (j+1) (acc++[m[j]]) (by omega) (by omega) (by simp;omega)) (by simp)
theorem VX {m:List SC} (a:JF) (h:Eh D9 kC m) (hb:m.length<=1000):Ev (λk=>CF.f k m a.f0 a.f1 a.f2) (Ph D9 kC a m):=by
 refine BJ (XK m a (by omega) _ 0 [] rfl (Nat.zero_le _) (Nat.le_refl _)) ?_;rw [List.nil_append,List.drop_zero];refine Oc (Gz h _) (Ob h) λx=>?_
 rw [Jo,List.mem_filter];simp
theorem YQ (m:List SC) (c:SC) (hb:m.length<=10000):∀ n j (acc:List SC),m.length - j=n->j<=m.length->acc.length<=j+1->
 Ev (λk=>Al.l0 k m acc true (j:Int) c.f0 c.f1 c.f2 c.f3 c.f4 c.f5 c.f6 c.f7 c.f8 c.f9 c.f10) (acc++m.drop j):=by
 intro n;induction n with
 |zero=>
  intro j acc hn hj ha;obtain rfl:j=m.length:=by omega
  rw [List.drop_length];refine Az ?_;simp only [Al.l0];exact Ab (by omega) (AU trivial (BJ (Ad _) (by simp)))
 |succ n ih=>
  intro j acc hn hj ha;have hlt:j<m.length:=by omega
  rw [List.drop_eq_getElem_cons hlt];refine Az ?_;simp only [Al.l0];rw [Hg hlt,JB (by omega)];refine AU (by omega) (AU trivial (AU (by omega) (AU (by omega) ?_)));exact BJ (ih (j+1) (acc++[m[j]]) (by omega) (by omega) (by simp;omega)) (by simp)
theorem YR (m:List SC) (c:SC) (hb:m.length<=10000) (hc:Xl c) (hm:∀ x∈m,Xl x) (hne:∀ x∈m,kC x≠kC c) (hr:Eh D9 kC m):∀ n j (acc:List SC),m.length - j=n->j<=m.length->acc.length<=j->
 Ev (λk=>Al.l0 k m acc false (j:Int) c.f0 c.f1 c.f2 c.f3 c.f4 c.f5 c.f6 c.f7 c.f8 c.f9 c.f10) (acc++JP D9 kC (kC c) c (m.drop j)):=by
 intro n;induction n with
 |zero=>
  intro j acc hn hj ha;obtain rfl:j=m.length:=by omega
  rw [List.drop_length];refine Az ?_;simp only [Al.l0];exact Ab (by omega) (Ab (by decide) (AU (by omega) (BJ (Ad _) (by simp [JP,FW,G9]))))
 |succ n ih=>
  intro j acc hn hj ha;have hlt:j<m.length:=by omega
  have hd:Eh D9 kC (m.drop j):=List.Pairwise.sublist (List.drop_sublist _ _) hr;rw [List.drop_eq_getElem_cons hlt] at hd⊢
  obtain ⟨hx,_⟩:=List.pairwise_cons.1 hd;refine Az ?_;simp only [Al.l0,BS.f,Option.bind_some];rw [Hg hlt,JB (by omega)];refine AU (by omega) (Ab (by decide) (AU (by omega) ?_));refine AY (Qh (x:=c) (y:=m[j]) hc (hm _ (List.getElem_mem hlt))) ?_;by_cases h:Gd (kC c) (kC m[j])<0
  ·refine AU h (AU (by omega) (AU (by simp;omega) ?_));have hall:∀ y∈m[j]::m.drop (j+1),D9.lt (kC c) (kC y):=λy hy=>by
    rcases List.mem_cons.1 hy with rfl|hy
    ·exact h
    ·exact D9.tr h (hx y hy)
   refine BJ (YQ m c hb _ (j+1) (acc++[c]++[m[j]]) rfl (by omega) (by simp;omega)) ?_;unfold JP;rw [NR hall,NS hall];simp
  ·refine Ab h (AU (by omega) ?_);have h2:D9.lt (kC m[j]) (kC c):=by
    rcases D9.tot (kC m[j]) (kC c) with h3|h3|h3
    ·exact h3
    ·exact absurd h3 (hne m[j] (List.getElem_mem hlt))
    ·exact absurd h3 h
   refine BJ (ih (j+1) (acc++[m[j]]) (by omega) (by omega) (by simp;omega)) ?_;unfold JP;rw [K9 h2,Iy (λh3=>h h3)];simp
theorem XL {m:List SC} (c:SC) (h:Eh D9 kC m) (hb:m.length<=1000) (hc:Xl c) (hm:∀ x∈m,Xl x):Ev (λk=>Al.f k m c.f0 c.f1 c.f2 c.f3 c.f4 c.f5 c.f6 c.f7 c.f8 c.f9 c.f10) (JP D9 kC (kC c) c m):=by
 unfold Al.f;simp only [BS.f,Option.bind_some];refine AY (VX (kC c) h hb) ?_;have hl:=Sv (kC c) h;have hr:=Ob (k:=kC c) h;refine BJ (YR (Ph D9 kC (kC c) m) c (by omega) hc (λx hx=>hm x (Jo.1 hx).1) (λx hx=>(Jo.1 hx).2) hr _ 0 [] rfl (Nat.zero_le _) (Nat.le_refl _)) ?_;rw [List.nil_append,List.drop_zero];refine Oc (II hr rfl) (II h rfl) λx=>?_
 rw [NQ,NQ,Jo];constructor
 ·rintro (h1|⟨⟨h1,_⟩,h2⟩)
  ·exact .inl h1
  ·exact .inr ⟨h1,h2⟩
 ·rintro (h1|⟨h1,h2⟩)
  ·exact .inl h1
  ·exact .inr ⟨⟨h1,h2⟩,h2⟩
end Go.Proofs.YtfggjdkccdkogaaGreatDoor.Y
end
section
namespace Go.Proofs.YtfggjdkccdkogaaGreatDoor.Y
open RowKit Print Ac Aq Aw
set_option linter.unusedVariables false
set_option linter.unusedSimpArgs false
def KR (d:ByteArray) (m:List SC):Nat:=(m.filter λx=>decide (x.f0=d)).length
def IZ (m:List SC):Bool:=m.any (λx=>decide (12<KR x.f0 m))||decide (60<m.length)
theorem Jl (d:ByteArray) (x:SC) (m:List SC):KR d (x::m)=(if x.f0=d then 1 else 0)+KR d m:=by
 unfold KR;by_cases h:x.f0=d
 ·rw [List.filter_cons_of_pos (by simpa using h),if_pos h,List.length_cons];omega
 ·rw [List.filter_cons_of_neg (by simpa using h),if_neg h];omega
theorem VT (m:List SC) (d:ByteArray) (hb:m.length<=10000):∀ n j (c:Nat),m.length - j=n->j<=m.length->c<=j->
 Ev (λk=>CW.l0 k m d (c:Int) (j:Int)) ((c+KR d (m.drop j):Nat):Int):=by
 intro n;induction n with
 |zero=>
  intro j c hn hj hc;obtain rfl:j=m.length:=by omega
  rw [List.drop_length];refine Az ?_;simp only [CW.l0];exact Ab (by omega) (Ad _)
 |succ n ih=>
  intro j c hn hj hc;have hlt:j<m.length:=by omega
  rw [List.drop_eq_getElem_cons hlt,Jl];refine Az ?_;simp only [CW.l0];rw [Hg hlt,JB (by omega),JB (by omega)];refine AU (by omega) (AU (by omega) ?_);by_cases h:m[j].f0=d
  ·rw [if_pos h];exact AU (toList_inj.2 h) (BJ (ih (j+1) (c+1) (by omega) (by omega) (by omega)) (by omega))
  ·rw [if_neg h];exact Ab (λe=>h (toList_inj.1 e)) (BJ (ih (j+1) c (by omega) (by omega) (by omega)) (by omega))
theorem Tz {m:List SC} (d:ByteArray) (hb:m.length<=1000):Ev (λk=>CW.f k m d) (KR d m:Int):=
 BJ (VT m d (by omega) _ 0 0 rfl (Nat.zero_le _) (Nat.le_refl _)) (by simp)
theorem XC (m:List SC) (hb:m.length<=1000):∀ n j,m.length - j=n->j<=m.length->
 Ev (λk=>Br.l0 k m (j:Int)) ((m.drop j).any (λx=>decide (12<KR x.f0 m))||decide (60<m.length)):=by
 intro n;induction n with
 |zero=>
  intro j hn hj;obtain rfl:j=m.length:=by omega
  rw [List.drop_length];refine Az ?_;simp only [Br.l0];refine Ab (by omega) (BJ (Ad _) ?_);rw [List.any_nil,Bool.false_or];exact decide_eq_decide.2 (by omega)
 |succ n ih=>
  intro j hn hj;have hlt:j<m.length:=by omega
  rw [List.drop_eq_getElem_cons hlt,List.any_cons];refine Az ?_;simp only [Br.l0];rw [Hg hlt,JB (by omega)];refine AU (by omega) (AU (by omega) (AY (Tz _ hb) ?_));by_cases h:12<KR m[j].f0 m
  ·exact AU (by omega) (BJ (Ad _) (by rw [decide_eq_true h];rfl))
  ·exact Ab (by omega) (BJ (ih (j+1) (by omega) (by omega)) (by rw [decide_eq_false h,Bool.false_or]))
theorem NF {m:List SC} (hb:m.length<=1000):Ev (λk=>Br.f k m) (IZ m):=
 XC m hb _ 0 rfl (Nat.zero_le _)
theorem Sd:∀ (m:List SC) (o:Nat) (d:ByteArray),Eh D9 kC m->(∀ x∈m,Iz d x.f0<=0)->o<=12->
 (Hy (m.map (·.f0)) (o:Int) d=true↔∃ x∈m,12<KR x.f0 m+if x.f0=d then o else 0)
 |[],o,d,_,_,_=>by simp [Hy]
 |x::m,o,d,hr,hd,ho=>by
  obtain ⟨h1,h2⟩:=List.pairwise_cons.1 hr;have hx:∀ y∈m,Iz x.f0 y.f0<=0:=λy hy=>by
   have h3:Gd (kC x) (kC y)<0:=h1 y hy;unfold Gd at h3;rw [NJ] at h3;unfold Ra Nn at h3;by_cases h4:Iz x.f0 y.f0=0
   ·omega
   ·have h5:¬Iz (kC x).f0 (kC y).f0=0:=h4;rw [if_neg h5] at h3;have h6:Iz x.f0 y.f0<0:=h3;omega
  have hdx:=hd x List.mem_cons_self;obtain ⟨o',ho',hgo⟩:∃ o':Nat,o'=(if x.f0=d then o else 0)+1/\Hy ((x::m).map (·.f0)) (o:Int) d=(decide (12<o')||Hy (m.map (·.f0)) (o':Int) x.f0):=by
   refine ⟨_,rfl,?_⟩;rw [List.map_cons];show (if 12<(if x.f0=d then (o:Int) else 0)+1 then true else Hy _ ((if x.f0=d then (o:Int) else 0)+1) x.f0)=_;have hc:(if x.f0=d then (o:Int) else 0)+1=(((if x.f0=d then o else 0)+1:Nat):Int):=by split<;>omega
   rw [hc];generalize (if x.f0=d then o else 0)+1=q;by_cases h3:12<q
   ·rw [if_pos (by omega),decide_eq_true h3,Bool.true_or]
   ·rw [if_neg (by omega),decide_eq_false h3,Bool.false_or]
  rw [hgo,Bool.or_eq_true,decide_eq_true_iff];by_cases hbig:12<o'
  ·refine ⟨λ_=>⟨x,List.mem_cons_self,?_⟩,λ_=> .inl hbig⟩;rw [Jl,if_pos rfl];omega
  ·rw [Sd m o' x.f0 h2 hx (by omega)];constructor
   ·rintro (h|⟨y,hy,h⟩)
    ·exact absurd h hbig
    ·by_cases e:y.f0=x.f0
     ·refine ⟨x,List.mem_cons_self,?_⟩;rw [Jl,if_pos rfl];rw [if_pos e,e] at h;omega
     ·refine ⟨y,List.mem_cons_of_mem _ hy,?_⟩;rw [if_neg e] at h;rw [Jl];omega
   ·rintro ⟨y,hy,h⟩;rw [Jl] at h;by_cases e:x.f0=y.f0
    ·rw [if_pos e] at h;rw [<-e] at h;refine .inr ?_;by_cases hm:∃ z∈m,z.f0=x.f0
     ·obtain ⟨z,hz,hz2⟩:=hm;refine ⟨z,hz,?_⟩;rw [if_pos hz2,hz2];omega
     ·have h0:KR x.f0 m=0:=by
       unfold KR;rw [List.length_eq_zero_iff,List.filter_eq_nil_iff];intro z hz hz2;exact hm ⟨z,hz,of_decide_eq_true hz2⟩
      omega
    ·rw [if_neg e] at h;have hy2:y∈m:=(List.mem_cons.1 hy).resolve_left λe2=>e (by rw [e2])
     have hyd:¬y.f0=d:=λe2=>by
      have h3:=hx y hy2;rw [e2] at h3;have h4:=JC.anti x.f0 d;exact e ((JC.same _ _).1 (by rw [e2];omega))
     rw [if_neg hyd] at h;exact .inr ⟨y,hy2,by omega⟩
def G8 (c:SC):SK:=⟨kC c,c⟩
theorem YL {m:List SC} (h:Eh D9 kC m) (hb:m.length<=1000):Gr.f (m.map G8)=some (IZ m):=by
 unfold Gr.f;rw [if_pos (by rw [List.length_map];omega),List.length_map,List.map_map];congr 1;unfold IZ;congr 1;have hg:=Sd m 0 ⟨#[]⟩ h (λx _=>?_) (by omega)
 ·rw [Bool.eq_iff_iff,List.any_eq_true];refine hg.trans (exists_congr λx=>and_congr_right λ_=>?_);rw [decide_eq_true_iff];split<;>omega
 ·rw [Ld];rw [show bytesOf ⟨#[]⟩=[] from rfl];cases bytesOf x.f0 with
  |nil=>exact Int.le_refl 0
  |cons a l=>exact (by decide:(-1:Int)<=0)
end Go.Proofs.YtfggjdkccdkogaaGreatDoor.Y
end
section
namespace Go.Proofs.YtfggjdkccdkogaaGreatDoor.Y
set_option linter.unusedVariables false
set_option linter.unusedSimpArgs false
open RowKit Print Ac Aq Aw
def PW (p:ByteArray):Bool:=(bytesOf p).all Ir
def MB (p:ByteArray):Bool:=decide ((p.size:Int)>=1)&&(decide ((p.size:Int)<=64)&&(decide (bt p 0=47)&&PW p))
def UE (n:ByteArray):Bool:= !decide (n.toList=([]:List UInt8))&&(bytesOf n).all J7
def UF (v:ByteArray):Bool:=(bytesOf v).all J8
theorem Va {p:ByteArray} (h:p.size<=500):Fu.f p=some (PW p):=by unfold Fu.f;rw [if_pos (by omega)];rfl
theorem YS {n:ByteArray} (h:n.size<=500):Es.f n=some (UE n):=by unfold Es.f;rw [if_pos (by omega)];rfl
theorem YT {v:ByteArray} (h:v.size<=500):EW.f v=some (UF v):=by unfold EW.f;rw [if_pos (by omega)];rfl
theorem XM {p:ByteArray} (h:p.size<=500):Gi.f p=some (MB p):=by
 unfold Gi.f MB;rw [Va h];by_cases h1:(p.size:Int)>=1
 ·rw [if_pos h1,decide_eq_true h1];by_cases h2:(p.size:Int)<=64
  ·rw [if_pos h2,decide_eq_true h2,if_pos (show 0<(p.size:Int) by omega)];by_cases h3:bt p 0=47
   ·rw [if_pos h3,decide_eq_true h3];rfl
   ·rw [if_neg h3,decide_eq_false h3];rfl
  ·rw [if_neg h2,decide_eq_false h2];rfl
 ·rw [if_neg h1,decide_eq_false h1];rfl
def KS (c4 c5 c6:Int):Bool:=Nu 253402300799 c4&&(Nu 253402300799 c5&&Nu 253402300799 c6)
def OJ (v:ByteArray) (c4 c5 c6 ss:Int):Bool:=UF v&&(!decide ((v.size:Int)>128)&&(KS c4 c5 c6&&(decide (ss>=0)&&decide (ss<=3))))
def Rb (p n v:ByteArray) (c4 c5 c6 ss:Int):Bool:=MB p&&(UE n&&(!decide ((n.size:Int)>64)&&OJ v c4 c5 c6 ss))
def Gw (d p n v:ByteArray) (c4 c5 c6:Int) (ho:Bool) (ss:Int):Bool:=(Gl d).2&&(decide (bytesOf (Gl d).1=bytesOf d)&&(!(Y7 d&& !ho)&&Rb p n v c4 c5 c6 ss))
theorem Kw {d p n v:ByteArray} {c4 c5 c6:Int} {ho se ht:Bool} {ss:Int} (hd:d.size<=500) (hp:p.size<=500) (hn:n.size<=500) (hv:v.size<=500):Ev (λk=>Aj.f k d p n v c4 c5 c6 ho se ht ss) (Gw d p n v c4 c5 c6 ho ss):=by
 have j1:∀ x:Bool,Ev (λk=>Aj.j1 k x d p n v c4 c5 c6 ho se ht ss) (!x&&OJ v c4 c5 c6 ss):=by
  intro x;apply Az;simp only [Aj.j1,YT hv,Er.f,Option.bind_some];unfold OJ;cases x with
  |true=>exact AU rfl (Ad _)
  |false=>
   refine Ab (by decide) ?_;by_cases h1:UF v=true
   ·refine AU h1 ?_;by_cases h2:(v.size:Int)>128
    ·exact AU h2 (BJ (Ad _) (by simp [h2]))
    ·refine Ab h2 ?_;by_cases h3:KS c4 c5 c6=true
     ·refine AU h3 ?_;by_cases h4:ss>=0
      ·exact AU h4 (BJ (Ad _) (by rw [h1,h3,decide_eq_true h4,decide_eq_false h2];simp))
      ·exact Ab h4 (BJ (Ad _) (by rw [decide_eq_false h4];simp))
     ·exact Ab h3 (BJ (Ad _) (by rw [Bool.not_eq_true] at h3;rw [h3];simp))
   ·exact Ab h1 (BJ (Ad _) (by rw [Bool.not_eq_true] at h1;rw [h1];simp))
 have j0:∀ x:Bool,Ev (λk=>Aj.j0 k x d p n v c4 c5 c6 ho se ht ss) (!x&&Rb p n v c4 c5 c6 ss):=by
  intro x;apply Az;simp only [Aj.j0,XM hp,YS hn,Option.bind_some];unfold Rb;cases x with
  |true=>exact AU rfl (Ad _)
  |false=>
   refine Ab (by decide) ?_;by_cases h1:MB p=true
   ·refine AU h1 ?_;by_cases h2:UE n=true
    ·exact AU h2 (BJ (j1 _) (by rw [h1,h2];simp))
    ·exact Ab h2 (BJ (j1 _) (by rw [Bool.not_eq_true] at h2;rw [h2];simp))
   ·exact Ab h1 (BJ (j1 _) (by rw [Bool.not_eq_true] at h1;rw [h1];simp))
 unfold Aj.f Gw;refine AY (VS d) ?_;by_cases h1:(Gl d).2=true
 ·refine AU h1 ?_;by_cases h2:(Gl d).1.toList=d.toList
  ·have h3:=toList_inj.mp h2;refine AU h2 (AY (Y8 (by rw [h3];omega)) ?_);rw [h3,h1,decide_eq_true rfl];by_cases h4:Y7 d=true
   ·exact AU h4 (BJ (j0 _) (by rw [h4];simp))
   ·exact Ab h4 (BJ (j0 _) (by rw [Bool.not_eq_true] at h4;rw [h4];simp))
  ·refine Ab h2 (BJ (j0 _) ?_);rw [decide_eq_false (λe=>h2 (Fa.mpr e)),bne_iff_ne.mpr h2];simp
 ·refine Ab h1 (BJ (j0 _) ?_);rw [Bool.not_eq_true] at h1;rw [h1];simp
end Go.Proofs.YtfggjdkccdkogaaGreatDoor.Y
end
section
namespace Go.Proofs.YtfggjdkccdkogaaGreatDoor.Y
set_option linter.unusedVariables false
set_option linter.unusedSimpArgs false
open RowKit Print Ac Aq Aw
theorem Rc (s:ByteArray) (i:Int):EZ.f (bt s i)=some (J7 (bt s i)):=LD (P:=λc=>EZ.f c=some (J7 c)) (by decide+kernel) (GH s i).1 (GH s i).2
theorem Qk (s:ByteArray) (i:Int):ES.f (bt s i)=some (J8 (bt s i)):=LD (P:=λc=>ES.f c=some (J8 c)) (by decide+kernel) (GH s i).1 (GH s i).2
theorem PX (s:ByteArray) (hs:s.size<=4294967296) (d:Nat):∀ i:Nat,i+d=s.size->Ev (λk=>Bi.l0 k s i) (decide ((s.size:Int)>0)&&((bytesOf s).drop i).all J7):=by
 induction d with
 |zero=>
  intro i hi;apply Az;simp only [Bi.l0];exact Ab (by omega) (BJ (Ad _) (by rw [List.drop_eq_nil_of_le (by rw [bytesOf_length];omega)];simp))
 |succ d ih=>
  intro i hi;apply Az;simp only [Bi.l0,Rc];have hw:wrap64 ((i:Int)+1)=((i+1:Nat):Int):=by rw [JV (by omega) (by omega)];omega
  rw [hw];refine AU (by omega) (AU (by omega) (AY (Ad _) ?_));rcases Ea s (i:=i) (by omega) with ⟨h1,_⟩|⟨h1,h2⟩
  ·omega
  ·rw [h2,List.all_cons];by_cases hc:J7 (bt s i)=true
   ·exact AU hc (BJ (ih (i+1) (by omega)) (by rw [hc];simp))
   ·exact Ab hc (BJ (Ad _) (by rw [Bool.not_eq_true] at hc;rw [hc];simp))
theorem PY (s:ByteArray) (hs:s.size<=4294967296) (d:Nat):∀ i:Nat,i+d=s.size->Ev (λk=>Bo.l0 k s i) (((bytesOf s).drop i).all J8):=by
 induction d with
 |zero=>
  intro i hi;apply Az;simp only [Bo.l0];exact Ab (by omega) (BJ (Ad _) (by rw [List.drop_eq_nil_of_le (by rw [bytesOf_length];omega)];simp))
 |succ d ih=>
  intro i hi;apply Az;simp only [Bo.l0,Qk];have hw:wrap64 ((i:Int)+1)=((i+1:Nat):Int):=by rw [JV (by omega) (by omega)];omega
  rw [hw];refine AU (by omega) (AU (by omega) (AY (Ad _) ?_));rcases Ea s (i:=i) (by omega) with ⟨h1,_⟩|⟨h1,h2⟩
  ·omega
  ·rw [h2,List.all_cons];by_cases hc:J8 (bt s i)=true
   ·exact AU hc (BJ (ih (i+1) (by omega)) (by rw [hc];simp))
   ·exact Ab hc (BJ (Ad _) (by rw [Bool.not_eq_true] at hc;rw [hc];simp))
theorem Re (c:Int):Ir c=decide (¬c<33/\¬c>126/\¬c=59):=by
 unfold Ir;rw [Bool.eq_iff_iff];simp only [Bool.and_eq_true,Bool.not_eq_true',decide_eq_true_iff,decide_eq_false_iff_not];omega
theorem NK (s:ByteArray) (hs:s.size<=4294967296) (d:Nat):∀ i:Nat,i+d=s.size->Ev (λk=>CX.l0 k s i) (((bytesOf s).drop i).all Ir):=by
 induction d with
 |zero=>
  intro i hi;apply Az;simp only [CX.l0];exact Ab (by omega) (BJ (Ad _) (by rw [List.drop_eq_nil_of_le (by rw [bytesOf_length];omega)];simp))
 |succ d ih=>
  intro i hi;apply Az;simp only [CX.l0];have hw:wrap64 ((i:Int)+1)=((i+1:Nat):Int):=by rw [JV (by omega) (by omega)];omega
  rw [hw];refine AU (by omega) (AU (by omega) ?_);rcases Ea s (i:=i) (by omega) with ⟨h1,_⟩|⟨h1,h2⟩
  ·omega
  ·rw [h2,List.all_cons,Re];by_cases h3:bt s i<33
   ·exact AU h3 (BJ (Ad _) (by rw [decide_eq_false (by omega)];rfl))
   ·refine Ab h3 ?_;by_cases h4:bt s i>126
    ·exact AU h4 (BJ (Ad _) (by rw [decide_eq_false (by omega)];rfl))
    ·refine Ab h4 ?_;by_cases h5:bt s i=59
     ·exact AU h5 (BJ (Ad _) (by rw [decide_eq_false (by omega)];rfl))
     ·exact Ab h5 (BJ (ih (i+1) (by omega)) (by rw [decide_eq_true ⟨h3,h4,h5⟩];rfl))
theorem Rf {s:ByteArray} (hs:s.size<=500):Ev (λk=>Bi.f k s) (UE s):=by
 have h:=PX s (by omega) s.size 0 (by omega);have e:decide ((s.size:Int)>0)= !decide (s.toList=([]:List UInt8)):=by
  rw [Bool.eq_iff_iff,Bool.not_eq_true',decide_eq_true_iff,decide_eq_false_iff_not];have hl:s.toList.length=s.size:=by rw [toList_data,Array.length_toList];rfl
  constructor
  ·intro h0 h1;rw [h1] at hl;simp at hl;omega
  ·intro h0;have:s.toList.length≠0:=λz=>h0 (List.eq_nil_of_length_eq_zero z)
   omega
 unfold UE;rw [<-e];simpa [Bi.f] using h
theorem Rh {s:ByteArray} (hs:s.size<=500):Ev (λk=>Bo.f k s) (UF s):=by
 have h:=PY s (by omega) s.size 0 (by omega);simpa [Bo.f,UF] using h
theorem PZ {s:ByteArray} (hs:s.size<=500):Ev (λk=>CX.f k s) (PW s):=by
 have h:=NK s (by omega) s.size 0 (by omega);simpa [CX.f,PW] using h
theorem Pb {p:ByteArray} (h:p.size<=500):Ev (λk=>DZ.f k p) (MB p):=by
 unfold DZ.f MB;by_cases h1:(p.size:Int)>=1
 ·refine AU h1 ?_;by_cases h2:(p.size:Int)<=64
  ·refine AU h2 (AU (by omega) ?_);by_cases h3:bt p 0=47
   ·exact AU h3 (AY (PZ h) (BJ (Ad _) (by rw [decide_eq_true h1,decide_eq_true h2,decide_eq_true h3];rfl)))
   ·exact Ab h3 (BJ (Ad _) (by rw [decide_eq_false h3];simp))
  ·exact Ab h2 (BJ (Ad _) (by rw [decide_eq_false h2];simp))
 ·exact Ab h1 (BJ (Ad _) (by rw [decide_eq_false h1];simp))
theorem Vb (c4 c5 c6 ss:Int):(KS c4 c5 c6&&(decide (ss>=0)&&decide (ss<=3)))=decide (¬c4<0/\¬c4>253402300799/\¬c5<0/\¬c5>253402300799/\¬c6<0/\¬c6>253402300799/\ss>=0/\ss<=3):=by
 unfold KS Nu;rw [Bool.eq_iff_iff];simp only [Bool.and_eq_true,decide_eq_true_iff];omega
theorem Ky {d p n v:ByteArray} {c4 c5 c6:Int} {ho se ht:Bool} {ss:Int} (hd:d.size<=500) (hp:p.size<=500) (hn:n.size<=500) (hv:v.size<=500):Ev (λk=>Aa.f k d p n v c4 c5 c6 ho se ht ss) (Gw d p n v c4 c5 c6 ho ss):=by
 have j1:∀ x:Bool,Ev (λk=>Aa.j1 k x d p n v c4 c5 c6 ho se ht ss) (!x&&(KS c4 c5 c6&&(decide (ss>=0)&&decide (ss<=3)))):=by
  intro x;apply Az;simp only [Aa.j1];cases x with
  |true=>exact AU rfl (Ad _)
  |false=>
   refine Ab (by decide) ?_;rw [Vb,Bool.not_false,Bool.true_and];by_cases h1:c4<0
   ·exact AU h1 (BJ (Ad _) (decide_eq_false (by omega)).symm)
   refine Ab h1 ?_;by_cases h2:c4>253402300799
   ·exact AU h2 (BJ (Ad _) (decide_eq_false (by omega)).symm)
   refine Ab h2 ?_;by_cases h3:c5<0
   ·exact AU h3 (BJ (Ad _) (decide_eq_false (by omega)).symm)
   refine Ab h3 ?_;by_cases h4:c5>253402300799
   ·exact AU h4 (BJ (Ad _) (decide_eq_false (by omega)).symm)
   refine Ab h4 ?_;by_cases h5:c6<0
   ·exact AU h5 (BJ (Ad _) (decide_eq_false (by omega)).symm)
   refine Ab h5 ?_;by_cases h6:c6>253402300799
   ·exact AU h6 (BJ (Ad _) (decide_eq_false (by omega)).symm)
   refine Ab h6 ?_;by_cases h7:ss>=0
   ·refine AU h7 (BJ (Ad _) ?_);rw [Bool.eq_iff_iff,decide_eq_true_iff,decide_eq_true_iff];omega
   ·exact Ab h7 (BJ (Ad _) (decide_eq_false (by omega)).symm)
 have j0:∀ x:Bool,Ev (λk=>Aa.j0 k x d p n v c4 c5 c6 ho se ht ss) (!x&&Rb p n v c4 c5 c6 ss):=by
  intro x;apply Az;simp only [Aa.j0];unfold Rb OJ;cases x with
  |true=>exact AU rfl (Ad _)
  |false=>
   refine Ab (by decide) (AY (Pb hp) ?_);by_cases h1:MB p=true
   ·refine AU h1 (AY (Rf hn) ?_);by_cases h2:UE n=true
    ·refine AU h2 ?_;by_cases h3:(n.size:Int)>64
     ·exact AU h3 (BJ (j1 true) (by rw [decide_eq_true h3];simp))
     ·refine Ab h3 (AY (Rh hv) ?_);by_cases h4:UF v=true
      ·exact AU h4 (BJ (j1 _) (by rw [h1,h2,h4,decide_eq_false h3];simp))
      ·exact Ab h4 (BJ (j1 true) (by rw [Bool.not_eq_true] at h4;rw [h4];simp))
    ·exact Ab h2 (BJ (j1 true) (by rw [Bool.not_eq_true] at h2;rw [h2];simp))
   ·exact Ab h1 (BJ (j1 true) (by rw [Bool.not_eq_true] at h1;rw [h1];simp))
 unfold Aa.f Gw;refine AY (PS (by omega)) ?_;by_cases h1:(Gl d).2=true
 ·refine AU h1 ?_;by_cases h2:(Gl d).1.toList=d.toList
  ·have h3:=toList_inj.mp h2;refine AU h2 (AY (Ty (by omega)) ?_);rw [h3,h1,decide_eq_true rfl];by_cases h4:Y7 d=true
   ·exact AU h4 (BJ (j0 _) (by rw [h4];simp))
   ·exact Ab h4 (BJ (j0 _) (by rw [Bool.not_eq_true] at h4;rw [h4];simp))
  ·refine Ab h2 (BJ (j0 true) ?_);rw [decide_eq_false (λe=>h2 (Fa.mpr e))];simp
 ·refine Ab h1 (BJ (j0 true) ?_);rw [Bool.not_eq_true] at h1;rw [h1];simp
end Go.Proofs.YtfggjdkccdkogaaGreatDoor.Y
end
section
namespace Go.Proofs.YtfggjdkccdkogaaGreatDoor.Y
open RowKit Print Ac Aq Aw
set_option linter.unusedVariables false
set_option linter.unusedSimpArgs false
abbrev Fy (c:SC):Bool:=Gw c.f0 c.f1 c.f2 c.f3 c.f4 c.f5 c.f6 c.f7 c.f10
abbrev Fb (c:SC):Prop:=c.f0.size<=300/\c.f1.size<=300/\c.f2.size<=300/\c.f3.size<=300
theorem Fb.sm {c:SC} (h:Fb c):Xl c:=⟨by have:=h.1;omega,by have:=h.2.1;omega,by have:=h.2.2.1;omega,by have:=h.2.2.2;omega⟩
def T9 (l:List SC):Bool:=decide (l.length<=100)&&l.all λc=>decide (Fb c)
theorem Sg {l:List SC}:T9 l=true↔l.length<=100/\∀ c∈l,Fb c:=by simp [T9]
theorem Y9 (l:List SC) (hl:l.length<=100):∀ n j,l.length - j=n->j<=l.length->Ev (λk=>Ca.l0 k l (j:Int)) ((l.drop j).all λc=>decide (Fb c)):=by
 intro n;induction n with
 |zero=>
  intro j hn hj;obtain rfl:j=l.length:=by omega
  rw [List.drop_length];refine Az ?_;simp only [Ca.l0];exact Ab (by omega) (Ad _)
 |succ n ih=>
  intro j hn hj;have hlt:j<l.length:=by omega
  rw [List.drop_eq_getElem_cons hlt,List.all_cons];refine Az ?_;simp only [Ca.l0];rw [Hg hlt,JB (by omega)];refine AU (by omega) (AU (by omega) ?_);by_cases h0:l[j].f0.size<=300
  ·refine Ab (by omega) ?_;by_cases h1:l[j].f1.size<=300
   ·refine Ab (by omega) ?_;by_cases h2:l[j].f2.size<=300
    ·refine Ab (by omega) ?_;by_cases h3:l[j].f3.size<=300
     ·refine Ab (by omega) (BJ (ih (j+1) (by omega) (by omega)) ?_);rw [decide_eq_true (show Fb l[j] from ⟨h0,h1,h2,h3⟩),Bool.true_and]
     ·exact AU (by omega) (BJ (Ad _) (by rw [decide_eq_false (show ¬Fb l[j] from λh=>h3 h.2.2.2)];rfl))
    ·exact AU (by omega) (BJ (Ad _) (by rw [decide_eq_false (show ¬Fb l[j] from λh=>h2 h.2.2.1)];rfl))
   ·exact AU (by omega) (BJ (Ad _) (by rw [decide_eq_false (show ¬Fb l[j] from λh=>h1 h.2.1)];rfl))
  ·exact AU (by omega) (BJ (Ad _) (by rw [decide_eq_false (show ¬Fb l[j] from λh=>h0 h.1)];rfl))
theorem YM (l:List SC):Ev (λk=>Ca.f k l) (T9 l):=by
 unfold Ca.f T9;by_cases h:l.length<=100
 ·exact Ab (by omega) (BJ (Y9 l h _ 0 rfl (Nat.zero_le _)) (by rw [decide_eq_true h,Bool.true_and,List.drop_zero]))
 ·exact AU (by omega) (BJ (Ad _) (by rw [decide_eq_false h,Bool.false_and]))
noncomputable def KG (l m:List SC):Bool:= @decide (l=m) (Classical.propDecidable _)
theorem same_iff {l m:List SC}:KG l m=true↔l=m:=by unfold KG;exact @decide_eq_true_iff _ (Classical.propDecidable _)
theorem JA (l:List SC):KG l l=true:=same_iff.2 rfl
theorem Zk (x y:SC):(x.f0.toList==y.f0.toList&&(x.f1.toList==y.f1.toList&&(x.f2.toList==y.f2.toList&&(x.f3.toList==y.f3.toList&&(x.f4==y.f4&&(x.f5==y.f5&&(x.f6==y.f6&&(x.f7==y.f7&&(x.f8==y.f8&&(x.f9==y.f9&&(x.f10==y.f10)))))))))))=true↔x=y:=by
 obtain ⟨a0,a1,a2,a3,a4,a5,a6,a7,a8,a9,a10⟩:=x;obtain ⟨b0,b1,b2,b3,b4,b5,b6,b7,b8,b9,b10⟩:=y;simp only [Bool.and_eq_true,beq_iff_eq,toList_inj,Cz.mk.injEq]
theorem ZA (x y:SC):(!(x.f0.toList==y.f0.toList)||(!(x.f1.toList==y.f1.toList)||(!(x.f2.toList==y.f2.toList)||(!(x.f3.toList==y.f3.toList)||(!(x.f4==y.f4)||(!(x.f5==y.f5)||(!(x.f6==y.f6)||(!(x.f7==y.f7)||(!(x.f8==y.f8)||(!(x.f9==y.f9)||(!(x.f10==y.f10))))))))))))=true↔x≠y:=by
 refine Iff.trans ?_ (not_congr (Zk x y));simp only [<-Bool.not_and,Bool.not_eq_true',Bool.not_eq_true]
theorem UA {x y:SC} {l m:List SC} (h:x=y):KG (x::l) (y::m)=KG l m:=by
 rw [Bool.eq_iff_iff,same_iff,same_iff,h];simp
theorem XD {x y:SC} {l m:List SC} (h:x≠y):KG (x::l) (y::m)=false:=by
 rw [Bool.eq_false_iff];intro h2;exact h (List.cons.inj (same_iff.1 h2)).1
theorem XE (l m:List SC) (e:l.length=m.length) (hl:l.length<=10000):∀ n j,l.length - j=n->j<=l.length->Ev (λk=>BO.l0 k l m (j:Int)) (KG (l.drop j) (m.drop j)):=by
 intro n;induction n with
 |zero=>
  intro j hn hj;obtain rfl:j=l.length:=by omega
  rw [List.drop_length,e,List.drop_length];refine Az ?_;simp only [BO.l0];exact Ab (by omega) (BJ (Ad _) (JA _).symm)
 |succ n ih=>
  intro j hn hj;have hlt:j<l.length:=by omega
  have hlt2:j<m.length:=by omega
  rw [List.drop_eq_getElem_cons hlt,List.drop_eq_getElem_cons hlt2];refine Az ?_;simp only [BO.l0];rw [Hg hlt,Hg hlt2,JB (by omega)];refine AU (by omega) (AU (by omega) (AU (by omega) ?_));by_cases h:l[j]=m[j]
  ·exact Ab (λh1=>(ZA _ _).1 h1 h) (BJ (ih (j+1) (by omega) (by omega)) (UA h).symm)
  ·exact AU ((ZA _ _).2 h) (BJ (Ad _) (XD h).symm)
theorem YN {l m:List SC} (e:l.length≠m.length):KG l m=false:=by
 rw [Bool.eq_false_iff];intro h;exact e (congrArg List.length (same_iff.1 h))
theorem Ku (l m:List SC) (hl:l.length<=10000):Ev (λk=>BO.f k l m) (KG l m):=by
 unfold BO.f;by_cases e:l.length=m.length
 ·exact AU (by omega) (XE l m e hl _ 0 rfl (Nat.zero_le _))
 ·exact Ab (by omega) (BJ (Ad _) (YN e).symm)
abbrev ML (c:SC) (m:List SC):List SC:=JP D9 kC (kC c) c m
theorem VU (a:JF) (l:List SC):FW D9 kK a (l.map G8)=(FW D9 kC a l).map G8:=by unfold FW;rw [List.filter_map];rfl
theorem VV (a:JF) (l:List SC):G9 D9 kK a (l.map G8)=(G9 D9 kC a l).map G8:=by unfold G9;rw [List.filter_map];rfl
theorem XF (c:SC) (l:List SC):JP D9 kK (kC c) ⟨kC c,c⟩ (l.map G8)=(ML c l).map G8:=by unfold ML JP;rw [List.map_append,List.map_cons,VU,VV];rfl
theorem UB {l:List SC} (h:Eh D9 kC l):Eh D9 kK (l.map G8):=List.pairwise_map.2 h
theorem XG {m:List SC} (c:SC) (h:Eh D9 kC m) (hb:m.length<=1000):Ev (λk=>CG.f k (m.map G8) c.f0 c.f1 c.f2 c.f0 c.f1 c.f2 c.f3 c.f4 c.f5 c.f6 c.f7 c.f8 c.f9 c.f10) ((ML c m).map G8):=
 BJ (YU (kC c) c (UB h) (by rw [List.length_map];exact hb)) (XF c m)
theorem YO {m:List SC} (hb:m.length<=10000):Ga.f (m.map G8)=some m:=by
 unfold Ga.f;rw [if_pos (by rw [List.length_map];omega),List.map_map];congr 1;exact List.map_id _
theorem PT {m:List SC} (c:SC) (h:Eh D9 kC m):(ML c m).length<=m.length+1:=Sw (kC c) c h
theorem Si {c x:SC} {m:List SC} (h:x∈ML c m):x=c\/x∈m:=(NQ.1 h).imp id λh=>h.1
theorem XH {c:SC} {m:List SC} (h:∀ x∈m,D9.lt (kC x) (kC c)):ML c m=m++[c]:=by
 unfold ML JP;rw [show FW D9 kC (kC c) m=m from List.filter_eq_self.2 λx hx=>decide_eq_true (h x hx),show G9 D9 kC (kC c) m=[] from List.filter_eq_nil_iff.2 λx hx h2=>D9.ZH (h x hx) (of_decide_eq_true h2)]
def FC (n:Nat):List SC->List SC->List SC×Int
 |[],m=>if m.length<n then ([],151) else if IZ m=true then ([],152) else (m,0)
 |c::l,m=>if Fy c=true then FC n l (ML c m) else ([],150)
def Po (l:List SC):List SC×Int:=FC l.length l []
theorem ZB (l:List SC) (hl:l.length<=100) (hs:∀ c∈l,Fb c):∀ n j (m:List SC),l.length - j=n->j<=l.length->Eh D9 kC m->m.length<=j->
 Ev (λk=>Dy.l0 k l l (l.length:Int) (j:Int) (m.map G8)) ((FC l.length (l.drop j) m).1.map G8,(FC l.length (l.drop j) m).2):=by
 intro n;induction n with
 |zero=>
  intro j m hn hj hr hm;obtain rfl:j=l.length:=by omega
  rw [List.drop_length];refine Az ?_;simp only [Dy.l0,EN.f,Option.bind_some,YL hr (show m.length<=1000 by omega),List.length_map];refine Ab (by omega) ?_;unfold FC;by_cases h:m.length<l.length
  ·exact AU (by omega) (BJ (Ad _) (by rw [if_pos h];rfl))
  ·refine Ab (by omega) ?_;rw [if_neg h];by_cases h2:IZ m=true
   ·exact AU h2 (BJ (Ad _) (by rw [if_pos h2];rfl))
   ·exact Ab h2 (BJ (Ad _) (by rw [if_neg h2]))
 |succ n ih=>
  intro j m hn hj hr hm;have hlt:j<l.length:=by omega
  have hf:=hs _ (List.getElem_mem hlt);rw [List.drop_eq_getElem_cons hlt];refine Az ?_;simp only [Dy.l0,EE.HZ.f,Option.bind_some];rw [Hg hlt,JB (by omega)];refine AU (by omega) (AU (by omega) (AU (by omega) (AY (Kw (by have:=hf.1;omega) (by have:=hf.2.1;omega) (by have:=hf.2.2.1;omega) (by have:=hf.2.2.2;omega)) ?_)));unfold FC;by_cases h:Fy l[j]=true
  ·rw [if_pos h];refine AU h (AY (XG l[j] hr (by omega)) ?_);exact ih (j+1) (ML l[j] m) (by omega) (by omega) (II hr rfl) (by have:=PT l[j] hr;omega)
  ·rw [if_neg h];exact Ab h (BJ (Ad _) rfl)
theorem NG {l:List SC} (hl:l.length<=100) (hs:∀ c∈l,Fb c):Ev (λk=>Dy.f k l) ((Po l).1.map G8,(Po l).2):=
 ZB l hl hs _ 0 [] rfl (Nat.zero_le _) List.Pairwise.nil (Nat.le_refl _)
theorem ZC (l:List SC) (hl:l.length<=100) (hs:∀ c∈l,Fb c):∀ n j (m:List SC),l.length - j=n->j<=l.length->Eh D9 kC m->m.length<=j->(∀ x∈m,Xl x)->
 Ev (λk=>Cx.l0 k l m (j:Int)) (FC l.length (l.drop j) m):=by
 intro n;induction n with
 |zero=>
  intro j m hn hj hr hm hq;obtain rfl:j=l.length:=by omega
  rw [List.drop_length];refine Az ?_;simp only [Cx.l0];refine Ab (by omega) ?_;unfold FC;by_cases h:m.length<l.length
  ·exact AU (by omega) (BJ (Ad _) (by rw [if_pos h]))
  ·refine Ab (by omega) (AY (NF (by omega)) ?_);rw [if_neg h];by_cases h2:IZ m=true
   ·exact AU h2 (BJ (Ad _) (by rw [if_pos h2]))
   ·exact Ab h2 (BJ (Ad _) (by rw [if_neg h2]))
 |succ n ih=>
  intro j m hn hj hr hm hq;have hlt:j<l.length:=by omega
  have hf:=hs _ (List.getElem_mem hlt);rw [List.drop_eq_getElem_cons hlt];refine Az ?_;simp only [Cx.l0];rw [Hg hlt,JB (by omega)];refine AU (by omega) (AU (by omega) (AY (Ky (by have:=hf.1;omega) (by have:=hf.2.1;omega) (by have:=hf.2.2.1;omega) (by have:=hf.2.2.2;omega)) ?_));unfold FC;by_cases h:Fy l[j]=true
  ·rw [if_pos h];refine AU h (AY (XL l[j] hr (by omega) hf.sm hq) ?_);exact ih (j+1) (ML l[j] m) (by omega) (by omega) (II hr rfl) (by have:=PT l[j] hr;omega) (λx hx=>(Si hx).elim (λe=>e▸hf.sm) (hq x))
  ·rw [if_neg h];exact Ab h (Ad _)
theorem YP {l:List SC} (hl:l.length<=100) (hs:∀ c∈l,Fb c):Ev (λk=>Cx.f k l) (Po l):=
 ZC l hl hs _ 0 [] rfl (Nat.zero_le _) List.Pairwise.nil (Nat.le_refl _) (λ_ h=>absurd h List.not_mem_nil)
structure PU (m:List SC):Prop where
 rises:Eh D9 kC m
 right:∀ c∈m,Fy c=true
 few:IZ m=false
theorem Sj (n:Nat) (P:SC->Prop):∀ (l m:List SC),Eh D9 kC m->(∀ c∈m,Fy c=true/\P c)->(∀ c∈l,P c)->(FC n l m).2=0->PU (FC n l m).1/\(∀ c∈(FC n l m).1,P c)
 |[],m,hr,hm,hl,h=>by
  unfold FC at h⊢
  by_cases h1:m.length<n
  ·rw [if_pos h1] at h;exact absurd h (by decide)
  ·rw [if_neg h1] at h⊢
   by_cases h2:IZ m=true
   ·rw [if_pos h2] at h;exact absurd h (by decide)
   ·rw [if_neg h2] at h⊢
    exact ⟨⟨hr,λc hc=>(hm c hc).1,by simpa using h2⟩,λc hc=>(hm c hc).2⟩
 |c::l,m,hr,hm,hl,h=>by
  unfold FC at h⊢
  by_cases h1:Fy c=true
  ·rw [if_pos h1] at h⊢
   exact Sj n P l _ (II hr rfl) (λx hx=>(Si hx).elim (λe=>e▸⟨h1,hl c List.mem_cons_self⟩) (hm x)) (λx hx=>hl x (List.mem_cons_of_mem _ hx)) h
  ·rw [if_neg h1] at h;exact absurd h (by decide)
theorem VW (n:Nat):∀ (l m:List SC),Eh D9 kC m->(FC n l m).1.length<=l.length+m.length
 |[],m,hr=>by
  unfold FC;split
  ·simp
  ·split<;>simp
 |c::l,m,hr=>by
  unfold FC;split
  ·have:=VW n l (ML c m) (II hr rfl);have:=PT c hr;simp only [List.length_cons];omega
  ·simp
theorem XI (l:List SC):(Po l).1.length<=l.length:=by have:=VW l.length l [] List.Pairwise.nil;simpa [Po] using this
theorem XJ {l:List SC} (hs:∀ c∈l,Fb c) (h:(Po l).2=0):PU (Po l).1/\∀ c∈(Po l).1,Fb c:=
 Sj l.length Fb l [] List.Pairwise.nil (λ_ h=>absurd h List.not_mem_nil) hs h
theorem RZ (n:Nat):∀ (l m:List SC),Eh D9 kC (m++l)->(∀ c∈l,Fy c=true)->FC n l m=FC n [] (m++l)
 |[],m,_,_=>by rw [List.append_nil]
 |c::l,m,hr,hl=>by
  have h1:∀ x∈m,D9.lt (kC x) (kC c):=λx hx=>(List.pairwise_append.1 hr).2.2 x hx c List.mem_cons_self
  have e:FC n (c::l) m=FC n l (ML c m):=by
   conv=>lhs;unfold FC
   rw [if_pos (hl c List.mem_cons_self)]
  rw [e,XH h1];have e2:m++c::l=(m++[c])++l:=by simp
  rw [e2] at hr⊢
  exact RZ n l (m++[c]) hr (λx hx=>hl x (List.mem_cons_of_mem _ hx))
theorem Kv {m:List SC} (h:PU m):Po m=(m,0):=by
 unfold Po;rw [RZ m.length m [] (by simpa using h.rises) h.right];unfold FC;rw [List.nil_append,if_neg (Nat.lt_irrefl _),if_neg (by rw [h.few];decide)]
noncomputable def Lc (l:List SC):Bool:=if (Po l).2=0 then KG (Po l).1 l else false
theorem NH {l:List SC} (hs:∀ c∈l,Fb c):Lc l=true↔PU l:=by
 unfold Lc;constructor
 ·intro h;split at h
  ·rename_i h0;have:=(XJ hs h0).1;rwa [same_iff.1 h] at this
  ·exact absurd h (by decide)
 ·intro h;rw [Kv h,if_pos rfl];exact JA _
theorem UC {l:List SC} (hl:l.length<=100) (hs:∀ c∈l,Fb c):Ev (λk=>EC.f k l) (Lc l):=by
 have hb:=XI l;unfold EC.f Lc;refine AY (YP hl hs) ?_;by_cases h:(Po l).2=0
 ·rw [if_pos h];exact AU h (AY (Ku _ _ (by omega)) (Ad _))
 ·rw [if_neg h];exact Ab h (Ad _)
end Go.Proofs.YtfggjdkccdkogaaGreatDoor.Y
end
