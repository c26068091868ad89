/- jar.Of and the document's: both lay cookie by cookie; which rows are a jar's. -/
import Derived.Test.YtohjohhcjcljoaaGreatDoorPrint19
import Derived.Test.YtohjohhcjcljoaaGreatDoorYhostC
section
namespace Go.Proofs.YtohjohhcjcljoaaGreatDoor.Y
open RowKit Print Ak BR BS
set_option linter.unusedVariables false
set_option linter.unusedSimpArgs false
abbrev SK:=Ck
abbrev E9:=Ha
abbrev SC:=Ce
def Gj (a b:E9):Int:=JN a.f0 a.f1 a.f2 b.f0 b.f1 b.f2
theorem GA:Rank Gj:=by
 have h:=Jk OJ (λx:E9=>(x.f0,x.f1,x.f2)) (by
  rintro ⟨a0,a1,a2⟩ ⟨b0,b1,b2⟩ h
  simp only [Prod.mk.injEq] at h
  obtain ⟨h0,h1,h2⟩:=h
  subst h0 h1 h2
  rfl)
 have e:(λx y:E9=>OI (x.f0,x.f1,x.f2) (y.f0,y.f1,y.f2))=Gj:=by funext a b;exact (Jl _ _ _ _ _ _).symm
 exact e▸h
instance:DecidableEq E9:=λa b=>decidable_of_iff (Gj a b=0) (GA.same a b)
def WG:R8 E9:=⟨λa b=>Gj a b<0,λa b=>inferInstanceAs (Decidable (Gj a b<0)),λa=>by rw [(GA.same a a).2 rfl];decide,
 λ {a b c} h h'=>by
  have h1:=GA.trans a b c (by omega) (by omega)
  have h2:Gj a c≠0:=λe=>by
   obtain rfl:=(GA.same _ _).1 e
   have:=GA.anti a b
   omega
  omega,
 λa b=>by
  rcases GA.val a b with h|h|h
  ·exact .inl (by omega)
  ·exact .inr (.inl ((GA.same _ _).1 h))
  ·have:=GA.anti a b
   exact .inr (.inr (by omega))⟩
def kK (x:SK):E9:=x.f0
theorem Pz {a b:E9}:Gj a b<0↔WG.lt a b:=Iff.rfl
theorem P5 {a b:E9}:Gj a b=0↔a=b:=GA.same a b
theorem PH (p:Nat->Bool) (m:Nat):∀ n i j,i<=m->m<=j->j - i<=n->(∀ x,x<m->p x=true)->(∀ x,m<=x->x<j->p x=false)->SS p n i j=m
 |0,i,j,h1,h2,h3,_,_=>by
  show i=m;omega
 |n+1,i,j,h1,h2,h3,ht,hf=>by
  unfold SS;split
  ·rename_i hlt;by_cases hm:(i+j)/2<m
   ·rw [if_pos (ht _ hm)];exact PH p m n _ j (by omega) h2 (by omega) ht hf
   ·rw [if_neg (by rw [hf _ (by omega) (by omega)];decide)];exact PH p m n i _ h1 (by omega) (by omega) ht (λx h4 h5=>hf x h4 (by omega))
  ·omega
theorem R6 {α:Type} (a b:List α) (z:α) (i:Nat) (h:i<a.length):(a++b).getD i z∈a:=by
 rw [List.getD_eq_getElem?_getD,List.getElem?_append_left h,List.getElem?_eq_getElem h];exact List.getElem_mem h
theorem MG {α:Type} (a b:List α) (z:α) (i:Nat) (h:a.length<=i) (h':i<(a++b).length):(a++b).getD i z∈b:=by
 rw [List.length_append] at h';rw [List.getD_eq_getElem?_getD,List.getElem?_append_right h,List.getElem?_eq_getElem (show i - a.length<b.length by omega)];exact List.getElem_mem _
theorem OO {l:List SK} (t:E9) (h:Ct WG kK l):SV l t.f0 t.f1 t.f2=(Ee WG kK t l).length/\KJ l t.f0 t.f1 t.f2= !(atR WG kK t l).isEmpty:=by
 obtain ⟨hs,ha⟩:=FD t h;have hl:=congrArg List.length hs;rw [List.length_append] at hl;have e1:SV l t.f0 t.f1 t.f2=(Ee WG kK t l).length:=by
  unfold SV;refine PH _ _ _ 0 _ (Nat.zero_le _) (by omega) (by omega) (λx hx=>?_) (λx hx hx2=>?_)
  ·have hm:=R6 (Ee WG kK t l) (atR WG kK t l++GK WG kK t l) z91 x hx;rw [<-hs] at hm;exact decide_eq_true (Pz.2 (Iy.1 hm).2)
  ·have hm:=MG (Ee WG kK t l) (atR WG kK t l++GK WG kK t l) z91 x hx (by rw [<-hs];exact hx2);rw [<-hs] at hm;refine decide_eq_false λh1=>?_
   have h2:WG.lt (kK (l.getD x z91)) t:=Pz.1 h1;rcases List.mem_append.1 hm with h3|h3
   ·have h4:=(Iz.1 h3).2;rw [h4] at h2;exact WG.irr _ h2
   ·exact WG.VN h2 (Gu.1 h3).2
 refine ⟨e1,?_⟩;unfold KJ;rw [e1];have key:∀ i,PV l t.f0 t.f1 t.f2 i=Gj (kK (l.getD i z91)) t:=λi=>rfl
 rcases ha with h0|⟨x,h0,hx⟩
 ·rw [h0];show _=false;by_cases hlt:(Ee WG kK t l).length<l.length
  ·rw [decide_eq_true hlt,Bool.true_and];have hm:=MG (Ee WG kK t l) (atR WG kK t l++GK WG kK t l) z91 _ (Nat.le_refl _) (by rw [<-hs];exact hlt);rw [<-hs,h0,List.nil_append] at hm;refine decide_eq_false λh1=>?_
   rw [key] at h1;have h2:=P5.1 h1;have h3:=(Gu.1 hm).2;rw [h2] at h3;exact WG.irr _ h3
  ·rw [decide_eq_false hlt,Bool.false_and]
 ·rw [h0];show _=true;have hlt:(Ee WG kK t l).length<l.length:=by rw [hl,h0];simp
  rw [decide_eq_true hlt,Bool.true_and];have e2:l.getD (Ee WG kK t l).length z91=x:=by
   conv=>lhs;arg 1;rw [hs,h0]
   rw [List.getD_eq_getElem?_getD,List.getElem?_append_right (Nat.le_refl _),Nat.sub_self];rfl
  exact decide_eq_true (by rw [key,e2];exact P5.2 hx)
theorem R7 {xs:List (List SK)} {j:Nat} (h:j<xs.length):Gh xs (j:Int)=xs[j]:=by
 unfold Gh;rw [Int.toNat_natCast,List.getD_eq_getElem?_getD,List.getElem?_eq_getElem h];rfl
theorem TT (xs:List (List SK)) (hx:xs.length<=1000):∀ n j (acc:List SK),xs.length - j=n->j<=xs.length->acc.length+(xs.drop j).flatten.length<=1000000->
 Ev (λk=>BG.l1 k acc xs (xs.length:Int) (j:Int)) (acc++(xs.drop j).flatten):=by
 intro n;induction n with
 |zero=>
  intro j acc hn hj hb;obtain rfl:j=xs.length:=by omega
  rw [List.drop_length,List.flatten_nil,List.append_nil];refine BQ ?_;simp only [BG.l1];exact Aq (by omega) (Ay _)
 |succ n ih=>
  intro j acc hn hj hb;have hlt:j<xs.length:=by omega
  rw [List.drop_eq_getElem_cons hlt,List.flatten_cons, <-List.append_assoc];rw [List.drop_eq_getElem_cons hlt,List.flatten_cons,List.length_append] at hb;refine BQ ?_;simp only [BG.l1];rw [R7 hlt];refine AZ (by omega) (AZ (by omega) (AZ (by omega) (AZ (by omega) ?_)));have:=ih (j+1) (acc++xs[j]) (by omega) (by omega) (by rw [List.length_append];omega);rw [show wrap64 ((j:Int)+1)=((j+1:Nat):Int) by unfold wrap64;omega];exact this
theorem TU (xs:List (List SK)) (hx:xs.length<=1000):∀ n j (s:Nat),xs.length - j=n->j<=xs.length->s+(xs.drop j).flatten.length<=1000000->xs.flatten.length<=1000000->
 Ev (λk=>BG.l0 k xs (s:Int) xs (xs.length:Int) (j:Int)) xs.flatten:=by
 intro n;induction n with
 |zero=>
  intro j s hn hj hb hb2;obtain rfl:j=xs.length:=by omega
  refine BQ ?_;simp only [BG.l0];refine Aq (by omega) ?_;have hg:EZ.f ([]:List SK) (s:Int)=some []:=by unfold EZ.f;rw [if_pos ⟨rfl,by omega,by omega⟩]
  simp only [hg,Option.bind_some];have:=TT xs hx _ 0 [] rfl (Nat.zero_le _) (by simpa using hb2);simpa using this
 |succ n ih=>
  intro j s hn hj hb hb2;have hlt:j<xs.length:=by omega
  rw [List.drop_eq_getElem_cons hlt,List.flatten_cons,List.length_append] at hb;refine BQ ?_;simp only [BG.l0];rw [R7 hlt,show wrap64 ((s:Int)+(xs[j].length:Int))=((s+xs[j].length:Nat):Int) by unfold wrap64;omega,show wrap64 ((j:Int)+1)=((j+1:Nat):Int) by unfold wrap64;omega];refine AZ (by omega) (AZ (by omega) (AZ (by omega) (Aq (by omega) ?_)));exact ih (j+1) (s+xs[j].length) (by omega) (by omega) (by omega) hb2
theorem Gt (xs:List (List SK)) (hx:xs.length<=1000) (hb:xs.flatten.length<=1000000):
 Ev (λk=>BG.f k xs) xs.flatten:=
 TU xs hx _ 0 0 rfl (Nat.zero_le _) (by simpa using hb) hb
theorem NB {l:List SK} (t:E9) (h:Ct WG kK l) (hb:l.length<=1000):Cu.f l t.f0 t.f1 t.f2=some (((Ee WG kK t l).length:Int), !(atR WG kK t l).isEmpty):=by
 unfold Cu.f;rw [if_pos (by omega),(OO t h).1,(OO t h).2]
theorem OP (l:List SK) (t:E9):(Ee WG kK t l).length<=l.length:=List.length_filter_le _ _
theorem MH {l:List SK} (t:E9) (h:Ct WG kK l):l.take (Ee WG kK t l).length=Ee WG kK t l/\l.drop (Ee WG kK t l).length=atR WG kK t l++GK WG kK t l:=by
 obtain ⟨hs,_⟩:=FD t h;constructor
 ·conv=>lhs;arg 2;rw [hs]
  exact List.take_left
 ·conv=>lhs;arg 2;rw [hs]
  exact List.drop_left
theorem Uk {l:List SK} (a:E9) (b:SC) (h:Ct WG kK l) (hb:l.length<=1000):Ev (λk=>CG.f k l a.f0 a.f1 a.f2 b.f0 b.f1 b.f2 b.f3 b.f4 b.f5 b.f6 b.f7 b.f8 b.f9 b.f10) (GN WG kK a ⟨a,b⟩ l):=by
 have hpl:=NC a (⟨a,b⟩:SK) h;have hle:=OP l a;obtain ⟨ht,hd⟩:=MH a h;unfold CG.f;simp only [NB a h hb,Option.bind_some,Int.toNat_natCast,hd];refine AZ (by omega) (AZ (by omega) ?_);rw [ht];rcases (FD a h).2 with h0|⟨x,h0,hx⟩
 ·rw [h0];refine Aq (by decide) ?_;refine Az (Gt _ (by simp) ?_) ?_
  ·simp only [List.nil_append,List.flatten_cons,List.flatten_nil,List.append_nil,List.length_append,List.length_cons,List.length_nil];unfold GN at hpl;rw [List.length_append,List.length_cons] at hpl;omega
  ·exact Ba (Ay _) (by simp [GN])
 ·rw [h0];refine AZ rfl (AZ (by simp;omega) ?_);refine Az (Gt _ (by simp) ?_) ?_
  ·simp only [List.cons_append,List.nil_append,List.drop_succ_cons,List.drop_zero,List.flatten_cons,List.flatten_nil,List.append_nil,List.length_append,List.length_cons,List.length_nil];unfold GN at hpl;rw [List.length_append,List.length_cons] at hpl;omega
  ·exact Ba (Ay _) (by simp [GN])
theorem TV {l:List SK} (a:E9) (h:Ct WG kK l) (hb:l.length<=1000):Ev (λk=>C8.f k l a.f0 a.f1 a.f2) (IG WG kK a l, !(atR WG kK a l).isEmpty):=by
 have hol:=Ko a h;have hle:=OP l a;obtain ⟨ht,hd⟩:=MH a h;have hl:=congrArg List.length (FD a h).1;unfold C8.f;simp only [NB a h hb,Option.bind_some];rcases (FD a h).2 with h0|⟨x,h0,hx⟩
 ·rw [h0];refine Aq (by decide) (Ba (Ay _) ?_);have:=(FD a h).1;rw [h0,List.nil_append] at this;rw [show IG WG kK a l=l from this.symm];rfl
 ·rw [h0] at hl⊢
  rw [List.length_append,List.length_append,List.length_singleton] at hl;refine AZ rfl (AZ (by omega) (AZ (by omega) ?_));rw [show wrap64 (((Ee WG kK a l).length:Int)+1)=(((Ee WG kK a l).length+1:Nat):Int) by unfold wrap64;omega];refine AZ (by omega) (AZ (by omega) ?_);simp only [Int.toNat_natCast];rw [ht, <-List.drop_drop,hd,h0];refine Az (Gt _ (by simp) ?_) ?_
  ·simp only [List.cons_append,List.nil_append,List.drop_succ_cons,List.drop_zero,List.flatten_cons,List.flatten_nil,List.append_nil,List.length_append];unfold IG at hol;rw [List.length_append] at hol;omega
  ·exact Ba (Ay _) (by simp [IG])
theorem VM {l:List SK} (a:E9) (h:Ct WG kK l) (hb:l.length<=1000):Eg.f l a.f0 a.f1 a.f2=some (match look kK l a with|some x=>(x.f1.f0,x.f1.f1,x.f1.f2,x.f1.f3,x.f1.f4,x.f1.f5,x.f1.f6,x.f1.f7,x.f1.f8,x.f1.f9,x.f1.f10,true)|none=>(⟨#[]⟩,⟨#[]⟩,⟨#[]⟩,⟨#[]⟩,0,0,0,false,false,false,0,false)):=by
 unfold Eg.f;rw [NB a h hb];simp only [Option.bind_some];obtain ⟨hs,ha⟩:=FD a h;have hl:=congrArg List.length hs;rcases ha with h0|⟨x,h0,hx⟩
 ·have hn:look kK l a=none:=Ej.2 λy hy e=>by
   have:y∈atR WG kK a l:=Iz.2 ⟨hy,e⟩;rw [h0] at this;simp at this
  rw [hn,h0];rfl
 ·have hm:x∈l:=(Iz.1 (show x∈atR WG kK a l by rw [h0];exact List.mem_singleton.2 rfl)).1;rw [(EJ h).2 ⟨hm,hx⟩,h0];rw [h0,List.length_append,List.length_append,List.length_singleton] at hl;rw [if_pos (show (!([x]:List SK).isEmpty)=true from rfl),if_pos (by omega),if_pos (by omega)];have e2:AO l ((Ee WG kK a l).length:Int)=x:=by
   unfold AO;rw [Int.toNat_natCast]
   conv=>lhs;arg 1;rw [hs,h0]
   rw [List.getD_eq_getElem?_getD,List.getElem?_append_right (Nat.le_refl _),Nat.sub_self];rfl
  rw [e2]
end Go.Proofs.YtohjohhcjcljoaaGreatDoor.Y
end
section
namespace Go.Proofs.YtohjohhcjcljoaaGreatDoor.Y
set_option linter.unusedVariables false
set_option linter.unusedSimpArgs false
open RowKit Print Ak BR BS
theorem Nh (a b:Int):BK.f a b=some (Eu a b):=by
 unfold BK.f Eu;split
 ·rfl
 ·split<;>rfl
theorem VB (a:Bool):CJ.f a=some (tl a):=by cases a<;>rfl
theorem RY (l m:List Int) (h:l=[]\/m=[]):cmpL l m=Eu (l.length:Int) (m.length:Int):=by
 rcases h with rfl|rfl
 ·cases m with
  |nil=>rfl
  |cons _ _=>simp only [cmpL,Eu,List.length_cons,List.length_nil];rw [if_pos (by omega)]
 ·cases l with
  |nil=>rfl
  |cons _ _=>simp only [cmpL,Eu,List.length_cons,List.length_nil];rw [if_neg (by omega),if_pos (by omega)]
theorem Ow (a b:Int) (n:Nat) (x y:Nat) (hx:a=(x:Int)+n) (hy:b=(y:Int)+n):Eu a b=Eu x y:=by
 subst hx hy;unfold Eu;repeat (first|omega|split)
theorem Ll (a b:ByteArray) (ha:a.size<=9223372036854775807) (hb:b.size<=9223372036854775807) (d:Nat):∀ i:Nat,i+d=a.size->i<=b.size->Ev (λk=>BA.l0 k a b i) (cmpL ((bytesOf a).drop i) ((bytesOf b).drop i)):=by
 have last:∀ (i:Nat),i<=a.size->i<=b.size->(i=a.size\/i=b.size)->Ev (λk=>BA.j1 k a b i false) (cmpL ((bytesOf a).drop i) ((bytesOf b).drop i)):=by
  intro i h1 h2 h3;apply BQ;simp only [BA.j1];refine Aq (by decide) ?_;rw [Nh];refine Az (Ay _) (Ba (Ay _) ?_);have la:=bytesOf_length a;have lb:=bytesOf_length b;rw [RY]
  ·exact Ow _ _ i _ _ (by rw [List.length_drop];omega) (by rw [List.length_drop];omega)
  ·rcases h3 with h3|h3
   ·exact .inl (List.drop_eq_nil_of_le (by omega))
   ·exact .inr (List.drop_eq_nil_of_le (by omega))
 induction d with
 |zero=>
  intro i hi hb';apply BQ;simp only [BA.l0];exact Aq (by omega) (last i (by omega) hb' (.inl (by omega)))
 |succ d ih=>
  intro i hi hb';apply BQ;simp only [BA.l0];refine AZ (by omega) ?_;by_cases h:i=b.size
  ·have:decide ((i:Int)<(b.size:Int))=false:=by simp;omega
   rw [this];exact last i (by omega) hb' (.inr h)
  ·have:decide ((i:Int)<(b.size:Int))=true:=by simp;omega
   rw [this];apply BQ;simp only [BA.j1];have hw:wrap64 ((i:Int)+1)=((i+1:Nat):Int):=by rw [Kn (by omega) (by omega)];omega
   rw [hw];rcases EI a (i:=i) (by omega) with ⟨h1,_⟩|⟨h1,h2⟩
   ·omega
   ·rcases EI b (i:=i) (by omega) with ⟨h3,_⟩|⟨h3,h4⟩
    ·omega
    ·rw [h2,h4];refine AZ (by trivial) (AZ (by omega) (AZ (by omega) (AZ (by omega) ?_)));simp only [cmpL,Eu];by_cases h5:bt a i<bt b i
     ·exact AZ h5 (Ba (Ay _) (by simp [h5]))
     ·refine Aq h5 ?_;by_cases h6:bt a i>bt b i
      ·exact AZ h6 (Ba (Ay _) (by simp [h5,h6]))
      ·refine Aq h6 (Ba (ih (i+1) (by omega) (by omega)) ?_);simp [h5,h6]
theorem Hl {a b:ByteArray} (ha:a.size<=9223372036854775807) (hb:b.size<=9223372036854775807):Ev (λk=>BA.f k a b) (Gv a b):=by
 have:=Ll a b ha hb a.size 0 (by omega) (by omega);rw [KF];simpa [BA.f] using this
theorem KR {a0 a1 a2 b0 b1 b2:ByteArray} (ha0:a0.size<=9223372036854775807) (ha1:a1.size<=9223372036854775807) (ha2:a2.size<=9223372036854775807) (hb0:b0.size<=9223372036854775807) (hb1:b1.size<=9223372036854775807) (hb2:b2.size<=9223372036854775807):Ev (λk=>Co.f k a0 a1 a2 b0 b1 b2) (OI (a0,a1,a2) (b0,b1,b2)):=by
 unfold Co.f OI H5;refine Az (Hl ha0 hb0) ?_;by_cases h0:Gv a0 b0=0
 ·simp only [if_pos h0];refine Az (Hl ha1 hb1) ?_;by_cases h1:Gv a1 b1=0
  ·simp only [if_pos h1];exact Az (Hl ha2 hb2) (Ay _)
  ·simp only [if_neg h1];exact Ay _
 ·simp only [if_neg h0];exact Ay _
end Go.Proofs.YtohjohhcjcljoaaGreatDoor.Y
end
section
namespace Go.Proofs.YtohjohhcjcljoaaGreatDoor.Y
open RowKit Print Ak BR BS
set_option linter.unusedVariables false
set_option linter.unusedSimpArgs false
def kC (x:SC):E9:=⟨x.f0,x.f1,x.f2⟩
def ND (x:SC):Prop:=x.f0.size<=9223372036854775807/\x.f1.size<=9223372036854775807/\x.f2.size<=9223372036854775807/\x.f3.size<=9223372036854775807
theorem OV {m:List SC} {j:Nat} (h:j<m.length):AB m (j:Int)=m[j]:=by
 unfold AB;rw [Int.toNat_natCast,List.getD_eq_getElem?_getD,List.getElem?_eq_getElem h];rfl
theorem G9 {j:Nat} (h:j<=1000000):wrap64 ((j:Int)+1)=((j+1:Nat):Int):=by unfold wrap64;omega
theorem Rv {x y:SC} (hx:ND x) (hy:ND y):Ev (λk=>Co.f k x.f0 x.f1 x.f2 y.f0 y.f1 y.f2) (Gj (kC x) (kC y)):=
 Ba (KR hx.1 hx.2.1 hx.2.2.1 hy.1 hy.2.1 hy.2.2.1) (Jl _ _ _ _ _ _).symm
theorem Rw (x:SC) (a:E9):(x.f0.toList==a.f0.toList&&(x.f1.toList==a.f1.toList&&(x.f2.toList==a.f2.toList)))=true↔kC x=a:=by
 obtain ⟨a0,a1,a2⟩:=a;simp only [Bool.and_eq_true,beq_iff_eq,toList_inj,kC,Ha.mk.injEq]
theorem Tw (x:SC) (a:E9):(!(x.f0.toList==a.f0.toList)||(!(x.f1.toList==a.f1.toList)||(!(x.f2.toList==a.f2.toList))))=true↔kC x≠a:=by
 refine Iff.trans ?_ (not_congr (Rw x a));cases x.f0.toList==a.f0.toList<;>cases x.f1.toList==a.f1.toList<;>cases x.f2.toList==a.f2.toList<;>decide
theorem TP (m:List SC) (a:E9) (hb:m.length<=10000):∀ n j (acc:List SC),m.length - j=n->j<=m.length->acc.length<=j->
 Ev (λk=>Bl.l0 k m acc (j:Int) a.f0 a.f1 a.f2) (acc++(m.drop j).filter λx=>decide (kC x≠a)):=by
 intro n;induction n with
 |zero=>
  intro j acc hn hj ha;obtain rfl:j=m.length:=by omega
  rw [List.drop_length];refine BQ ?_;simp only [Bl.l0];exact Aq (by omega) (Ba (Ay _) (by simp))
 |succ n ih=>
  intro j acc hn hj ha;have hlt:j<m.length:=by omega
  rw [List.drop_eq_getElem_cons hlt];refine BQ ?_;simp only [Bl.l0,BP.f,Option.bind_some];rw [OV hlt,G9 (by omega)];refine AZ (by omega) (AZ (by omega) ?_);by_cases h:kC m[j]=a
  ·rw [List.filter_cons_of_neg (by simpa using h)];exact Aq (λh1=>(Tw _ _).1 h1 h) (ih (j+1) acc (by omega) (by omega) (by omega))
  ·rw [List.filter_cons_of_pos (by simpa using h)];refine AZ ((Tw _ _).2 h) (AZ (by omega) ?_);exact Ba (ih (j+1) (acc++[m[j]]) (by omega) (by omega) (by simp;omega)) (by simp)
theorem OG {m:List SC} (a:E9) (h:Ct WG kC m) (hb:m.length<=1000):Ev (λk=>Bl.f k m a.f0 a.f1 a.f2) (IG WG kC a m):=by
 refine Ba (TP m a (by omega) _ 0 [] rfl (Nat.zero_le _) (Nat.le_refl _)) ?_;rw [List.nil_append,List.drop_zero];refine KI (GD h _) (MI h) λx=>?_
 rw [Ii,List.mem_filter];simp
theorem Ue (m:List SC) (c:SC) (hb:m.length<=10000):∀ n j (acc:List SC),m.length - j=n->j<=m.length->acc.length<=j+1->
 Ev (λk=>Ah.l0 k m acc true (j:Int) c.f0 c.f1 c.f2 c.f3 c.f4 c.f5 c.f6 c.f7 c.f8 c.f9 c.f10) (acc++m.drop j):=by
 intro n;induction n with
 |zero=>
  intro j acc hn hj ha;obtain rfl:j=m.length:=by omega
  rw [List.drop_length];refine BQ ?_;simp only [Ah.l0];exact Aq (by omega) (AZ trivial (Ba (Ay _) (by simp)))
 |succ n ih=>
  intro j acc hn hj ha;have hlt:j<m.length:=by omega
  rw [List.drop_eq_getElem_cons hlt];refine BQ ?_;simp only [Ah.l0];rw [OV hlt,G9 (by omega)];refine AZ (by omega) (AZ trivial (AZ (by omega) (AZ (by omega) ?_)));exact Ba (ih (j+1) (acc++[m[j]]) (by omega) (by omega) (by simp;omega)) (by simp)
theorem Uf (m:List SC) (c:SC) (hb:m.length<=10000) (hc:ND c) (hm:∀ x∈m,ND x) (hne:∀ x∈m,kC x≠kC c) (hr:Ct WG kC m):∀ n j (acc:List SC),m.length - j=n->j<=m.length->acc.length<=j->
 Ev (λk=>Ah.l0 k m acc false (j:Int) c.f0 c.f1 c.f2 c.f3 c.f4 c.f5 c.f6 c.f7 c.f8 c.f9 c.f10) (acc++GN WG kC (kC c) c (m.drop j)):=by
 intro n;induction n with
 |zero=>
  intro j acc hn hj ha;obtain rfl:j=m.length:=by omega
  rw [List.drop_length];refine BQ ?_;simp only [Ah.l0];exact Aq (by omega) (Aq (by decide) (AZ (by omega) (Ba (Ay _) (by simp [GN,Ee,GK]))))
 |succ n ih=>
  intro j acc hn hj ha;have hlt:j<m.length:=by omega
  have hd:Ct WG kC (m.drop j):=List.Pairwise.sublist (List.drop_sublist _ _) hr;rw [List.drop_eq_getElem_cons hlt] at hd⊢
  obtain ⟨hx,_⟩:=List.pairwise_cons.1 hd;refine BQ ?_;simp only [Ah.l0,BP.f,Option.bind_some];rw [OV hlt,G9 (by omega)];refine AZ (by omega) (Aq (by decide) (AZ (by omega) ?_));refine Az (Rv (x:=c) (y:=m[j]) hc (hm _ (List.getElem_mem hlt))) ?_;by_cases h:Gj (kC c) (kC m[j])<0
  ·refine AZ h (AZ (by omega) (AZ (by simp;omega) ?_));have hall:∀ y∈m[j]::m.drop (j+1),WG.lt (kC c) (kC y):=λy hy=>by
    rcases List.mem_cons.1 hy with rfl|hy
    ·exact h
    ·exact WG.tr h (hx y hy)
   refine Ba (Ue m c hb _ (j+1) (acc++[c]++[m[j]]) rfl (by omega) (by simp;omega)) ?_;unfold GN;rw [Lc hall,Ld hall];simp
  ·refine Aq h (AZ (by omega) ?_);have h2:WG.lt (kC m[j]) (kC c):=by
    rcases WG.tot (kC m[j]) (kC c) with h3|h3|h3
    ·exact h3
    ·exact absurd h3 (hne m[j] (List.getElem_mem hlt))
    ·exact absurd h3 h
   refine Ba (ih (j+1) (acc++[m[j]]) (by omega) (by omega) (by simp;omega)) ?_;unfold GN;rw [Jn h2,Hu (λh3=>h h3)];simp
theorem WX {m:List SC} (c:SC) (h:Ct WG kC m) (hb:m.length<=1000) (hc:ND c) (hm:∀ x∈m,ND x):Ev (λk=>Ah.f k m c.f0 c.f1 c.f2 c.f3 c.f4 c.f5 c.f6 c.f7 c.f8 c.f9 c.f10) (GN WG kC (kC c) c m):=by
 unfold Ah.f;simp only [BP.f,Option.bind_some];refine Az (OG (kC c) h hb) ?_;have hl:=Ko (kC c) h;have hr:=MI (k:=kC c) h;refine Ba (Uf (IG WG kC (kC c) m) c (by omega) hc (λx hx=>hm x (Ii.1 hx).1) (λx hx=>(Ii.1 hx).2) hr _ 0 [] rfl (Nat.zero_le _) (Nat.le_refl _)) ?_;rw [List.nil_append,List.drop_zero];refine KI (E5 hr rfl) (E5 h rfl) λx=>?_
 rw [HZ,HZ,Ii];constructor
 ·rintro (h1|⟨⟨h1,_⟩,h2⟩)
  ·exact .inl h1
  ·exact .inr ⟨h1,h2⟩
 ·rintro (h1|⟨h1,h2⟩)
  ·exact .inl h1
  ·exact .inr ⟨⟨h1,h2⟩,h2⟩
def O8 (a:E9) (m:List SC):Int:=match m.findIdx? λx=>decide (kC x=a) with|some i=>(i:Int)|none=> -1
theorem TQ (m:List SC) (a:E9) (hb:m.length<=10000):∀ n j,m.length - j=n->j<=m.length->
 Ev (λk=>Bw.l0 k m (j:Int) a.f0 a.f1 a.f2) (match (m.drop j).findIdx? λx=>decide (kC x=a) with|some i=>((i+j:Nat):Int)|none=> -1):=by
 intro n;induction n with
 |zero=>
  intro j hn hj;obtain rfl:j=m.length:=by omega
  rw [List.drop_length];refine BQ ?_;simp only [Bw.l0];exact Aq (by omega) (Ay _)
 |succ n ih=>
  intro j hn hj;have hlt:j<m.length:=by omega
  rw [List.drop_eq_getElem_cons hlt,List.findIdx?_cons];refine BQ ?_;simp only [Bw.l0,BP.f,Option.bind_some];rw [OV hlt,G9 (by omega)];refine AZ (by omega) (AZ (by omega) ?_);by_cases h:kC m[j]=a
  ·refine AZ ((Rw _ _).2 h) (Ba (Ay _) ?_);simp [h]
  ·refine Aq (λh1=>h ((Rw _ _).1 h1)) (Ba (ih (j+1) (by omega) (by omega)) ?_);simp only [h,decide_false,Bool.false_eq_true,if_false];cases (m.drop (j+1)).findIdx? λx=>decide (kC x=a) with
   |none=>rfl
   |some i=>simp only [Option.map_some];omega
theorem OH {m:List SC} (a:E9) (hb:m.length<=1000):Ev (λk=>Bw.f k m a.f0 a.f1 a.f2) (O8 a m):=by
 refine Ba (TQ m a (by omega) _ 0 rfl (Nat.zero_le _)) ?_;rw [List.drop_zero];rfl
end Go.Proofs.YtohjohhcjcljoaaGreatDoor.Y
end
section
namespace Go.Proofs.YtohjohhcjcljoaaGreatDoor.Y
open RowKit Print Ak BR BS
set_option linter.unusedVariables false
set_option linter.unusedSimpArgs false
def KC (d:ByteArray) (m:List SC):Nat:=(m.filter λx=>decide (x.f0=d)).length
def Gi (m:List SC):Bool:=m.any (λx=>decide (12<KC x.f0 m))||decide (60<m.length)
theorem Ig (d:ByteArray) (x:SC) (m:List SC):KC d (x::m)=(if x.f0=d then 1 else 0)+KC d m:=by
 unfold KC;by_cases h:x.f0=d
 ·rw [List.filter_cons_of_pos (by simpa using h),if_pos h,List.length_cons];omega
 ·rw [List.filter_cons_of_neg (by simpa using h),if_neg h];omega
theorem Ri (m:List SC) (d:ByteArray) (hb:m.length<=10000):∀ n j (c:Nat),m.length - j=n->j<=m.length->c<=j->
 Ev (λk=>Bv.l0 k m d (c:Int) (j:Int)) ((c+KC d (m.drop j):Nat):Int):=by
 intro n;induction n with
 |zero=>
  intro j c hn hj hc;obtain rfl:j=m.length:=by omega
  rw [List.drop_length];refine BQ ?_;simp only [Bv.l0];exact Aq (by omega) (Ay _)
 |succ n ih=>
  intro j c hn hj hc;have hlt:j<m.length:=by omega
  rw [List.drop_eq_getElem_cons hlt,Ig];refine BQ ?_;simp only [Bv.l0];rw [OV hlt,G9 (by omega),G9 (by omega)];refine AZ (by omega) (AZ (by omega) ?_);by_cases h:m[j].f0=d
  ·rw [if_pos h];exact AZ (toList_inj.2 h) (Ba (ih (j+1) (c+1) (by omega) (by omega) (by omega)) (by omega))
  ·rw [if_neg h];exact Aq (λe=>h (toList_inj.1 e)) (Ba (ih (j+1) c (by omega) (by omega) (by omega)) (by omega))
theorem ME {m:List SC} (d:ByteArray) (hb:m.length<=1000):Ev (λk=>Bv.f k m d) (KC d m:Int):=
 Ba (Ri m d (by omega) _ 0 0 rfl (Nat.zero_le _) (Nat.le_refl _)) (by simp)
theorem TG (m:List SC) (hb:m.length<=1000):∀ n j,m.length - j=n->j<=m.length->
 Ev (λk=>Bj.l0 k m (j:Int)) ((m.drop j).any (λx=>decide (12<KC x.f0 m))||decide (60<m.length)):=by
 intro n;induction n with
 |zero=>
  intro j hn hj;obtain rfl:j=m.length:=by omega
  rw [List.drop_length];refine BQ ?_;simp only [Bj.l0];refine Aq (by omega) (Ba (Ay _) ?_);rw [List.any_nil,Bool.false_or];exact decide_eq_decide.2 (by omega)
 |succ n ih=>
  intro j hn hj;have hlt:j<m.length:=by omega
  rw [List.drop_eq_getElem_cons hlt,List.any_cons];refine BQ ?_;simp only [Bj.l0];rw [OV hlt,G9 (by omega)];refine AZ (by omega) (AZ (by omega) (Az (ME _ hb) ?_));by_cases h:12<KC m[j].f0 m
  ·exact AZ (by omega) (Ba (Ay _) (by rw [decide_eq_true h];rfl))
  ·exact Aq (by omega) (Ba (ih (j+1) (by omega) (by omega)) (by rw [decide_eq_false h,Bool.false_or]))
theorem LV {m:List SC} (hb:m.length<=1000):Ev (λk=>Bj.f k m) (Gi m):=
 TG m hb _ 0 rfl (Nat.zero_le _)
theorem Ps:∀ (m:List SC) (o:Nat) (d:ByteArray),Ct WG kC m->(∀ x∈m,Gv d x.f0<=0)->o<=12->
 (Gb (m.map (·.f0)) (o:Int) d=true↔∃ x∈m,12<KC x.f0 m+if x.f0=d then o else 0)
 |[],o,d,_,_,_=>by simp [Gb]
 |x::m,o,d,hr,hd,ho=>by
  obtain ⟨h1,h2⟩:=List.pairwise_cons.1 hr;have hx:∀ y∈m,Gv x.f0 y.f0<=0:=λy hy=>by
   have h3:Gj (kC x) (kC y)<0:=h1 y hy;unfold Gj at h3;rw [Jl] at h3;unfold OI H5 at h3;by_cases h4:Gv x.f0 y.f0=0
   ·omega
   ·have h5:¬Gv (kC x).f0 (kC y).f0=0:=h4;rw [if_neg h5] at h3;have h6:Gv x.f0 y.f0<0:=h3;omega
  have hdx:=hd x List.mem_cons_self;obtain ⟨o',ho',hgo⟩:∃ o':Nat,o'=(if x.f0=d then o else 0)+1/\Gb ((x::m).map (·.f0)) (o:Int) d=(decide (12<o')||Gb (m.map (·.f0)) (o':Int) x.f0):=by
   refine ⟨_,rfl,?_⟩;rw [List.map_cons];show (if 12<(if x.f0=d then (o:Int) else 0)+1 then true else Gb _ ((if x.f0=d then (o:Int) else 0)+1) x.f0)=_;have hc:(if x.f0=d then (o:Int) else 0)+1=(((if x.f0=d then o else 0)+1:Nat):Int):=by split<;>omega
   rw [hc];generalize (if x.f0=d then o else 0)+1=q;by_cases h3:12<q
   ·rw [if_pos (by omega),decide_eq_true h3,Bool.true_or]
   ·rw [if_neg (by omega),decide_eq_false h3,Bool.false_or]
  rw [hgo,Bool.or_eq_true,decide_eq_true_iff];by_cases hbig:12<o'
  ·refine ⟨λ_=>⟨x,List.mem_cons_self,?_⟩,λ_=> .inl hbig⟩;rw [Ig,if_pos rfl];omega
  ·rw [Ps m o' x.f0 h2 hx (by omega)];constructor
   ·rintro (h|⟨y,hy,h⟩)
    ·exact absurd h hbig
    ·by_cases e:y.f0=x.f0
     ·refine ⟨x,List.mem_cons_self,?_⟩;rw [Ig,if_pos rfl];rw [if_pos e,e] at h;omega
     ·refine ⟨y,List.mem_cons_of_mem _ hy,?_⟩;rw [if_neg e] at h;rw [Ig];omega
   ·rintro ⟨y,hy,h⟩;rw [Ig] at h;by_cases e:x.f0=y.f0
    ·rw [if_pos e] at h;rw [<-e] at h;refine .inr ?_;by_cases hm:∃ z∈m,z.f0=x.f0
     ·obtain ⟨z,hz,hz2⟩:=hm;refine ⟨z,hz,?_⟩;rw [if_pos hz2,hz2];omega
     ·have h0:KC x.f0 m=0:=by
       unfold KC;rw [List.length_eq_zero_iff,List.filter_eq_nil_iff];intro z hz hz2;exact hm ⟨z,hz,of_decide_eq_true hz2⟩
      omega
    ·rw [if_neg e] at h;have hy2:y∈m:=(List.mem_cons.1 hy).resolve_left λe2=>e (by rw [e2])
     have hyd:¬y.f0=d:=λe2=>by
      have h3:=hx y hy2;rw [e2] at h3;have h4:=Gs.anti x.f0 d;exact e ((Gs.same _ _).1 (by rw [e2];omega))
     rw [if_neg hyd] at h;exact .inr ⟨y,hy2,by omega⟩
def Dx (c:SC):SK:=⟨kC c,c⟩
theorem O6 {m:List SC} (h:Ct WG kC m) (hb:m.length<=1000):ER.f (m.map Dx)=some (Gi m):=by
 unfold ER.f;rw [if_pos (by rw [List.length_map];omega),List.length_map,List.map_map];congr 1;unfold Gi;congr 1;have hg:=Ps m 0 ⟨#[]⟩ h (λx _=>?_) (by omega)
 ·rw [Bool.eq_iff_iff,List.any_eq_true];refine hg.trans (exists_congr λx=>and_congr_right λ_=>?_);rw [decide_eq_true_iff];split<;>omega
 ·rw [KF];rw [show bytesOf ⟨#[]⟩=[] from rfl];cases bytesOf x.f0 with
  |nil=>exact Int.le_refl 0
  |cons a l=>exact (by decide:(-1:Int)<=0)
end Go.Proofs.YtohjohhcjcljoaaGreatDoor.Y
end
section
namespace Go.Proofs.YtohjohhcjcljoaaGreatDoor.Y
set_option linter.unusedVariables false
set_option linter.unusedSimpArgs false
open RowKit Print Ak BR BS
def M6 (p:ByteArray):Bool:=(bytesOf p).all Ho
def LY (p:ByteArray):Bool:=decide ((p.size:Int)>=1)&&(decide ((p.size:Int)<=64)&&(decide (bt p 0=47)&&M6 p))
def Qh (n:ByteArray):Bool:= !decide (n.toList=([]:List UInt8))&&(bytesOf n).all I4
def Qi (v:ByteArray):Bool:=(bytesOf v).all I5
theorem R3 {p:ByteArray} (h:p.size<=500):FB.f p=some (M6 p):=by unfold FB.f;rw [if_pos (by omega)];rfl
theorem Ui {n:ByteArray} (h:n.size<=500):EP.f n=some (Qh n):=by unfold EP.f;rw [if_pos (by omega)];rfl
theorem Uj {v:ByteArray} (h:v.size<=500):D8.f v=some (Qi v):=by unfold D8.f;rw [if_pos (by omega)];rfl
theorem TS {p:ByteArray} (h:p.size<=500):Fs.f p=some (LY p):=by
 unfold Fs.f LY;rw [R3 h];by_cases h1:(p.size:Int)>=1
 ·rw [if_pos h1,decide_eq_true h1];by_cases h2:(p.size:Int)<=64
  ·rw [if_pos h2,decide_eq_true h2,if_pos (show 0<(p.size:Int) by omega)];by_cases h3:bt p 0=47
   ·rw [if_pos h3,decide_eq_true h3];rfl
   ·rw [if_neg h3,decide_eq_false h3];rfl
  ·rw [if_neg h2,decide_eq_false h2];rfl
 ·rw [if_neg h1,decide_eq_false h1];rfl
def LZ (c4 c5 c6:Int):Bool:=NH 253402300799 c4&&(NH 253402300799 c5&&NH 253402300799 c6)
def Py (v:ByteArray) (c4 c5 c6 ss:Int):Bool:=Qi v&&(!decide ((v.size:Int)>128)&&(LZ c4 c5 c6&&(decide (ss>=0)&&decide (ss<=3))))
def R4 (p n v:ByteArray) (c4 c5 c6 ss:Int):Bool:=LY p&&(Qh n&&(!decide ((n.size:Int)>64)&&Py v c4 c5 c6 ss))
def La (d p n v:ByteArray) (c4 c5 c6:Int) (ho:Bool) (ss:Int):Bool:=(Gf d).2&&(decide (bytesOf (Gf d).1=bytesOf d)&&(!(VG d&& !ho)&&R4 p n v c4 c5 c6 ss))
theorem OL {d p n v:ByteArray} {c4 c5 c6:Int} {ho se ht:Bool} {ss:Int} (hd:d.size<=500) (hp:p.size<=500) (hn:n.size<=500) (hv:v.size<=500):Ev (λk=>BL.f k d p n v c4 c5 c6 ho se ht ss) (La d p n v c4 c5 c6 ho ss):=by
 have j1:∀ x:Bool,Ev (λk=>BL.j1 k x d p n v c4 c5 c6 ho se ht ss) (!x&&Py v c4 c5 c6 ss):=by
  intro x;apply BQ;simp only [BL.j1,Uj hv,EL.f,Option.bind_some];unfold Py;cases x with
  |true=>exact AZ rfl (Ay _)
  |false=>
   refine Aq (by decide) ?_;by_cases h1:Qi v=true
   ·refine AZ h1 ?_;by_cases h2:(v.size:Int)>128
    ·exact AZ h2 (Ba (Ay _) (by simp [h2]))
    ·refine Aq h2 ?_;by_cases h3:LZ c4 c5 c6=true
     ·refine AZ h3 ?_;by_cases h4:ss>=0
      ·exact AZ h4 (Ba (Ay _) (by rw [h1,h3,decide_eq_true h4,decide_eq_false h2];simp))
      ·exact Aq h4 (Ba (Ay _) (by rw [decide_eq_false h4];simp))
     ·exact Aq h3 (Ba (Ay _) (by rw [Bool.not_eq_true] at h3;rw [h3];simp))
   ·exact Aq h1 (Ba (Ay _) (by rw [Bool.not_eq_true] at h1;rw [h1];simp))
 have j0:∀ x:Bool,Ev (λk=>BL.j0 k x d p n v c4 c5 c6 ho se ht ss) (!x&&R4 p n v c4 c5 c6 ss):=by
  intro x;apply BQ;simp only [BL.j0,TS hp,Ui hn,Option.bind_some];unfold R4;cases x with
  |true=>exact AZ rfl (Ay _)
  |false=>
   refine Aq (by decide) ?_;by_cases h1:LY p=true
   ·refine AZ h1 ?_;by_cases h2:Qh n=true
    ·exact AZ h2 (Ba (j1 _) (by rw [h1,h2];simp))
    ·exact Aq h2 (Ba (j1 _) (by rw [Bool.not_eq_true] at h2;rw [h2];simp))
   ·exact Aq h1 (Ba (j1 _) (by rw [Bool.not_eq_true] at h1;rw [h1];simp))
 unfold BL.f La;refine Az (Rc d) ?_;by_cases h1:(Gf d).2=true
 ·refine AZ h1 ?_;by_cases h2:(Gf d).1.toList=d.toList
  ·have h3:=toList_inj.mp h2;refine AZ h2 (Az (VH (by rw [h3];omega)) ?_);rw [h3,h1,decide_eq_true rfl];by_cases h4:VG d=true
   ·exact AZ h4 (Ba (j0 _) (by rw [h4];simp))
   ·exact Aq h4 (Ba (j0 _) (by rw [Bool.not_eq_true] at h4;rw [h4];simp))
  ·refine Aq h2 (Ba (j0 _) ?_);rw [decide_eq_false (λe=>h2 (FP.mpr e)),bne_iff_ne.mpr h2];simp
 ·refine Aq h1 (Ba (j0 _) ?_);rw [Bool.not_eq_true] at h1;rw [h1];simp
end Go.Proofs.YtohjohhcjcljoaaGreatDoor.Y
end
section
namespace Go.Proofs.YtohjohhcjcljoaaGreatDoor.Y
set_option linter.unusedVariables false
set_option linter.unusedSimpArgs false
open RowKit Print Ak BR BS
theorem O9 (s:ByteArray) (i:Int):D9.f (bt s i)=some (I4 (bt s i)):=Kr (P:=λc=>D9.f c=some (I4 c)) (by decide+kernel) (Hw s i).1 (Hw s i).2
theorem OM (s:ByteArray) (i:Int):Dz.f (bt s i)=some (I5 (bt s i)):=Kr (P:=λc=>Dz.f c=some (I5 c)) (by decide+kernel) (Hw s i).1 (Hw s i).2
theorem M7 (s:ByteArray) (hs:s.size<=4294967296) (d:Nat):∀ i:Nat,i+d=s.size->Ev (λk=>Bp.l0 k s i) (decide ((s.size:Int)>0)&&((bytesOf s).drop i).all I4):=by
 induction d with
 |zero=>
  intro i hi;apply BQ;simp only [Bp.l0];exact Aq (by omega) (Ba (Ay _) (by rw [List.drop_eq_nil_of_le (by rw [bytesOf_length];omega)];simp))
 |succ d ih=>
  intro i hi;apply BQ;simp only [Bp.l0,O9];have hw:wrap64 ((i:Int)+1)=((i+1:Nat):Int):=by rw [Kn (by omega) (by omega)];omega
  rw [hw];refine AZ (by omega) (AZ (by omega) (Az (Ay _) ?_));rcases EI s (i:=i) (by omega) with ⟨h1,_⟩|⟨h1,h2⟩
  ·omega
  ·rw [h2,List.all_cons];by_cases hc:I4 (bt s i)=true
   ·exact AZ hc (Ba (ih (i+1) (by omega)) (by rw [hc];simp))
   ·exact Aq hc (Ba (Ay _) (by rw [Bool.not_eq_true] at hc;rw [hc];simp))
theorem M8 (s:ByteArray) (hs:s.size<=4294967296) (d:Nat):∀ i:Nat,i+d=s.size->Ev (λk=>Bt.l0 k s i) (((bytesOf s).drop i).all I5):=by
 induction d with
 |zero=>
  intro i hi;apply BQ;simp only [Bt.l0];exact Aq (by omega) (Ba (Ay _) (by rw [List.drop_eq_nil_of_le (by rw [bytesOf_length];omega)];simp))
 |succ d ih=>
  intro i hi;apply BQ;simp only [Bt.l0,OM];have hw:wrap64 ((i:Int)+1)=((i+1:Nat):Int):=by rw [Kn (by omega) (by omega)];omega
  rw [hw];refine AZ (by omega) (AZ (by omega) (Az (Ay _) ?_));rcases EI s (i:=i) (by omega) with ⟨h1,_⟩|⟨h1,h2⟩
  ·omega
  ·rw [h2,List.all_cons];by_cases hc:I5 (bt s i)=true
   ·exact AZ hc (Ba (ih (i+1) (by omega)) (by rw [hc];simp))
   ·exact Aq hc (Ba (Ay _) (by rw [Bool.not_eq_true] at hc;rw [hc];simp))
theorem PD (c:Int):Ho c=decide (¬c<33/\¬c>126/\¬c=59):=by
 unfold Ho;rw [Bool.eq_iff_iff];simp only [Bool.and_eq_true,Bool.not_eq_true',decide_eq_true_iff,decide_eq_false_iff_not];omega
theorem Lb (s:ByteArray) (hs:s.size<=4294967296) (d:Nat):∀ i:Nat,i+d=s.size->Ev (λk=>CU.l0 k s i) (((bytesOf s).drop i).all Ho):=by
 induction d with
 |zero=>
  intro i hi;apply BQ;simp only [CU.l0];exact Aq (by omega) (Ba (Ay _) (by rw [List.drop_eq_nil_of_le (by rw [bytesOf_length];omega)];simp))
 |succ d ih=>
  intro i hi;apply BQ;simp only [CU.l0];have hw:wrap64 ((i:Int)+1)=((i+1:Nat):Int):=by rw [Kn (by omega) (by omega)];omega
  rw [hw];refine AZ (by omega) (AZ (by omega) ?_);rcases EI s (i:=i) (by omega) with ⟨h1,_⟩|⟨h1,h2⟩
  ·omega
  ·rw [h2,List.all_cons,PD];by_cases h3:bt s i<33
   ·exact AZ h3 (Ba (Ay _) (by rw [decide_eq_false (by omega)];rfl))
   ·refine Aq h3 ?_;by_cases h4:bt s i>126
    ·exact AZ h4 (Ba (Ay _) (by rw [decide_eq_false (by omega)];rfl))
    ·refine Aq h4 ?_;by_cases h5:bt s i=59
     ·exact AZ h5 (Ba (Ay _) (by rw [decide_eq_false (by omega)];rfl))
     ·exact Aq h5 (Ba (ih (i+1) (by omega)) (by rw [decide_eq_true ⟨h3,h4,h5⟩];rfl))
theorem PE {s:ByteArray} (hs:s.size<=500):Ev (λk=>Bp.f k s) (Qh s):=by
 have h:=M7 s (by omega) s.size 0 (by omega);have e:decide ((s.size:Int)>0)= !decide (s.toList=([]:List UInt8)):=by
  rw [Bool.eq_iff_iff,Bool.not_eq_true',decide_eq_true_iff,decide_eq_false_iff_not];have hl:s.toList.length=s.size:=by rw [toList_data,Array.length_toList];rfl
  constructor
  ·intro h0 h1;rw [h1] at hl;simp at hl;omega
  ·intro h0;have:s.toList.length≠0:=λz=>h0 (List.eq_nil_of_length_eq_zero z)
   omega
 unfold Qh;rw [<-e];simpa [Bp.f] using h
theorem PG {s:ByteArray} (hs:s.size<=500):Ev (λk=>Bt.f k s) (Qi s):=by
 have h:=M8 s (by omega) s.size 0 (by omega);simpa [Bt.f,Qi] using h
theorem M9 {s:ByteArray} (hs:s.size<=500):Ev (λk=>CU.f k s) (M6 s):=by
 have h:=Lb s (by omega) s.size 0 (by omega);simpa [CU.f,M6] using h
theorem NA {p:ByteArray} (h:p.size<=500):Ev (λk=>DI.f k p) (LY p):=by
 unfold DI.f LY;by_cases h1:(p.size:Int)>=1
 ·refine AZ h1 ?_;by_cases h2:(p.size:Int)<=64
  ·refine AZ h2 (AZ (by omega) ?_);by_cases h3:bt p 0=47
   ·exact AZ h3 (Az (M9 h) (Ba (Ay _) (by rw [decide_eq_true h1,decide_eq_true h2,decide_eq_true h3];rfl)))
   ·exact Aq h3 (Ba (Ay _) (by rw [decide_eq_false h3];simp))
  ·exact Aq h2 (Ba (Ay _) (by rw [decide_eq_false h2];simp))
 ·exact Aq h1 (Ba (Ay _) (by rw [decide_eq_false h1];simp))
theorem R5 (c4 c5 c6 ss:Int):(LZ c4 c5 c6&&(decide (ss>=0)&&decide (ss<=3)))=decide (¬c4<0/\¬c4>253402300799/\¬c5<0/\¬c5>253402300799/\¬c6<0/\¬c6>253402300799/\ss>=0/\ss<=3):=by
 unfold LZ NH;rw [Bool.eq_iff_iff];simp only [Bool.and_eq_true,decide_eq_true_iff];omega
theorem Jm {d p n v:ByteArray} {c4 c5 c6:Int} {ho se ht:Bool} {ss:Int} (hd:d.size<=500) (hp:p.size<=500) (hn:n.size<=500) (hv:v.size<=500):Ev (λk=>Ad.f k d p n v c4 c5 c6 ho se ht ss) (La d p n v c4 c5 c6 ho ss):=by
 have j1:∀ x:Bool,Ev (λk=>Ad.j1 k x d p n v c4 c5 c6 ho se ht ss) (!x&&(LZ c4 c5 c6&&(decide (ss>=0)&&decide (ss<=3)))):=by
  intro x;apply BQ;simp only [Ad.j1];cases x with
  |true=>exact AZ rfl (Ay _)
  |false=>
   refine Aq (by decide) ?_;rw [R5,Bool.not_false,Bool.true_and];by_cases h1:c4<0
   ·exact AZ h1 (Ba (Ay _) (decide_eq_false (by omega)).symm)
   refine Aq h1 ?_;by_cases h2:c4>253402300799
   ·exact AZ h2 (Ba (Ay _) (decide_eq_false (by omega)).symm)
   refine Aq h2 ?_;by_cases h3:c5<0
   ·exact AZ h3 (Ba (Ay _) (decide_eq_false (by omega)).symm)
   refine Aq h3 ?_;by_cases h4:c5>253402300799
   ·exact AZ h4 (Ba (Ay _) (decide_eq_false (by omega)).symm)
   refine Aq h4 ?_;by_cases h5:c6<0
   ·exact AZ h5 (Ba (Ay _) (decide_eq_false (by omega)).symm)
   refine Aq h5 ?_;by_cases h6:c6>253402300799
   ·exact AZ h6 (Ba (Ay _) (decide_eq_false (by omega)).symm)
   refine Aq h6 ?_;by_cases h7:ss>=0
   ·refine AZ h7 (Ba (Ay _) ?_);rw [Bool.eq_iff_iff,decide_eq_true_iff,decide_eq_true_iff];omega
   ·exact Aq h7 (Ba (Ay _) (decide_eq_false (by omega)).symm)
 have j0:∀ x:Bool,Ev (λk=>Ad.j0 k x d p n v c4 c5 c6 ho se ht ss) (!x&&R4 p n v c4 c5 c6 ss):=by
  intro x;apply BQ;simp only [Ad.j0];unfold R4 Py;cases x with
  |true=>exact AZ rfl (Ay _)
  |false=>
   refine Aq (by decide) (Az (NA hp) ?_);by_cases h1:LY p=true
   ·refine AZ h1 (Az (PE hn) ?_);by_cases h2:Qh n=true
    ·refine AZ h2 ?_;by_cases h3:(n.size:Int)>64
     ·exact AZ h3 (Ba (j1 true) (by rw [decide_eq_true h3];simp))
     ·refine Aq h3 (Az (PG hv) ?_);by_cases h4:Qi v=true
      ·exact AZ h4 (Ba (j1 _) (by rw [h1,h2,h4,decide_eq_false h3];simp))
      ·exact Aq h4 (Ba (j1 true) (by rw [Bool.not_eq_true] at h4;rw [h4];simp))
    ·exact Aq h2 (Ba (j1 true) (by rw [Bool.not_eq_true] at h2;rw [h2];simp))
   ·exact Aq h1 (Ba (j1 true) (by rw [Bool.not_eq_true] at h1;rw [h1];simp))
 unfold Ad.f La;refine Az (Mt (by omega)) ?_;by_cases h1:(Gf d).2=true
 ·refine AZ h1 ?_;by_cases h2:(Gf d).1.toList=d.toList
  ·have h3:=toList_inj.mp h2;refine AZ h2 (Az (Qa (by omega)) ?_);rw [h3,h1,decide_eq_true rfl];by_cases h4:VG d=true
   ·exact AZ h4 (Ba (j0 _) (by rw [h4];simp))
   ·exact Aq h4 (Ba (j0 _) (by rw [Bool.not_eq_true] at h4;rw [h4];simp))
  ·refine Aq h2 (Ba (j0 true) ?_);rw [decide_eq_false (λe=>h2 (FP.mpr e))];simp
 ·refine Aq h1 (Ba (j0 true) ?_);rw [Bool.not_eq_true] at h1;rw [h1];simp
end Go.Proofs.YtohjohhcjcljoaaGreatDoor.Y
end
section
namespace Go.Proofs.YtohjohhcjcljoaaGreatDoor.Y
open RowKit Print Ak BR BS
set_option linter.unusedVariables false
set_option linter.unusedSimpArgs false
abbrev Fy (c:SC):Bool:=La c.f0 c.f1 c.f2 c.f3 c.f4 c.f5 c.f6 c.f7 c.f10
abbrev Gn (c:SC):Prop:=c.f0.size<=300/\c.f1.size<=300/\c.f2.size<=300/\c.f3.size<=300
theorem Gn.sm {c:SC} (h:Gn c):ND c:=⟨by have:=h.1;omega,by have:=h.2.1;omega,by have:=h.2.2.1;omega,by have:=h.2.2.2;omega⟩
def Kg (l:List SC):Bool:=decide (l.length<=100)&&l.all λc=>decide (Gn c)
theorem IC {l:List SC}:Kg l=true↔l.length<=100/\∀ c∈l,Gn c:=by simp [Kg]
theorem VI (l:List SC) (hl:l.length<=100):∀ n j,l.length - j=n->j<=l.length->Ev (λk=>Al.l0 k l (j:Int)) ((l.drop j).all λc=>decide (Gn c)):=by
 intro n;induction n with
 |zero=>
  intro j hn hj;obtain rfl:j=l.length:=by omega
  rw [List.drop_length];refine BQ ?_;simp only [Al.l0];exact Aq (by omega) (Ay _)
 |succ n ih=>
  intro j hn hj;have hlt:j<l.length:=by omega
  rw [List.drop_eq_getElem_cons hlt,List.all_cons];refine BQ ?_;simp only [Al.l0];rw [OV hlt,G9 (by omega)];refine AZ (by omega) (AZ (by omega) ?_);by_cases h0:l[j].f0.size<=300
  ·refine Aq (by omega) ?_;by_cases h1:l[j].f1.size<=300
   ·refine Aq (by omega) ?_;by_cases h2:l[j].f2.size<=300
    ·refine Aq (by omega) ?_;by_cases h3:l[j].f3.size<=300
     ·refine Aq (by omega) (Ba (ih (j+1) (by omega) (by omega)) ?_);rw [decide_eq_true (show Gn l[j] from ⟨h0,h1,h2,h3⟩),Bool.true_and]
     ·exact AZ (by omega) (Ba (Ay _) (by rw [decide_eq_false (show ¬Gn l[j] from λh=>h3 h.2.2.2)];rfl))
    ·exact AZ (by omega) (Ba (Ay _) (by rw [decide_eq_false (show ¬Gn l[j] from λh=>h2 h.2.2.1)];rfl))
   ·exact AZ (by omega) (Ba (Ay _) (by rw [decide_eq_false (show ¬Gn l[j] from λh=>h1 h.2.1)];rfl))
  ·exact AZ (by omega) (Ba (Ay _) (by rw [decide_eq_false (show ¬Gn l[j] from λh=>h0 h.1)];rfl))
theorem JK (l:List SC):Ev (λk=>Al.f k l) (Kg l):=by
 unfold Al.f Kg;by_cases h:l.length<=100
 ·exact Aq (by omega) (Ba (VI l h _ 0 rfl (Nat.zero_le _)) (by rw [decide_eq_true h,Bool.true_and,List.drop_zero]))
 ·exact AZ (by omega) (Ba (Ay _) (by rw [decide_eq_false h,Bool.false_and]))
noncomputable def Hy (l m:List SC):Bool:= @decide (l=m) (Classical.propDecidable _)
theorem same_iff {l m:List SC}:Hy l m=true↔l=m:=by unfold Hy;exact @decide_eq_true_iff _ (Classical.propDecidable _)
theorem EY (l:List SC):Hy l l=true:=same_iff.2 rfl
theorem VJ (x y:SC):(x.f0.toList==y.f0.toList&&(x.f1.toList==y.f1.toList&&(x.f2.toList==y.f2.toList&&(x.f3.toList==y.f3.toList&&(x.f4==y.f4&&(x.f5==y.f5&&(x.f6==y.f6&&(x.f7==y.f7&&(x.f8==y.f8&&(x.f9==y.f9&&(x.f10==y.f10)))))))))))=true↔x=y:=by
 obtain ⟨a0,a1,a2,a3,a4,a5,a6,a7,a8,a9,a10⟩:=x;obtain ⟨b0,b1,b2,b3,b4,b5,b6,b7,b8,b9,b10⟩:=y;simp only [Bool.and_eq_true,beq_iff_eq,toList_inj,Ce.mk.injEq]
theorem Rj (x y:SC):(!(x.f0.toList==y.f0.toList)||(!(x.f1.toList==y.f1.toList)||(!(x.f2.toList==y.f2.toList)||(!(x.f3.toList==y.f3.toList)||(!(x.f4==y.f4)||(!(x.f5==y.f5)||(!(x.f6==y.f6)||(!(x.f7==y.f7)||(!(x.f8==y.f8)||(!(x.f9==y.f9)||(!(x.f10==y.f10))))))))))))=true↔x≠y:=by
 refine Iff.trans ?_ (not_congr (VJ x y));simp only [<-Bool.not_and,Bool.not_eq_true',Bool.not_eq_true]
theorem MF {x y:SC} {l m:List SC} (h:x=y):Hy (x::l) (y::m)=Hy l m:=by
 rw [Bool.eq_iff_iff,same_iff,same_iff,h];simp
theorem Pt {x y:SC} {l m:List SC} (h:x≠y):Hy (x::l) (y::m)=false:=by
 rw [Bool.eq_false_iff];intro h2;exact h (List.cons.inj (same_iff.1 h2)).1
theorem TH (l m:List SC) (e:l.length=m.length) (hl:l.length<=10000):∀ n j,l.length - j=n->j<=l.length->Ev (λk=>Ab.l0 k l m (j:Int)) (Hy (l.drop j) (m.drop j)):=by
 intro n;induction n with
 |zero=>
  intro j hn hj;obtain rfl:j=l.length:=by omega
  rw [List.drop_length,e,List.drop_length];refine BQ ?_;simp only [Ab.l0];exact Aq (by omega) (Ba (Ay _) (EY _).symm)
 |succ n ih=>
  intro j hn hj;have hlt:j<l.length:=by omega
  have hlt2:j<m.length:=by omega
  rw [List.drop_eq_getElem_cons hlt,List.drop_eq_getElem_cons hlt2];refine BQ ?_;simp only [Ab.l0];rw [OV hlt,OV hlt2,G9 (by omega)];refine AZ (by omega) (AZ (by omega) (AZ (by omega) ?_));by_cases h:l[j]=m[j]
  ·exact Aq (λh1=>(Rj _ _).1 h1 h) (Ba (ih (j+1) (by omega) (by omega)) (MF h).symm)
  ·exact AZ ((Rj _ _).2 h) (Ba (Ay _) (Pt h).symm)
theorem Rk {l m:List SC} (e:l.length≠m.length):Hy l m=false:=by
 rw [Bool.eq_false_iff];intro h;exact e (congrArg List.length (same_iff.1 h))
theorem Fb (l m:List SC) (hl:l.length<=10000):Ev (λk=>Ab.f k l m) (Hy l m):=by
 unfold Ab.f;by_cases e:l.length=m.length
 ·exact AZ (by omega) (TH l m e hl _ 0 rfl (Nat.zero_le _))
 ·exact Aq (by omega) (Ba (Ay _) (Rk e).symm)
theorem TI (l m:List SC) (e:l.length=m.length) (hl:l.length<=10000):∀ n j,l.length - j=n->j<=l.length->Ev (λk=>XK.l0 k l m (l.length:Int) (j:Int)) (Hy (l.drop j) (m.drop j)):=by
 intro n;induction n with
 |zero=>
  intro j hn hj;obtain rfl:j=l.length:=by omega
  rw [List.drop_length,e,List.drop_length];refine BQ ?_;simp only [XK.l0];exact Aq (by omega) (Ba (Ay _) (EY _).symm)
 |succ n ih=>
  intro j hn hj;have hlt:j<l.length:=by omega
  have hlt2:j<m.length:=by omega
  rw [List.drop_eq_getElem_cons hlt,List.drop_eq_getElem_cons hlt2];refine BQ ?_;simp only [XK.l0];rw [OV hlt,OV hlt2,G9 (by omega)];refine AZ (by omega) (AZ (by omega) (AZ (by omega) (AZ (by omega) ?_)));by_cases h:l[j]=m[j]
  ·exact Aq (λh1=>(Rj _ _).1 h1 h) (Ba (ih (j+1) (by omega) (by omega)) (MF h).symm)
  ·exact AZ ((Rj _ _).2 h) (Ba (Ay _) (Pt h).symm)
theorem OB (l m:List SC) (hl:l.length<=10000):Ev (λk=>XK.f k l m) (Hy l m):=by
 unfold XK.f;by_cases e:l.length=m.length
 ·exact AZ (by omega) (TI l m e hl _ 0 rfl (Nat.zero_le _))
 ·exact Aq (by omega) (Ba (Ay _) (Rk e).symm)
abbrev Gg (c:SC) (m:List SC):List SC:=GN WG kC (kC c) c m
theorem OC (a:E9) (l:List SC):Ee WG kK a (l.map Dx)=(Ee WG kC a l).map Dx:=by unfold Ee;rw [List.filter_map];rfl
theorem OD (a:E9) (l:List SC):GK WG kK a (l.map Dx)=(GK WG kC a l).map Dx:=by unfold GK;rw [List.filter_map];rfl
theorem Ud (a:E9) (l:List SC):atR WG kK a (l.map Dx)=(atR WG kC a l).map Dx:=by unfold atR;rw [List.filter_map];rfl
theorem TJ (c:SC) (l:List SC):GN WG kK (kC c) ⟨kC c,c⟩ (l.map Dx)=(Gg c l).map Dx:=by unfold Gg GN;rw [List.map_append,List.map_cons,OC,OD];rfl
theorem TK (a:E9) (l:List SC):IG WG kK a (l.map Dx)=(IG WG kC a l).map Dx:=by unfold IG;rw [List.map_append,OC,OD]
theorem KD {l:List SC} (h:Ct WG kC l):Ct WG kK (l.map Dx):=List.pairwise_map.2 h
theorem Rl (l:List SC) (a:E9):look kK (l.map Dx) a=(look kC l a).map Dx:=by unfold look;rw [List.find?_map];rfl
theorem Pv {m:List SC} (c:SC) (h:Ct WG kC m) (hb:m.length<=1000):Ev (λk=>CG.f k (m.map Dx) c.f0 c.f1 c.f2 c.f0 c.f1 c.f2 c.f3 c.f4 c.f5 c.f6 c.f7 c.f8 c.f9 c.f10) ((Gg c m).map Dx):=
 Ba (Uk (kC c) c (KD h) (by rw [List.length_map];exact hb)) (TJ c m)
theorem F8 {m:List SC} (hb:m.length<=10000):Bb.f (m.map Dx)=some m:=by
 unfold Bb.f;rw [if_pos (by rw [List.length_map];omega),List.map_map];congr 1;exact List.map_id _
theorem IE {m:List SC} (c:SC) (h:Ct WG kC m):(Gg c m).length<=m.length+1:=NC (kC c) c h
theorem Jj {c x:SC} {m:List SC} (h:x∈Gg c m):x=c\/x∈m:=(HZ.1 h).imp id λh=>h.1
theorem TL {c:SC} {m:List SC} (h:∀ x∈m,WG.lt (kC x) (kC c)):Gg c m=m++[c]:=by
 unfold Gg GN;rw [show Ee WG kC (kC c) m=m from List.filter_eq_self.2 λx hx=>decide_eq_true (h x hx),show GK WG kC (kC c) m=[] from List.filter_eq_nil_iff.2 λx hx h2=>WG.VN (h x hx) (of_decide_eq_true h2)]
def Eh (n:Nat):List SC->List SC->List SC×Int
 |[],m=>if m.length<n then ([],151) else if Gi m=true then ([],152) else (m,0)
 |c::l,m=>if Fy c=true then Eh n l (Gg c m) else ([],150)
def OE (l:List SC):List SC×Int:=Eh l.length l []
theorem VK (l:List SC) (hl:l.length<=100) (hs:∀ c∈l,Gn c):∀ n j (m:List SC),l.length - j=n->j<=l.length->Ct WG kC m->m.length<=j->
 Ev (λk=>DY.l0 k l l (l.length:Int) (j:Int) (m.map Dx)) ((Eh l.length (l.drop j) m).1.map Dx,(Eh l.length (l.drop j) m).2):=by
 intro n;induction n with
 |zero=>
  intro j m hn hj hr hm;obtain rfl:j=l.length:=by omega
  rw [List.drop_length];refine BQ ?_;simp only [DY.l0,Dv.f,Option.bind_some,O6 hr (show m.length<=1000 by omega),List.length_map];refine Aq (by omega) ?_;unfold Eh;by_cases h:m.length<l.length
  ·exact AZ (by omega) (Ba (Ay _) (by rw [if_pos h];rfl))
  ·refine Aq (by omega) ?_;rw [if_neg h];by_cases h2:Gi m=true
   ·exact AZ h2 (Ba (Ay _) (by rw [if_pos h2];rfl))
   ·exact Aq h2 (Ba (Ay _) (by rw [if_neg h2]))
 |succ n ih=>
  intro j m hn hj hr hm;have hlt:j<l.length:=by omega
  have hf:=hs _ (List.getElem_mem hlt);rw [List.drop_eq_getElem_cons hlt];refine BQ ?_;simp only [DY.l0,CQ.Da.f,Option.bind_some];rw [OV hlt,G9 (by omega)];refine AZ (by omega) (AZ (by omega) (AZ (by omega) (Az (OL (by have:=hf.1;omega) (by have:=hf.2.1;omega) (by have:=hf.2.2.1;omega) (by have:=hf.2.2.2;omega)) ?_)));unfold Eh;by_cases h:Fy l[j]=true
  ·rw [if_pos h];refine AZ h (Az (Pv l[j] hr (by omega)) ?_);exact ih (j+1) (Gg l[j] m) (by omega) (by omega) (E5 hr rfl) (by have:=IE l[j] hr;omega)
  ·rw [if_neg h];exact Aq h (Ba (Ay _) rfl)
theorem JL {l:List SC} (hl:l.length<=100) (hs:∀ c∈l,Gn c):Ev (λk=>DY.f k l) ((OE l).1.map Dx,(OE l).2):=
 VK l hl hs _ 0 [] rfl (Nat.zero_le _) List.Pairwise.nil (Nat.le_refl _)
theorem VL (l:List SC) (hl:l.length<=100) (hs:∀ c∈l,Gn c):∀ n j (m:List SC),l.length - j=n->j<=l.length->Ct WG kC m->m.length<=j->(∀ x∈m,ND x)->
 Ev (λk=>CK.l0 k l m (j:Int)) (Eh l.length (l.drop j) m):=by
 intro n;induction n with
 |zero=>
  intro j m hn hj hr hm hq;obtain rfl:j=l.length:=by omega
  rw [List.drop_length];refine BQ ?_;simp only [CK.l0];refine Aq (by omega) ?_;unfold Eh;by_cases h:m.length<l.length
  ·exact AZ (by omega) (Ba (Ay _) (by rw [if_pos h]))
  ·refine Aq (by omega) (Az (LV (by omega)) ?_);rw [if_neg h];by_cases h2:Gi m=true
   ·exact AZ h2 (Ba (Ay _) (by rw [if_pos h2]))
   ·exact Aq h2 (Ba (Ay _) (by rw [if_neg h2]))
 |succ n ih=>
  intro j m hn hj hr hm hq;have hlt:j<l.length:=by omega
  have hf:=hs _ (List.getElem_mem hlt);rw [List.drop_eq_getElem_cons hlt];refine BQ ?_;simp only [CK.l0];rw [OV hlt,G9 (by omega)];refine AZ (by omega) (AZ (by omega) (Az (Jm (by have:=hf.1;omega) (by have:=hf.2.1;omega) (by have:=hf.2.2.1;omega) (by have:=hf.2.2.2;omega)) ?_));unfold Eh;by_cases h:Fy l[j]=true
  ·rw [if_pos h];refine AZ h (Az (WX l[j] hr (by omega) hf.sm hq) ?_);exact ih (j+1) (Gg l[j] m) (by omega) (by omega) (E5 hr rfl) (by have:=IE l[j] hr;omega) (λx hx=>(Jj hx).elim (λe=>e▸hf.sm) (hq x))
  ·rw [if_neg h];exact Aq h (Ay _)
theorem Rm {l:List SC} (hl:l.length<=100) (hs:∀ c∈l,Gn c):Ev (λk=>CK.f k l) (OE l):=
 VL l hl hs _ 0 [] rfl (Nat.zero_le _) List.Pairwise.nil (Nat.le_refl _) (λ_ h=>absurd h List.not_mem_nil)
structure LW (m:List SC):Prop where
 rises:Ct WG kC m
 right:∀ c∈m,Fy c=true
 few:Gi m=false
theorem Pw (n:Nat) (P:SC->Prop):∀ (l m:List SC),Ct WG kC m->(∀ c∈m,Fy c=true/\P c)->(∀ c∈l,P c)->(Eh n l m).2=0->LW (Eh n l m).1/\(∀ c∈(Eh n l m).1,P c)
 |[],m,hr,hm,hl,h=>by
  unfold Eh at h⊢
  by_cases h1:m.length<n
  ·rw [if_pos h1] at h;exact absurd h (by decide)
  ·rw [if_neg h1] at h⊢
   by_cases h2:Gi m=true
   ·rw [if_pos h2] at h;exact absurd h (by decide)
   ·rw [if_neg h2] at h⊢
    exact ⟨⟨hr,λc hc=>(hm c hc).1,by simpa using h2⟩,λc hc=>(hm c hc).2⟩
 |c::l,m,hr,hm,hl,h=>by
  unfold Eh at h⊢
  by_cases h1:Fy c=true
  ·rw [if_pos h1] at h⊢
   exact Pw n P l _ (E5 hr rfl) (λx hx=>(Jj hx).elim (λe=>e▸⟨h1,hl c List.mem_cons_self⟩) (hm x)) (λx hx=>hl x (List.mem_cons_of_mem _ hx)) h
  ·rw [if_neg h1] at h;exact absurd h (by decide)
theorem Rn (n:Nat):∀ (l m:List SC),Ct WG kC m->(Eh n l m).1.length<=l.length+m.length
 |[],m,hr=>by
  unfold Eh;split
  ·simp
  ·split<;>simp
 |c::l,m,hr=>by
  unfold Eh;split
  ·have:=Rn n l (Gg c m) (E5 hr rfl);have:=IE c hr;simp only [List.length_cons];omega
  ·simp
theorem Mw (l:List SC):(OE l).1.length<=l.length:=by have:=Rn l.length l [] List.Pairwise.nil;simpa [OE] using this
theorem Px {l:List SC} (hs:∀ c∈l,Gn c) (h:(OE l).2=0):LW (OE l).1/\∀ c∈(OE l).1,Gn c:=
 Pw l.length Gn l [] List.Pairwise.nil (λ_ h=>absurd h List.not_mem_nil) hs h
theorem Ro (n:Nat):∀ (l m:List SC),Ct WG kC (m++l)->(∀ c∈l,Fy c=true)->Eh n l m=Eh n [] (m++l)
 |[],m,_,_=>by rw [List.append_nil]
 |c::l,m,hr,hl=>by
  have h1:∀ x∈m,WG.lt (kC x) (kC c):=λx hx=>(List.pairwise_append.1 hr).2.2 x hx c List.mem_cons_self
  have e:Eh n (c::l) m=Eh n l (Gg c m):=by
   conv=>lhs;unfold Eh
   rw [if_pos (hl c List.mem_cons_self)]
  rw [e,TL h1];have e2:m++c::l=(m++[c])++l:=by simp
  rw [e2] at hr⊢
  exact Ro n l (m++[c]) hr (λx hx=>hl x (List.mem_cons_of_mem _ hx))
theorem Hz {m:List SC} (h:LW m):OE m=(m,0):=by
 unfold OE;rw [Ro m.length m [] (by simpa using h.rises) h.right];unfold Eh;rw [List.nil_append,if_neg (Nat.lt_irrefl _),if_neg (by rw [h.few];decide)]
noncomputable def F9 (l:List SC):Bool:=if (OE l).2=0 then Hy (OE l).1 l else false
theorem Fu {l:List SC} (hs:∀ c∈l,Gn c):F9 l=true↔LW l:=by
 unfold F9;constructor
 ·intro h;split at h
  ·rename_i h0;have:=(Px hs h0).1;rwa [same_iff.1 h] at this
  ·exact absurd h (by decide)
 ·intro h;rw [Hz h,if_pos rfl];exact EY _
theorem KE {l:List SC} (hl:l.length<=100) (hs:∀ c∈l,Gn c):Ev (λk=>DZ.f k l) (F9 l):=by
 have hb:=Mw l;unfold DZ.f F9;refine Az (JL hl hs) ?_;by_cases h:(OE l).2=0
 ·rw [if_pos h];simp only [F8 (show (OE l).1.length<=10000 by omega),Option.bind_some];exact AZ h (Az (OB _ _ (by omega)) (Ay _))
 ·rw [if_neg h];exact Aq h (Ay _)
theorem Gr {l:List SC} (hl:l.length<=100) (hs:∀ c∈l,Gn c):Ev (λk=>BJ.f k l) (F9 l):=by
 have hb:=Mw l;unfold BJ.f F9;refine Az (Rm hl hs) ?_;by_cases h:(OE l).2=0
 ·rw [if_pos h];exact AZ h (Az (Fb _ _ (by omega)) (Ay _))
 ·rw [if_neg h];exact Aq h (Ay _)
end Go.Proofs.YtohjohhcjcljoaaGreatDoor.Y
end
