/- jar.Of and the document's: both lay cookie by cookie; which rows are a jar's. -/
import Derived.Test.YtccmackhhppbdaaGreatDoorPrint17
import Derived.Test.YtccmackhhppbdaaGreatDoorYhostC
section
namespace Go.Proofs.YtccmackhhppbdaaGreatDoor.Y
open RowKit Print Af BI BM
set_option linter.unusedVariables false
set_option linter.unusedSimpArgs false
abbrev SK:=Cb
abbrev Fs:=Hw
abbrev SC:=CB
def Fu (a b:Fs):Int:=IL a.f0 a.f1 a.f2 b.f0 b.f1 b.f2
theorem FB:Rank Fu:=by
 have h:=LF Oy (λx:Fs=>(x.f0,x.f1,x.f2)) (by
  rintro ⟨a0,a1,a2⟩ ⟨b0,b1,b2⟩ h
  simp only [Prod.mk.injEq] at h
  obtain ⟨h0,h1,h2⟩:=h
  subst h0 h1 h2
  rfl)
 have e:(λx y:Fs=>Lr (x.f0,x.f1,x.f2) (y.f0,y.f1,y.f2))=Fu:=by funext a b;exact (JG _ _ _ _ _ _).symm
 exact e▸h
instance:DecidableEq Fs:=λa b=>decidable_of_iff (Fu a b=0) (FB.same a b)
def Cr:O6 Fs:=⟨λa b=>Fu a b<0,λa b=>inferInstanceAs (Decidable (Fu a b<0)),λa=>by rw [(FB.same a a).2 rfl];decide,
 λ {a b c} h h'=>by
  have h1:=FB.trans a b c (by omega) (by omega)
  have h2:Fu a c≠0:=λe=>by
   obtain rfl:=(FB.same _ _).1 e
   have:=FB.anti a b
   omega
  omega,
 λa b=>by
  rcases FB.val a b with h|h|h
  ·exact .inl (by omega)
  ·exact .inr (.inl ((FB.same _ _).1 h))
  ·have:=FB.anti a b
   exact .inr (.inr (by omega))⟩
def kK (x:SK):Fs:=x.f0
theorem Mm {a b:Fs}:Fu a b<0↔Cr.lt a b:=Iff.rfl
theorem Mo {a b:Fs}:Fu a b=0↔a=b:=FB.same a b
theorem Lx (p:Nat->Bool) (m:Nat):∀ n i j,i<=m->m<=j->j - i<=n->(∀ x,x<m->p x=true)->(∀ x,m<=x->x<j->p x=false)->PL p n i j=m
 |0,i,j,h1,h2,h3,_,_=>by
  show i=m;omega
 |n+1,i,j,h1,h2,h3,ht,hf=>by
  unfold PL;split
  ·rename_i hlt;by_cases hm:(i+j)/2<m
   ·rw [if_pos (ht _ hm)];exact Lx p m n _ j (by omega) h2 (by omega) ht hf
   ·rw [if_neg (by rw [hf _ (by omega) (by omega)];decide)];exact Lx p m n i _ h1 (by omega) (by omega) ht (λx h4 h5=>hf x h4 (by omega))
  ·omega
theorem O3 {α:Type} (a b:List α) (z:α) (i:Nat) (h:i<a.length):(a++b).getD i z∈a:=by
 rw [List.getD_eq_getElem?_getD,List.getElem?_append_left h,List.getElem?_eq_getElem h];exact List.getElem_mem h
theorem Jl {α:Type} (a b:List α) (z:α) (i:Nat) (h:a.length<=i) (h':i<(a++b).length):(a++b).getD i z∈b:=by
 rw [List.length_append] at h';rw [List.getD_eq_getElem?_getD,List.getElem?_append_right h,List.getElem?_eq_getElem (show i - a.length<b.length by omega)];exact List.getElem_mem _
theorem LJ {l:List SK} (t:Fs) (h:Df Cr kK l):PM l t.f0 t.f1 t.f2=(Dk Cr kK t l).length/\IA l t.f0 t.f1 t.f2= !(atR Cr kK t l).isEmpty:=by
 obtain ⟨hs,ha⟩:=FZ t h;have hl:=congrArg List.length hs;rw [List.length_append] at hl;have e1:PM l t.f0 t.f1 t.f2=(Dk Cr kK t l).length:=by
  unfold PM;refine Lx _ _ _ 0 _ (Nat.zero_le _) (by omega) (by omega) (λx hx=>?_) (λx hx hx2=>?_)
  ·have hm:=O3 (Dk Cr kK t l) (atR Cr kK t l++Ef Cr kK t l) z65 x hx;rw [<-hs] at hm;exact decide_eq_true (Mm.2 (Gj.1 hm).2)
  ·have hm:=Jl (Dk Cr kK t l) (atR Cr kK t l++Ef Cr kK t l) z65 x hx (by rw [<-hs];exact hx2);rw [<-hs] at hm;refine decide_eq_false λh1=>?_
   have h2:Cr.lt (kK (l.getD x z65)) t:=Mm.1 h1;rcases List.mem_append.1 hm with h3|h3
   ·have h4:=(QB.1 h3).2;rw [h4] at h2;exact Cr.irr _ h2
   ·exact Cr.Rf h2 (FI.1 h3).2
 refine ⟨e1,?_⟩;unfold IA;rw [e1];have key:∀ i,MF l t.f0 t.f1 t.f2 i=Fu (kK (l.getD i z65)) t:=λi=>rfl
 rcases ha with h0|⟨x,h0,hx⟩
 ·rw [h0];show _=false;by_cases hlt:(Dk Cr kK t l).length<l.length
  ·rw [decide_eq_true hlt,Bool.true_and];have hm:=Jl (Dk Cr kK t l) (atR Cr kK t l++Ef Cr kK t l) z65 _ (Nat.le_refl _) (by rw [<-hs];exact hlt);rw [<-hs,h0,List.nil_append] at hm;refine decide_eq_false λh1=>?_
   rw [key] at h1;have h2:=Mo.1 h1;have h3:=(FI.1 hm).2;rw [h2] at h3;exact Cr.irr _ h3
  ·rw [decide_eq_false hlt,Bool.false_and]
 ·rw [h0];show _=true;have hlt:(Dk Cr kK t l).length<l.length:=by rw [hl,h0];simp
  rw [decide_eq_true hlt,Bool.true_and];have e2:l.getD (Dk Cr kK t l).length z65=x:=by
   conv=>lhs;arg 1;rw [hs,h0]
   rw [List.getD_eq_getElem?_getD,List.getElem?_append_right (Nat.le_refl _),Nat.sub_self];rfl
  exact decide_eq_true (by rw [key,e2];exact Mo.2 hx)
theorem O4 {xs:List (List SK)} {j:Nat} (h:j<xs.length):Ez xs (j:Int)=xs[j]:=by
 unfold Ez;rw [Int.toNat_natCast,List.getD_eq_getElem?_getD,List.getElem?_eq_getElem h];rfl
theorem P8 (xs:List (List SK)) (hx:xs.length<=1000):∀ n j (acc:List SK),xs.length - j=n->j<=xs.length->acc.length+(xs.drop j).flatten.length<=1000000->
 Ev (λk=>Ab.l1 k acc xs (xs.length:Int) (j:Int)) (acc++(xs.drop j).flatten):=by
 intro n;induction n with
 |zero=>
  intro j acc hn hj hb;obtain rfl:j=xs.length:=by omega
  rw [List.drop_length,List.flatten_nil,List.append_nil];refine BH ?_;simp only [Ab.l1];exact Ah (by omega) (Ao _)
 |succ n ih=>
  intro j acc hn hj hb;have hlt:j<xs.length:=by omega
  rw [List.drop_eq_getElem_cons hlt,List.flatten_cons, <-List.append_assoc];rw [List.drop_eq_getElem_cons hlt,List.flatten_cons,List.length_append] at hb;refine BH ?_;simp only [Ab.l1];rw [O4 hlt];refine AU (by omega) (AU (by omega) (AU (by omega) (AU (by omega) ?_)));have:=ih (j+1) (acc++xs[j]) (by omega) (by omega) (by rw [List.length_append];omega);rw [show wrap64 ((j:Int)+1)=((j+1:Nat):Int) by unfold wrap64;omega];exact this
theorem P9 (xs:List (List SK)) (hx:xs.length<=1000):∀ n j (s:Nat),xs.length - j=n->j<=xs.length->s+(xs.drop j).flatten.length<=1000000->xs.flatten.length<=1000000->
 Ev (λk=>Ab.l0 k xs (s:Int) xs (xs.length:Int) (j:Int)) xs.flatten:=by
 intro n;induction n with
 |zero=>
  intro j s hn hj hb hb2;obtain rfl:j=xs.length:=by omega
  refine BH ?_;simp only [Ab.l0];refine Ah (by omega) ?_;have hg:DV.f ([]:List SK) (s:Int)=some []:=by unfold DV.f;rw [if_pos ⟨rfl,by omega,by omega⟩]
  simp only [hg,Option.bind_some];have:=P8 xs hx _ 0 [] rfl (Nat.zero_le _) (by simpa using hb2);simpa using this
 |succ n ih=>
  intro j s hn hj hb hb2;have hlt:j<xs.length:=by omega
  rw [List.drop_eq_getElem_cons hlt,List.flatten_cons,List.length_append] at hb;refine BH ?_;simp only [Ab.l0];rw [O4 hlt,show wrap64 ((s:Int)+(xs[j].length:Int))=((s+xs[j].length:Nat):Int) by unfold wrap64;omega,show wrap64 ((j:Int)+1)=((j+1:Nat):Int) by unfold wrap64;omega];refine AU (by omega) (AU (by omega) (AU (by omega) (Ah (by omega) ?_)));exact ih (j+1) (s+xs[j].length) (by omega) (by omega) (by omega) hb2
theorem Jm (xs:List (List SK)) (hx:xs.length<=1000) (hb:xs.flatten.length<=1000000):
 Ev (λk=>Ab.f k xs) xs.flatten:=
 P9 xs hx _ 0 0 rfl (Nat.zero_le _) (by simpa using hb) hb
theorem QA {l:List SK} (t:Fs) (h:Df Cr kK l) (hb:l.length<=1000):C8.f l t.f0 t.f1 t.f2=some (((Dk Cr kK t l).length:Int), !(atR Cr kK t l).isEmpty):=by
 unfold C8.f;rw [if_pos (by omega),(LJ t h).1,(LJ t h).2]
theorem O5 (l:List SK) (t:Fs):(Dk Cr kK t l).length<=l.length:=List.length_filter_le _ _
theorem Ng {l:List SK} (t:Fs) (h:Df Cr kK l):l.take (Dk Cr kK t l).length=Dk Cr kK t l/\l.drop (Dk Cr kK t l).length=atR Cr kK t l++Ef Cr kK t l:=by
 obtain ⟨hs,_⟩:=FZ t h;constructor
 ·conv=>lhs;arg 2;rw [hs]
  exact List.take_left
 ·conv=>lhs;arg 2;rw [hs]
  exact List.drop_left
theorem Q0 {l:List SK} (a:Fs) (b:SC) (h:Df Cr kK l) (hb:l.length<=1000):Ev (λk=>BP.f k l a.f0 a.f1 a.f2 b.f0 b.f1 b.f2 b.f3 b.f4 b.f5 b.f6 b.f7 b.f8 b.f9 b.f10) (F6 Cr kK a ⟨a,b⟩ l):=by
 have hpl:=Mr a (⟨a,b⟩:SK) h;have hle:=O5 l a;obtain ⟨ht,hd⟩:=Ng a h;unfold BP.f;simp only [QA a h hb,Option.bind_some,Int.toNat_natCast,hd];refine AU (by omega) (AU (by omega) ?_);rw [ht];rcases (FZ a h).2 with h0|⟨x,h0,hx⟩
 ·rw [h0];refine Ah (by decide) ?_;refine BN (Jm _ (by simp) ?_) ?_
  ·simp only [List.nil_append,List.flatten_cons,List.flatten_nil,List.append_nil,List.length_append,List.length_cons,List.length_nil];unfold F6 at hpl;rw [List.length_append,List.length_cons] at hpl;omega
  ·exact BL (Ao _) (by simp [F6])
 ·rw [h0];refine AU rfl (AU (by simp;omega) ?_);refine BN (Jm _ (by simp) ?_) ?_
  ·simp only [List.cons_append,List.nil_append,List.drop_succ_cons,List.drop_zero,List.flatten_cons,List.flatten_nil,List.append_nil,List.length_append,List.length_cons,List.length_nil];unfold F6 at hpl;rw [List.length_append,List.length_cons] at hpl;omega
  ·exact BL (Ao _) (by simp [F6])
end Go.Proofs.YtccmackhhppbdaaGreatDoor.Y
end
section
namespace Go.Proofs.YtccmackhhppbdaaGreatDoor.Y
set_option linter.unusedVariables false
set_option linter.unusedSimpArgs false
open RowKit Print Af BI BM
theorem OU (a b:Int):CQ.f a b=some (FV a b):=by
 unfold CQ.f FV;split
 ·rfl
 ·split<;>rfl
theorem OV (l m:List Int) (h:l=[]\/m=[]):cmpL l m=FV (l.length:Int) (m.length:Int):=by
 rcases h with rfl|rfl
 ·cases m with
  |nil=>rfl
  |cons _ _=>simp only [cmpL,FV,List.length_cons,List.length_nil];rw [if_pos (by omega)]
 ·cases l with
  |nil=>rfl
  |cons _ _=>simp only [cmpL,FV,List.length_cons,List.length_nil];rw [if_neg (by omega),if_pos (by omega)]
theorem Lf (a b:Int) (n:Nat) (x y:Nat) (hx:a=(x:Int)+n) (hy:b=(y:Int)+n):FV a b=FV x y:=by
 subst hx hy;unfold FV;repeat (first|omega|split)
theorem JU (a b:ByteArray) (ha:a.size<=9223372036854775807) (hb:b.size<=9223372036854775807) (d:Nat):∀ i:Nat,i+d=a.size->i<=b.size->Ev (λk=>Ae.l0 k a b i) (cmpL ((bytesOf a).drop i) ((bytesOf b).drop i)):=by
 have last:∀ (i:Nat),i<=a.size->i<=b.size->(i=a.size\/i=b.size)->Ev (λk=>Ae.j1 k a b i false) (cmpL ((bytesOf a).drop i) ((bytesOf b).drop i)):=by
  intro i h1 h2 h3;apply BH;simp only [Ae.j1];refine Ah (by decide) ?_;rw [OU];refine BN (Ao _) (BL (Ao _) ?_);have la:=bytesOf_length a;have lb:=bytesOf_length b;rw [OV]
  ·exact Lf _ _ i _ _ (by rw [List.length_drop];omega) (by rw [List.length_drop];omega)
  ·rcases h3 with h3|h3
   ·exact .inl (List.drop_eq_nil_of_le (by omega))
   ·exact .inr (List.drop_eq_nil_of_le (by omega))
 induction d with
 |zero=>
  intro i hi hb';apply BH;simp only [Ae.l0];exact Ah (by omega) (last i (by omega) hb' (.inl (by omega)))
 |succ d ih=>
  intro i hi hb';apply BH;simp only [Ae.l0];refine AU (by omega) ?_;by_cases h:i=b.size
  ·have:decide ((i:Int)<(b.size:Int))=false:=by simp;omega
   rw [this];exact last i (by omega) hb' (.inr h)
  ·have:decide ((i:Int)<(b.size:Int))=true:=by simp;omega
   rw [this];apply BH;simp only [Ae.j1];have hw:wrap64 ((i:Int)+1)=((i+1:Nat):Int):=by rw [JM (by omega) (by omega)];omega
   rw [hw];rcases DK a (i:=i) (by omega) with ⟨h1,_⟩|⟨h1,h2⟩
   ·omega
   ·rcases DK b (i:=i) (by omega) with ⟨h3,_⟩|⟨h3,h4⟩
    ·omega
    ·rw [h2,h4];refine AU (by trivial) (AU (by omega) (AU (by omega) (AU (by omega) ?_)));simp only [cmpL,FV];by_cases h5:bt a i<bt b i
     ·exact AU h5 (BL (Ao _) (by simp [h5]))
     ·refine Ah h5 ?_;by_cases h6:bt a i>bt b i
      ·exact AU h6 (BL (Ao _) (by simp [h5,h6]))
      ·refine Ah h6 (BL (ih (i+1) (by omega) (by omega)) ?_);simp [h5,h6]
theorem GM {a b:ByteArray} (ha:a.size<=9223372036854775807) (hb:b.size<=9223372036854775807):Ev (λk=>Ae.f k a b) (Fg a b):=by
 have:=JU a b ha hb a.size 0 (by omega) (by omega);rw [H8];simpa [Ae.f] using this
theorem Kr {a0 a1 a2 b0 b1 b2:ByteArray} (ha0:a0.size<=9223372036854775807) (ha1:a1.size<=9223372036854775807) (ha2:a2.size<=9223372036854775807) (hb0:b0.size<=9223372036854775807) (hb1:b1.size<=9223372036854775807) (hb2:b2.size<=9223372036854775807):Ev (λk=>CJ.f k a0 a1 a2 b0 b1 b2) (Lr (a0,a1,a2) (b0,b1,b2)):=by
 unfold CJ.f Lr JW;refine BN (GM ha0 hb0) ?_;by_cases h0:Fg a0 b0=0
 ·simp only [if_pos h0];refine BN (GM ha1 hb1) ?_;by_cases h1:Fg a1 b1=0
  ·simp only [if_pos h1];exact BN (GM ha2 hb2) (Ao _)
  ·simp only [if_neg h1];exact Ao _
 ·simp only [if_neg h0];exact Ao _
end Go.Proofs.YtccmackhhppbdaaGreatDoor.Y
end
section
namespace Go.Proofs.YtccmackhhppbdaaGreatDoor.Y
open RowKit Print Af BI BM
set_option linter.unusedVariables false
set_option linter.unusedSimpArgs false
def kC (x:SC):Fs:=⟨x.f0,x.f1,x.f2⟩
def QQ (x:SC):Prop:=x.f0.size<=9223372036854775807/\x.f1.size<=9223372036854775807/\x.f2.size<=9223372036854775807/\x.f3.size<=9223372036854775807
theorem Nh {m:List SC} {j:Nat} (h:j<m.length):AB m (j:Int)=m[j]:=by
 unfold AB;rw [Int.toNat_natCast,List.getD_eq_getElem?_getD,List.getElem?_eq_getElem h];rfl
theorem Fp {j:Nat} (h:j<=1000000):wrap64 ((j:Int)+1)=((j+1:Nat):Int):=by unfold wrap64;omega
theorem Oi {x y:SC} (hx:QQ x) (hy:QQ y):Ev (λk=>CJ.f k x.f0 x.f1 x.f2 y.f0 y.f1 y.f2) (Fu (kC x) (kC y)):=
 BL (Kr hx.1 hx.2.1 hx.2.2.1 hy.1 hy.2.1 hy.2.2.1) (JG _ _ _ _ _ _).symm
theorem Rb (x:SC) (a:Fs):(x.f0.toList==a.f0.toList&&(x.f1.toList==a.f1.toList&&(x.f2.toList==a.f2.toList)))=true↔kC x=a:=by
 obtain ⟨a0,a1,a2⟩:=a;simp only [Bool.and_eq_true,beq_iff_eq,toList_inj,kC,Hw.mk.injEq]
theorem QR (x:SC) (a:Fs):(!(x.f0.toList==a.f0.toList)||(!(x.f1.toList==a.f1.toList)||(!(x.f2.toList==a.f2.toList))))=true↔kC x≠a:=by
 refine Iff.trans ?_ (not_congr (Rb x a));cases x.f0.toList==a.f0.toList<;>cases x.f1.toList==a.f1.toList<;>cases x.f2.toList==a.f2.toList<;>decide
theorem Px (m:List SC) (a:Fs) (hb:m.length<=10000):∀ n j (acc:List SC),m.length - j=n->j<=m.length->acc.length<=j->
 Ev (λk=>BO.l0 k m acc (j:Int) a.f0 a.f1 a.f2) (acc++(m.drop j).filter λx=>decide (kC x≠a)):=by
 intro n;induction n with
 |zero=>
  intro j acc hn hj ha;obtain rfl:j=m.length:=by omega
  rw [List.drop_length];refine BH ?_;simp only [BO.l0];exact Ah (by omega) (BL (Ao _) (by simp))
 |succ n ih=>
  intro j acc hn hj ha;have hlt:j<m.length:=by omega
  rw [List.drop_eq_getElem_cons hlt];refine BH ?_;simp only [BO.l0,Bc.f,Option.bind_some];rw [Nh hlt,Fp (by omega)];refine AU (by omega) (AU (by omega) ?_);by_cases h:kC m[j]=a
  ·rw [List.filter_cons_of_neg (by simpa using h)];exact Ah (λh1=>(QR _ _).1 h1 h) (ih (j+1) acc (by omega) (by omega) (by omega))
  ·rw [List.filter_cons_of_pos (by simpa using h)];refine AU ((QR _ _).2 h) (AU (by omega) ?_);exact BL (ih (j+1) (acc++[m[j]]) (by omega) (by omega) (by simp;omega)) (by simp)
theorem Oj {m:List SC} (a:Fs) (h:Df Cr kC m) (hb:m.length<=1000):Ev (λk=>BO.f k m a.f0 a.f1 a.f2) (KU Cr kC a m):=by
 refine BL (Px m a (by omega) _ 0 [] rfl (Nat.zero_le _) (Nat.le_refl _)) ?_;rw [List.nil_append,List.drop_zero];refine Jo (Eb h _) (Jn h) λx=>?_
 rw [GY,List.mem_filter];simp
theorem Qw (m:List SC) (c:SC) (hb:m.length<=10000):∀ n j (acc:List SC),m.length - j=n->j<=m.length->acc.length<=j+1->
 Ev (λk=>AV.l0 k m acc true (j:Int) c.f0 c.f1 c.f2 c.f3 c.f4 c.f5 c.f6 c.f7 c.f8 c.f9 c.f10) (acc++m.drop j):=by
 intro n;induction n with
 |zero=>
  intro j acc hn hj ha;obtain rfl:j=m.length:=by omega
  rw [List.drop_length];refine BH ?_;simp only [AV.l0];exact Ah (by omega) (AU trivial (BL (Ao _) (by simp)))
 |succ n ih=>
  intro j acc hn hj ha;have hlt:j<m.length:=by omega
  rw [List.drop_eq_getElem_cons hlt];refine BH ?_;simp only [AV.l0];rw [Nh hlt,Fp (by omega)];refine AU (by omega) (AU trivial (AU (by omega) (AU (by omega) ?_)));exact BL (ih (j+1) (acc++[m[j]]) (by omega) (by omega) (by simp;omega)) (by simp)
theorem Qx (m:List SC) (c:SC) (hb:m.length<=10000) (hc:QQ c) (hm:∀ x∈m,QQ x) (hne:∀ x∈m,kC x≠kC c) (hr:Df Cr kC m):∀ n j (acc:List SC),m.length - j=n->j<=m.length->acc.length<=j->
 Ev (λk=>AV.l0 k m acc false (j:Int) c.f0 c.f1 c.f2 c.f3 c.f4 c.f5 c.f6 c.f7 c.f8 c.f9 c.f10) (acc++F6 Cr kC (kC c) c (m.drop j)):=by
 intro n;induction n with
 |zero=>
  intro j acc hn hj ha;obtain rfl:j=m.length:=by omega
  rw [List.drop_length];refine BH ?_;simp only [AV.l0];exact Ah (by omega) (Ah (by decide) (AU (by omega) (BL (Ao _) (by simp [F6,Dk,Ef]))))
 |succ n ih=>
  intro j acc hn hj ha;have hlt:j<m.length:=by omega
  have hd:Df Cr kC (m.drop j):=List.Pairwise.sublist (List.drop_sublist _ _) hr;rw [List.drop_eq_getElem_cons hlt] at hd⊢
  obtain ⟨hx,_⟩:=List.pairwise_cons.1 hd;refine BH ?_;simp only [AV.l0,Bc.f,Option.bind_some];rw [Nh hlt,Fp (by omega)];refine AU (by omega) (Ah (by decide) (AU (by omega) ?_));refine BN (Oi (x:=c) (y:=m[j]) hc (hm _ (List.getElem_mem hlt))) ?_;by_cases h:Fu (kC c) (kC m[j])<0
  ·refine AU h (AU (by omega) (AU (by simp;omega) ?_));have hall:∀ y∈m[j]::m.drop (j+1),Cr.lt (kC c) (kC y):=λy hy=>by
    rcases List.mem_cons.1 hy with rfl|hy
    ·exact h
    ·exact Cr.tr h (hx y hy)
   refine BL (Qw m c hb _ (j+1) (acc++[c]++[m[j]]) rfl (by omega) (by simp;omega)) ?_;unfold F6;rw [JK hall,JL hall];simp
  ·refine Ah h (AU (by omega) ?_);have h2:Cr.lt (kC m[j]) (kC c):=by
    rcases Cr.tot (kC m[j]) (kC c) with h3|h3|h3
    ·exact h3
    ·exact absurd h3 (hne m[j] (List.getElem_mem hlt))
    ·exact absurd h3 h
   refine BL (ih (j+1) (acc++[m[j]]) (by omega) (by omega) (by simp;omega)) ?_;unfold F6;rw [Hm h2,Ff (λh3=>h h3)];simp
theorem Py {m:List SC} (c:SC) (h:Df Cr kC m) (hb:m.length<=1000) (hc:QQ c) (hm:∀ x∈m,QQ x):Ev (λk=>AV.f k m c.f0 c.f1 c.f2 c.f3 c.f4 c.f5 c.f6 c.f7 c.f8 c.f9 c.f10) (F6 Cr kC (kC c) c m):=by
 unfold AV.f;simp only [Bc.f,Option.bind_some];refine BN (Oj (kC c) h hb) ?_;have hl:=Mq (kC c) h;have hr:=Jn (k:=kC c) h;refine BL (Qx (KU Cr kC (kC c) m) c (by omega) hc (λx hx=>hm x (GY.1 hx).1) (λx hx=>(GY.1 hx).2) hr _ 0 [] rfl (Nat.zero_le _) (Nat.le_refl _)) ?_;rw [List.nil_append,List.drop_zero];refine Jo (FJ hr rfl) (FJ h rfl) λx=>?_
 rw [JJ,JJ,GY];constructor
 ·rintro (h1|⟨⟨h1,_⟩,h2⟩)
  ·exact .inl h1
  ·exact .inr ⟨h1,h2⟩
 ·rintro (h1|⟨h1,h2⟩)
  ·exact .inl h1
  ·exact .inr ⟨⟨h1,h2⟩,h2⟩
end Go.Proofs.YtccmackhhppbdaaGreatDoor.Y
end
section
namespace Go.Proofs.YtccmackhhppbdaaGreatDoor.Y
open RowKit Print Af BI BM
set_option linter.unusedVariables false
set_option linter.unusedSimpArgs false
def Gx (d:ByteArray) (m:List SC):Nat:=(m.filter λx=>decide (x.f0=d)).length
def GQ (m:List SC):Bool:=m.any (λx=>decide (12<Gx x.f0 m))||decide (60<m.length)
theorem GR (d:ByteArray) (x:SC) (m:List SC):Gx d (x::m)=(if x.f0=d then 1 else 0)+Gx d m:=by
 unfold Gx;by_cases h:x.f0=d
 ·rw [List.filter_cons_of_pos (by simpa using h),if_pos h,List.length_cons];omega
 ·rw [List.filter_cons_of_neg (by simpa using h),if_neg h];omega
theorem OZ (m:List SC) (d:ByteArray) (hb:m.length<=10000):∀ n j (c:Nat),m.length - j=n->j<=m.length->c<=j->
 Ev (λk=>BU.l0 k m d (c:Int) (j:Int)) ((c+Gx d (m.drop j):Nat):Int):=by
 intro n;induction n with
 |zero=>
  intro j c hn hj hc;obtain rfl:j=m.length:=by omega
  rw [List.drop_length];refine BH ?_;simp only [BU.l0];exact Ah (by omega) (Ao _)
 |succ n ih=>
  intro j c hn hj hc;have hlt:j<m.length:=by omega
  rw [List.drop_eq_getElem_cons hlt,GR];refine BH ?_;simp only [BU.l0];rw [Nh hlt,Fp (by omega),Fp (by omega)];refine AU (by omega) (AU (by omega) ?_);by_cases h:m[j].f0=d
  ·rw [if_pos h];exact AU (toList_inj.2 h) (BL (ih (j+1) (c+1) (by omega) (by omega) (by omega)) (by omega))
  ·rw [if_neg h];exact Ah (λe=>h (toList_inj.1 e)) (BL (ih (j+1) c (by omega) (by omega) (by omega)) (by omega))
theorem NP {m:List SC} (d:ByteArray) (hb:m.length<=1000):Ev (λk=>BU.f k m d) (Gx d m:Int):=
 BL (OZ m d (by omega) _ 0 0 rfl (Nat.zero_le _) (Nat.le_refl _)) (by simp)
theorem Pm (m:List SC) (hb:m.length<=1000):∀ n j,m.length - j=n->j<=m.length->
 Ev (λk=>Bd.l0 k m (j:Int)) ((m.drop j).any (λx=>decide (12<Gx x.f0 m))||decide (60<m.length)):=by
 intro n;induction n with
 |zero=>
  intro j hn hj;obtain rfl:j=m.length:=by omega
  rw [List.drop_length];refine BH ?_;simp only [Bd.l0];refine Ah (by omega) (BL (Ao _) ?_);rw [List.any_nil,Bool.false_or];exact decide_eq_decide.2 (by omega)
 |succ n ih=>
  intro j hn hj;have hlt:j<m.length:=by omega
  rw [List.drop_eq_getElem_cons hlt,List.any_cons];refine BH ?_;simp only [Bd.l0];rw [Nh hlt,Fp (by omega)];refine AU (by omega) (AU (by omega) (BN (NP _ hb) ?_));by_cases h:12<Gx m[j].f0 m
  ·exact AU (by omega) (BL (Ao _) (by rw [decide_eq_true h];rfl))
  ·exact Ah (by omega) (BL (ih (j+1) (by omega) (by omega)) (by rw [decide_eq_false h,Bool.false_or]))
theorem Oa {m:List SC} (hb:m.length<=1000):Ev (λk=>Bd.f k m) (GQ m):=
 Pm m hb _ 0 rfl (Nat.zero_le _)
theorem Me:∀ (m:List SC) (o:Nat) (d:ByteArray),Df Cr kC m->(∀ x∈m,Fg d x.f0<=0)->o<=12->
 (Et (m.map (·.f0)) (o:Int) d=true↔∃ x∈m,12<Gx x.f0 m+if x.f0=d then o else 0)
 |[],o,d,_,_,_=>by simp [Et]
 |x::m,o,d,hr,hd,ho=>by
  obtain ⟨h1,h2⟩:=List.pairwise_cons.1 hr;have hx:∀ y∈m,Fg x.f0 y.f0<=0:=λy hy=>by
   have h3:Fu (kC x) (kC y)<0:=h1 y hy;unfold Fu at h3;rw [JG] at h3;unfold Lr JW at h3;by_cases h4:Fg x.f0 y.f0=0
   ·omega
   ·have h5:¬Fg (kC x).f0 (kC y).f0=0:=h4;rw [if_neg h5] at h3;have h6:Fg x.f0 y.f0<0:=h3;omega
  have hdx:=hd x List.mem_cons_self;obtain ⟨o',ho',hgo⟩:∃ o':Nat,o'=(if x.f0=d then o else 0)+1/\Et ((x::m).map (·.f0)) (o:Int) d=(decide (12<o')||Et (m.map (·.f0)) (o':Int) x.f0):=by
   refine ⟨_,rfl,?_⟩;rw [List.map_cons];show (if 12<(if x.f0=d then (o:Int) else 0)+1 then true else Et _ ((if x.f0=d then (o:Int) else 0)+1) x.f0)=_;have hc:(if x.f0=d then (o:Int) else 0)+1=(((if x.f0=d then o else 0)+1:Nat):Int):=by split<;>omega
   rw [hc];generalize (if x.f0=d then o else 0)+1=q;by_cases h3:12<q
   ·rw [if_pos (by omega),decide_eq_true h3,Bool.true_or]
   ·rw [if_neg (by omega),decide_eq_false h3,Bool.false_or]
  rw [hgo,Bool.or_eq_true,decide_eq_true_iff];by_cases hbig:12<o'
  ·refine ⟨λ_=>⟨x,List.mem_cons_self,?_⟩,λ_=> .inl hbig⟩;rw [GR,if_pos rfl];omega
  ·rw [Me m o' x.f0 h2 hx (by omega)];constructor
   ·rintro (h|⟨y,hy,h⟩)
    ·exact absurd h hbig
    ·by_cases e:y.f0=x.f0
     ·refine ⟨x,List.mem_cons_self,?_⟩;rw [GR,if_pos rfl];rw [if_pos e,e] at h;omega
     ·refine ⟨y,List.mem_cons_of_mem _ hy,?_⟩;rw [if_neg e] at h;rw [GR];omega
   ·rintro ⟨y,hy,h⟩;rw [GR] at h;by_cases e:x.f0=y.f0
    ·rw [if_pos e] at h;rw [<-e] at h;refine .inr ?_;by_cases hm:∃ z∈m,z.f0=x.f0
     ·obtain ⟨z,hz,hz2⟩:=hm;refine ⟨z,hz,?_⟩;rw [if_pos hz2,hz2];omega
     ·have h0:Gx x.f0 m=0:=by
       unfold Gx;rw [List.length_eq_zero_iff,List.filter_eq_nil_iff];intro z hz hz2;exact hm ⟨z,hz,of_decide_eq_true hz2⟩
      omega
    ·rw [if_neg e] at h;have hy2:y∈m:=(List.mem_cons.1 hy).resolve_left λe2=>e (by rw [e2])
     have hyd:¬y.f0=d:=λe2=>by
      have h3:=hx y hy2;rw [e2] at h3;have h4:=Fq.anti x.f0 d;exact e ((Fq.same _ _).1 (by rw [e2];omega))
     rw [if_neg hyd] at h;exact .inr ⟨y,hy2,by omega⟩
def EW (c:SC):SK:=⟨kC c,c⟩
theorem Qt {m:List SC} (h:Df Cr kC m) (hb:m.length<=1000):EX.f (m.map EW)=some (GQ m):=by
 unfold EX.f;rw [if_pos (by rw [List.length_map];omega),List.length_map,List.map_map];congr 1;unfold GQ;congr 1;have hg:=Me m 0 ⟨#[]⟩ h (λx _=>?_) (by omega)
 ·rw [Bool.eq_iff_iff,List.any_eq_true];refine hg.trans (exists_congr λx=>and_congr_right λ_=>?_);rw [decide_eq_true_iff];split<;>omega
 ·rw [H8];rw [show bytesOf ⟨#[]⟩=[] from rfl];cases bytesOf x.f0 with
  |nil=>exact Int.le_refl 0
  |cons a l=>exact (by decide:(-1:Int)<=0)
end Go.Proofs.YtccmackhhppbdaaGreatDoor.Y
end
section
namespace Go.Proofs.YtccmackhhppbdaaGreatDoor.Y
set_option linter.unusedVariables false
set_option linter.unusedSimpArgs false
open RowKit Print Af BI BM
def KO (p:ByteArray):Bool:=(bytesOf p).all Fa
def JH (p:ByteArray):Bool:=decide ((p.size:Int)>=1)&&(decide ((p.size:Int)<=64)&&(decide (bt p 0=47)&&KO p))
def Nb (n:ByteArray):Bool:= !decide (n.toList=([]:List UInt8))&&(bytesOf n).all Gl
def Nc (v:ByteArray):Bool:=(bytesOf v).all Gm
theorem Oz {p:ByteArray} (h:p.size<=500):Dr.f p=some (KO p):=by unfold Dr.f;rw [if_pos (by omega)];rfl
theorem Qy {n:ByteArray} (h:n.size<=500):DR.f n=some (Nb n):=by unfold DR.f;rw [if_pos (by omega)];rfl
theorem Qz {v:ByteArray} (h:v.size<=500):Cz.f v=some (Nc v):=by unfold Cz.f;rw [if_pos (by omega)];rfl
theorem P7 {p:ByteArray} (h:p.size<=500):EN.f p=some (JH p):=by
 unfold EN.f JH;rw [Oz h];by_cases h1:(p.size:Int)>=1
 ·rw [if_pos h1,decide_eq_true h1];by_cases h2:(p.size:Int)<=64
  ·rw [if_pos h2,decide_eq_true h2,if_pos (show 0<(p.size:Int) by omega)];by_cases h3:bt p 0=47
   ·rw [if_pos h3,decide_eq_true h3];rfl
   ·rw [if_neg h3,decide_eq_false h3];rfl
  ·rw [if_neg h2,decide_eq_false h2];rfl
 ·rw [if_neg h1,decide_eq_false h1];rfl
def H9 (c4 c5 c6:Int):Bool:=Js 253402300799 c4&&(Js 253402300799 c5&&Js 253402300799 c6)
def LG (v:ByteArray) (c4 c5 c6 ss:Int):Bool:=Nc v&&(!decide ((v.size:Int)>128)&&(H9 c4 c5 c6&&(decide (ss>=0)&&decide (ss<=3))))
def Nf (p n v:ByteArray) (c4 c5 c6 ss:Int):Bool:=JH p&&(Nb n&&(!decide ((n.size:Int)>64)&&LG v c4 c5 c6 ss))
def GX (d p n v:ByteArray) (c4 c5 c6:Int) (ho:Bool) (ss:Int):Bool:=(Ey d).2&&(decide (bytesOf (Ey d).1=bytesOf d)&&(!(RV d&& !ho)&&Nf p n v c4 c5 c6 ss))
theorem O0 {d p n v:ByteArray} {c4 c5 c6:Int} {ho se ht:Bool} {ss:Int} (hd:d.size<=500) (hp:p.size<=500) (hn:n.size<=500) (hv:v.size<=500):Ev (λk=>AX.f k d p n v c4 c5 c6 ho se ht ss) (GX d p n v c4 c5 c6 ho ss):=by
 have j1:∀ x:Bool,Ev (λk=>AX.j1 k x d p n v c4 c5 c6 ho se ht ss) (!x&&LG v c4 c5 c6 ss):=by
  intro x;apply BH;simp only [AX.j1,Qz hv,DL.f,Option.bind_some];unfold LG;cases x with
  |true=>exact AU rfl (Ao _)
  |false=>
   refine Ah (by decide) ?_;by_cases h1:Nc v=true
   ·refine AU h1 ?_;by_cases h2:(v.size:Int)>128
    ·exact AU h2 (BL (Ao _) (by simp [h2]))
    ·refine Ah h2 ?_;by_cases h3:H9 c4 c5 c6=true
     ·refine AU h3 ?_;by_cases h4:ss>=0
      ·exact AU h4 (BL (Ao _) (by rw [h1,h3,decide_eq_true h4,decide_eq_false h2];simp))
      ·exact Ah h4 (BL (Ao _) (by rw [decide_eq_false h4];simp))
     ·exact Ah h3 (BL (Ao _) (by rw [Bool.not_eq_true] at h3;rw [h3];simp))
   ·exact Ah h1 (BL (Ao _) (by rw [Bool.not_eq_true] at h1;rw [h1];simp))
 have j0:∀ x:Bool,Ev (λk=>AX.j0 k x d p n v c4 c5 c6 ho se ht ss) (!x&&Nf p n v c4 c5 c6 ss):=by
  intro x;apply BH;simp only [AX.j0,P7 hp,Qy hn,Option.bind_some];unfold Nf;cases x with
  |true=>exact AU rfl (Ao _)
  |false=>
   refine Ah (by decide) ?_;by_cases h1:JH p=true
   ·refine AU h1 ?_;by_cases h2:Nb n=true
    ·exact AU h2 (BL (j1 _) (by rw [h1,h2];simp))
    ·exact Ah h2 (BL (j1 _) (by rw [Bool.not_eq_true] at h2;rw [h2];simp))
   ·exact Ah h1 (BL (j1 _) (by rw [Bool.not_eq_true] at h1;rw [h1];simp))
 unfold AX.f GX;refine BN (OY d) ?_;by_cases h1:(Ey d).2=true
 ·refine AU h1 ?_;by_cases h2:(Ey d).1.toList=d.toList
  ·have h3:=toList_inj.mp h2;refine AU h2 (BN (RX (by rw [h3];omega)) ?_);rw [h3,h1,decide_eq_true rfl];by_cases h4:RV d=true
   ·exact AU h4 (BL (j0 _) (by rw [h4];simp))
   ·exact Ah h4 (BL (j0 _) (by rw [Bool.not_eq_true] at h4;rw [h4];simp))
  ·refine Ah h2 (BL (j0 _) ?_);rw [decide_eq_false (λe=>h2 (D6.mpr e)),bne_iff_ne.mpr h2];simp
 ·refine Ah h1 (BL (j0 _) ?_);rw [Bool.not_eq_true] at h1;rw [h1];simp
end Go.Proofs.YtccmackhhppbdaaGreatDoor.Y
end
section
namespace Go.Proofs.YtccmackhhppbdaaGreatDoor.Y
set_option linter.unusedVariables false
set_option linter.unusedSimpArgs false
open RowKit Print Af BI BM
theorem Ls (s:ByteArray) (i:Int):C9.f (bt s i)=some (Gl (bt s i)):=Ic (P:=λc=>C9.f c=some (Gl c)) (by decide+kernel) (Fh s i).1 (Fh s i).2
theorem LH (s:ByteArray) (i:Int):Cs.f (bt s i)=some (Gm (bt s i)):=Ic (P:=λc=>Cs.f c=some (Gm c)) (by decide+kernel) (Fh s i).1 (Fh s i).2
theorem KP (s:ByteArray) (hs:s.size<=4294967296) (d:Nat):∀ i:Nat,i+d=s.size->Ev (λk=>BF.l0 k s i) (decide ((s.size:Int)>0)&&((bytesOf s).drop i).all Gl):=by
 induction d with
 |zero=>
  intro i hi;apply BH;simp only [BF.l0];exact Ah (by omega) (BL (Ao _) (by rw [List.drop_eq_nil_of_le (by rw [bytesOf_length];omega)];simp))
 |succ d ih=>
  intro i hi;apply BH;simp only [BF.l0,Ls];have hw:wrap64 ((i:Int)+1)=((i+1:Nat):Int):=by rw [JM (by omega) (by omega)];omega
  rw [hw];refine AU (by omega) (AU (by omega) (BN (Ao _) ?_));rcases DK s (i:=i) (by omega) with ⟨h1,_⟩|⟨h1,h2⟩
  ·omega
  ·rw [h2,List.all_cons];by_cases hc:Gl (bt s i)=true
   ·exact AU hc (BL (ih (i+1) (by omega)) (by rw [hc];simp))
   ·exact Ah hc (BL (Ao _) (by rw [Bool.not_eq_true] at hc;rw [hc];simp))
theorem KQ (s:ByteArray) (hs:s.size<=4294967296) (d:Nat):∀ i:Nat,i+d=s.size->Ev (λk=>BK.l0 k s i) (((bytesOf s).drop i).all Gm):=by
 induction d with
 |zero=>
  intro i hi;apply BH;simp only [BK.l0];exact Ah (by omega) (BL (Ao _) (by rw [List.drop_eq_nil_of_le (by rw [bytesOf_length];omega)];simp))
 |succ d ih=>
  intro i hi;apply BH;simp only [BK.l0,LH];have hw:wrap64 ((i:Int)+1)=((i+1:Nat):Int):=by rw [JM (by omega) (by omega)];omega
  rw [hw];refine AU (by omega) (AU (by omega) (BN (Ao _) ?_));rcases DK s (i:=i) (by omega) with ⟨h1,_⟩|⟨h1,h2⟩
  ·omega
  ·rw [h2,List.all_cons];by_cases hc:Gm (bt s i)=true
   ·exact AU hc (BL (ih (i+1) (by omega)) (by rw [hc];simp))
   ·exact Ah hc (BL (Ao _) (by rw [Bool.not_eq_true] at hc;rw [hc];simp))
theorem Lt (c:Int):Fa c=decide (¬c<33/\¬c>126/\¬c=59):=by
 unfold Fa;rw [Bool.eq_iff_iff];simp only [Bool.and_eq_true,Bool.not_eq_true',decide_eq_true_iff,decide_eq_false_iff_not];omega
theorem JI (s:ByteArray) (hs:s.size<=4294967296) (d:Nat):∀ i:Nat,i+d=s.size->Ev (λk=>BS.l0 k s i) (((bytesOf s).drop i).all Fa):=by
 induction d with
 |zero=>
  intro i hi;apply BH;simp only [BS.l0];exact Ah (by omega) (BL (Ao _) (by rw [List.drop_eq_nil_of_le (by rw [bytesOf_length];omega)];simp))
 |succ d ih=>
  intro i hi;apply BH;simp only [BS.l0];have hw:wrap64 ((i:Int)+1)=((i+1:Nat):Int):=by rw [JM (by omega) (by omega)];omega
  rw [hw];refine AU (by omega) (AU (by omega) ?_);rcases DK s (i:=i) (by omega) with ⟨h1,_⟩|⟨h1,h2⟩
  ·omega
  ·rw [h2,List.all_cons,Lt];by_cases h3:bt s i<33
   ·exact AU h3 (BL (Ao _) (by rw [decide_eq_false (by omega)];rfl))
   ·refine Ah h3 ?_;by_cases h4:bt s i>126
    ·exact AU h4 (BL (Ao _) (by rw [decide_eq_false (by omega)];rfl))
    ·refine Ah h4 ?_;by_cases h5:bt s i=59
     ·exact AU h5 (BL (Ao _) (by rw [decide_eq_false (by omega)];rfl))
     ·exact Ah h5 (BL (ih (i+1) (by omega)) (by rw [decide_eq_true ⟨h3,h4,h5⟩];rfl))
theorem Lu {s:ByteArray} (hs:s.size<=500):Ev (λk=>BF.f k s) (Nb s):=by
 have h:=KP s (by omega) s.size 0 (by omega);have e:decide ((s.size:Int)>0)= !decide (s.toList=([]:List UInt8)):=by
  rw [Bool.eq_iff_iff,Bool.not_eq_true',decide_eq_true_iff,decide_eq_false_iff_not];have hl:s.toList.length=s.size:=by rw [toList_data,Array.length_toList];rfl
  constructor
  ·intro h0 h1;rw [h1] at hl;simp at hl;omega
  ·intro h0;have:s.toList.length≠0:=λz=>h0 (List.eq_nil_of_length_eq_zero z)
   omega
 unfold Nb;rw [<-e];simpa [BF.f] using h
theorem Lv {s:ByteArray} (hs:s.size<=500):Ev (λk=>BK.f k s) (Nc s):=by
 have h:=KQ s (by omega) s.size 0 (by omega);simpa [BK.f,Nc] using h
theorem KR {s:ByteArray} (hs:s.size<=500):Ev (λk=>BS.f k s) (KO s):=by
 have h:=JI s (by omega) s.size 0 (by omega);simpa [BS.f,KO] using h
theorem KS {p:ByteArray} (h:p.size<=500):Ev (λk=>Bw.f k p) (JH p):=by
 unfold Bw.f JH;by_cases h1:(p.size:Int)>=1
 ·refine AU h1 ?_;by_cases h2:(p.size:Int)<=64
  ·refine AU h2 (AU (by omega) ?_);by_cases h3:bt p 0=47
   ·exact AU h3 (BN (KR h) (BL (Ao _) (by rw [decide_eq_true h1,decide_eq_true h2,decide_eq_true h3];rfl)))
   ·exact Ah h3 (BL (Ao _) (by rw [decide_eq_false h3];simp))
  ·exact Ah h2 (BL (Ao _) (by rw [decide_eq_false h2];simp))
 ·exact Ah h1 (BL (Ao _) (by rw [decide_eq_false h1];simp))
theorem O1 (c4 c5 c6 ss:Int):(H9 c4 c5 c6&&(decide (ss>=0)&&decide (ss<=3)))=decide (¬c4<0/\¬c4>253402300799/\¬c5<0/\¬c5>253402300799/\¬c6<0/\¬c6>253402300799/\ss>=0/\ss<=3):=by
 unfold H9 Js;rw [Bool.eq_iff_iff];simp only [Bool.and_eq_true,decide_eq_true_iff];omega
theorem KT {d p n v:ByteArray} {c4 c5 c6:Int} {ho se ht:Bool} {ss:Int} (hd:d.size<=500) (hp:p.size<=500) (hn:n.size<=500) (hv:v.size<=500):Ev (λk=>AR.f k d p n v c4 c5 c6 ho se ht ss) (GX d p n v c4 c5 c6 ho ss):=by
 have j1:∀ x:Bool,Ev (λk=>AR.j1 k x d p n v c4 c5 c6 ho se ht ss) (!x&&(H9 c4 c5 c6&&(decide (ss>=0)&&decide (ss<=3)))):=by
  intro x;apply BH;simp only [AR.j1];cases x with
  |true=>exact AU rfl (Ao _)
  |false=>
   refine Ah (by decide) ?_;rw [O1,Bool.not_false,Bool.true_and];by_cases h1:c4<0
   ·exact AU h1 (BL (Ao _) (decide_eq_false (by omega)).symm)
   refine Ah h1 ?_;by_cases h2:c4>253402300799
   ·exact AU h2 (BL (Ao _) (decide_eq_false (by omega)).symm)
   refine Ah h2 ?_;by_cases h3:c5<0
   ·exact AU h3 (BL (Ao _) (decide_eq_false (by omega)).symm)
   refine Ah h3 ?_;by_cases h4:c5>253402300799
   ·exact AU h4 (BL (Ao _) (decide_eq_false (by omega)).symm)
   refine Ah h4 ?_;by_cases h5:c6<0
   ·exact AU h5 (BL (Ao _) (decide_eq_false (by omega)).symm)
   refine Ah h5 ?_;by_cases h6:c6>253402300799
   ·exact AU h6 (BL (Ao _) (decide_eq_false (by omega)).symm)
   refine Ah h6 ?_;by_cases h7:ss>=0
   ·refine AU h7 (BL (Ao _) ?_);rw [Bool.eq_iff_iff,decide_eq_true_iff,decide_eq_true_iff];omega
   ·exact Ah h7 (BL (Ao _) (decide_eq_false (by omega)).symm)
 have j0:∀ x:Bool,Ev (λk=>AR.j0 k x d p n v c4 c5 c6 ho se ht ss) (!x&&Nf p n v c4 c5 c6 ss):=by
  intro x;apply BH;simp only [AR.j0];unfold Nf LG;cases x with
  |true=>exact AU rfl (Ao _)
  |false=>
   refine Ah (by decide) (BN (KS hp) ?_);by_cases h1:JH p=true
   ·refine AU h1 (BN (Lu hn) ?_);by_cases h2:Nb n=true
    ·refine AU h2 ?_;by_cases h3:(n.size:Int)>64
     ·exact AU h3 (BL (j1 true) (by rw [decide_eq_true h3];simp))
     ·refine Ah h3 (BN (Lv hv) ?_);by_cases h4:Nc v=true
      ·exact AU h4 (BL (j1 _) (by rw [h1,h2,h4,decide_eq_false h3];simp))
      ·exact Ah h4 (BL (j1 true) (by rw [Bool.not_eq_true] at h4;rw [h4];simp))
    ·exact Ah h2 (BL (j1 true) (by rw [Bool.not_eq_true] at h2;rw [h2];simp))
   ·exact Ah h1 (BL (j1 true) (by rw [Bool.not_eq_true] at h1;rw [h1];simp))
 unfold AR.f GX;refine BN (KL (by omega)) ?_;by_cases h1:(Ey d).2=true
 ·refine AU h1 ?_;by_cases h2:(Ey d).1.toList=d.toList
  ·have h3:=toList_inj.mp h2;refine AU h2 (BN (NN (by omega)) ?_);rw [h3,h1,decide_eq_true rfl];by_cases h4:RV d=true
   ·exact AU h4 (BL (j0 _) (by rw [h4];simp))
   ·exact Ah h4 (BL (j0 _) (by rw [Bool.not_eq_true] at h4;rw [h4];simp))
  ·refine Ah h2 (BL (j0 true) ?_);rw [decide_eq_false (λe=>h2 (D6.mpr e))];simp
 ·refine Ah h1 (BL (j0 true) ?_);rw [Bool.not_eq_true] at h1;rw [h1];simp
end Go.Proofs.YtccmackhhppbdaaGreatDoor.Y
end
section
namespace Go.Proofs.YtccmackhhppbdaaGreatDoor.Y
open RowKit Print Af BI BM
set_option linter.unusedVariables false
set_option linter.unusedSimpArgs false
abbrev Gy (c:SC):Bool:=GX c.f0 c.f1 c.f2 c.f3 c.f4 c.f5 c.f6 c.f7 c.f10
abbrev E9 (c:SC):Prop:=c.f0.size<=300/\c.f1.size<=300/\c.f2.size<=300/\c.f3.size<=300
theorem E9.sm {c:SC} (h:E9 c):QQ c:=⟨by have:=h.1;omega,by have:=h.2.1;omega,by have:=h.2.2.1;omega,by have:=h.2.2.2;omega⟩
def NQ (l:List SC):Bool:=decide (l.length<=100)&&l.all λc=>decide (E9 c)
theorem Mf {l:List SC}:NQ l=true↔l.length<=100/\∀ c∈l,E9 c:=by simp [NQ]
theorem RY (l:List SC) (hl:l.length<=100):∀ n j,l.length - j=n->j<=l.length->Ev (λk=>BZ.l0 k l (j:Int)) ((l.drop j).all λc=>decide (E9 c)):=by
 intro n;induction n with
 |zero=>
  intro j hn hj;obtain rfl:j=l.length:=by omega
  rw [List.drop_length];refine BH ?_;simp only [BZ.l0];exact Ah (by omega) (Ao _)
 |succ n ih=>
  intro j hn hj;have hlt:j<l.length:=by omega
  rw [List.drop_eq_getElem_cons hlt,List.all_cons];refine BH ?_;simp only [BZ.l0];rw [Nh hlt,Fp (by omega)];refine AU (by omega) (AU (by omega) ?_);by_cases h0:l[j].f0.size<=300
  ·refine Ah (by omega) ?_;by_cases h1:l[j].f1.size<=300
   ·refine Ah (by omega) ?_;by_cases h2:l[j].f2.size<=300
    ·refine Ah (by omega) ?_;by_cases h3:l[j].f3.size<=300
     ·refine Ah (by omega) (BL (ih (j+1) (by omega) (by omega)) ?_);rw [decide_eq_true (show E9 l[j] from ⟨h0,h1,h2,h3⟩),Bool.true_and]
     ·exact AU (by omega) (BL (Ao _) (by rw [decide_eq_false (show ¬E9 l[j] from λh=>h3 h.2.2.2)];rfl))
    ·exact AU (by omega) (BL (Ao _) (by rw [decide_eq_false (show ¬E9 l[j] from λh=>h2 h.2.2.1)];rfl))
   ·exact AU (by omega) (BL (Ao _) (by rw [decide_eq_false (show ¬E9 l[j] from λh=>h1 h.2.1)];rfl))
  ·exact AU (by omega) (BL (Ao _) (by rw [decide_eq_false (show ¬E9 l[j] from λh=>h0 h.1)];rfl))
theorem Qu (l:List SC):Ev (λk=>BZ.f k l) (NQ l):=by
 unfold BZ.f NQ;by_cases h:l.length<=100
 ·exact Ah (by omega) (BL (RY l h _ 0 rfl (Nat.zero_le _)) (by rw [decide_eq_true h,Bool.true_and,List.drop_zero]))
 ·exact AU (by omega) (BL (Ao _) (by rw [decide_eq_false h,Bool.false_and]))
noncomputable def Fj (l m:List SC):Bool:= @decide (l=m) (Classical.propDecidable _)
theorem same_iff {l m:List SC}:Fj l m=true↔l=m:=by unfold Fj;exact @decide_eq_true_iff _ (Classical.propDecidable _)
theorem FH (l:List SC):Fj l l=true:=same_iff.2 rfl
theorem R3 (x y:SC):(x.f0.toList==y.f0.toList&&(x.f1.toList==y.f1.toList&&(x.f2.toList==y.f2.toList&&(x.f3.toList==y.f3.toList&&(x.f4==y.f4&&(x.f5==y.f5&&(x.f6==y.f6&&(x.f7==y.f7&&(x.f8==y.f8&&(x.f9==y.f9&&(x.f10==y.f10)))))))))))=true↔x=y:=by
 obtain ⟨a0,a1,a2,a3,a4,a5,a6,a7,a8,a9,a10⟩:=x;obtain ⟨b0,b1,b2,b3,b4,b5,b6,b7,b8,b9,b10⟩:=y;simp only [Bool.and_eq_true,beq_iff_eq,toList_inj,CB.mk.injEq]
theorem Pn (x y:SC):(!(x.f0.toList==y.f0.toList)||(!(x.f1.toList==y.f1.toList)||(!(x.f2.toList==y.f2.toList)||(!(x.f3.toList==y.f3.toList)||(!(x.f4==y.f4)||(!(x.f5==y.f5)||(!(x.f6==y.f6)||(!(x.f7==y.f7)||(!(x.f8==y.f8)||(!(x.f9==y.f9)||(!(x.f10==y.f10))))))))))))=true↔x≠y:=by
 refine Iff.trans ?_ (not_congr (R3 x y));simp only [<-Bool.not_and,Bool.not_eq_true',Bool.not_eq_true]
theorem Jj {x y:SC} {l m:List SC} (h:x=y):Fj (x::l) (y::m)=Fj l m:=by
 rw [Bool.eq_iff_iff,same_iff,same_iff,h];simp
theorem Mg {x y:SC} {l m:List SC} (h:x≠y):Fj (x::l) (y::m)=false:=by
 rw [Bool.eq_false_iff];intro h2;exact h (List.cons.inj (same_iff.1 h2)).1
theorem Po (l m:List SC) (e:l.length=m.length) (hl:l.length<=10000):∀ n j,l.length - j=n->j<=l.length->Ev (λk=>BC.l0 k l m (j:Int)) (Fj (l.drop j) (m.drop j)):=by
 intro n;induction n with
 |zero=>
  intro j hn hj;obtain rfl:j=l.length:=by omega
  rw [List.drop_length,e,List.drop_length];refine BH ?_;simp only [BC.l0];exact Ah (by omega) (BL (Ao _) (FH _).symm)
 |succ n ih=>
  intro j hn hj;have hlt:j<l.length:=by omega
  have hlt2:j<m.length:=by omega
  rw [List.drop_eq_getElem_cons hlt,List.drop_eq_getElem_cons hlt2];refine BH ?_;simp only [BC.l0];rw [Nh hlt,Nh hlt2,Fp (by omega)];refine AU (by omega) (AU (by omega) (AU (by omega) ?_));by_cases h:l[j]=m[j]
  ·exact Ah (λh1=>(Pn _ _).1 h1 h) (BL (ih (j+1) (by omega) (by omega)) (Jj h).symm)
  ·exact AU ((Pn _ _).2 h) (BL (Ao _) (Mg h).symm)
theorem Ob {l m:List SC} (e:l.length≠m.length):Fj l m=false:=by
 rw [Bool.eq_false_iff];intro h;exact e (congrArg List.length (same_iff.1 h))
theorem JA (l m:List SC) (hl:l.length<=10000):Ev (λk=>BC.f k l m) (Fj l m):=by
 unfold BC.f;by_cases e:l.length=m.length
 ·exact AU (by omega) (Po l m e hl _ 0 rfl (Nat.zero_le _))
 ·exact Ah (by omega) (BL (Ao _) (Ob e).symm)
theorem Pp (l m:List SC) (e:l.length=m.length) (hl:l.length<=10000):∀ n j,l.length - j=n->j<=l.length->Ev (λk=>CE.l0 k l m (l.length:Int) (j:Int)) (Fj (l.drop j) (m.drop j)):=by
 intro n;induction n with
 |zero=>
  intro j hn hj;obtain rfl:j=l.length:=by omega
  rw [List.drop_length,e,List.drop_length];refine BH ?_;simp only [CE.l0];exact Ah (by omega) (BL (Ao _) (FH _).symm)
 |succ n ih=>
  intro j hn hj;have hlt:j<l.length:=by omega
  have hlt2:j<m.length:=by omega
  rw [List.drop_eq_getElem_cons hlt,List.drop_eq_getElem_cons hlt2];refine BH ?_;simp only [CE.l0];rw [Nh hlt,Nh hlt2,Fp (by omega)];refine AU (by omega) (AU (by omega) (AU (by omega) (AU (by omega) ?_)));by_cases h:l[j]=m[j]
  ·exact Ah (λh1=>(Pn _ _).1 h1 h) (BL (ih (j+1) (by omega) (by omega)) (Jj h).symm)
  ·exact AU ((Pn _ _).2 h) (BL (Ao _) (Mg h).symm)
theorem Oc (l m:List SC) (hl:l.length<=10000):Ev (λk=>CE.f k l m) (Fj l m):=by
 unfold CE.f;by_cases e:l.length=m.length
 ·exact AU (by omega) (Pp l m e hl _ 0 rfl (Nat.zero_le _))
 ·exact Ah (by omega) (BL (Ao _) (Ob e).symm)
abbrev IW (c:SC) (m:List SC):List SC:=F6 Cr kC (kC c) c m
theorem Od (a:Fs) (l:List SC):Dk Cr kK a (l.map EW)=(Dk Cr kC a l).map EW:=by unfold Dk;rw [List.filter_map];rfl
theorem Oe (a:Fs) (l:List SC):Ef Cr kK a (l.map EW)=(Ef Cr kC a l).map EW:=by unfold Ef;rw [List.filter_map];rfl
theorem Pq (c:SC) (l:List SC):F6 Cr kK (kC c) ⟨kC c,c⟩ (l.map EW)=(IW c l).map EW:=by unfold IW F6;rw [List.map_append,List.map_cons,Od,Oe];rfl
theorem NR {l:List SC} (h:Df Cr kC l):Df Cr kK (l.map EW):=List.pairwise_map.2 h
theorem Ps {m:List SC} (c:SC) (h:Df Cr kC m) (hb:m.length<=1000):Ev (λk=>BP.f k (m.map EW) c.f0 c.f1 c.f2 c.f0 c.f1 c.f2 c.f3 c.f4 c.f5 c.f6 c.f7 c.f8 c.f9 c.f10) ((IW c m).map EW):=
 BL (Q0 (kC c) c (NR h) (by rw [List.length_map];exact hb)) (Pq c m)
theorem JB {m:List SC} (hb:m.length<=10000):Cc.f (m.map EW)=some m:=by
 unfold Cc.f;rw [if_pos (by rw [List.length_map];omega),List.map_map];congr 1;exact List.map_id _
theorem KM {m:List SC} (c:SC) (h:Df Cr kC m):(IW c m).length<=m.length+1:=Mr (kC c) c h
theorem Mh {c x:SC} {m:List SC} (h:x∈IW c m):x=c\/x∈m:=(JJ.1 h).imp id λh=>h.1
theorem Pt {c:SC} {m:List SC} (h:∀ x∈m,Cr.lt (kC x) (kC c)):IW c m=m++[c]:=by
 unfold IW F6;rw [show Dk Cr kC (kC c) m=m from List.filter_eq_self.2 λx hx=>decide_eq_true (h x hx),show Ef Cr kC (kC c) m=[] from List.filter_eq_nil_iff.2 λx hx h2=>Cr.Rf (h x hx) (of_decide_eq_true h2)]
def De (n:Nat):List SC->List SC->List SC×Int
 |[],m=>if m.length<n then ([],151) else if GQ m=true then ([],152) else (m,0)
 |c::l,m=>if Gy c=true then De n l (IW c m) else ([],150)
def NS (l:List SC):List SC×Int:=De l.length l []
theorem RZ (l:List SC) (hl:l.length<=100) (hs:∀ c∈l,E9 c):∀ n j (m:List SC),l.length - j=n->j<=l.length->Df Cr kC m->m.length<=j->
 Ev (λk=>CU.l0 k l l (l.length:Int) (j:Int) (m.map EW)) ((De l.length (l.drop j) m).1.map EW,(De l.length (l.drop j) m).2):=by
 intro n;induction n with
 |zero=>
  intro j m hn hj hr hm;obtain rfl:j=l.length:=by omega
  rw [List.drop_length];refine BH ?_;simp only [CU.l0,Db.f,Option.bind_some,Qt hr (show m.length<=1000 by omega),List.length_map];refine Ah (by omega) ?_;unfold De;by_cases h:m.length<l.length
  ·exact AU (by omega) (BL (Ao _) (by rw [if_pos h];rfl))
  ·refine Ah (by omega) ?_;rw [if_neg h];by_cases h2:GQ m=true
   ·exact AU h2 (BL (Ao _) (by rw [if_pos h2];rfl))
   ·exact Ah h2 (BL (Ao _) (by rw [if_neg h2]))
 |succ n ih=>
  intro j m hn hj hr hm;have hlt:j<l.length:=by omega
  have hf:=hs _ (List.getElem_mem hlt);rw [List.drop_eq_getElem_cons hlt];refine BH ?_;simp only [CU.l0,Ct.FD.f,Option.bind_some];rw [Nh hlt,Fp (by omega)];refine AU (by omega) (AU (by omega) (AU (by omega) (BN (O0 (by have:=hf.1;omega) (by have:=hf.2.1;omega) (by have:=hf.2.2.1;omega) (by have:=hf.2.2.2;omega)) ?_)));unfold De;by_cases h:Gy l[j]=true
  ·rw [if_pos h];refine AU h (BN (Ps l[j] hr (by omega)) ?_);exact ih (j+1) (IW l[j] m) (by omega) (by omega) (FJ hr rfl) (by have:=KM l[j] hr;omega)
  ·rw [if_neg h];exact Ah h (BL (Ao _) rfl)
theorem Ll {l:List SC} (hl:l.length<=100) (hs:∀ c∈l,E9 c):Ev (λk=>CU.f k l) ((NS l).1.map EW,(NS l).2):=
 RZ l hl hs _ 0 [] rfl (Nat.zero_le _) List.Pairwise.nil (Nat.le_refl _)
theorem Ra (l:List SC) (hl:l.length<=100) (hs:∀ c∈l,E9 c):∀ n j (m:List SC),l.length - j=n->j<=l.length->Df Cr kC m->m.length<=j->(∀ x∈m,QQ x)->
 Ev (λk=>Bj.l0 k l m (j:Int)) (De l.length (l.drop j) m):=by
 intro n;induction n with
 |zero=>
  intro j m hn hj hr hm hq;obtain rfl:j=l.length:=by omega
  rw [List.drop_length];refine BH ?_;simp only [Bj.l0];refine Ah (by omega) ?_;unfold De;by_cases h:m.length<l.length
  ·exact AU (by omega) (BL (Ao _) (by rw [if_pos h]))
  ·refine Ah (by omega) (BN (Oa (by omega)) ?_);rw [if_neg h];by_cases h2:GQ m=true
   ·exact AU h2 (BL (Ao _) (by rw [if_pos h2]))
   ·exact Ah h2 (BL (Ao _) (by rw [if_neg h2]))
 |succ n ih=>
  intro j m hn hj hr hm hq;have hlt:j<l.length:=by omega
  have hf:=hs _ (List.getElem_mem hlt);rw [List.drop_eq_getElem_cons hlt];refine BH ?_;simp only [Bj.l0];rw [Nh hlt,Fp (by omega)];refine AU (by omega) (AU (by omega) (BN (KT (by have:=hf.1;omega) (by have:=hf.2.1;omega) (by have:=hf.2.2.1;omega) (by have:=hf.2.2.2;omega)) ?_));unfold De;by_cases h:Gy l[j]=true
  ·rw [if_pos h];refine AU h (BN (Py l[j] hr (by omega) hf.sm hq) ?_);exact ih (j+1) (IW l[j] m) (by omega) (by omega) (FJ hr rfl) (by have:=KM l[j] hr;omega) (λx hx=>(Mh hx).elim (λe=>e▸hf.sm) (hq x))
  ·rw [if_neg h];exact Ah h (Ao _)
theorem Qv {l:List SC} (hl:l.length<=100) (hs:∀ c∈l,E9 c):Ev (λk=>Bj.f k l) (NS l):=
 Ra l hl hs _ 0 [] rfl (Nat.zero_le _) List.Pairwise.nil (Nat.le_refl _) (λ_ h=>absurd h List.not_mem_nil)
structure IX (m:List SC):Prop where
 rises:Df Cr kC m
 right:∀ c∈m,Gy c=true
 few:GQ m=false
theorem Mi (n:Nat) (P:SC->Prop):∀ (l m:List SC),Df Cr kC m->(∀ c∈m,Gy c=true/\P c)->(∀ c∈l,P c)->(De n l m).2=0->IX (De n l m).1/\(∀ c∈(De n l m).1,P c)
 |[],m,hr,hm,hl,h=>by
  unfold De at h⊢
  by_cases h1:m.length<n
  ·rw [if_pos h1] at h;exact absurd h (by decide)
  ·rw [if_neg h1] at h⊢
   by_cases h2:GQ m=true
   ·rw [if_pos h2] at h;exact absurd h (by decide)
   ·rw [if_neg h2] at h⊢
    exact ⟨⟨hr,λc hc=>(hm c hc).1,by simpa using h2⟩,λc hc=>(hm c hc).2⟩
 |c::l,m,hr,hm,hl,h=>by
  unfold De at h⊢
  by_cases h1:Gy c=true
  ·rw [if_pos h1] at h⊢
   exact Mi n P l _ (FJ hr rfl) (λx hx=>(Mh hx).elim (λe=>e▸⟨h1,hl c List.mem_cons_self⟩) (hm x)) (λx hx=>hl x (List.mem_cons_of_mem _ hx)) h
  ·rw [if_neg h1] at h;exact absurd h (by decide)
theorem Og (n:Nat):∀ (l m:List SC),Df Cr kC m->(De n l m).1.length<=l.length+m.length
 |[],m,hr=>by
  unfold De;split
  ·simp
  ·split<;>simp
 |c::l,m,hr=>by
  unfold De;split
  ·have:=Og n l (IW c m) (FJ hr rfl);have:=KM c hr;simp only [List.length_cons];omega
  ·simp
theorem Pv (l:List SC):(NS l).1.length<=l.length:=by have:=Og l.length l [] List.Pairwise.nil;simpa [NS] using this
theorem Pw {l:List SC} (hs:∀ c∈l,E9 c) (h:(NS l).2=0):IX (NS l).1/\∀ c∈(NS l).1,E9 c:=
 Mi l.length E9 l [] List.Pairwise.nil (λ_ h=>absurd h List.not_mem_nil) hs h
theorem Oh (n:Nat):∀ (l m:List SC),Df Cr kC (m++l)->(∀ c∈l,Gy c=true)->De n l m=De n [] (m++l)
 |[],m,_,_=>by rw [List.append_nil]
 |c::l,m,hr,hl=>by
  have h1:∀ x∈m,Cr.lt (kC x) (kC c):=λx hx=>(List.pairwise_append.1 hr).2.2 x hx c List.mem_cons_self
  have e:De n (c::l) m=De n l (IW c m):=by
   conv=>lhs;unfold De
   rw [if_pos (hl c List.mem_cons_self)]
  rw [e,Pt h1];have e2:m++c::l=(m++[c])++l:=by simp
  rw [e2] at hr⊢
  exact Oh n l (m++[c]) hr (λx hx=>hl x (List.mem_cons_of_mem _ hx))
theorem Hg {m:List SC} (h:IX m):NS m=(m,0):=by
 unfold NS;rw [Oh m.length m [] (by simpa using h.rises) h.right];unfold De;rw [List.nil_append,if_neg (Nat.lt_irrefl _),if_neg (by rw [h.few];decide)]
noncomputable def H7 (l:List SC):Bool:=if (NS l).2=0 then Fj (NS l).1 l else false
theorem JC {l:List SC} (hs:∀ c∈l,E9 c):H7 l=true↔IX l:=by
 unfold H7;constructor
 ·intro h;split at h
  ·rename_i h0;have:=(Pw hs h0).1;rwa [same_iff.1 h] at this
  ·exact absurd h (by decide)
 ·intro h;rw [Hg h,if_pos rfl];exact FH _
theorem NT {l:List SC} (hl:l.length<=100) (hs:∀ c∈l,E9 c):Ev (λk=>Cf.f k l) (H7 l):=by
 have hb:=Pv l;unfold Cf.f H7;refine BN (Qv hl hs) ?_;by_cases h:(NS l).2=0
 ·rw [if_pos h];exact AU h (BN (JA _ _ (by omega)) (Ao _))
 ·rw [if_neg h];exact Ah h (Ao _)
end Go.Proofs.YtccmackhhppbdaaGreatDoor.Y
end
