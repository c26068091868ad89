/- The table's functions at rows of cookies that rise: what they tell. -/
import Derived.Test.YtikggnalmidlhaaGreatDoorM37
import Derived.Test.YtikggnalmidlhaaGreatDoorPrint10
namespace Go.Proofs.YtikggnalmidlhaaGreatDoor.Y
open RowKit Print AR Aa Ad
set_option linter.unusedVariables false
set_option linter.unusedSimpArgs false
abbrev SK:=Cj
abbrev GD:=Ic
abbrev SC:=CU
def GG (a b:GD):Int:=JF a.f0 a.f1 a.f2 b.f0 b.f1 b.f2
theorem FJ:Rank GG:=by
 have h:=M7 Q8 (λx:GD=>(x.f0,x.f1,x.f2)) (by
  rintro ⟨a0,a1,a2⟩ ⟨b0,b1,b2⟩ h
  simp only [Prod.mk.injEq] at h
  obtain ⟨h0,h1,h2⟩:=h
  subst h0 h1 h2
  rfl)
 have e:(λx y:GD=>Ns (x.f0,x.f1,x.f2) (y.f0,y.f1,y.f2))=GG:=by funext a b;exact (J6 _ _ _ _ _ _).symm
 exact e▸h
instance:DecidableEq GD:=λa b=>decidable_of_iff (GG a b=0) (FJ.same a b)
def Cq:RJ GD:=⟨λa b=>GG a b<0,λa b=>inferInstanceAs (Decidable (GG a b<0)),λa=>by rw [(FJ.same a a).2 rfl];decide,
 λ {a b c} h h'=>by
  have h1:=FJ.trans a b c (by omega) (by omega)
  have h2:GG a c≠0:=λe=>by
   obtain rfl:=(FJ.same _ _).1 e
   have:=FJ.anti a b
   omega
  omega,
 λa b=>by
  rcases FJ.val a b with h|h|h
  ·exact .inl (by omega)
  ·exact .inr (.inl ((FJ.same _ _).1 h))
  ·have:=FJ.anti a b
   exact .inr (.inr (by omega))⟩
def kK (x:SK):GD:=x.f0
theorem Ov {a b:GD}:GG a b<0↔Cq.lt a b:=Iff.rfl
theorem Ow {a b:GD}:GG a b=0↔a=b:=FJ.same a b
theorem N7 (p:Nat->Bool) (m:Nat):∀ n i j,i<=m->m<=j->j - i<=n->(∀ x,x<m->p x=true)->(∀ x,m<=x->x<j->p x=false)->Re p n i j=m
 |0,i,j,h1,h2,h3,_,_=>by
  show i=m;omega
 |n+1,i,j,h1,h2,h3,ht,hf=>by
  unfold Re;split
  ·rename_i hlt;by_cases hm:(i+j)/2<m
   ·rw [if_pos (ht _ hm)];exact N7 p m n _ j (by omega) h2 (by omega) ht hf
   ·rw [if_neg (by rw [hf _ (by omega) (by omega)];decide)];exact N7 p m n i _ h1 (by omega) (by omega) ht (λx h4 h5=>hf x h4 (by omega))
  ·omega
theorem RG {α:Type} (a b:List α) (z:α) (i:Nat) (h:i<a.length):(a++b).getD i z∈a:=by
 rw [List.getD_eq_getElem?_getD,List.getElem?_append_left h,List.getElem?_eq_getElem h];exact List.getElem_mem h
theorem K5 {α:Type} (a b:List α) (z:α) (i:Nat) (h:a.length<=i) (h':i<(a++b).length):(a++b).getD i z∈b:=by
 rw [List.length_append] at h';rw [List.getD_eq_getElem?_getD,List.getElem?_append_right h,List.getElem?_eq_getElem (show i - a.length<b.length by omega)];exact List.getElem_mem _
theorem NA {l:List SK} (t:GD) (h:Di Cq kK l):Rf l t.f0 t.f1 t.f2=(Dn Cq kK t l).length/\Iz l t.f0 t.f1 t.f2= !(atR Cq kK t l).isEmpty:=by
 obtain ⟨hs,ha⟩:=Fp t h;have hl:=congrArg List.length hs;rw [List.length_append] at hl;have e1:Rf l t.f0 t.f1 t.f2=(Dn Cq kK t l).length:=by
  unfold Rf;refine N7 _ _ _ 0 _ (Nat.zero_le _) (by omega) (by omega) (λx hx=>?_) (λx hx hx2=>?_)
  ·have hm:=RG (Dn Cq kK t l) (atR Cq kK t l++En Cq kK t l) TD x hx;rw [<-hs] at hm;exact decide_eq_true (Ov.2 (G5.1 hm).2)
  ·have hm:=K5 (Dn Cq kK t l) (atR Cq kK t l++En Cq kK t l) TD x hx (by rw [<-hs];exact hx2);rw [<-hs] at hm;refine decide_eq_false λh1=>?_
   have h2:Cq.lt (kK (l.getD x TD)) t:=Ov.1 h1;rcases List.mem_append.1 hm with h3|h3
   ·have h4:=(Sn.1 h3).2;rw [h4] at h2;exact Cq.irr _ h2
   ·exact Cq.U2 h2 (FN.1 h3).2
 refine ⟨e1,?_⟩;unfold Iz;rw [e1];have key:∀ i,OM l t.f0 t.f1 t.f2 i=GG (kK (l.getD i TD)) t:=λi=>rfl
 rcases ha with h0|⟨x,h0,hx⟩
 ·rw [h0];show _=false;by_cases hlt:(Dn Cq kK t l).length<l.length
  ·rw [decide_eq_true hlt,Bool.true_and];have hm:=K5 (Dn Cq kK t l) (atR Cq kK t l++En Cq kK t l) TD _ (Nat.le_refl _) (by rw [<-hs];exact hlt);rw [<-hs,h0,List.nil_append] at hm;refine decide_eq_false λh1=>?_
   rw [key] at h1;have h2:=Ow.1 h1;have h3:=(FN.1 hm).2;rw [h2] at h3;exact Cq.irr _ h3
  ·rw [decide_eq_false hlt,Bool.false_and]
 ·rw [h0];show _=true;have hlt:(Dn Cq kK t l).length<l.length:=by rw [hl,h0];simp
  rw [decide_eq_true hlt,Bool.true_and];have e2:l.getD (Dn Cq kK t l).length TD=x:=by
   conv=>lhs;arg 1;rw [hs,h0]
   rw [List.getD_eq_getElem?_getD,List.getElem?_append_right (Nat.le_refl _),Nat.sub_self];rfl
  exact decide_eq_true (by rw [key,e2];exact Ow.2 hx)
theorem RH {xs:List (List SK)} {j:Nat} (h:j<xs.length):FB xs (j:Int)=xs[j]:=by
 unfold FB;rw [Int.toNat_natCast,List.getD_eq_getElem?_getD,List.getElem?_eq_getElem h];rfl
theorem Sk (xs:List (List SK)) (hx:xs.length<=1000):∀ n j (acc:List SK),xs.length - j=n->j<=xs.length->acc.length+(xs.drop j).flatten.length<=1000000->
 Ev (λk=>Ab.l1 k acc xs (xs.length:Int) (j:Int)) (acc++(xs.drop j).flatten):=by
 intro n;induction n with
 |zero=>
  intro j acc hn hj hb;obtain rfl:j=xs.length:=by omega
  rw [List.drop_length,List.flatten_nil,List.append_nil];refine BB ?_;simp only [Ab.l1];exact Ah (by omega) (Am _)
 |succ n ih=>
  intro j acc hn hj hb;have hlt:j<xs.length:=by omega
  rw [List.drop_eq_getElem_cons hlt,List.flatten_cons, <-List.append_assoc];rw [List.drop_eq_getElem_cons hlt,List.flatten_cons,List.length_append] at hb;refine BB ?_;simp only [Ab.l1];rw [RH hlt];refine AU (by omega) (AU (by omega) (AU (by omega) (AU (by omega) ?_)));have:=ih (j+1) (acc++xs[j]) (by omega) (by omega) (by rw [List.length_append];omega);rw [show wrap64 ((j:Int)+1)=((j+1:Nat):Int) by unfold wrap64;omega];exact this
theorem Sl (xs:List (List SK)) (hx:xs.length<=1000):∀ n j (s:Nat),xs.length - j=n->j<=xs.length->s+(xs.drop j).flatten.length<=1000000->xs.flatten.length<=1000000->
 Ev (λk=>Ab.l0 k xs (s:Int) xs (xs.length:Int) (j:Int)) xs.flatten:=by
 intro n;induction n with
 |zero=>
  intro j s hn hj hb hb2;obtain rfl:j=xs.length:=by omega
  refine BB ?_;simp only [Ab.l0];refine Ah (by omega) ?_;have hg:DX.f ([]:List SK) (s:Int)=some []:=by unfold DX.f;rw [if_pos ⟨rfl,by omega,by omega⟩]
  simp only [hg,Option.bind_some];have:=Sk xs hx _ 0 [] rfl (Nat.zero_le _) (by simpa using hb2);simpa using this
 |succ n ih=>
  intro j s hn hj hb hb2;have hlt:j<xs.length:=by omega
  rw [List.drop_eq_getElem_cons hlt,List.flatten_cons,List.length_append] at hb;refine BB ?_;simp only [Ab.l0];rw [RH hlt,show wrap64 ((s:Int)+(xs[j].length:Int))=((s+xs[j].length:Nat):Int) by unfold wrap64;omega,show wrap64 ((j:Int)+1)=((j+1:Nat):Int) by unfold wrap64;omega];refine AU (by omega) (AU (by omega) (AU (by omega) (Ah (by omega) ?_)));exact ih (j+1) (s+xs[j].length) (by omega) (by omega) (by omega) hb2
theorem K6 (xs:List (List SK)) (hx:xs.length<=1000) (hb:xs.flatten.length<=1000000):
 Ev (λk=>Ab.f k xs) xs.flatten:=
 Sl xs hx _ 0 0 rfl (Nat.zero_le _) (by simpa using hb) hb
theorem Sm {l:List SK} (t:GD) (h:Di Cq kK l) (hb:l.length<=1000):Cx.f l t.f0 t.f1 t.f2=some (((Dn Cq kK t l).length:Int), !(atR Cq kK t l).isEmpty):=by
 unfold Cx.f;rw [if_pos (by omega),(NA t h).1,(NA t h).2]
theorem RI (l:List SK) (t:GD):(Dn Cq kK t l).length<=l.length:=List.length_filter_le _ _
theorem Pp {l:List SK} (t:GD) (h:Di Cq kK l):l.take (Dn Cq kK t l).length=Dn Cq kK t l/\l.drop (Dn Cq kK t l).length=atR Cq kK t l++En Cq kK t l:=by
 obtain ⟨hs,_⟩:=Fp t h;constructor
 ·conv=>lhs;arg 2;rw [hs]
  exact List.take_left
 ·conv=>lhs;arg 2;rw [hs]
  exact List.drop_left
theorem UW {l:List SK} (a:GD) (b:SC) (h:Di Cq kK l) (hb:l.length<=1000):Ev (λk=>BI.f k l a.f0 a.f1 a.f2 b.f0 b.f1 b.f2 b.f3 b.f4 b.f5 b.f6 b.f7 b.f8 b.f9 b.f10) (GR Cq kK a ⟨a,b⟩ l):=by
 have hpl:=Oy a (⟨a,b⟩:SK) h;have hle:=RI l a;obtain ⟨ht,hd⟩:=Pp a h;unfold BI.f;simp only [Sm a h hb,Option.bind_some,Int.toNat_natCast,hd];refine AU (by omega) (AU (by omega) ?_);rw [ht];rcases (Fp a h).2 with h0|⟨x,h0,hx⟩
 ·rw [h0];refine Ah (by decide) ?_;refine BL (K6 _ (by simp) ?_) ?_
  ·simp only [List.nil_append,List.flatten_cons,List.flatten_nil,List.append_nil,List.length_append,List.length_cons,List.length_nil];unfold GR at hpl;rw [List.length_append,List.length_cons] at hpl;omega
  ·exact BG (Am _) (by simp [GR])
 ·rw [h0];refine AU rfl (AU (by simp;omega) ?_);refine BL (K6 _ (by simp) ?_) ?_
  ·simp only [List.cons_append,List.nil_append,List.drop_succ_cons,List.drop_zero,List.flatten_cons,List.flatten_nil,List.append_nil,List.length_append,List.length_cons,List.length_nil];unfold GR at hpl;rw [List.length_append,List.length_cons] at hpl;omega
  ·exact BG (Am _) (by simp [GR])
end Go.Proofs.YtikggnalmidlhaaGreatDoor.Y
