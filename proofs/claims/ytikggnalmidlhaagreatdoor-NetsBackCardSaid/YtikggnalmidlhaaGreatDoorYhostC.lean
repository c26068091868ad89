/- What host.Canon and host.Ip, and their references, tell, as plain functions on texts; and that the printed ones come to it. -/
import Derived.Test.YtikggnalmidlhaaGreatDoorPrint29
import Derived.Test.YtikggnalmidlhaaGreatDoorYrank
import Derived.Lib.AtoiAll
import Derived.Lib.AtoiAllCases
import Derived.Lib.ItoaNum
import Derived.Lib.SplitLaws
namespace Go.Proofs.YtikggnalmidlhaaGreatDoor.Y
set_option linter.unusedVariables false
set_option linter.unusedSimpArgs false
open RowKit Print AR Aa Ad
def dd (n:Nat):List Int:=if n<10 then [48+(n:Int)] else dd (n/10)++[48+((n%10:Nat):Int)]
theorem Kr {n:Nat} (h:n<10):dd n=[48+(n:Int)]:=by rw [dd,if_pos h]
theorem Kt {n:Nat} (h:¬n<10):dd n=dd (n/10)++[48+((n%10:Nat):Int)]:=by rw [dd,if_neg h]
theorem II (n:Nat):∀ x∈dd n,48<=x/\x<=57:=by
 induction n using Nat.strongRecOn with
 |_ n ih=>
  intro x hx;by_cases h:n<10
  ·rw [Kr h] at hx;simp only [List.mem_singleton] at hx;omega
  ·rw [Kt h] at hx;rcases List.mem_append.mp hx with e|e
   ·exact ih (n/10) (by omega) x e
   ·simp only [List.mem_singleton] at e;omega
theorem Ld (n:Nat):0<(dd n).length:=by rw [dd];split<;>simp
theorem Il (j:Nat):∀ n:Nat,(dd n).length<=j+1↔n<10^(j+1):=by
 induction j with
 |zero=>
  intro n;by_cases h:n<10
  ·rw [Kr h];simp [h]
  ·rw [Kt h];have:=Ld (n/10);simp only [List.length_append,List.length_singleton];omega
 |succ j ih=>
  intro n;by_cases h:n<10
  ·rw [Kr h];have:10^1<=10^(j+1+1):=Nat.pow_le_pow_right (by decide) (by omega);simp only [List.length_singleton];omega
  ·rw [Kt h];have:=ih (n/10);simp only [List.length_append,List.length_singleton];rw [Nat.pow_succ];omega
theorem IJ (n:Nat):∀ x∈dd n,0<=x/\x<256:=λx hx=>by have:=II n x hx;omega
theorem GM (n:Nat):(Lib.decDigits n).map (λb=>(b.toNat:Int))=dd n:=by
 induction n using Nat.strongRecOn with
 |_ n ih=>
  by_cases h:n<10
  ·rw [Lib.decDigits,dif_pos h,Kr h];simp only [List.map_cons,List.map_nil,UInt8.toNat_ofNat'];congr 1;omega
  ·rw [Lib.decDigits,dif_neg h,Kt h,List.map_append,ih (n/10) (by omega)];simp only [List.map_cons,List.map_nil,UInt8.toNat_ofNat'];congr 2;omega
def EJ (n:Int):List Int:=if n<0 then 45::dd n.natAbs else dd n.toNat
theorem Ml (n:Int):∀ x∈EJ n,0<=x/\x<256:=by
 intro x hx;unfold EJ at hx;split at hx
 ·rcases List.mem_cons.mp hx with e|e
  ·omega
  ·exact IJ _ x e
 ·exact IJ _ x hx
theorem Dm (n:Int):bytesOf (EW n)=EJ n:=by
 show ((Lib.itoa n).toArray.toList.map λb=>(b.toNat:Int))=EJ n;rw [List.toList_toArray];unfold Lib.itoa EJ;split
 ·rw [List.map_cons,GM];rfl
 ·rw [GM]
theorem Qi (n:Int):EW n=strOfNums (EJ n):=DI (by rw [Dm,Da (Ml n)])
theorem PM {s:ByteArray} {n:Int} (h:bytesOf s=EJ n):s.data.toList=Lib.itoa n:=by
 have:s=EW n:=DI (by rw [h,Dm]);rw [this];show (Lib.itoa n).toArray.toList=_;rw [List.toList_toArray]
theorem Ku {n:Int} (h0: -9223372036854775808<=n) (h1:n<=9223372036854775807):(EJ n).length<=20:=by
 have e:(10:Nat)^(18+1)=10000000000000000000:=by decide
 unfold EJ;split
 ·have:=(Il 18 n.natAbs).mpr (by omega);simp only [List.length_cons];omega
 ·have:=(Il 18 n.toNat).mpr (by omega);omega
def GZ:List Int->Nat->Option Nat
 |[],a=>some a
 |c::l,a=>if 48<=c/\c<=57 then GZ l (10*a+(c - 48).toNat) else none
theorem Mm (l m:List Int):∀ a,GZ (l++m) a=(GZ l a).bind (GZ m):=by
 induction l with
 |nil=>intro a;rfl
 |cons c l ih=>
  intro a;simp only [List.cons_append,GZ];split
  ·exact ih _
  ·rfl
theorem PN {l:List Int} {c:Int} {a:Nat} (hc:48<=c/\c<=57):GZ (l++[c]) a=(GZ l a).map λm=>10*m+(c - 48).toNat:=by
 rw [Mm];cases GZ l a with
 |none=>rfl
 |some m=>simp only [Option.bind_some,Option.map_some,GZ,if_pos hc]
theorem R7 (n:Nat):GZ (dd n) 0=some n:=by
 induction n using Nat.strongRecOn with
 |_ n ih=>
  by_cases h:n<10
  ·rw [Kr h];simp only [GZ];rw [if_pos (by omega)];congr 1;omega
  ·rw [Kt h,PN (by omega),ih (n/10) (by omega),Option.map_some];congr 1;omega
theorem Oi {n:Nat} {c:Int} {l:List Int} (h:dd n=c::l):48<=c/\c<=57:=II n c (by rw [h];exact List.mem_cons_self ..)
def KE (n:Int):Prop:= -9223372036854775808<=n/\n<=9223372036854775807
theorem Le (a b:List UInt8):∀ (acc u:Nat),Lib.parseUint10 acc a= .ok u->Lib.parseUint10 acc (a++b)=Lib.parseUint10 u b:=by
 induction a with
 |nil=>
  intro acc u h;simp only [Lib.parseUint10] at h;injection h with h
  rw [h];rfl
 |cons c a ih=>
  intro acc u h;simp only [Lib.parseUint10,List.cons_append] at h⊢
  split at h
  ·rename_i h1;rw [if_pos h1];split at h
   ·cases h
   ·rename_i h2;rw [if_neg h2];split at h
    ·cases h
    ·rename_i h3;rw [if_neg h3];exact ih _ _ h
  ·cases h
theorem PO (u:Nat):u<18446744073709551616->Lib.parseUint10 0 (Lib.decDigits u)= .ok u:=by
 induction u using Nat.strongRecOn with
 |_ u ih=>
  intro hu;by_cases h:u<10
  ·rw [Lib.decDigits,dif_pos h];have e:(UInt8.ofNat (48+u)).toNat=48+u:=by rw [UInt8.toNat_ofNat'];omega
   simp only [Lib.parseUint10,e];rw [if_pos (by omega),if_neg (by omega),if_neg (by omega)];congr 1;omega
  ·have e:(UInt8.ofNat (48+u%10)).toNat=48+u%10:=by rw [UInt8.toNat_ofNat'];omega
   rw [Lib.decDigits,dif_neg h,Le _ _ _ _ (ih (u/10) (by omega) (by omega))];simp only [Lib.parseUint10,e];rw [if_pos (by omega),if_neg (by omega),if_neg (by omega)];congr 1;omega
theorem Mo (u:Nat):∃ c r,Lib.decDigits u=c::r/\c.toNat≠43/\c.toNat≠45:=by
 have h:=GM u;cases hd:Lib.decDigits u with
 |nil=>
  rw [hd] at h;have:=Ld u;rw [<-h] at this;simp at this
 |cons c r=>
  rw [hd,List.map_cons] at h;have:=Oi h.symm;exact ⟨c,r,rfl,by omega,by omega⟩
theorem IK {u:Nat} (hu:u<18446744073709551616):Lib.parseMag (Lib.decDigits u)= .ok u:=by
 obtain ⟨c,r,e,_⟩:=Mo u;unfold Lib.parseMag;rw [if_neg (by rw [e];simp),PO u hu]
theorem PQ {n:Int} (h:KE n):Lib.atoiAll (Lib.itoa n)= .ok n:=by
 obtain ⟨h0,h1⟩:=h;unfold Lib.itoa;by_cases hn:n<0
 ·rw [if_pos hn,Lib.atoiAll_minus,IK (by omega)];simp only [Lib.signed];rw [if_neg (by omega)];congr 1;omega
 ·rw [if_neg hn];obtain ⟨c,r,e,h43,h45⟩:=Mo n.toNat;have hp:=IK (u:=n.toNat) (by omega);rw [e] at hp⊢
  rw [Lib.atoiAll_plain c r h43 h45,hp];simp only [Lib.signless];rw [if_neg (by omega)];congr 1;omega
theorem R8 {l:List UInt8} {v:Int} (h:Lib.atoiAll l= .ok v):KE v:=by
 unfold Lib.atoiAll at h;cases l with
 |nil=>cases h
 |cons c r=>
  simp only at h;split at h
  ·cases h
  ·cases h
  ·rename_i u hu;have:=Lib.parseMag_lt hu;split at h
   ·cases h
   ·split at h
    ·cases h
    ·rename_i h1 h2;injection h with h
     rw [<-h];unfold KE;split<;>omega
theorem PR {s:ByteArray} {n:Int} (h:KE n) (hs:bytesOf s=EJ n):EI s=(n,true):=by
 have hl:=Ku h.1 h.2;rw [<-hs,bytesOf_length] at hl;have e:=PM hs;have hb:(EW n).toList=s.toList:=by rw [EC,Dm,hs]
 unfold EI;rw [if_neg (by omega),e,PQ h];simp only [hb,if_true]
theorem I8 (s:ByteArray):(∃ n,KE n/\bytesOf s=EJ n/\EI s=(n,true))\/((∀ n,KE n->bytesOf s≠EJ n)/\EI s=(0,false)):=by
 by_cases h:∃ n,KE n/\bytesOf s=EJ n
 ·obtain ⟨n,h1,h2⟩:=h;exact .inl ⟨n,h1,h2,PR h1 h2⟩
 ·refine .inr ⟨λn h1 h2=>h ⟨n,h1,h2⟩,?_⟩;unfold EI;split
  ·rfl
  ·split
   ·rename_i v hv;split
    ·rename_i hb;rw [EC,Dm] at hb;exact absurd ⟨v,R8 hv,hb.symm⟩ h
    ·rfl
   ·rfl
theorem JK (n:Nat):∀ x:ByteArray,n<18446744073709551616->x.size+(dd n).length<=9223372036854775807->Ev (λk=>Az.l0 k n x) (strOfNums (dd n++bytesOf x)):=by
 induction n using Nat.strongRecOn with
 |_ n ih=>
  intro x hn hl;apply BB;simp only [Az.l0];by_cases h:n<10
  ·rw [Kr h] at hl⊢
   simp only [List.length_singleton] at hl;refine Ah (by omega) ?_;simp only [Option.bind_some];refine AU (by rw [strOfNums_size];simp only [List.length_singleton];omega) (BG (Am _) ?_);rw [FY (by omega) (by omega),show (48+(n:Int))%256=48+(n:Int) by omega];apply DI;rw [Dw,Da (by simp;omega),Da];intro y hy;rcases List.mem_append.mp hy with e|e
   ·simp only [List.mem_singleton] at e;omega
   ·exact EN e
  ·rw [Kt h] at hl⊢
   simp only [List.length_append,List.length_singleton] at hl;refine AU (by omega) ?_;simp only [Option.bind_some];rw [show Int.tmod (n:Int) 10=((n%10:Nat):Int) by rw [Int.tmod_eq_emod_of_nonneg (by omega)];omega,FY (by omega) (by omega),show Int.tdiv (n:Int) 10=((n/10:Nat):Int) by rw [Int.tdiv_eq_ediv_of_nonneg (by omega)];omega,FY (by omega) (by omega),
    show (48+((n%10:Nat):Int))%256=48+((n%10:Nat):Int) by omega]
   refine AU (by rw [strOfNums_size];simp only [List.length_singleton];omega) (BG (ih (n/10) (by omega) _ (by omega) (by rw [ByteArray.size_append,strOfNums_size];simp only [List.length_singleton];omega)) ?_);rw [Dw,Da (by simp;omega),List.append_assoc]
theorem He {n:Nat} (hn:n<18446744073709551616):Ev (λk=>Az.f k n) (strOfNums (dd n)):=by
 have e:(10:Nat)^(19+1)=100000000000000000000:=by decide
 have:=(Il 19 n).mpr (by omega);simp only [Az.f];refine BG (JK n _ hn (by simp only [show (⟨#[]⟩:ByteArray).size=0 from rfl];omega)) ?_;rw [KQ,List.append_nil]
theorem FH {n:Int} (h:KE n):Ev (λk=>Aq.f k n) (EW n):=by
 obtain ⟨h0,h1⟩:=h;rw [Qi];unfold EJ;simp only [Aq.f];by_cases hn:n<0
 ·rw [if_pos hn];have e:(10:Nat)^(18+1)=10000000000000000000:=by decide
  have hl:=(Il 18 n.natAbs).mpr (by omega);refine AU hn ?_;rw [KD (n:=n+1) (by omega) (by omega),KD (n:= -(n+1)) (by omega) (by omega),FY (n:= -(n+1)) (by omega) (by omega),FY (n:= -(n+1)+1) (by omega) (by omega),show -(n+1)+1=(n.natAbs:Int) by omega];refine BL (He (by omega)) (AU (by rw [strOfNums_size];omega) (BG (Am _) ?_));apply DI;rw [Dw,Da (IJ _),Da]
  ·rfl
  ·intro x hx;rcases List.mem_cons.mp hx with e|e
   ·omega
   ·exact IJ _ x e
 ·rw [if_neg hn];refine Ah hn ?_;rw [FY (by omega) (by omega),show n=(n.toNat:Int) by omega,Int.toNat_natCast];exact BL (He (by omega)) (Am _)
def G6 (s:ByteArray):Int×Bool:=match GZ (bytesOf s) 0 with
 |some n=>(n,true)
 |none=>(0,false)
theorem Jq (s:ByteArray) (hs:s.size<=19) (d:Nat):∀ (i acc:Nat),i+d=s.size->acc<10^i->Ev (λk=>Af.l0 k s acc i) (match GZ ((bytesOf s).drop i) acc with|some n=>((n:Int),true)|none=>(0,false)):=by
 induction d with
 |zero=>
  intro i acc hi ha;apply BB;simp only [Af.l0];rw [List.drop_eq_nil_of_le (by rw [bytesOf_length];omega)];exact Ah (by omega) (Am _)
 |succ d ih=>
  intro i acc hi ha;apply BB;simp only [Af.l0];rcases DJ s (show i<=s.size by omega) with ⟨e,_⟩|⟨hlt,hd⟩
  ·omega
  rw [hd];obtain ⟨b0,b1⟩:=Fz s i;generalize bt s i=c at*
  have h18:(10:Nat)^i<=10^18:=Nat.pow_le_pow_right (by decide) (by omega);have e18:(10:Nat)^18=1000000000000000000:=by decide
  refine AU (by omega) (AU (by omega) ?_);simp only [GZ];by_cases h1:c<48
  ·rw [if_neg (by omega)];exact AU h1 (Am _)
  by_cases h2:c>57
  ·rw [if_neg (by omega)];exact Ah h1 (AU h2 (Am _))
  rw [if_pos (by omega)];refine Ah h1 (Ah h2 ?_);rw [FY (n:=10*(acc:Int)) (by omega) (by omega),FY b0 (by omega),FY (n:=10*(acc:Int)+c) (by omega) (by omega),FY (n:=10*(acc:Int)+c - 48) (by omega) (by omega),KD (n:=(i:Int)+1) (by omega) (by omega),
   show 10*(acc:Int)+c - 48=((10*acc+(c - 48).toNat:Nat):Int) by omega,show (i:Int)+1=((i+1:Nat):Int) by omega]
  exact ih (i+1) _ (by omega) (by rw [Nat.pow_succ];omega)
theorem FI (s:ByteArray) {most:Int} (hm:most<=19):Ev (λk=>Af.f k s most) (if 1<=s.size/\(s.size:Int)<=most then G6 s else (0,false)):=by
 simp only [Af.f];by_cases h1:(s.size:Int)<1
 ·rw [if_neg (by omega)];refine AU h1 (BB ?_);simp only [Af.j0];exact AU (by trivial) (Am _)
 ·refine Ah h1 (BB ?_);simp only [Af.j0];by_cases h2:(s.size:Int)>most
  ·rw [if_neg (by omega),decide_eq_true h2];exact AU rfl (Am _)
  ·rw [if_pos (by omega),decide_eq_false h2];refine Ah (by simp) ?_;have:=Jq s (by omega) s.size 0 0 (by omega) (by decide);unfold G6;simpa using this
theorem Oj {s:ByteArray} {n:Nat} (h:bytesOf s=dd n):G6 s=((n:Int),true):=by
 unfold G6;rw [h,R7]
theorem Lf {s:ByteArray} {l:List Int} (h:bytesOf s=l):s.size=l.length:=by rw [<-bytesOf_length,h]
theorem Gm {n:Int} (h:KE n) {s:ByteArray}:(∀ m,KE m->bytesOf s≠EJ m)->Ev (λk=>(Aq.f k n).bind λt=>if t.toList=s.toList then some (n,true) else some ((0:Int),false)) ((0:Int),false):=by
 intro hno;refine BL (FH h) (Ah ?_ (Am _));rw [EC,Dm];exact λe=>hno n h e.symm
theorem Hf {n:Int} (h:KE n) {s:ByteArray} (hs:bytesOf s=EJ n):Ev (λk=>(Aq.f k n).bind λt=>if t.toList=s.toList then some (n,true) else some ((0:Int),false)) (n,true):=by
 refine BL (FH h) (AU ?_ (Am _));rw [EC,Dm,hs]
theorem Jr {s:ByteArray} {n:Int} {b:Bool} (hs:s.size<=19) (h:G6 s=(n,b)):0<=n/\n<10000000000000000000:=by
 have hv:=PL (FI s (most:=19) (by omega)) (FI s (most:=19) (by omega));have key:∀ (l:List Int) (a m:Nat),GZ l a=some m->m<(a+1)*10^l.length:=by
  intro l;induction l with
  |nil=>intro a m h;simp only [GZ] at h;have:=Option.some.inj h;simp;omega
  |cons c l ih=>
   intro a m h;simp only [GZ] at h;split at h
   ·have:=ih _ _ h;rw [List.length_cons,Nat.pow_succ];have h2:(10*a+(c - 48).toNat+1)*10^l.length<=(a+1)*10*10^l.length:=Nat.mul_le_mul_right _ (by omega);rw [Nat.mul_comm (10^l.length) 10, <-Nat.mul_assoc];omega
   ·cases h
 unfold G6 at h;cases hm:GZ (bytesOf s) 0 with
 |none=>rw [hm] at h;simp only [Prod.mk.injEq] at h;omega
 |some m=>
  rw [hm] at h;simp only [Prod.mk.injEq] at h;have:=key _ _ _ hm;rw [bytesOf_length] at this;have h2:(10:Nat)^s.size<=10^19:=Nat.pow_le_pow_right (by decide) hs;have e:(10:Nat)^19=10000000000000000000:=by decide
  omega
theorem Mq {s:ByteArray} (hs:s.size<=140737488351232):Ev (λk=>Ac.f k s) (EI s):=by
 have hneg:∀ x4:Int,1<=x4->x4<=9223372036854775808->wrap64 (wrap64 (-(wrap64 (IntKind.u64.wrap (x4 - 1)))) - 1)= -x4/\KE (-x4):=by
  intro x4 h1 h2;rw [FY (by omega) (by omega),KD (n:=x4 - 1) (by omega) (by omega),KD (n:= -(x4 - 1)) (by omega) (by omega),KD (by omega) (by omega)];exact ⟨by omega,by unfold KE;omega⟩
 have main:∀ b:Bool,(b=true->0<s.size/\bt s 0=45)->(b=false->0<s.size->bt s 0≠45)->Ev (λk=>Ac.j0 k s b) (EI s):=by
  intro b hb1 hb2;apply BB;simp only [Ac.j0];cases b with
  |true=>
   obtain ⟨hpos,h45⟩:=hb1 rfl;have hd:bytesOf s=45::bytesOf (s.extract 1 s.size):=by
    rw [E9];rcases DJ s (i:=0) (by omega) with ⟨e,_⟩|⟨_,hd⟩
    ·omega
    ·rw [List.drop_zero,show bt s ((0:Nat):Int)=45 from h45] at hd;rw [hd];simp only [Nat.zero_add,List.drop_succ_cons,List.drop_zero];rw [List.take_of_length_le];rw [List.length_drop,bytesOf_length];omega
   refine AU rfl (AU (by omega) (BL (FI _ (by omega)) ?_));have hsz:(s.extract 1 s.size).size=s.size - 1:=by rw [ByteArray.size_extract];omega
   rcases I8 s with ⟨n,hn,hbs,hr⟩|⟨hno,hr⟩
   ·rw [hr];have hn0:n<0:=by
     by_cases h:n<0
     ·exact h
     ·unfold EJ at hbs;rw [if_neg (by omega),hd] at hbs;have:=Oi hbs.symm;omega
    unfold EJ at hbs;rw [if_pos hn0,hd] at hbs;have hbs2:=(List.cons.inj hbs).2;have hl:=Lf hbs2;have e:(10:Nat)^(18+1)=10000000000000000000:=by decide
    have hn':=hn;unfold KE at hn';have hlen:=(Il 18 n.natAbs).mpr (by omega);have hp:=Ld n.natAbs;rw [if_pos (by omega),Oj hbs2];refine AU rfl (Ah (by omega) (BB ?_));simp only [Ac.j1];rw [decide_eq_false (by omega)];refine Ah (by simp) ?_;obtain ⟨hw,hi⟩:=hneg (n.natAbs:Int) (by omega) (by omega);rw [hw,show -(n.natAbs:Int)=n by omega];exact Hf hn (by rw [hd,hbs2];unfold EJ;rw [if_pos hn0])
   ·rw [hr];have hfalse:∀ x4:Int,Ev (λk=>Ac.j1 k s x4 true) ((0:Int),false):=by
     intro x4;apply BB;simp only [Ac.j1];exact AU (by trivial) (Am _)
    by_cases hc:1<=(s.extract 1 s.size).size/\((s.extract 1 s.size).size:Int)<=19
    ·rw [if_pos hc];have hvr:=Jr (s:=s.extract 1 s.size) (n:=(G6 (s.extract 1 s.size)).1) (b:=(G6 (s.extract 1 s.size)).2) (by omega) rfl;by_cases h2:(G6 (s.extract 1 s.size)).2=true
     ·refine AU h2 ?_;by_cases h3:(G6 (s.extract 1 s.size)).1=0
      ·exact AU h3 (hfalse _)
      ·refine Ah h3 ?_;by_cases h4:(G6 (s.extract 1 s.size)).1>9223372036854775808
       ·rw [decide_eq_true h4];exact hfalse _
       ·rw [decide_eq_false h4];apply BB;simp only [Ac.j1];refine Ah (by simp) ?_;obtain ⟨hw,hi⟩:=hneg (G6 (s.extract 1 s.size)).1 (by omega) (by omega);rw [hw];exact Gm hi hno
     ·exact Ah h2 (hfalse _)
    ·rw [if_neg hc];exact Ah (by simp) (hfalse _)
  |false=>
   refine Ah (by simp) (BL (FI _ (by omega)) ?_);rcases I8 s with ⟨n,hn,hbs,hr⟩|⟨hno,hr⟩
   ·rw [hr];have hn':=hn;unfold KE at hn';have hn0:¬n<0:=by
     intro h;unfold EJ at hbs;rw [if_pos h] at hbs;have hp:0<s.size:=by rw [Lf hbs];simp
     refine hb2 rfl hp ?_;rw [TM,hbs];rfl
    have hbs2:=hbs;unfold EJ at hbs2;rw [if_neg hn0] at hbs2;have hl:=Lf hbs2;have e:(10:Nat)^(18+1)=10000000000000000000:=by decide
    have hlen:=(Il 18 n.toNat).mpr (by omega);have hp:=Ld n.toNat;rw [if_pos (by omega),Oj hbs2];refine AU rfl (Ah (by simp only;omega) ?_);simp only
    rw [show (n.toNat:Int)=n by omega,KD hn'.1 hn'.2];exact Hf hn hbs
   ·rw [hr];by_cases hc:1<=s.size/\(s.size:Int)<=19
    ·rw [if_pos hc];have hvr:=Jr (s:=s) (n:=(G6 s).1) (b:=(G6 s).2) (by omega) rfl;by_cases h2:(G6 s).2=true
     ·refine AU h2 ?_;by_cases h3:(G6 s).1>9223372036854775807
      ·exact AU h3 (Am _)
      ·refine Ah h3 ?_;rw [KD (by omega) (by omega)];exact Gm (by unfold KE;omega) hno
     ·exact Ah h2 (Am _)
    ·rw [if_neg hc];exact Ah (by simp) (Am _)
 simp only [Ac.f];by_cases h:(s.size:Int)>0
 ·refine AU h (AU (by omega) (main _ ?_ ?_))
  ·intro hb;exact ⟨by omega,by simpa using hb⟩
  ·intro hb _;simpa using hb
 ·exact Ah h (main false (λh=>by cases h) (λ_ h'=>by omega))
theorem Nh {c:Int} (h:0<=c/\c<256):0<=Gc c/\Gc c<256:=by unfold Gc;split<;>omega
theorem Mr (s:ByteArray):bytesOf (FQ s)=(bytesOf s).map Gc:=by
 unfold FQ;refine Da λx hx=>?_
 obtain ⟨c,hc,rfl⟩:=List.mem_map.mp hx;exact Nh (EN hc)
theorem Ms (s:ByteArray):(FQ s).size=s.size:=by
 rw [<-bytesOf_length,Mr,List.length_map,bytesOf_length]
theorem Us {s:ByteArray} (hs:s.size<=9223372036854775806):Dj.f s=some (FQ s):=by unfold Dj.f;rw [if_pos hs]
theorem PS {s:ByteArray} (hs:s.size<=9223372036854775806):Cg.f s=some (FQ s):=by unfold Cg.f;rw [if_pos hs]
def R9 (x:Int):List (List Int)->List (List Int)
 |[]=>[[x]]
 |h::t=>(x::h)::t
def Bq:List Int->List (List Int)
 |[]=>[[]]
 |x::l=>if x=46 then []::Bq l else R9 x (Bq l)
theorem Gw (l:List Int):Bq l≠[]:=by
 cases l with
 |nil=>simp [Bq]
 |cons x l=>
  unfold Bq;split
  ·simp
  ·cases Bq l<;>simp [R9]
theorem I9 {a:List Int} (h:∀ c∈a,c≠46):Bq a=[a]:=by
 induction a with
 |nil=>rfl
 |cons x a ih=>
  rw [Bq,if_neg (h x (List.mem_cons_self ..)),ih λc hc=>h c (List.mem_cons_of_mem _ hc)];rfl
theorem Js {a b:List Int} (h:∀ c∈a,c≠46):Bq (a++46::b)=a::Bq b:=by
 induction a with
 |nil=>simp [Bq]
 |cons x a ih=>
  rw [List.cons_append,Bq,if_neg (h x (List.mem_cons_self ..)),ih λc hc=>h c (List.mem_cons_of_mem _ hc)];rfl
theorem Lg {l:List Int} (h:∀ c∈l,0<=c/\c<256):∀ p∈Bq l,∀ c∈p,0<=c/\c<256:=by
 induction l with
 |nil=>intro p hp c hc;simp [Bq] at hp;subst hp;simp at hc
 |cons x l ih=>
  have ih:=ih λc hc=>h c (List.mem_cons_of_mem _ hc)
  intro p hp c hc;unfold Bq at hp;split at hp
  ·rcases List.mem_cons.mp hp with rfl|e
   ·simp at hc
   ·exact ih p e c hc
  ·cases hs:Bq l with
   |nil=>exact absurd hs (Gw l)
   |cons q t=>
    rw [hs] at hp ih;simp only [R9] at hp;rcases List.mem_cons.mp hp with rfl|e
    ·rcases List.mem_cons.mp hc with rfl|e
     ·exact h c (List.mem_cons_self ..)
     ·exact ih q (List.mem_cons_self ..) c e
    ·exact ih p (List.mem_cons_of_mem _ e) c hc
theorem Jt (l:List Int):l.length+1=((Bq l).map List.length).sum+(Bq l).length:=by
 induction l with
 |nil=>rfl
 |cons x l ih=>
  unfold Bq;split
  ·simp only [List.length_cons,List.map_cons,List.sum_cons,List.length_nil];omega
  ·cases hs:Bq l with
   |nil=>exact absurd hs (Gw l)
   |cons q t=>
    rw [hs] at ih;simp only [R9,List.length_cons,List.map_cons,List.sum_cons] at ih⊢
    omega
def parts (s:ByteArray):List ByteArray:=(Bq (bytesOf s)).map strOfNums
theorem Gn (s:ByteArray):(parts s).map bytesOf=Bq (bytesOf s):=by
 unfold parts;rw [List.map_map]
 conv=>rhs;rw [<-List.map_id (Bq (bytesOf s))]
 exact List.map_congr_left λp hp=>Da (Lg (λc hc=>EN hc) p hp)
theorem KS {a b:List ByteArray} (h:a.map bytesOf=b.map bytesOf):a=b:=by
 induction a generalizing b with
 |nil=>cases b with
  |nil=>rfl
  |cons=>simp at h
 |cons x a ih=>cases b with
  |nil=>simp at h
  |cons y b=>
   simp only [List.map_cons,List.cons.injEq] at h;rw [DI h.1,ih h.2]
theorem Ni (n:Nat):∀ l:List UInt8,l.length<=n->(Lib.splitK [46] 0 (Lib.count l [46]) l).map (List.map λb=>(b.toNat:Int))=Bq (l.map λb=>(b.toNat:Int)):=by
 induction n with
 |zero=>
  intro l hl;have:l=[]:=List.length_eq_zero_iff.mp (by omega);subst this;rfl
 |succ n ih=>
  intro l hl;by_cases hm:Lib.index l [46]= -1
  ·have hb:=hm;rw [Lib.index_one] at hb;rw [Lib.count_miss hm];rw [I9]
   ·rfl
   ·intro c hc;obtain ⟨b,hb2,rfl⟩:=List.mem_map.mp hc;obtain ⟨k,hk,hk2⟩:=List.getElem_of_mem hb2;have:=Lib.indexByte_none hb k;intro e;apply this;rw [List.getElem?_eq_getElem hk,hk2];congr 1;exact UInt8.toNat_inj.mp (by simp;omega)
  ·have hge:=Lib.index_ge l [46];obtain ⟨i,hi⟩:∃ i:Nat,Lib.index l [46]=i:=⟨(Lib.index l [46]).toNat,by omega⟩;have hb:=hi;rw [Lib.index_one] at hb;obtain ⟨h1,h2⟩:=Lib.indexByte_some hb;have hlt:i<l.length:=by
    rcases Nat.lt_or_ge i l.length with h|h
    ·exact h
    ·rw [List.getElem?_eq_none h] at h1;cases h1
   rw [Lib.count_hit (by simp) hi,Nat.add_comm 1];have hs:l.map (λb=>(b.toNat:Int))=(l.take i).map (λb=>(b.toNat:Int))++46::(l.drop (i+1)).map (λb=>(b.toNat:Int)):=by
    conv=>lhs;rw [<-List.take_append_drop i l,List.drop_eq_getElem_cons hlt]
    rw [List.map_append,List.map_cons];rw [List.getElem?_eq_getElem hlt] at h1;rw [Option.some.inj h1];rfl
   rw [hs,Js,Lib.splitK,if_neg (by simpa using hm),hi]
   ·simp only [List.map_cons,Int.toNat_natCast,Nat.add_zero,List.length_cons,List.length_nil,Nat.zero_add];rw [ih _ (by rw [List.length_drop];omega)]
   ·intro c hc;obtain ⟨b,hb2,rfl⟩:=List.mem_map.mp hc;obtain ⟨k,hk,hk2⟩:=List.getElem_of_mem hb2;rw [List.length_take] at hk;have:=h2 k (by omega);intro e;apply this;rw [List.getElem_take] at hk2;rw [List.getElem?_eq_getElem (by omega),hk2];congr 1;exact UInt8.toNat_inj.mp (by simp;omega)
theorem Mt (s:ByteArray):JW s (⟨#[46]⟩:ByteArray)=parts s:=by
 apply KS;rw [Gn];have h:=Lib.splitB_data (⟨#[46]⟩:ByteArray) 0 (Lib.countB s ⟨#[46]⟩) s;have h2:=Ni s.data.toList.length s.data.toList (Nat.le_refl _);unfold JW;have e:bytesOf=(λl:List UInt8=>l.map λb=>(b.toNat:Int))∘λx:ByteArray=>x.data.toList:=rfl
 rw [e, <-List.map_map,h];exact h2
theorem Ol {s:ByteArray} (hs:s.size<4294967281):strings_Split.f s (⟨#[46]⟩:ByteArray)=some (parts s):=by
 unfold strings_Split.f;rw [if_pos ⟨hs,by decide⟩,Mt]
theorem PT {l:List Int} {a k:Nat} {c:Int} {r:List Int} (hak:a<=k) (h:l.drop k=c::r):(l.drop a).take (k+1 - a)=(l.drop a).take (k - a)++[c]:=by
 have hk:l[k]? =some c:=by
  have:=congrArg (λx=>x[0]?) h;simpa [List.getElem?_drop] using this
 rw [show k+1 - a=(k - a)+1 by omega,List.take_add_one,List.getElem?_drop,show a+(k - a)=k by omega,hk];rfl
theorem Nj (s:ByteArray) (hs:s.size<=4294967296) (d:Nat):∀ (a k:Nat) (acc:List ByteArray),k+d=s.size->a<=k->acc.length<=a->(∀ c∈((bytesOf s).drop a).take (k - a),c≠46)->Ev (λn=>Av.l0 n s acc a k) (acc++(Bq ((bytesOf s).drop a)).map strOfNums):=by
 induction d with
 |zero=>
  intro a k acc hk hak hacc hno;apply BB;simp only [Av.l0];refine Ah (by omega) (AU (by omega) (AU (by omega) (AU (by omega) (BG (Am _) ?_))));have hl:=bytesOf_length s;rw [List.take_of_length_le (by rw [List.length_drop];omega)] at hno;rw [I9 hno];congr 1;simp only [List.map_cons,List.map_nil];congr 1;apply DI;rw [E9,Da λc hc=>EN (List.mem_of_mem_drop hc),Int.toNat_natCast,List.take_of_length_le (by rw [List.length_drop];omega)]
 |succ d ih=>
  intro a k acc hk hak hacc hno;apply BB;simp only [Av.l0];refine AU (by omega) (AU (by omega) ?_);have hw:wrap64 ((k:Int)+1)=((k+1:Nat):Int):=by rw [KD (by omega) (by omega)];omega
  rw [hw];have hl:=bytesOf_length s;rcases DJ s (i:=k) (by omega) with ⟨h1,_⟩|⟨h1,h2⟩
  ·omega
  ·by_cases hc:bt s k=46
   ·refine AU hc (AU (by omega) (AU (by omega) (AU (by omega) (AU (by omega) ?_))));refine BG (ih (k+1) (k+1) _ (by omega) (by omega) (by simp;omega) (by simp)) ?_;rw [hc] at h2;have e:(bytesOf s).drop a=((bytesOf s).drop a).take (k - a)++46::(bytesOf s).drop (k+1):=by
     conv=>lhs;rw [<-List.take_append_drop (k - a) ((bytesOf s).drop a)]
     rw [List.drop_drop,show a+(k - a)=k by omega,h2]
    rw [e,Js hno,List.map_cons,List.append_assoc];congr 1;rw [List.singleton_append];congr 1;apply DI;rw [E9,Da λc hc=>EN (List.mem_of_mem_drop (List.mem_of_mem_take hc)),Int.toNat_natCast,Int.toNat_natCast]
   ·refine Ah hc (ih a (k+1) acc (by omega) (by omega) hacc ?_);rw [PT hak h2];intro c hcm;rcases List.mem_append.mp hcm with e|e
    ·exact hno c e
    ·simp only [List.mem_singleton] at e;rw [e];exact hc
theorem IL {s:ByteArray} (hs:s.size<=4294967296):Ev (λn=>Av.f n s) (parts s):=by
 simp only [Av.f];have:=Nj s hs s.size 0 0 [] (by omega) (Nat.le_refl _) (Nat.le_refl _) (by simp);simpa [parts] using this
def Hg (c:Int):Bool:=decide (97<=c/\c<=122)||decide (48<=c/\c<=57)||decide (c=45)
def KT (s:ByteArray):Bool:=decide (1<=s.size)&&(decide (s.size<=63)&&(!decide (bt s 0=45)&&(!decide (bt s ((s.size:Int) - 1)=45)&&(bytesOf s).all Hg)))
theorem PU (s:ByteArray) (hs:s.size<=63) (d:Nat):∀ k:Nat,k+d=s.size->Ev (λn=>AZ.l0 n s k) (((bytesOf s).drop k).all Hg):=by
 induction d with
 |zero=>
  intro k hk;apply BB;simp only [AZ.l0];have hl:=bytesOf_length s;exact Ah (by omega) (BG (Am _) (by rw [List.drop_eq_nil_of_le (by omega)];rfl))
 |succ d ih=>
  intro k hk;apply BB;simp only [AZ.l0];have hw:wrap64 ((k:Int)+1)=((k+1:Nat):Int):=by rw [KD (by omega) (by omega)];omega
  rw [hw];refine AU (by omega) (AU (by omega) ?_);rcases DJ s (i:=k) (by omega) with ⟨h1,_⟩|⟨h1,h2⟩
  ·omega
  ·have ih:=ih (k+1) (by omega);rw [h2,List.all_cons];have yes:Hg (bt s k)=true->Ev (λn=>AZ.l0 n s ((k+1:Nat):Int)) (Hg (bt s k)&&((bytesOf s).drop (k+1)).all Hg):=λh=>BG ih (by rw [h];rfl)
   have no:Hg (bt s k)=false->Ev (λ_=>some false) (Hg (bt s k)&&((bytesOf s).drop (k+1)).all Hg):=λh=>BG (Am _) (by rw [h];rfl)
   have fin:Ev (λn=>if bt s k=45 then AZ.l0 n s ((k+1:Nat):Int) else some false) (Hg (bt s k)&&((bytesOf s).drop (k+1)).all Hg)\/(97<=bt s k/\bt s k<=122)\/(48<=bt s k/\bt s k<=57):=by
    by_cases a:97<=bt s k/\bt s k<=122
    ·exact .inr (.inl a)
    ·by_cases b:48<=bt s k/\bt s k<=57
     ·exact .inr (.inr b)
     ·left;by_cases c:bt s k=45
      ·exact AU c (yes (by unfold Hg;rw [decide_eq_true c];simp))
      ·exact Ah c (no (by unfold Hg;rw [decide_eq_false a,decide_eq_false b,decide_eq_false c];rfl))
   by_cases a:bt s k>=97
   ·refine AU a ?_;by_cases b:bt s k<=122
    ·exact AU b (yes (by unfold Hg;rw [decide_eq_true ⟨a,b⟩];rfl))
    ·refine Ah b (AU (by omega) (Ah (by omega) ?_));rcases fin with h|h|h
     ·exact h
     ·omega
     ·omega
   ·refine Ah a ?_;by_cases b:bt s k>=48
    ·refine AU b ?_;by_cases c:bt s k<=57
     ·exact AU c (yes (by unfold Hg;rw [decide_eq_true (p:=48<=bt s k/\bt s k<=57) ⟨b,c⟩];simp))
     ·refine Ah c ?_;rcases fin with h|h|h
      ·exact h
      ·omega
      ·omega
    ·refine Ah b ?_;rcases fin with h|h|h
     ·exact h
     ·omega
     ·omega
theorem SA (s:ByteArray) (hs:s.size<=140737488351232):Ev (λn=>AZ.f n s) (KT s):=by
 have no:KT s=false->Ev (λn=>AZ.j0 n s true) (KT s):=λh=>by
  apply BB;simp only [AZ.j0];exact AU (by trivial) (BG (Am _) h.symm)
 simp only [AZ.f];unfold KT at no⊢
 by_cases h1:(s.size:Int)<1
 ·exact AU h1 (no (by rw [decide_eq_false (show ¬1<=s.size by omega)];rfl))
 ·refine Ah h1 ?_;by_cases h2:(s.size:Int)>63
  ·exact AU h2 (no (by rw [decide_eq_false (show ¬s.size<=63 by omega)];simp))
  ·refine Ah h2 (AU (by omega) ?_);by_cases h3:bt s 0=45
   ·exact AU h3 (no (by rw [decide_eq_true h3];simp))
   ·refine Ah h3 ?_;rw [KD (by omega) (by omega)];refine AU (by omega) (AU (by omega) ?_);by_cases h4:bt s ((s.size:Int) - 1)=45
    ·rw [beq_iff_eq.mpr h4];exact no (by rw [decide_eq_true h4];simp)
    ·rw [beq_eq_false_iff_ne.mpr h4];apply BB;simp only [AZ.j0];refine Ah (by simp) (BG (PU s (by omega) s.size 0 (by omega)) ?_);rw [decide_eq_true (show 1<=s.size by omega),decide_eq_true (show s.size<=63 by omega),decide_eq_false h3,decide_eq_false h4];rfl
theorem Gx {l:List ByteArray} {i:Nat} {c:ByteArray} {r:List ByteArray} (h:l.drop i=c::r):Cf ByteArray.empty l (i:Int)=c:=by
 unfold Cf;have:=congrArg (λx=>x[0]?) h;simp only [List.getElem?_drop,Nat.add_zero,List.getElem?_cons_zero] at this;rw [Int.toNat_natCast,List.getD_eq_getElem?_getD,this];rfl
theorem Fh {α:Type} (l:List α) {i:Nat} (h:i<=l.length):(i=l.length/\l.drop i=[])\/(∃ c,i<l.length/\l.drop i=c::l.drop (i+1)):=by
 rcases Nat.lt_or_ge i l.length with h1|h1
 ·exact .inr ⟨l[i],h1,List.drop_eq_getElem_cons h1⟩
 ·exact .inl ⟨by omega,List.drop_eq_nil_of_le h1⟩
theorem Ut (c:Int) (e:Bool):EF.f c e=some (Hg c&& !(e&&decide (c=45))):=by
 unfold EF.f Hg;by_cases a:c>=97
 ·rw [if_pos a];by_cases b:c<=122
  ·rw [if_pos b,decide_eq_true (show 97<=c/\c<=122 from ⟨a,b⟩),decide_eq_false (show ¬c=45 by omega)];simp
  ·rw [if_neg b,if_pos (by omega),if_neg (by omega),if_neg (by omega),decide_eq_false (by omega),decide_eq_false (by omega),decide_eq_false (by omega)];rfl
 ·rw [if_neg a];by_cases b:c>=48
  ·rw [if_pos b];by_cases d:c<=57
   ·rw [if_pos d,decide_eq_true (show 48<=c/\c<=57 from ⟨b,d⟩),decide_eq_false (show ¬c=45 by omega)];simp
   ·rw [if_neg d,if_neg (by omega),decide_eq_false (by omega),decide_eq_false (by omega),decide_eq_false (by omega)];rfl
  ·rw [if_neg b];by_cases d:c=45
   ·rw [if_pos d,decide_eq_true d];simp
   ·rw [if_neg d,decide_eq_false (by omega),decide_eq_false (by omega),decide_eq_false d];rfl
def Lh (s:ByteArray) (i:Nat):Bool:=decide (i=0)||decide (i+1=s.size)
def Ju (s:ByteArray) (i:Nat):Bool:=Hg (bt s i)&& !(Lh s i&&decide (bt s i=45))
def D7 (s:ByteArray) (i d:Nat):Bool:=(List.range' i d).all (Ju s)
theorem Mv (s:ByteArray) (l:List ByteArray) (n j:Int) (hs:s.size<=63) (r:Bool) (K:Ev (λk=>Aj.l0 k l n (wrap64 (j+1))) r) (d:Nat):∀ i:Nat,i+d=s.size->Ev (λk=>Aj.l1 k s l n j (s.size:Int) i) (D7 s i d&&r):=by
 induction d with
 |zero=>
  intro i hi;apply BB;simp only [Aj.l1];exact Ah (by omega) (BG K (by simp [D7]))
 |succ d ih=>
  intro i hi;have ih:=ih (i+1) (by omega);have hw:wrap64 ((i:Int)+1)=((i+1:Nat):Int):=by rw [KD (by omega) (by omega)];omega
  have hf:D7 s i (d+1)=(Ju s i&&D7 s (i+1) d):=by unfold D7;rw [List.range'_succ,List.all_cons]
  have main:∀ e:Bool,e=Lh s i->Ev (λk=>(EF.f (bt s i) e).bind λt=>if t=true then Aj.l1 k s l n j (s.size:Int) ((i+1:Nat):Int) else some false) (D7 s i (d+1)&&r):=by
   intro e he;rw [Ut,hf,he];show Ev _ (((Hg (bt s i)&& !(Lh s i&&decide (bt s i=45)))&&D7 s (i+1) d)&&r);cases (Hg (bt s i)&& !(Lh s i&&decide (bt s i=45))) with
   |true=>exact BL (Am true) (AU rfl ih)
   |false=>exact BL (Am false) (Ah (by simp) (Am _))
  apply BB;simp only [Aj.l1];rw [hw];refine AU (by omega) (AU (by omega) (AU (by omega) ?_));by_cases h0:(i:Int)=0
  ·exact AU h0 (main true (by unfold Lh;rw [decide_eq_true (show i=0 by omega)];rfl))
  ·refine Ah h0 (main _ ?_);unfold Lh;rw [KD (by omega) (by omega),decide_eq_false (show ¬i=0 by omega),Bool.false_or,Bool.eq_iff_iff,beq_iff_eq,decide_eq_true_iff];omega
theorem Mw (s:ByteArray) (d:Nat):∀ i,1<=i->i+d+1=s.size->D7 s i d=(((bytesOf s).drop i).take d).all Hg:=by
 induction d with
 |zero=>intro i _ _;simp [D7]
 |succ d ih=>
  intro i h1 h2;have hl:=bytesOf_length s;rcases DJ s (i:=i) (by omega) with ⟨h3,_⟩|⟨h3,h4⟩
  ·omega
  ·have ih:=ih (i+1) (by omega) (by omega);unfold D7 at ih⊢
   rw [List.range'_succ,List.all_cons,ih,h4,List.take_succ_cons,List.all_cons];congr 1;unfold Ju Lh;rw [decide_eq_false (show ¬i=0 by omega),decide_eq_false (show ¬i+1=s.size by omega)];simp
theorem SB (s:ByteArray):KT s=(decide (1<=s.size)&&(decide (s.size<=63)&&D7 s 0 s.size)):=by
 unfold KT;by_cases h1:1<=s.size
 ·rw [decide_eq_true h1];by_cases h2:s.size<=63
  ·rw [decide_eq_true h2,Bool.true_and,Bool.true_and,Bool.true_and,Bool.true_and];have hl:=bytesOf_length s;by_cases he:s.size=1
   ·rcases DJ s (i:=0) (by omega) with ⟨h3,_⟩|⟨h3,h4⟩
    ·omega
    ·rw [List.drop_zero] at h4;have h5:(bytesOf s).drop (0+1)=[]:=List.drop_eq_nil_of_le (by omega);rw [h5] at h4;rw [h4,he];simp only [D7,List.range'_one,List.all_cons,List.all_nil,Bool.and_true,Ju,Lh];rw [show ((1:Nat):Int) - 1=((0:Nat):Int) by omega];show ((!decide (bt s ((0:Nat):Int)=45))&&_)=_;generalize decide (bt s ((0:Nat):Int)=45)=x;generalize Hg (bt s ((0:Nat):Int))=y;cases x<;>cases y<;>simp
   ·obtain ⟨m,hm⟩:∃ m,s.size=m+2:=⟨s.size - 2,by omega⟩;have hmid:=Mw s m 1 (by omega) (by omega);rcases DJ s (i:=0) (by omega) with ⟨h3,_⟩|⟨h3,h4⟩
    ·omega
    ·rw [List.drop_zero] at h4;rcases DJ s (i:=m+1) (by omega) with ⟨h5,_⟩|⟨h5,h6⟩
     ·omega
     ·have h7:(bytesOf s).drop (m+1+1)=[]:=List.drop_eq_nil_of_le (by omega);rw [h7] at h6;have e:bytesOf s=bt s ((0:Nat):Int)::((((bytesOf s).drop 1).take m)++[bt s ((m+1:Nat):Int)]):=by
       conv=>lhs;rw [h4]
       congr 1;show (bytesOf s).drop 1=_
       conv=>lhs;rw [<-List.take_append_drop m ((bytesOf s).drop 1)]
       rw [List.drop_drop,show 1+m=m+1 by omega,h6]
      have f:D7 s 0 (m+2)=(Ju s 0&&(D7 s 1 m&&Ju s (m+1))):=by
       unfold D7;rw [List.range'_succ,List.all_cons,show m+1=m+1 from rfl,List.range'_concat,List.all_append];simp;rw [Nat.add_comm 1 m]
      conv=>lhs;rw [show (bytesOf s).all Hg=(bt s ((0:Nat):Int)::((((bytesOf s).drop 1).take m)++[bt s ((m+1:Nat):Int)])).all Hg by rw [<-e]]
      rw [hm,f,hmid];rw [List.all_cons,List.all_append];simp only [Ju,Lh,List.all_cons,List.all_nil,Bool.and_true];rw [show ((m+2:Nat):Int) - 1=((m+1:Nat):Int) by omega,decide_eq_true (show m+1+1=s.size by omega)];show ((!decide (bt s ((0:Nat):Int)=45))&&_)=_;generalize decide (bt s ((0:Nat):Int)=45)=x;generalize Hg (bt s ((0:Nat):Int))=y;generalize decide (bt s ((m+1:Nat):Int)=45)=z;generalize Hg (bt s ((m+1:Nat):Int))=u;generalize List.all _ Hg=v;cases x<;>cases y<;>cases z<;>cases u<;>cases v<;>simp
  ·rw [decide_eq_false h2];simp
 ·rw [decide_eq_false h1];rfl
theorem Nk (l:List ByteArray) (hl:l.length<=8796093022208) (d:Nat):∀ i:Nat,i+d=l.length->Ev (λk=>Aj.l0 k l (l.length:Int) i) ((l.drop i).all KT):=by
 induction d with
 |zero=>
  intro i hi;apply BB;simp only [Aj.l0];exact Ah (by omega) (BG (Am _) (by rw [List.drop_eq_nil_of_le (by omega)];rfl))
 |succ d ih=>
  intro i hi;apply BB;simp only [Aj.l0];refine AU (by omega) (AU (by omega) (AU (by omega) ?_));rcases Fh l (i:=i) (by omega) with ⟨h1,_⟩|⟨c,h1,h2⟩
  ·omega
  ·rw [Gx h2,h2,List.all_cons];have ih:=ih (i+1) (by omega);have hw:wrap64 ((i:Int)+1)=((i+1:Nat):Int):=by rw [KD (by omega) (by omega)];omega
   have no:KT c=false->Ev (λk=>Aj.j1 k c l (l.length:Int) i true) (KT c&&(l.drop (i+1)).all KT):=λh=>by
    apply BB;simp only [Aj.j1];exact AU (by trivial) (BG (Am _) (by rw [h];rfl))
   by_cases a:(c.size:Int)<1
   ·exact AU a (no (by unfold KT;rw [decide_eq_false (show ¬1<=c.size by omega)];rfl))
   ·refine Ah a ?_;by_cases b:(c.size:Int)>63
    ·rw [decide_eq_true b];exact no (by unfold KT;rw [decide_eq_false (show ¬c.size<=63 by omega)];simp)
    ·rw [decide_eq_false b];apply BB;simp only [Aj.j1];refine Ah (by simp) (BG (Mv c l _ i (by omega) _ (by rw [hw];exact ih) c.size 0 (by omega)) ?_);rw [SB,decide_eq_true (show 1<=c.size by omega),decide_eq_true (show c.size<=63 by omega)];rfl
theorem Qj {l:List ByteArray} (hl:l.length<=8796093022208):Ev (λk=>Aj.f k l) (l.all KT):=by
 have:=Nk l hl l.length 0 (by omega);simpa [Aj.f] using this
def EK (s:ByteArray):ByteArray×Bool:=if s.size<=64/\(parts (FQ s)).all KT=true then (FQ s,true) else (⟨#[]⟩,false)
theorem Gy (s:ByteArray):(parts s).length<=s.size+1:=by
 have:=Jt (bytesOf s);rw [bytesOf_length] at this;unfold parts;rw [List.length_map];omega
theorem Qk (s:ByteArray):Ev (λk=>Ca.f k s) (EK s):=by
 simp only [Ca.f];unfold EK;by_cases h:(s.size:Int)>64
 ·exact AU h (BG (Am _) (by rw [if_neg (by omega)]))
 ·refine Ah h ?_;have hs:=Ms s;have hp:=Gy (FQ s);rw [Us (by omega)];refine BL (Am _) ?_;rw [Ol (by omega)];refine BL (Am _) (BL (Qj (by omega)) ?_);by_cases hr:(parts (FQ s)).all KT=true
  ·exact AU hr (BG (Am _) (by rw [if_pos ⟨by omega,hr⟩]))
  ·exact Ah hr (BG (Am _) (by rw [if_neg λe=>hr e.2]))
theorem Jv (s:ByteArray) (l:List ByteArray) (hl:l.length<=8796093022208) (hsz:∀ p∈l,p.size<=140737488351232) (d:Nat):∀ i:Nat,i+d=l.length->Ev (λk=>Ai.l0 k s l i) (if (l.drop i).all KT=true then (s,true) else (⟨#[]⟩,false)):=by
 induction d with
 |zero=>
  intro i hi;apply BB;simp only [Ai.l0];exact Ah (by omega) (BG (Am _) (by rw [List.drop_eq_nil_of_le (by omega)];rfl))
 |succ d ih=>
  intro i hi;apply BB;simp only [Ai.l0];refine AU (by omega) (AU (by omega) ?_);rcases Fh l (i:=i) (by omega) with ⟨h1,_⟩|⟨c,h1,h2⟩
  ·omega
  ·have ih:=ih (i+1) (by omega);have hw:wrap64 ((i:Int)+1)=((i+1:Nat):Int):=by rw [KD (by omega) (by omega)];omega
   rw [Gx h2,h2,List.all_cons,hw];refine BL (SA c (hsz c (List.mem_of_mem_drop (by rw [h2];exact List.mem_cons_self ..)))) ?_;by_cases hc:KT c=true
   ·refine AU hc (BG ih ?_);rw [hc,Bool.true_and]
   ·refine Ah hc (BG (Am _) ?_);rw [Bool.not_eq_true] at hc;rw [hc];rfl
theorem SE {l:List Nat} {x:Nat} (h:x∈l):x<=l.sum:=by
 induction l with
 |nil=>simp at h
 |cons y l ih=>
  rw [List.sum_cons];rcases List.mem_cons.mp h with rfl|e
  ·omega
  ·have:=ih e;omega
theorem Jw {s p:ByteArray} (h:p∈parts s):p.size<=s.size:=by
 have h1:bytesOf p∈Bq (bytesOf s):=by rw [<-Gn];exact List.mem_map_of_mem h
 have h2:=Jt (bytesOf s);have h3:(bytesOf p).length<=((Bq (bytesOf s)).map List.length).sum:=SE (List.mem_map_of_mem h1);have h4:1<=(Bq (bytesOf s)).length:=List.length_pos_iff.mpr (Gw _);rw [bytesOf_length] at h2 h3;omega
theorem Li {s:ByteArray} (hs:s.size<=140737488351232):Ev (λk=>Ai.f k s) (EK s):=by
 simp only [Ai.f];rw [PS (by omega)];refine BL (Am _) ?_;have hz:=Ms s;have no:¬(s.size<=64/\(parts (FQ s)).all KT=true)->Ev (λn=>Ai.j0 n (FQ s) true) (EK s):=λh=>by
  apply BB;simp only [Ai.j0];exact AU (by trivial) (BG (Am _) (by unfold EK;rw [if_neg h]))
 by_cases h1:((FQ s).size:Int)<1
 ·refine AU h1 (no λh=>?_);have hb:bytesOf (FQ s)=[]:=GX.mpr (by omega);have h2:=h.2;unfold parts at h2;rw [hb] at h2;exact absurd h2 (by decide+kernel)
 ·refine Ah h1 ?_;by_cases h2:((FQ s).size:Int)>64
  ·rw [decide_eq_true h2];exact no λh=>by omega
  ·rw [decide_eq_false h2];apply BB;simp only [Ai.j0];have hp:=Gy (FQ s);refine Ah (by simp) (BL (IL (by omega)) (BG (Jv (FQ s) _ (by omega) (λp hp=>by have:=Jw hp;omega) (parts (FQ s)).length 0 (by omega)) ?_));rw [List.drop_zero];unfold EK;by_cases hr:(parts (FQ s)).all KT=true
   ·rw [if_pos hr,if_pos ⟨by omega,hr⟩]
   ·rw [if_neg hr,if_neg λe=>hr e.2]
theorem PV {s t:ByteArray} (h:EK s=(t,true)):t=FQ s/\s.size<=64/\(parts (FQ s)).all KT=true:=by
 unfold EK at h;split at h
 ·rename_i hc;exact ⟨(Prod.mk.inj h).1.symm,hc⟩
 ·cases h
def Mx (p:ByteArray):Bool:=(EI p).2&&(decide (0<=(EI p).1)&&decide ((EI p).1<=255))
def Uu (s:ByteArray):Bool:=(parts s).all Mx&&decide ((parts s).length=4)
theorem Kv (p:ByteArray) (g:Nat->Option Bool) (r:Bool) (h:Ev g r) (x:Int×Bool) (hx:x=EI p):Ev (λk=>if x.2=true then (if x.1<0 then some false else if x.1>255 then some false else g k) else some false) (Mx p&&r):=by
 subst hx;unfold Mx;by_cases a:(EI p).2=true
 ·refine AU a ?_;by_cases b:(EI p).1<0
  ·exact AU b (BG (Am _) (by rw [a,decide_eq_false (show ¬0<=(EI p).1 by omega)];rfl))
  ·refine Ah b ?_;by_cases c:(EI p).1>255
   ·exact AU c (BG (Am _) (by rw [a,decide_eq_false (show ¬(EI p).1<=255 by omega)];simp))
   ·exact Ah c (BG h (by rw [a,decide_eq_true (show 0<=(EI p).1 by omega),decide_eq_true (show (EI p).1<=255 by omega)];rfl))
 ·refine Ah a (BG (Am _) ?_);rw [Bool.not_eq_true] at a;rw [a];rfl
theorem SF (l:List ByteArray) (hl:l.length<=8796093022208) (d:Nat):∀ i:Nat,i+d=l.length->Ev (λk=>CR.l0 k l l (l.length:Int) i) ((l.drop i).all Mx&&decide (l.length=4)):=by
 induction d with
 |zero=>
  intro i hi;apply BB;simp only [CR.l0];refine Ah (by omega) (BG (Am _) ?_);rw [List.drop_eq_nil_of_le (by omega),List.all_nil,Bool.true_and,Bool.eq_iff_iff,beq_iff_eq,decide_eq_true_iff];omega
 |succ d ih=>
  intro i hi;apply BB;simp only [CR.l0];refine AU (by omega) (AU (by omega) (AU (by omega) ?_));rcases Fh l (i:=i) (by omega) with ⟨h1,_⟩|⟨c,h1,h2⟩
  ·omega
  ·have ih:=ih (i+1) (by omega);have hw:wrap64 ((i:Int)+1)=((i+1:Nat):Int):=by rw [KD (by omega) (by omega)];omega
   rw [Gx h2,h2,List.all_cons,hw,Bool.and_assoc];exact BL (Am (EI c)) (Kv c _ _ ih _ rfl)
theorem Uv {s:ByteArray} (hs:s.size<4294967281):Ev (λk=>CR.f k s) (Uu s):=by
 simp only [CR.f];rw [Ol hs];have hp:=Gy s;refine BL (Am _) (BG (SF (parts s) (by omega) _ 0 (Nat.zero_add _)) ?_);rw [List.drop_zero];rfl
theorem M3 (l:List ByteArray) (hl:l.length<=8796093022208) (hsz:∀ p∈l,p.size<=140737488351232) (d:Nat):∀ i:Nat,i+d=l.length->Ev (λk=>Bb.l0 k l i) ((l.drop i).all Mx&&decide (l.length=4)):=by
 induction d with
 |zero=>
  intro i hi;apply BB;simp only [Bb.l0];refine Ah (by omega) (BG (Am _) ?_);rw [List.drop_eq_nil_of_le (by omega),List.all_nil,Bool.true_and,Bool.eq_iff_iff,beq_iff_eq,decide_eq_true_iff];omega
 |succ d ih=>
  intro i hi;apply BB;simp only [Bb.l0];refine AU (by omega) (AU (by omega) ?_);rcases Fh l (i:=i) (by omega) with ⟨h1,_⟩|⟨c,h1,h2⟩
  ·omega
  ·have ih:=ih (i+1) (by omega);have hw:wrap64 ((i:Int)+1)=((i+1:Nat):Int):=by rw [KD (by omega) (by omega)];omega
   rw [Gx h2,h2,List.all_cons,hw,Bool.and_assoc];exact BL (Mq (hsz c (List.mem_of_mem_drop (by rw [h2];exact List.mem_cons_self ..)))) (Kv c _ _ ih _ rfl)
theorem PW {s:ByteArray} (hs:s.size<4294967281):Ev (λk=>Bb.f k s) (Uu s):=by
 simp only [Bb.f];have hp:=Gy s;refine BL (IL (by omega)) (BG (M3 (parts s) (by omega) (λp hp=>by have:=Jw hp;omega) _ 0 (Nat.zero_add _)) ?_);rw [List.drop_zero];rfl
end Go.Proofs.YtikggnalmidlhaaGreatDoor.Y
