/- What host.Canon and host.Ip, and their references, tell, as plain functions on texts; and that the printed ones come to it. -/
import Derived.Test.YtohjohhcjcljoaaGreatDoorPD
import Derived.Test.YtohjohhcjcljoaaGreatDoorPrint3
import Derived.Test.YtohjohhcjcljoaaGreatDoorYrank
import Derived.Lib.AtoiAll
import Derived.Lib.AtoiAllCases
import Derived.Lib.ItoaNum
import Derived.Lib.SplitLaws
namespace Go.Proofs.YtohjohhcjcljoaaGreatDoor.Y
set_option linter.unusedVariables false
set_option linter.unusedSimpArgs false
open RowKit Print Ak BR BS
def dd (n:Nat):List Int:=if n<10 then [48+(n:Int)] else dd (n/10)++[48+((n%10:Nat):Int)]
theorem L9 {n:Nat} (h:n<10):dd n=[48+(n:Int)]:=by rw [dd,if_pos h]
theorem MB {n:Nat} (h:¬n<10):dd n=dd (n/10)++[48+((n%10:Nat):Int)]:=by rw [dd,if_neg h]
theorem Nn (n:Nat):∀ x∈dd n,48<=x/\x<=57:=by
 induction n using Nat.strongRecOn with
 |_ n ih=>
  intro x hx;by_cases h:n<10
  ·rw [L9 h] at hx;simp only [List.mem_singleton] at hx;omega
  ·rw [MB h] at hx;rcases List.mem_append.mp hx with e|e
   ·exact ih (n/10) (by omega) x e
   ·simp only [List.mem_singleton] at e;omega
theorem Ml (n:Nat):0<(dd n).length:=by rw [dd];split<;>simp
theorem Jy (j:Nat):∀ n:Nat,(dd n).length<=j+1↔n<10^(j+1):=by
 induction j with
 |zero=>
  intro n;by_cases h:n<10
  ·rw [L9 h];simp [h]
  ·rw [MB h];have:=Ml (n/10);simp only [List.length_append,List.length_singleton];omega
 |succ j ih=>
  intro n;by_cases h:n<10
  ·rw [L9 h];have:10^1<=10^(j+1+1):=Nat.pow_le_pow_right (by decide) (by omega);simp only [List.length_singleton];omega
  ·rw [MB h];have:=ih (n/10);simp only [List.length_append,List.length_singleton];rw [Nat.pow_succ];omega
theorem Je (n:Nat):∀ x∈dd n,0<=x/\x<256:=λx hx=>by have:=Nn n x hx;omega
theorem IB (n:Nat):(Lib.decDigits n).map (λb=>(b.toNat:Int))=dd n:=by
 induction n using Nat.strongRecOn with
 |_ n ih=>
  by_cases h:n<10
  ·rw [Lib.decDigits,dif_pos h,L9 h];simp only [List.map_cons,List.map_nil,UInt8.toNat_ofNat'];congr 1;omega
  ·rw [Lib.decDigits,dif_neg h,MB h,List.map_append,ih (n/10) (by omega)];simp only [List.map_cons,List.map_nil,UInt8.toNat_ofNat'];congr 2;omega
def Fa (n:Int):List Int:=if n<0 then 45::dd n.natAbs else dd n.toNat
theorem Np (n:Int):∀ x∈Fa n,0<=x/\x<256:=by
 intro x hx;unfold Fa at hx;split at hx
 ·rcases List.mem_cons.mp hx with e|e
  ·omega
  ·exact Je _ x e
 ·exact Je _ x hx
theorem FV (n:Int):bytesOf (Gw n)=Fa n:=by
 show ((Lib.itoa n).toArray.toList.map λb=>(b.toNat:Int))=Fa n;rw [List.toList_toArray];unfold Lib.itoa Fa;split
 ·rw [List.map_cons,IB];rfl
 ·rw [IB]
theorem Ra (n:Int):Gw n=strOfNums (Fa n):=Es (by rw [FV,Ed (Np n)])
theorem QR {s:ByteArray} {n:Int} (h:bytesOf s=Fa n):s.data.toList=Lib.itoa n:=by
 have:s=Gw n:=Es (by rw [h,FV]);rw [this];show (Lib.itoa n).toArray.toList=_;rw [List.toList_toArray]
theorem QS {n:Int} (h0: -9223372036854775808<=n) (h1:n<=9223372036854775807):(Fa n).length<=20:=by
 have e:(10:Nat)^(18+1)=10000000000000000000:=by decide
 unfold Fa;split
 ·have:=(Jy 18 n.natAbs).mpr (by omega);simp only [List.length_cons];omega
 ·have:=(Jy 18 n.toNat).mpr (by omega);omega
def IL:List Int->Nat->Option Nat
 |[],a=>some a
 |c::l,a=>if 48<=c/\c<=57 then IL l (10*a+(c - 48).toNat) else none
theorem Nq (l m:List Int):∀ a,IL (l++m) a=(IL l a).bind (IL m):=by
 induction l with
 |nil=>intro a;rfl
 |cons c l ih=>
  intro a;simp only [List.cons_append,IL];split
  ·exact ih _
  ·rfl
theorem QT {l:List Int} {c:Int} {a:Nat} (hc:48<=c/\c<=57):IL (l++[c]) a=(IL l a).map λm=>10*m+(c - 48).toNat:=by
 rw [Nq];cases IL l a with
 |none=>rfl
 |some m=>simp only [Option.bind_some,Option.map_some,IL,if_pos hc]
theorem Sv (n:Nat):IL (dd n) 0=some n:=by
 induction n using Nat.strongRecOn with
 |_ n ih=>
  by_cases h:n<10
  ·rw [L9 h];simp only [IL];rw [if_pos (by omega)];congr 1;omega
  ·rw [MB h,QT (by omega),ih (n/10) (by omega),Option.map_some];congr 1;omega
theorem Po {n:Nat} {c:Int} {l:List Int} (h:dd n=c::l):48<=c/\c<=57:=Nn n c (by rw [h];exact List.mem_cons_self ..)
def OU (n:Int):Prop:= -9223372036854775808<=n/\n<=9223372036854775807
theorem Mm (a b:List UInt8):∀ (acc u:Nat),Lib.parseUint10 acc a= .ok u->Lib.parseUint10 acc (a++b)=Lib.parseUint10 u b:=by
 induction a with
 |nil=>
  intro acc u h;simp only [Lib.parseUint10] at h;injection h with h
  rw [h];rfl
 |cons c a ih=>
  intro acc u h;simp only [Lib.parseUint10,List.cons_append] at h⊢
  split at h
  ·rename_i h1;rw [if_pos h1];split at h
   ·cases h
   ·rename_i h2;rw [if_neg h2];split at h
    ·cases h
    ·rename_i h3;rw [if_neg h3];exact ih _ _ h
  ·cases h
theorem QU (u:Nat):u<18446744073709551616->Lib.parseUint10 0 (Lib.decDigits u)= .ok u:=by
 induction u using Nat.strongRecOn with
 |_ u ih=>
  intro hu;by_cases h:u<10
  ·rw [Lib.decDigits,dif_pos h];have e:(UInt8.ofNat (48+u)).toNat=48+u:=by rw [UInt8.toNat_ofNat'];omega
   simp only [Lib.parseUint10,e];rw [if_pos (by omega),if_neg (by omega),if_neg (by omega)];congr 1;omega
  ·have e:(UInt8.ofNat (48+u%10)).toNat=48+u%10:=by rw [UInt8.toNat_ofNat'];omega
   rw [Lib.decDigits,dif_neg h,Mm _ _ _ _ (ih (u/10) (by omega) (by omega))];simp only [Lib.parseUint10,e];rw [if_pos (by omega),if_neg (by omega),if_neg (by omega)];congr 1;omega
theorem Nr (u:Nat):∃ c r,Lib.decDigits u=c::r/\c.toNat≠43/\c.toNat≠45:=by
 have h:=IB u;cases hd:Lib.decDigits u with
 |nil=>
  rw [hd] at h;have:=Ml u;rw [<-h] at this;simp at this
 |cons c r=>
  rw [hd,List.map_cons] at h;have:=Po h.symm;exact ⟨c,r,rfl,by omega,by omega⟩
theorem Jf {u:Nat} (hu:u<18446744073709551616):Lib.parseMag (Lib.decDigits u)= .ok u:=by
 obtain ⟨c,r,e,_⟩:=Nr u;unfold Lib.parseMag;rw [if_neg (by rw [e];simp),QU u hu]
theorem QV {n:Int} (h:OU n):Lib.atoiAll (Lib.itoa n)= .ok n:=by
 obtain ⟨h0,h1⟩:=h;unfold Lib.itoa;by_cases hn:n<0
 ·rw [if_pos hn,Lib.atoiAll_minus,Jf (by omega)];simp only [Lib.signed];rw [if_neg (by omega)];congr 1;omega
 ·rw [if_neg hn];obtain ⟨c,r,e,h43,h45⟩:=Nr n.toNat;have hp:=Jf (u:=n.toNat) (by omega);rw [e] at hp⊢
  rw [Lib.atoiAll_plain c r h43 h45,hp];simp only [Lib.signless];rw [if_neg (by omega)];congr 1;omega
theorem Sw {l:List UInt8} {v:Int} (h:Lib.atoiAll l= .ok v):OU v:=by
 unfold Lib.atoiAll at h;cases l with
 |nil=>cases h
 |cons c r=>
  simp only at h;split at h
  ·cases h
  ·cases h
  ·rename_i u hu;have:=Lib.parseMag_lt hu;split at h
   ·cases h
   ·split at h
    ·cases h
    ·rename_i h1 h2;injection h with h
     rw [<-h];unfold OU;split<;>omega
theorem QW {s:ByteArray} {n:Int} (h:OU n) (hs:bytesOf s=Fa n):FW s=(n,true):=by
 have hl:=QS h.1 h.2;rw [<-hs,bytesOf_length] at hl;have e:=QR hs;have hb:(Gw n).toList=s.toList:=by rw [FP,FV,hs]
 unfold FW;rw [if_neg (by omega),e,QV h];simp only [hb,if_true]
theorem KS (s:ByteArray):(∃ n,OU n/\bytesOf s=Fa n/\FW s=(n,true))\/((∀ n,OU n->bytesOf s≠Fa n)/\FW s=(0,false)):=by
 by_cases h:∃ n,OU n/\bytesOf s=Fa n
 ·obtain ⟨n,h1,h2⟩:=h;exact .inl ⟨n,h1,h2,QW h1 h2⟩
 ·refine .inr ⟨λn h1 h2=>h ⟨n,h1,h2⟩,?_⟩;unfold FW;split
  ·rfl
  ·split
   ·rename_i v hv;split
    ·rename_i hb;rw [FP,FV] at hb;exact absurd ⟨v,Sw hv,hb.symm⟩ h
    ·rfl
   ·rfl
theorem Ke (n:Nat):∀ x:ByteArray,n<18446744073709551616->x.size+(dd n).length<=9223372036854775807->Ev (λk=>Br.l0 k n x) (strOfNums (dd n++bytesOf x)):=by
 induction n using Nat.strongRecOn with
 |_ n ih=>
  intro x hn hl;apply BQ;simp only [Br.l0];by_cases h:n<10
  ·rw [L9 h] at hl⊢
   simp only [List.length_singleton] at hl;refine Aq (by omega) ?_;simp only [Option.bind_some];refine AZ (by rw [strOfNums_size];simp only [List.length_singleton];omega) (Ba (Ay _) ?_);rw [G8 (by omega) (by omega),show (48+(n:Int))%256=48+(n:Int) by omega];apply Es;rw [G7,Ed (by simp;omega),Ed];intro y hy;rcases List.mem_append.mp hy with e|e
   ·simp only [List.mem_singleton] at e;omega
   ·exact FZ e
  ·rw [MB h] at hl⊢
   simp only [List.length_append,List.length_singleton] at hl;refine AZ (by omega) ?_;simp only [Option.bind_some];rw [show Int.tmod (n:Int) 10=((n%10:Nat):Int) by rw [Int.tmod_eq_emod_of_nonneg (by omega)];omega,G8 (by omega) (by omega),show Int.tdiv (n:Int) 10=((n/10:Nat):Int) by rw [Int.tdiv_eq_ediv_of_nonneg (by omega)];omega,G8 (by omega) (by omega),
    show (48+((n%10:Nat):Int))%256=48+((n%10:Nat):Int) by omega]
   refine AZ (by rw [strOfNums_size];simp only [List.length_singleton];omega) (Ba (ih (n/10) (by omega) _ (by omega) (by rw [ByteArray.size_append,strOfNums_size];simp only [List.length_singleton];omega)) ?_);rw [G7,Ed (by simp;omega),List.append_assoc]
theorem JB {n:Nat} (hn:n<18446744073709551616):Ev (λk=>Br.f k n) (strOfNums (dd n)):=by
 have e:(10:Nat)^(19+1)=100000000000000000000:=by decide
 have:=(Jy 19 n).mpr (by omega);simp only [Br.f];refine Ba (Ke n _ hn (by simp only [show (⟨#[]⟩:ByteArray).size=0 from rfl];omega)) ?_;rw [Lj,List.append_nil]
theorem Jg {n:Int} (h:OU n):Ev (λk=>Cg.f k n) (Gw n):=by
 obtain ⟨h0,h1⟩:=h;rw [Ra];unfold Fa;simp only [Cg.f];by_cases hn:n<0
 ·rw [if_pos hn];have e:(10:Nat)^(18+1)=10000000000000000000:=by decide
  have hl:=(Jy 18 n.natAbs).mpr (by omega);refine AZ hn ?_;rw [Kn (n:=n+1) (by omega) (by omega),Kn (n:= -(n+1)) (by omega) (by omega),G8 (n:= -(n+1)) (by omega) (by omega),G8 (n:= -(n+1)+1) (by omega) (by omega),show -(n+1)+1=(n.natAbs:Int) by omega];refine Az (JB (by omega)) (AZ (by rw [strOfNums_size];omega) (Ba (Ay _) ?_));apply Es;rw [G7,Ed (Je _),Ed]
  ·rfl
  ·intro x hx;rcases List.mem_cons.mp hx with e|e
   ·omega
   ·exact Je _ x e
 ·rw [if_neg hn];refine Aq hn ?_;rw [G8 (by omega) (by omega),show n=(n.toNat:Int) by omega,Int.toNat_natCast];exact Az (JB (by omega)) (Ay _)
def I6 (s:ByteArray):Int×Bool:=match IL (bytesOf s) 0 with
 |some n=>(n,true)
 |none=>(0,false)
theorem LH (s:ByteArray) (hs:s.size<=19) (d:Nat):∀ (i acc:Nat),i+d=s.size->acc<10^i->Ev (λk=>BH.l0 k s acc i) (match IL ((bytesOf s).drop i) acc with|some n=>((n:Int),true)|none=>(0,false)):=by
 induction d with
 |zero=>
  intro i acc hi ha;apply BQ;simp only [BH.l0];rw [List.drop_eq_nil_of_le (by rw [bytesOf_length];omega)];exact Aq (by omega) (Ay _)
 |succ d ih=>
  intro i acc hi ha;apply BQ;simp only [BH.l0];rcases EI s (show i<=s.size by omega) with ⟨e,_⟩|⟨hlt,hd⟩
  ·omega
  rw [hd];obtain ⟨b0,b1⟩:=Hw s i;generalize bt s i=c at*
  have h18:(10:Nat)^i<=10^18:=Nat.pow_le_pow_right (by decide) (by omega);have e18:(10:Nat)^18=1000000000000000000:=by decide
  refine AZ (by omega) (AZ (by omega) ?_);simp only [IL];by_cases h1:c<48
  ·rw [if_neg (by omega)];exact AZ h1 (Ay _)
  by_cases h2:c>57
  ·rw [if_neg (by omega)];exact Aq h1 (AZ h2 (Ay _))
  rw [if_pos (by omega)];refine Aq h1 (Aq h2 ?_);rw [G8 (n:=10*(acc:Int)) (by omega) (by omega),G8 b0 (by omega),G8 (n:=10*(acc:Int)+c) (by omega) (by omega),G8 (n:=10*(acc:Int)+c - 48) (by omega) (by omega),Kn (n:=(i:Int)+1) (by omega) (by omega),
   show 10*(acc:Int)+c - 48=((10*acc+(c - 48).toNat:Nat):Int) by omega,show (i:Int)+1=((i+1:Nat):Int) by omega]
  exact ih (i+1) _ (by omega) (by rw [Nat.pow_succ];omega)
theorem Gm (s:ByteArray) {most:Int} (hm:most<=19):Ev (λk=>BH.f k s most) (if 1<=s.size/\(s.size:Int)<=most then I6 s else (0,false)):=by
 simp only [BH.f];by_cases h1:(s.size:Int)<1
 ·rw [if_neg (by omega)];refine AZ h1 (BQ ?_);simp only [BH.j0];exact AZ (by trivial) (Ay _)
 ·refine Aq h1 (BQ ?_);simp only [BH.j0];by_cases h2:(s.size:Int)>most
  ·rw [if_neg (by omega),decide_eq_true h2];exact AZ rfl (Ay _)
  ·rw [if_pos (by omega),decide_eq_false h2];refine Aq (by simp) ?_;have:=LH s (by omega) s.size 0 0 (by omega) (by decide);unfold I6;simpa using this
theorem Pp {s:ByteArray} {n:Nat} (h:bytesOf s=dd n):I6 s=((n:Int),true):=by
 unfold I6;rw [h,Sv]
theorem Mo {s:ByteArray} {l:List Int} (h:bytesOf s=l):s.size=l.length:=by rw [<-bytesOf_length,h]
theorem Ie {n:Int} (h:OU n) {s:ByteArray}:(∀ m,OU m->bytesOf s≠Fa m)->Ev (λk=>(Cg.f k n).bind λt=>if t.toList=s.toList then some (n,true) else some ((0:Int),false)) ((0:Int),false):=by
 intro hno;refine Az (Jg h) (Aq ?_ (Ay _));rw [FP,FV];exact λe=>hno n h e.symm
theorem JC {n:Int} (h:OU n) {s:ByteArray} (hs:bytesOf s=Fa n):Ev (λk=>(Cg.f k n).bind λt=>if t.toList=s.toList then some (n,true) else some ((0:Int),false)) (n,true):=by
 refine Az (Jg h) (AZ ?_ (Ay _));rw [FP,FV,hs]
theorem LJ {s:ByteArray} {n:Int} {b:Bool} (hs:s.size<=19) (h:I6 s=(n,b)):0<=n/\n<10000000000000000000:=by
 have hv:=QO (Gm s (most:=19) (by omega)) (Gm s (most:=19) (by omega));have key:∀ (l:List Int) (a m:Nat),IL l a=some m->m<(a+1)*10^l.length:=by
  intro l;induction l with
  |nil=>intro a m h;simp only [IL] at h;have:=Option.some.inj h;simp;omega
  |cons c l ih=>
   intro a m h;simp only [IL] at h;split at h
   ·have:=ih _ _ h;rw [List.length_cons,Nat.pow_succ];have h2:(10*a+(c - 48).toNat+1)*10^l.length<=(a+1)*10*10^l.length:=Nat.mul_le_mul_right _ (by omega);rw [Nat.mul_comm (10^l.length) 10, <-Nat.mul_assoc];omega
   ·cases h
 unfold I6 at h;cases hm:IL (bytesOf s) 0 with
 |none=>rw [hm] at h;simp only [Prod.mk.injEq] at h;omega
 |some m=>
  rw [hm] at h;simp only [Prod.mk.injEq] at h;have:=key _ _ _ hm;rw [bytesOf_length] at this;have h2:(10:Nat)^s.size<=10^19:=Nat.pow_le_pow_right (by decide) hs;have e:(10:Nat)^19=10000000000000000000:=by decide
  omega
theorem Ns {s:ByteArray} (hs:s.size<=140737488351232):Ev (λk=>BB.f k s) (FW s):=by
 have hneg:∀ x4:Int,1<=x4->x4<=9223372036854775808->wrap64 (wrap64 (-(wrap64 (IntKind.u64.wrap (x4 - 1)))) - 1)= -x4/\OU (-x4):=by
  intro x4 h1 h2;rw [G8 (by omega) (by omega),Kn (n:=x4 - 1) (by omega) (by omega),Kn (n:= -(x4 - 1)) (by omega) (by omega),Kn (by omega) (by omega)];exact ⟨by omega,by unfold OU;omega⟩
 have main:∀ b:Bool,(b=true->0<s.size/\bt s 0=45)->(b=false->0<s.size->bt s 0≠45)->Ev (λk=>BB.j0 k s b) (FW s):=by
  intro b hb1 hb2;apply BQ;simp only [BB.j0];cases b with
  |true=>
   obtain ⟨hpos,h45⟩:=hb1 rfl;have hd:bytesOf s=45::bytesOf (s.extract 1 s.size):=by
    rw [Gd];rcases EI s (i:=0) (by omega) with ⟨e,_⟩|⟨_,hd⟩
    ·omega
    ·rw [List.drop_zero,show bt s ((0:Nat):Int)=45 from h45] at hd;rw [hd];simp only [Nat.zero_add,List.drop_succ_cons,List.drop_zero];rw [List.take_of_length_le];rw [List.length_drop,bytesOf_length];omega
   refine AZ rfl (AZ (by omega) (Az (Gm _ (by omega)) ?_));have hsz:(s.extract 1 s.size).size=s.size - 1:=by rw [ByteArray.size_extract];omega
   rcases KS s with ⟨n,hn,hbs,hr⟩|⟨hno,hr⟩
   ·rw [hr];have hn0:n<0:=by
     by_cases h:n<0
     ·exact h
     ·unfold Fa at hbs;rw [if_neg (by omega),hd] at hbs;have:=Po hbs.symm;omega
    unfold Fa at hbs;rw [if_pos hn0,hd] at hbs;have hbs2:=(List.cons.inj hbs).2;have hl:=Mo hbs2;have e:(10:Nat)^(18+1)=10000000000000000000:=by decide
    have hn':=hn;unfold OU at hn';have hlen:=(Jy 18 n.natAbs).mpr (by omega);have hp:=Ml n.natAbs;rw [if_pos (by omega),Pp hbs2];refine AZ rfl (Aq (by omega) (BQ ?_));simp only [BB.j1];rw [decide_eq_false (by omega)];refine Aq (by simp) ?_;obtain ⟨hw,hi⟩:=hneg (n.natAbs:Int) (by omega) (by omega);rw [hw,show -(n.natAbs:Int)=n by omega];exact JC hn (by rw [hd,hbs2];unfold Fa;rw [if_pos hn0])
   ·rw [hr];have hfalse:∀ x4:Int,Ev (λk=>BB.j1 k s x4 true) ((0:Int),false):=by
     intro x4;apply BQ;simp only [BB.j1];exact AZ (by trivial) (Ay _)
    by_cases hc:1<=(s.extract 1 s.size).size/\((s.extract 1 s.size).size:Int)<=19
    ·rw [if_pos hc];have hvr:=LJ (s:=s.extract 1 s.size) (n:=(I6 (s.extract 1 s.size)).1) (b:=(I6 (s.extract 1 s.size)).2) (by omega) rfl;by_cases h2:(I6 (s.extract 1 s.size)).2=true
     ·refine AZ h2 ?_;by_cases h3:(I6 (s.extract 1 s.size)).1=0
      ·exact AZ h3 (hfalse _)
      ·refine Aq h3 ?_;by_cases h4:(I6 (s.extract 1 s.size)).1>9223372036854775808
       ·rw [decide_eq_true h4];exact hfalse _
       ·rw [decide_eq_false h4];apply BQ;simp only [BB.j1];refine Aq (by simp) ?_;obtain ⟨hw,hi⟩:=hneg (I6 (s.extract 1 s.size)).1 (by omega) (by omega);rw [hw];exact Ie hi hno
     ·exact Aq h2 (hfalse _)
    ·rw [if_neg hc];exact Aq (by simp) (hfalse _)
  |false=>
   refine Aq (by simp) (Az (Gm _ (by omega)) ?_);rcases KS s with ⟨n,hn,hbs,hr⟩|⟨hno,hr⟩
   ·rw [hr];have hn':=hn;unfold OU at hn';have hn0:¬n<0:=by
     intro h;unfold Fa at hbs;rw [if_pos h] at hbs;have hp:0<s.size:=by rw [Mo hbs];simp
     refine hb2 rfl hp ?_;rw [Tt,hbs];rfl
    have hbs2:=hbs;unfold Fa at hbs2;rw [if_neg hn0] at hbs2;have hl:=Mo hbs2;have e:(10:Nat)^(18+1)=10000000000000000000:=by decide
    have hlen:=(Jy 18 n.toNat).mpr (by omega);have hp:=Ml n.toNat;rw [if_pos (by omega),Pp hbs2];refine AZ rfl (Aq (by simp only;omega) ?_);simp only
    rw [show (n.toNat:Int)=n by omega,Kn hn'.1 hn'.2];exact JC hn hbs
   ·rw [hr];by_cases hc:1<=s.size/\(s.size:Int)<=19
    ·rw [if_pos hc];have hvr:=LJ (s:=s) (n:=(I6 s).1) (b:=(I6 s).2) (by omega) rfl;by_cases h2:(I6 s).2=true
     ·refine AZ h2 ?_;by_cases h3:(I6 s).1>9223372036854775807
      ·exact AZ h3 (Ay _)
      ·refine Aq h3 ?_;rw [Kn (by omega) (by omega)];exact Ie (by unfold OU;omega) hno
     ·exact Aq h2 (Ay _)
    ·rw [if_neg hc];exact Aq (by simp) (Ay _)
 simp only [BB.f];by_cases h:(s.size:Int)>0
 ·refine AZ h (AZ (by omega) (main _ ?_ ?_))
  ·intro hb;exact ⟨by omega,by simpa using hb⟩
  ·intro hb _;simpa using hb
 ·exact Aq h (main false (λh=>by cases h) (λ_ h'=>by omega))
theorem Oy {c:Int} (h:0<=c/\c<256):0<=IP c/\IP c<256:=by unfold IP;split<;>omega
theorem Nt (s:ByteArray):bytesOf (Hq s)=(bytesOf s).map IP:=by
 unfold Hq;refine Ed λx hx=>?_
 obtain ⟨c,hc,rfl⟩:=List.mem_map.mp hx;exact Oy (FZ hc)
theorem Nu (s:ByteArray):(Hq s).size=s.size:=by
 rw [<-bytesOf_length,Nt,List.length_map,bytesOf_length]
theorem VE {s:ByteArray} (hs:s.size<=9223372036854775806):El.f s=some (Hq s):=by unfold El.f;rw [if_pos hs]
theorem QX {s:ByteArray} (hs:s.size<=9223372036854775806):Dj.f s=some (Hq s):=by unfold Dj.f;rw [if_pos hs]
def Sy (x:Int):List (List Int)->List (List Int)
 |[]=>[[x]]
 |h::t=>(x::h)::t
def EF:List Int->List (List Int)
 |[]=>[[]]
 |x::l=>if x=46 then []::EF l else Sy x (EF l)
theorem Jz (l:List Int):EF l≠[]:=by
 cases l with
 |nil=>simp [EF]
 |cons x l=>
  unfold EF;split
  ·simp
  ·cases EF l<;>simp [Sy]
theorem KT {a:List Int} (h:∀ c∈a,c≠46):EF a=[a]:=by
 induction a with
 |nil=>rfl
 |cons x a ih=>
  rw [EF,if_neg (h x (List.mem_cons_self ..)),ih λc hc=>h c (List.mem_cons_of_mem _ hc)];rfl
theorem LK {a b:List Int} (h:∀ c∈a,c≠46):EF (a++46::b)=a::EF b:=by
 induction a with
 |nil=>simp [EF]
 |cons x a ih=>
  rw [List.cons_append,EF,if_neg (h x (List.mem_cons_self ..)),ih λc hc=>h c (List.mem_cons_of_mem _ hc)];rfl
theorem Mq {l:List Int} (h:∀ c∈l,0<=c/\c<256):∀ p∈EF l,∀ c∈p,0<=c/\c<256:=by
 induction l with
 |nil=>intro p hp c hc;simp [EF] at hp;subst hp;simp at hc
 |cons x l ih=>
  have ih:=ih λc hc=>h c (List.mem_cons_of_mem _ hc)
  intro p hp c hc;unfold EF at hp;split at hp
  ·rcases List.mem_cons.mp hp with rfl|e
   ·simp at hc
   ·exact ih p e c hc
  ·cases hs:EF l with
   |nil=>exact absurd hs (Jz l)
   |cons q t=>
    rw [hs] at hp ih;simp only [Sy] at hp;rcases List.mem_cons.mp hp with rfl|e
    ·rcases List.mem_cons.mp hc with rfl|e
     ·exact h c (List.mem_cons_self ..)
     ·exact ih q (List.mem_cons_self ..) c e
    ·exact ih p (List.mem_cons_of_mem _ e) c hc
theorem LM (l:List Int):l.length+1=((EF l).map List.length).sum+(EF l).length:=by
 induction l with
 |nil=>rfl
 |cons x l ih=>
  unfold EF;split
  ·simp only [List.length_cons,List.map_cons,List.sum_cons,List.length_nil];omega
  ·cases hs:EF l with
   |nil=>exact absurd hs (Jz l)
   |cons q t=>
    rw [hs] at ih;simp only [Sy,List.length_cons,List.map_cons,List.sum_cons] at ih⊢
    omega
def parts (s:ByteArray):List ByteArray:=(EF (bytesOf s)).map strOfNums
theorem KU (s:ByteArray):(parts s).map bytesOf=EF (bytesOf s):=by
 unfold parts;rw [List.map_map]
 conv=>rhs;rw [<-List.map_id (EF (bytesOf s))]
 exact List.map_congr_left λp hp=>Ed (Mq (λc hc=>FZ hc) p hp)
theorem Lm {a b:List ByteArray} (h:a.map bytesOf=b.map bytesOf):a=b:=by
 induction a generalizing b with
 |nil=>cases b with
  |nil=>rfl
  |cons=>simp at h
 |cons x a ih=>cases b with
  |nil=>simp at h
  |cons y b=>
   simp only [List.map_cons,List.cons.injEq] at h;rw [Es h.1,ih h.2]
theorem Oz (n:Nat):∀ l:List UInt8,l.length<=n->(Lib.splitK [46] 0 (Lib.count l [46]) l).map (List.map λb=>(b.toNat:Int))=EF (l.map λb=>(b.toNat:Int)):=by
 induction n with
 |zero=>
  intro l hl;have:l=[]:=List.length_eq_zero_iff.mp (by omega);subst this;rfl
 |succ n ih=>
  intro l hl;by_cases hm:Lib.index l [46]= -1
  ·have hb:=hm;rw [Lib.index_one] at hb;rw [Lib.count_miss hm];rw [KT]
   ·rfl
   ·intro c hc;obtain ⟨b,hb2,rfl⟩:=List.mem_map.mp hc;obtain ⟨k,hk,hk2⟩:=List.getElem_of_mem hb2;have:=Lib.indexByte_none hb k;intro e;apply this;rw [List.getElem?_eq_getElem hk,hk2];congr 1;exact UInt8.toNat_inj.mp (by simp;omega)
  ·have hge:=Lib.index_ge l [46];obtain ⟨i,hi⟩:∃ i:Nat,Lib.index l [46]=i:=⟨(Lib.index l [46]).toNat,by omega⟩;have hb:=hi;rw [Lib.index_one] at hb;obtain ⟨h1,h2⟩:=Lib.indexByte_some hb;have hlt:i<l.length:=by
    rcases Nat.lt_or_ge i l.length with h|h
    ·exact h
    ·rw [List.getElem?_eq_none h] at h1;cases h1
   rw [Lib.count_hit (by simp) hi,Nat.add_comm 1];have hs:l.map (λb=>(b.toNat:Int))=(l.take i).map (λb=>(b.toNat:Int))++46::(l.drop (i+1)).map (λb=>(b.toNat:Int)):=by
    conv=>lhs;rw [<-List.take_append_drop i l,List.drop_eq_getElem_cons hlt]
    rw [List.map_append,List.map_cons];rw [List.getElem?_eq_getElem hlt] at h1;rw [Option.some.inj h1];rfl
   rw [hs,LK,Lib.splitK,if_neg (by simpa using hm),hi]
   ·simp only [List.map_cons,Int.toNat_natCast,Nat.add_zero,List.length_cons,List.length_nil,Nat.zero_add];rw [ih _ (by rw [List.length_drop];omega)]
   ·intro c hc;obtain ⟨b,hb2,rfl⟩:=List.mem_map.mp hc;obtain ⟨k,hk,hk2⟩:=List.getElem_of_mem hb2;rw [List.length_take] at hk;have:=h2 k (by omega);intro e;apply this;rw [List.getElem_take] at hk2;rw [List.getElem?_eq_getElem (by omega),hk2];congr 1;exact UInt8.toNat_inj.mp (by simp;omega)
theorem Nv (s:ByteArray):Ku s (⟨#[46]⟩:ByteArray)=parts s:=by
 apply Lm;rw [KU];have h:=Lib.splitB_data (⟨#[46]⟩:ByteArray) 0 (Lib.countB s ⟨#[46]⟩) s;have h2:=Oz s.data.toList.length s.data.toList (Nat.le_refl _);unfold Ku;have e:bytesOf=(λl:List UInt8=>l.map λb=>(b.toNat:Int))∘λx:ByteArray=>x.data.toList:=rfl
 rw [e, <-List.map_map,h];exact h2
theorem Pq {s:ByteArray} (hs:s.size<4294967281):strings_Split.f s (⟨#[46]⟩:ByteArray)=some (parts s):=by
 unfold strings_Split.f;rw [if_pos ⟨hs,by decide⟩,Nv]
theorem QY {l:List Int} {a k:Nat} {c:Int} {r:List Int} (hak:a<=k) (h:l.drop k=c::r):(l.drop a).take (k+1 - a)=(l.drop a).take (k - a)++[c]:=by
 have hk:l[k]? =some c:=by
  have:=congrArg (λx=>x[0]?) h;simpa [List.getElem?_drop] using this
 rw [show k+1 - a=(k - a)+1 by omega,List.take_add_one,List.getElem?_drop,show a+(k - a)=k by omega,hk];rfl
theorem Wd (s:ByteArray) (hs:s.size<=4294967296) (d:Nat):∀ (a k:Nat) (acc:List ByteArray),k+d=s.size->a<=k->acc.length<=a->(∀ c∈((bytesOf s).drop a).take (k - a),c≠46)->Ev (λn=>Bo.l0 n s acc a k) (acc++(EF ((bytesOf s).drop a)).map strOfNums):=by
 induction d with
 |zero=>
  intro a k acc hk hak hacc hno;apply BQ;simp only [Bo.l0];refine Aq (by omega) (AZ (by omega) (AZ (by omega) (AZ (by omega) (Ba (Ay _) ?_))));have hl:=bytesOf_length s;rw [List.take_of_length_le (by rw [List.length_drop];omega)] at hno;rw [KT hno];congr 1;simp only [List.map_cons,List.map_nil];congr 1;apply Es;rw [Gd,Ed λc hc=>FZ (List.mem_of_mem_drop hc),Int.toNat_natCast,List.take_of_length_le (by rw [List.length_drop];omega)]
 |succ d ih=>
  intro a k acc hk hak hacc hno;apply BQ;simp only [Bo.l0];refine AZ (by omega) (AZ (by omega) ?_);have hw:wrap64 ((k:Int)+1)=((k+1:Nat):Int):=by rw [Kn (by omega) (by omega)];omega
  rw [hw];have hl:=bytesOf_length s;rcases EI s (i:=k) (by omega) with ⟨h1,_⟩|⟨h1,h2⟩
  ·omega
  ·by_cases hc:bt s k=46
   ·refine AZ hc (AZ (by omega) (AZ (by omega) (AZ (by omega) (AZ (by omega) ?_))));refine Ba (ih (k+1) (k+1) _ (by omega) (by omega) (by simp;omega) (by simp)) ?_;rw [hc] at h2;have e:(bytesOf s).drop a=((bytesOf s).drop a).take (k - a)++46::(bytesOf s).drop (k+1):=by
     conv=>lhs;rw [<-List.take_append_drop (k - a) ((bytesOf s).drop a)]
     rw [List.drop_drop,show a+(k - a)=k by omega,h2]
    rw [e,LK hno,List.map_cons,List.append_assoc];congr 1;rw [List.singleton_append];congr 1;apply Es;rw [Gd,Ed λc hc=>FZ (List.mem_of_mem_drop (List.mem_of_mem_take hc)),Int.toNat_natCast,Int.toNat_natCast]
   ·refine Aq hc (ih a (k+1) acc (by omega) (by omega) hacc ?_);rw [QY hak h2];intro c hcm;rcases List.mem_append.mp hcm with e|e
    ·exact hno c e
    ·simp only [List.mem_singleton] at e;rw [e];exact hc
theorem Jh {s:ByteArray} (hs:s.size<=4294967296):Ev (λn=>Bo.f n s) (parts s):=by
 simp only [Bo.f];have:=Wd s hs s.size 0 0 [] (by omega) (Nat.le_refl _) (Nat.le_refl _) (by simp);simpa [parts] using this
def KV (c:Int):Bool:=decide (97<=c/\c<=122)||decide (48<=c/\c<=57)||decide (c=45)
def Mr (s:ByteArray):Bool:=decide (1<=s.size)&&(decide (s.size<=63)&&(!decide (bt s 0=45)&&(!decide (bt s ((s.size:Int) - 1)=45)&&(bytesOf s).all KV)))
theorem QZ (s:ByteArray) (hs:s.size<=63) (d:Nat):∀ k:Nat,k+d=s.size->Ev (λn=>Aw.l0 n s k) (((bytesOf s).drop k).all KV):=by
 induction d with
 |zero=>
  intro k hk;apply BQ;simp only [Aw.l0];have hl:=bytesOf_length s;exact Aq (by omega) (Ba (Ay _) (by rw [List.drop_eq_nil_of_le (by omega)];rfl))
 |succ d ih=>
  intro k hk;apply BQ;simp only [Aw.l0];have hw:wrap64 ((k:Int)+1)=((k+1:Nat):Int):=by rw [Kn (by omega) (by omega)];omega
  rw [hw];refine AZ (by omega) (AZ (by omega) ?_);rcases EI s (i:=k) (by omega) with ⟨h1,_⟩|⟨h1,h2⟩
  ·omega
  ·have ih:=ih (k+1) (by omega);rw [h2,List.all_cons];have yes:KV (bt s k)=true->Ev (λn=>Aw.l0 n s ((k+1:Nat):Int)) (KV (bt s k)&&((bytesOf s).drop (k+1)).all KV):=λh=>Ba ih (by rw [h];rfl)
   have no:KV (bt s k)=false->Ev (λ_=>some false) (KV (bt s k)&&((bytesOf s).drop (k+1)).all KV):=λh=>Ba (Ay _) (by rw [h];rfl)
   have fin:Ev (λn=>if bt s k=45 then Aw.l0 n s ((k+1:Nat):Int) else some false) (KV (bt s k)&&((bytesOf s).drop (k+1)).all KV)\/(97<=bt s k/\bt s k<=122)\/(48<=bt s k/\bt s k<=57):=by
    by_cases a:97<=bt s k/\bt s k<=122
    ·exact .inr (.inl a)
    ·by_cases b:48<=bt s k/\bt s k<=57
     ·exact .inr (.inr b)
     ·left;by_cases c:bt s k=45
      ·exact AZ c (yes (by unfold KV;rw [decide_eq_true c];simp))
      ·exact Aq c (no (by unfold KV;rw [decide_eq_false a,decide_eq_false b,decide_eq_false c];rfl))
   by_cases a:bt s k>=97
   ·refine AZ a ?_;by_cases b:bt s k<=122
    ·exact AZ b (yes (by unfold KV;rw [decide_eq_true ⟨a,b⟩];rfl))
    ·refine Aq b (AZ (by omega) (Aq (by omega) ?_));rcases fin with h|h|h
     ·exact h
     ·omega
     ·omega
   ·refine Aq a ?_;by_cases b:bt s k>=48
    ·refine AZ b ?_;by_cases c:bt s k<=57
     ·exact AZ c (yes (by unfold KV;rw [decide_eq_true (p:=48<=bt s k/\bt s k<=57) ⟨b,c⟩];simp))
     ·refine Aq c ?_;rcases fin with h|h|h
      ·exact h
      ·omega
      ·omega
    ·refine Aq b ?_;rcases fin with h|h|h
     ·exact h
     ·omega
     ·omega
theorem Sz (s:ByteArray) (hs:s.size<=140737488351232):Ev (λn=>Aw.f n s) (Mr s):=by
 have no:Mr s=false->Ev (λn=>Aw.j0 n s true) (Mr s):=λh=>by
  apply BQ;simp only [Aw.j0];exact AZ (by trivial) (Ba (Ay _) h.symm)
 simp only [Aw.f];unfold Mr at no⊢
 by_cases h1:(s.size:Int)<1
 ·exact AZ h1 (no (by rw [decide_eq_false (show ¬1<=s.size by omega)];rfl))
 ·refine Aq h1 ?_;by_cases h2:(s.size:Int)>63
  ·exact AZ h2 (no (by rw [decide_eq_false (show ¬s.size<=63 by omega)];simp))
  ·refine Aq h2 (AZ (by omega) ?_);by_cases h3:bt s 0=45
   ·exact AZ h3 (no (by rw [decide_eq_true h3];simp))
   ·refine Aq h3 ?_;rw [Kn (by omega) (by omega)];refine AZ (by omega) (AZ (by omega) ?_);by_cases h4:bt s ((s.size:Int) - 1)=45
    ·rw [beq_iff_eq.mpr h4];exact no (by rw [decide_eq_true h4];simp)
    ·rw [beq_eq_false_iff_ne.mpr h4];apply BQ;simp only [Aw.j0];refine Aq (by simp) (Ba (QZ s (by omega) s.size 0 (by omega)) ?_);rw [decide_eq_true (show 1<=s.size by omega),decide_eq_true (show s.size<=63 by omega),decide_eq_false h3,decide_eq_false h4];rfl
theorem Iu {l:List ByteArray} {i:Nat} {c:ByteArray} {r:List ByteArray} (h:l.drop i=c::r):Dw ByteArray.empty l (i:Int)=c:=by
 unfold Dw;have:=congrArg (λx=>x[0]?) h;simp only [List.getElem?_drop,Nat.add_zero,List.getElem?_cons_zero] at this;rw [Int.toNat_natCast,List.getD_eq_getElem?_getD,this];rfl
theorem Hm {α:Type} (l:List α) {i:Nat} (h:i<=l.length):(i=l.length/\l.drop i=[])\/(∃ c,i<l.length/\l.drop i=c::l.drop (i+1)):=by
 rcases Nat.lt_or_ge i l.length with h1|h1
 ·exact .inr ⟨l[i],h1,List.drop_eq_getElem_cons h1⟩
 ·exact .inl ⟨by omega,List.drop_eq_nil_of_le h1⟩
theorem VF (c:Int) (e:Bool):FQ.f c e=some (KV c&& !(e&&decide (c=45))):=by
 unfold FQ.f KV;by_cases a:c>=97
 ·rw [if_pos a];by_cases b:c<=122
  ·rw [if_pos b,decide_eq_true (show 97<=c/\c<=122 from ⟨a,b⟩),decide_eq_false (show ¬c=45 by omega)];simp
  ·rw [if_neg b,if_pos (by omega),if_neg (by omega),if_neg (by omega),decide_eq_false (by omega),decide_eq_false (by omega),decide_eq_false (by omega)];rfl
 ·rw [if_neg a];by_cases b:c>=48
  ·rw [if_pos b];by_cases d:c<=57
   ·rw [if_pos d,decide_eq_true (show 48<=c/\c<=57 from ⟨b,d⟩),decide_eq_false (show ¬c=45 by omega)];simp
   ·rw [if_neg d,if_neg (by omega),decide_eq_false (by omega),decide_eq_false (by omega),decide_eq_false (by omega)];rfl
  ·rw [if_neg b];by_cases d:c=45
   ·rw [if_pos d,decide_eq_true d];simp
   ·rw [if_neg d,decide_eq_false (by omega),decide_eq_false (by omega),decide_eq_false d];rfl
def Ms (s:ByteArray) (i:Nat):Bool:=decide (i=0)||decide (i+1=s.size)
def LP (s:ByteArray) (i:Nat):Bool:=KV (bt s i)&& !(Ms s i&&decide (bt s i=45))
def FM (s:ByteArray) (i d:Nat):Bool:=(List.range' i d).all (LP s)
theorem Nw (s:ByteArray) (l:List ByteArray) (n j:Int) (hs:s.size<=63) (r:Bool) (K:Ev (λk=>CE.l0 k l n (wrap64 (j+1))) r) (d:Nat):∀ i:Nat,i+d=s.size->Ev (λk=>CE.l1 k s l n j (s.size:Int) i) (FM s i d&&r):=by
 induction d with
 |zero=>
  intro i hi;apply BQ;simp only [CE.l1];exact Aq (by omega) (Ba K (by simp [FM]))
 |succ d ih=>
  intro i hi;have ih:=ih (i+1) (by omega);have hw:wrap64 ((i:Int)+1)=((i+1:Nat):Int):=by rw [Kn (by omega) (by omega)];omega
  have hf:FM s i (d+1)=(LP s i&&FM s (i+1) d):=by unfold FM;rw [List.range'_succ,List.all_cons]
  have main:∀ e:Bool,e=Ms s i->Ev (λk=>(FQ.f (bt s i) e).bind λt=>if t=true then CE.l1 k s l n j (s.size:Int) ((i+1:Nat):Int) else some false) (FM s i (d+1)&&r):=by
   intro e he;rw [VF,hf,he];show Ev _ (((KV (bt s i)&& !(Ms s i&&decide (bt s i=45)))&&FM s (i+1) d)&&r);cases (KV (bt s i)&& !(Ms s i&&decide (bt s i=45))) with
   |true=>exact Az (Ay true) (AZ rfl ih)
   |false=>exact Az (Ay false) (Aq (by simp) (Ay _))
  apply BQ;simp only [CE.l1];rw [hw];refine AZ (by omega) (AZ (by omega) (AZ (by omega) ?_));by_cases h0:(i:Int)=0
  ·exact AZ h0 (main true (by unfold Ms;rw [decide_eq_true (show i=0 by omega)];rfl))
  ·refine Aq h0 (main _ ?_);unfold Ms;rw [Kn (by omega) (by omega),decide_eq_false (show ¬i=0 by omega),Bool.false_or,Bool.eq_iff_iff,beq_iff_eq,decide_eq_true_iff];omega
theorem Ny (s:ByteArray) (d:Nat):∀ i,1<=i->i+d+1=s.size->FM s i d=(((bytesOf s).drop i).take d).all KV:=by
 induction d with
 |zero=>intro i _ _;simp [FM]
 |succ d ih=>
  intro i h1 h2;have hl:=bytesOf_length s;rcases EI s (i:=i) (by omega) with ⟨h3,_⟩|⟨h3,h4⟩
  ·omega
  ·have ih:=ih (i+1) (by omega) (by omega);unfold FM at ih⊢
   rw [List.range'_succ,List.all_cons,ih,h4,List.take_succ_cons,List.all_cons];congr 1;unfold LP Ms;rw [decide_eq_false (show ¬i=0 by omega),decide_eq_false (show ¬i+1=s.size by omega)];simp
theorem Wy (s:ByteArray):Mr s=(decide (1<=s.size)&&(decide (s.size<=63)&&FM s 0 s.size)):=by
 unfold Mr;by_cases h1:1<=s.size
 ·rw [decide_eq_true h1];by_cases h2:s.size<=63
  ·rw [decide_eq_true h2,Bool.true_and,Bool.true_and,Bool.true_and,Bool.true_and];have hl:=bytesOf_length s;by_cases he:s.size=1
   ·rcases EI s (i:=0) (by omega) with ⟨h3,_⟩|⟨h3,h4⟩
    ·omega
    ·rw [List.drop_zero] at h4;have h5:(bytesOf s).drop (0+1)=[]:=List.drop_eq_nil_of_le (by omega);rw [h5] at h4;rw [h4,he];simp only [FM,List.range'_one,List.all_cons,List.all_nil,Bool.and_true,LP,Ms];rw [show ((1:Nat):Int) - 1=((0:Nat):Int) by omega];show ((!decide (bt s ((0:Nat):Int)=45))&&_)=_;generalize decide (bt s ((0:Nat):Int)=45)=x;generalize KV (bt s ((0:Nat):Int))=y;cases x<;>cases y<;>simp
   ·obtain ⟨m,hm⟩:∃ m,s.size=m+2:=⟨s.size - 2,by omega⟩;have hmid:=Ny s m 1 (by omega) (by omega);rcases EI s (i:=0) (by omega) with ⟨h3,_⟩|⟨h3,h4⟩
    ·omega
    ·rw [List.drop_zero] at h4;rcases EI s (i:=m+1) (by omega) with ⟨h5,_⟩|⟨h5,h6⟩
     ·omega
     ·have h7:(bytesOf s).drop (m+1+1)=[]:=List.drop_eq_nil_of_le (by omega);rw [h7] at h6;have e:bytesOf s=bt s ((0:Nat):Int)::((((bytesOf s).drop 1).take m)++[bt s ((m+1:Nat):Int)]):=by
       conv=>lhs;rw [h4]
       congr 1;show (bytesOf s).drop 1=_
       conv=>lhs;rw [<-List.take_append_drop m ((bytesOf s).drop 1)]
       rw [List.drop_drop,show 1+m=m+1 by omega,h6]
      have f:FM s 0 (m+2)=(LP s 0&&(FM s 1 m&&LP s (m+1))):=by
       unfold FM;rw [List.range'_succ,List.all_cons,show m+1=m+1 from rfl,List.range'_concat,List.all_append];simp;rw [Nat.add_comm 1 m]
      conv=>lhs;rw [show (bytesOf s).all KV=(bt s ((0:Nat):Int)::((((bytesOf s).drop 1).take m)++[bt s ((m+1:Nat):Int)])).all KV by rw [<-e]]
      rw [hm,f,hmid];rw [List.all_cons,List.all_append];simp only [LP,Ms,List.all_cons,List.all_nil,Bool.and_true];rw [show ((m+2:Nat):Int) - 1=((m+1:Nat):Int) by omega,decide_eq_true (show m+1+1=s.size by omega)];show ((!decide (bt s ((0:Nat):Int)=45))&&_)=_;generalize decide (bt s ((0:Nat):Int)=45)=x;generalize KV (bt s ((0:Nat):Int))=y;generalize decide (bt s ((m+1:Nat):Int)=45)=z;generalize KV (bt s ((m+1:Nat):Int))=u;generalize List.all _ KV=v;cases x<;>cases y<;>cases z<;>cases u<;>cases v<;>simp
  ·rw [decide_eq_false h2];simp
 ·rw [decide_eq_false h1];rfl
theorem We (l:List ByteArray) (hl:l.length<=8796093022208) (d:Nat):∀ i:Nat,i+d=l.length->Ev (λk=>CE.l0 k l (l.length:Int) i) ((l.drop i).all Mr):=by
 induction d with
 |zero=>
  intro i hi;apply BQ;simp only [CE.l0];exact Aq (by omega) (Ba (Ay _) (by rw [List.drop_eq_nil_of_le (by omega)];rfl))
 |succ d ih=>
  intro i hi;apply BQ;simp only [CE.l0];refine AZ (by omega) (AZ (by omega) (AZ (by omega) ?_));rcases Hm l (i:=i) (by omega) with ⟨h1,_⟩|⟨c,h1,h2⟩
  ·omega
  ·rw [Iu h2,h2,List.all_cons];have ih:=ih (i+1) (by omega);have hw:wrap64 ((i:Int)+1)=((i+1:Nat):Int):=by rw [Kn (by omega) (by omega)];omega
   have no:Mr c=false->Ev (λk=>CE.j1 k c l (l.length:Int) i true) (Mr c&&(l.drop (i+1)).all Mr):=λh=>by
    apply BQ;simp only [CE.j1];exact AZ (by trivial) (Ba (Ay _) (by rw [h];rfl))
   by_cases a:(c.size:Int)<1
   ·exact AZ a (no (by unfold Mr;rw [decide_eq_false (show ¬1<=c.size by omega)];rfl))
   ·refine Aq a ?_;by_cases b:(c.size:Int)>63
    ·rw [decide_eq_true b];exact no (by unfold Mr;rw [decide_eq_false (show ¬c.size<=63 by omega)];simp)
    ·rw [decide_eq_false b];apply BQ;simp only [CE.j1];refine Aq (by simp) (Ba (Nw c l _ i (by omega) _ (by rw [hw];exact ih) c.size 0 (by omega)) ?_);rw [Wy,decide_eq_true (show 1<=c.size by omega),decide_eq_true (show c.size<=63 by omega)];rfl
theorem Rb {l:List ByteArray} (hl:l.length<=8796093022208):Ev (λk=>CE.f k l) (l.all Mr):=by
 have:=We l hl l.length 0 (by omega);simpa [CE.f] using this
def Gf (s:ByteArray):ByteArray×Bool:=if s.size<=64/\(parts (Hq s)).all Mr=true then (Hq s,true) else (⟨#[]⟩,false)
theorem Iw (s:ByteArray):(parts s).length<=s.size+1:=by
 have:=LM (bytesOf s);rw [bytesOf_length] at this;unfold parts;rw [List.length_map];omega
theorem Rc (s:ByteArray):Ev (λk=>Fq.f k s) (Gf s):=by
 simp only [Fq.f];unfold Gf;by_cases h:(s.size:Int)>64
 ·exact AZ h (Ba (Ay _) (by rw [if_neg (by omega)]))
 ·refine Aq h ?_;have hs:=Nu s;have hp:=Iw (Hq s);rw [VE (by omega)];refine Az (Ay _) ?_;rw [Pq (by omega)];refine Az (Ay _) (Az (Rb (by omega)) ?_);by_cases hr:(parts (Hq s)).all Mr=true
  ·exact AZ hr (Ba (Ay _) (by rw [if_pos ⟨by omega,hr⟩]))
  ·exact Aq hr (Ba (Ay _) (by rw [if_neg λe=>hr e.2]))
theorem LQ (s:ByteArray) (l:List ByteArray) (hl:l.length<=8796093022208) (hsz:∀ p∈l,p.size<=140737488351232) (d:Nat):∀ i:Nat,i+d=l.length->Ev (λk=>BM.l0 k s l i) (if (l.drop i).all Mr=true then (s,true) else (⟨#[]⟩,false)):=by
 induction d with
 |zero=>
  intro i hi;apply BQ;simp only [BM.l0];exact Aq (by omega) (Ba (Ay _) (by rw [List.drop_eq_nil_of_le (by omega)];rfl))
 |succ d ih=>
  intro i hi;apply BQ;simp only [BM.l0];refine AZ (by omega) (AZ (by omega) ?_);rcases Hm l (i:=i) (by omega) with ⟨h1,_⟩|⟨c,h1,h2⟩
  ·omega
  ·have ih:=ih (i+1) (by omega);have hw:wrap64 ((i:Int)+1)=((i+1:Nat):Int):=by rw [Kn (by omega) (by omega)];omega
   rw [Iu h2,h2,List.all_cons,hw];refine Az (Sz c (hsz c (List.mem_of_mem_drop (by rw [h2];exact List.mem_cons_self ..)))) ?_;by_cases hc:Mr c=true
   ·refine AZ hc (Ba ih ?_);rw [hc,Bool.true_and]
   ·refine Aq hc (Ba (Ay _) ?_);rw [Bool.not_eq_true] at hc;rw [hc];rfl
theorem TA {l:List Nat} {x:Nat} (h:x∈l):x<=l.sum:=by
 induction l with
 |nil=>simp at h
 |cons y l ih=>
  rw [List.sum_cons];rcases List.mem_cons.mp h with rfl|e
  ·omega
  ·have:=ih e;omega
theorem LU {s p:ByteArray} (h:p∈parts s):p.size<=s.size:=by
 have h1:bytesOf p∈EF (bytesOf s):=by rw [<-KU];exact List.mem_map_of_mem h
 have h2:=LM (bytesOf s);have h3:(bytesOf p).length<=((EF (bytesOf s)).map List.length).sum:=TA (List.mem_map_of_mem h1);have h4:1<=(EF (bytesOf s)).length:=List.length_pos_iff.mpr (Jz _);rw [bytesOf_length] at h2 h3;omega
theorem Mt {s:ByteArray} (hs:s.size<=140737488351232):Ev (λk=>BM.f k s) (Gf s):=by
 simp only [BM.f];rw [QX (by omega)];refine Az (Ay _) ?_;have hz:=Nu s;have no:¬(s.size<=64/\(parts (Hq s)).all Mr=true)->Ev (λn=>BM.j0 n (Hq s) true) (Gf s):=λh=>by
  apply BQ;simp only [BM.j0];exact AZ (by trivial) (Ba (Ay _) (by unfold Gf;rw [if_neg h]))
 by_cases h1:((Hq s).size:Int)<1
 ·refine AZ h1 (no λh=>?_);have hb:bytesOf (Hq s)=[]:=Kb.mpr (by omega);have h2:=h.2;unfold parts at h2;rw [hb] at h2;exact absurd h2 (by decide+kernel)
 ·refine Aq h1 ?_;by_cases h2:((Hq s).size:Int)>64
  ·rw [decide_eq_true h2];exact no λh=>by omega
  ·rw [decide_eq_false h2];apply BQ;simp only [BM.j0];have hp:=Iw (Hq s);refine Aq (by simp) (Az (Jh (by omega)) (Ba (LQ (Hq s) _ (by omega) (λp hp=>by have:=LU hp;omega) (parts (Hq s)).length 0 (by omega)) ?_));rw [List.drop_zero];unfold Gf;by_cases hr:(parts (Hq s)).all Mr=true
   ·rw [if_pos hr,if_pos ⟨by omega,hr⟩]
   ·rw [if_neg hr,if_neg λe=>hr e.2]
def Nz (p:ByteArray):Bool:=(FW p).2&&(decide (0<=(FW p).1)&&decide ((FW p).1<=255))
def VG (s:ByteArray):Bool:=(parts s).all Nz&&decide ((parts s).length=4)
theorem MC (p:ByteArray) (g:Nat->Option Bool) (r:Bool) (h:Ev g r) (x:Int×Bool) (hx:x=FW p):Ev (λk=>if x.2=true then (if x.1<0 then some false else if x.1>255 then some false else g k) else some false) (Nz p&&r):=by
 subst hx;unfold Nz;by_cases a:(FW p).2=true
 ·refine AZ a ?_;by_cases b:(FW p).1<0
  ·exact AZ b (Ba (Ay _) (by rw [a,decide_eq_false (show ¬0<=(FW p).1 by omega)];rfl))
  ·refine Aq b ?_;by_cases c:(FW p).1>255
   ·exact AZ c (Ba (Ay _) (by rw [a,decide_eq_false (show ¬(FW p).1<=255 by omega)];simp))
   ·exact Aq c (Ba h (by rw [a,decide_eq_true (show 0<=(FW p).1 by omega),decide_eq_true (show (FW p).1<=255 by omega)];rfl))
 ·refine Aq a (Ba (Ay _) ?_);rw [Bool.not_eq_true] at a;rw [a];rfl
theorem TB (l:List ByteArray) (hl:l.length<=8796093022208) (d:Nat):∀ i:Nat,i+d=l.length->Ev (λk=>EW.l0 k l l (l.length:Int) i) ((l.drop i).all Nz&&decide (l.length=4)):=by
 induction d with
 |zero=>
  intro i hi;apply BQ;simp only [EW.l0];refine Aq (by omega) (Ba (Ay _) ?_);rw [List.drop_eq_nil_of_le (by omega),List.all_nil,Bool.true_and,Bool.eq_iff_iff,beq_iff_eq,decide_eq_true_iff];omega
 |succ d ih=>
  intro i hi;apply BQ;simp only [EW.l0];refine AZ (by omega) (AZ (by omega) (AZ (by omega) ?_));rcases Hm l (i:=i) (by omega) with ⟨h1,_⟩|⟨c,h1,h2⟩
  ·omega
  ·have ih:=ih (i+1) (by omega);have hw:wrap64 ((i:Int)+1)=((i+1:Nat):Int):=by rw [Kn (by omega) (by omega)];omega
   rw [Iu h2,h2,List.all_cons,hw,Bool.and_assoc];exact Az (Ay (FW c)) (MC c _ _ ih _ rfl)
theorem VH {s:ByteArray} (hs:s.size<4294967281):Ev (λk=>EW.f k s) (VG s):=by
 simp only [EW.f];rw [Pq hs];have hp:=Iw s;refine Az (Ay _) (Ba (TB (parts s) (by omega) _ 0 (Nat.zero_add _)) ?_);rw [List.drop_zero];rfl
theorem N7 (l:List ByteArray) (hl:l.length<=8796093022208) (hsz:∀ p∈l,p.size<=140737488351232) (d:Nat):∀ i:Nat,i+d=l.length->Ev (λk=>CX.l0 k l i) ((l.drop i).all Nz&&decide (l.length=4)):=by
 induction d with
 |zero=>
  intro i hi;apply BQ;simp only [CX.l0];refine Aq (by omega) (Ba (Ay _) ?_);rw [List.drop_eq_nil_of_le (by omega),List.all_nil,Bool.true_and,Bool.eq_iff_iff,beq_iff_eq,decide_eq_true_iff];omega
 |succ d ih=>
  intro i hi;apply BQ;simp only [CX.l0];refine AZ (by omega) (AZ (by omega) ?_);rcases Hm l (i:=i) (by omega) with ⟨h1,_⟩|⟨c,h1,h2⟩
  ·omega
  ·have ih:=ih (i+1) (by omega);have hw:wrap64 ((i:Int)+1)=((i+1:Nat):Int):=by rw [Kn (by omega) (by omega)];omega
   rw [Iu h2,h2,List.all_cons,hw,Bool.and_assoc];exact Az (Ns (hsz c (List.mem_of_mem_drop (by rw [h2];exact List.mem_cons_self ..)))) (MC c _ _ ih _ rfl)
theorem Qa {s:ByteArray} (hs:s.size<4294967281):Ev (λk=>CX.f k s) (VG s):=by
 simp only [CX.f];have hp:=Iw s;refine Az (Jh (by omega)) (Ba (N7 (parts s) (by omega) (λp hp=>by have:=LU hp;omega) _ 0 (Nat.zero_add _)) ?_);rw [List.drop_zero];rfl
end Go.Proofs.YtohjohhcjcljoaaGreatDoor.Y
