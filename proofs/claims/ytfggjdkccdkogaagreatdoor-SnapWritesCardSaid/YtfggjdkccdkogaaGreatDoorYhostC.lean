/- What host.Canon and host.Ip, and their references, tell, as plain functions on texts; and that the printed ones come to it. -/
import Derived.Test.YtfggjdkccdkogaaGreatDoorPE
import Derived.Test.YtfggjdkccdkogaaGreatDoorPrint7
import Derived.Test.YtfggjdkccdkogaaGreatDoorYrank
import Derived.Lib.AtoiAll
import Derived.Lib.AtoiAllCases
import Derived.Lib.ItoaNum
import Derived.Lib.SplitLaws
namespace Go.Proofs.YtfggjdkccdkogaaGreatDoor.Y
set_option linter.unusedVariables false
set_option linter.unusedSimpArgs false
open RowKit Print Ac Aq Aw
def dd (n:Nat):List Int:=if n<10 then [48+(n:Int)] else dd (n/10)++[48+((n%10:Nat):Int)]
theorem OE {n:Nat} (h:n<10):dd n=[48+(n:Int)]:=by rw [dd,if_pos h]
theorem OG {n:Nat} (h:¬n<10):dd n=dd (n/10)++[48+((n%10:Nat):Int)]:=by rw [dd,if_neg h]
theorem QV (n:Nat):∀ x∈dd n,48<=x/\x<=57:=by
 induction n using Nat.strongRecOn with
 |_ n ih=>
  intro x hx;by_cases h:n<10
  ·rw [OE h] at hx;simp only [List.mem_singleton] at hx;omega
  ·rw [OG h] at hx;rcases List.mem_append.mp hx with e|e
   ·exact ih (n/10) (by omega) x e
   ·simp only [List.mem_singleton] at e;omega
theorem PM (n:Nat):0<(dd n).length:=by rw [dd];split<;>simp
theorem La (j:Nat):∀ n:Nat,(dd n).length<=j+1↔n<10^(j+1):=by
 induction j with
 |zero=>
  intro n;by_cases h:n<10
  ·rw [OE h];simp [h]
  ·rw [OG h];have:=PM (n/10);simp only [List.length_append,List.length_singleton];omega
 |succ j ih=>
  intro n;by_cases h:n<10
  ·rw [OE h];have:10^1<=10^(j+1+1):=Nat.pow_le_pow_right (by decide) (by omega);simp only [List.length_singleton];omega
  ·rw [OG h];have:=ih (n/10);simp only [List.length_append,List.length_singleton];rw [Nat.pow_succ];omega
theorem Ko (n:Nat):∀ x∈dd n,0<=x/\x<256:=λx hx=>by have:=QV n x hx;omega
theorem JL (n:Nat):(Lib.decDigits n).map (λb=>(b.toNat:Int))=dd n:=by
 induction n using Nat.strongRecOn with
 |_ n ih=>
  by_cases h:n<10
  ·rw [Lib.decDigits,dif_pos h,OE h];simp only [List.map_cons,List.map_nil,UInt8.toNat_ofNat'];congr 1;omega
  ·rw [Lib.decDigits,dif_neg h,OG h,List.map_append,ih (n/10) (by omega)];simp only [List.map_cons,List.map_nil,UInt8.toNat_ofNat'];congr 2;omega
def Gb (n:Int):List Int:=if n<0 then 45::dd n.natAbs else dd n.toNat
theorem QW (n:Int):∀ x∈Gb n,0<=x/\x<256:=by
 intro x hx;unfold Gb at hx;split at hx
 ·rcases List.mem_cons.mp hx with e|e
  ·omega
  ·exact Ko _ x e
 ·exact Ko _ x hx
theorem GR (n:Int):bytesOf (IK n)=Gb n:=by
 show ((Lib.itoa n).toArray.toList.map λb=>(b.toNat:Int))=Gb n;rw [List.toList_toArray];unfold Lib.itoa Gb;split
 ·rw [List.map_cons,JL];rfl
 ·rw [JL]
theorem VQ (n:Int):IK n=strOfNums (Gb n):=EP (by rw [GR,Ec (QW n)])
theorem Tk {s:ByteArray} {n:Int} (h:bytesOf s=Gb n):s.data.toList=Lib.itoa n:=by
 have:s=IK n:=EP (by rw [h,GR]);rw [this];show (Lib.itoa n).toArray.toList=_;rw [List.toList_toArray]
theorem Tm {n:Int} (h0: -9223372036854775808<=n) (h1:n<=9223372036854775807):(Gb n).length<=20:=by
 have e:(10:Nat)^(18+1)=10000000000000000000:=by decide
 unfold Gb;split
 ·have:=(La 18 n.natAbs).mpr (by omega);simp only [List.length_cons];omega
 ·have:=(La 18 n.toNat).mpr (by omega);omega
def JY:List Int->Nat->Option Nat
 |[],a=>some a
 |c::l,a=>if 48<=c/\c<=57 then JY l (10*a+(c - 48).toNat) else none
theorem QX (l m:List Int):∀ a,JY (l++m) a=(JY l a).bind (JY m):=by
 induction l with
 |nil=>intro a;rfl
 |cons c l ih=>
  intro a;simp only [List.cons_append,JY];split
  ·exact ih _
  ·rfl
theorem Tn {l:List Int} {c:Int} {a:Nat} (hc:48<=c/\c<=57):JY (l++[c]) a=(JY l a).map λm=>10*m+(c - 48).toNat:=by
 rw [QX];cases JY l a with
 |none=>rfl
 |some m=>simp only [Option.bind_some,Option.map_some,JY,if_pos hc]
theorem Ww (n:Nat):JY (dd n) 0=some n:=by
 induction n using Nat.strongRecOn with
 |_ n ih=>
  by_cases h:n<10
  ·rw [OE h];simp only [JY];rw [if_pos (by omega)];congr 1;omega
  ·rw [OG h,Tn (by omega),ih (n/10) (by omega),Option.map_some];congr 1;omega
theorem Sa {n:Nat} {c:Int} {l:List Int} (h:dd n=c::l):48<=c/\c<=57:=QV n c (by rw [h];exact List.mem_cons_self ..)
def Qw (n:Int):Prop:= -9223372036854775808<=n/\n<=9223372036854775807
theorem PN (a b:List UInt8):∀ (acc u:Nat),Lib.parseUint10 acc a= .ok u->Lib.parseUint10 acc (a++b)=Lib.parseUint10 u b:=by
 induction a with
 |nil=>
  intro acc u h;simp only [Lib.parseUint10] at h;injection h with h
  rw [h];rfl
 |cons c a ih=>
  intro acc u h;simp only [Lib.parseUint10,List.cons_append] at h⊢
  split at h
  ·rename_i h1;rw [if_pos h1];split at h
   ·cases h
   ·rename_i h2;rw [if_neg h2];split at h
    ·cases h
    ·rename_i h3;rw [if_neg h3];exact ih _ _ h
  ·cases h
theorem Tp (u:Nat):u<18446744073709551616->Lib.parseUint10 0 (Lib.decDigits u)= .ok u:=by
 induction u using Nat.strongRecOn with
 |_ u ih=>
  intro hu;by_cases h:u<10
  ·rw [Lib.decDigits,dif_pos h];have e:(UInt8.ofNat (48+u)).toNat=48+u:=by rw [UInt8.toNat_ofNat'];omega
   simp only [Lib.parseUint10,e];rw [if_pos (by omega),if_neg (by omega),if_neg (by omega)];congr 1;omega
  ·have e:(UInt8.ofNat (48+u%10)).toNat=48+u%10:=by rw [UInt8.toNat_ofNat'];omega
   rw [Lib.decDigits,dif_neg h,PN _ _ _ _ (ih (u/10) (by omega) (by omega))];simp only [Lib.parseUint10,e];rw [if_pos (by omega),if_neg (by omega),if_neg (by omega)];congr 1;omega
theorem QY (u:Nat):∃ c r,Lib.decDigits u=c::r/\c.toNat≠43/\c.toNat≠45:=by
 have h:=JL u;cases hd:Lib.decDigits u with
 |nil=>
  rw [hd] at h;have:=PM u;rw [<-h] at this;simp at this
 |cons c r=>
  rw [hd,List.map_cons] at h;have:=Sa h.symm;exact ⟨c,r,rfl,by omega,by omega⟩
theorem Kq {u:Nat} (hu:u<18446744073709551616):Lib.parseMag (Lib.decDigits u)= .ok u:=by
 obtain ⟨c,r,e,_⟩:=QY u;unfold Lib.parseMag;rw [if_neg (by rw [e];simp),Tp u hu]
theorem Tq {n:Int} (h:Qw n):Lib.atoiAll (Lib.itoa n)= .ok n:=by
 obtain ⟨h0,h1⟩:=h;unfold Lib.itoa;by_cases hn:n<0
 ·rw [if_pos hn,Lib.atoiAll_minus,Kq (by omega)];simp only [Lib.signed];rw [if_neg (by omega)];congr 1;omega
 ·rw [if_neg hn];obtain ⟨c,r,e,h43,h45⟩:=QY n.toNat;have hp:=Kq (u:=n.toNat) (by omega);rw [e] at hp⊢
  rw [Lib.atoiAll_plain c r h43 h45,hp];simp only [Lib.signless];rw [if_neg (by omega)];congr 1;omega
theorem Wx {l:List UInt8} {v:Int} (h:Lib.atoiAll l= .ok v):Qw v:=by
 unfold Lib.atoiAll at h;cases l with
 |nil=>cases h
 |cons c r=>
  simp only at h;split at h
  ·cases h
  ·cases h
  ·rename_i u hu;have:=Lib.parseMag_lt hu;split at h
   ·cases h
   ·split at h
    ·cases h
    ·rename_i h1 h2;injection h with h
     rw [<-h];unfold Qw;split<;>omega
theorem Tt {s:ByteArray} {n:Int} (h:Qw n) (hs:bytesOf s=Gb n):GU s=(n,true):=by
 have hl:=Tm h.1 h.2;rw [<-hs,bytesOf_length] at hl;have e:=Tk hs;have hb:(IK n).toList=s.toList:=by rw [Fa,GR,hs]
 unfold GU;rw [if_neg (by omega),e,Tq h];simp only [hb,if_true]
theorem Lx (s:ByteArray):(∃ n,Qw n/\bytesOf s=Gb n/\GU s=(n,true))\/((∀ n,Qw n->bytesOf s≠Gb n)/\GU s=(0,false)):=by
 by_cases h:∃ n,Qw n/\bytesOf s=Gb n
 ·obtain ⟨n,h1,h2⟩:=h;exact .inl ⟨n,h1,h2,Tt h1 h2⟩
 ·refine .inr ⟨λn h1 h2=>h ⟨n,h1,h2⟩,?_⟩;unfold GU;split
  ·rfl
  ·split
   ·rename_i v hv;split
    ·rename_i hb;rw [Fa,GR] at hb;exact absurd ⟨v,Wx hv,hb.symm⟩ h
    ·rfl
   ·rfl
theorem MK (n:Nat):∀ x:ByteArray,n<18446744073709551616->x.size+(dd n).length<=9223372036854775807->Ev (λk=>Bn.l0 k n x) (strOfNums (dd n++bytesOf x)):=by
 induction n using Nat.strongRecOn with
 |_ n ih=>
  intro x hn hl;apply Az;simp only [Bn.l0];by_cases h:n<10
  ·rw [OE h] at hl⊢
   simp only [List.length_singleton] at hl;refine Ab (by omega) ?_;simp only [Option.bind_some];refine AU (by rw [strOfNums_size];simp only [List.length_singleton];omega) (BJ (Ad _) ?_);rw [EU (by omega) (by omega),show (48+(n:Int))%256=48+(n:Int) by omega];apply EP;rw [Dm,Ec (by simp;omega),Ec];intro y hy;rcases List.mem_append.mp hy with e|e
   ·simp only [List.mem_singleton] at e;omega
   ·exact FZ e
  ·rw [OG h] at hl⊢
   simp only [List.length_append,List.length_singleton] at hl;refine AU (by omega) ?_;simp only [Option.bind_some];rw [show Int.tmod (n:Int) 10=((n%10:Nat):Int) by rw [Int.tmod_eq_emod_of_nonneg (by omega)];omega,EU (by omega) (by omega),show Int.tdiv (n:Int) 10=((n/10:Nat):Int) by rw [Int.tdiv_eq_ediv_of_nonneg (by omega)];omega,EU (by omega) (by omega),
    show (48+((n%10:Nat):Int))%256=48+((n%10:Nat):Int) by omega]
   refine AU (by rw [strOfNums_size];simp only [List.length_singleton];omega) (BJ (ih (n/10) (by omega) _ (by omega) (by rw [ByteArray.size_append,strOfNums_size];simp only [List.length_singleton];omega)) ?_);rw [Dm,Ec (by simp;omega),List.append_assoc]
theorem KE {n:Nat} (hn:n<18446744073709551616):Ev (λk=>Bn.f k n) (strOfNums (dd n)):=by
 have e:(10:Nat)^(19+1)=100000000000000000000:=by decide
 have:=(La 19 n).mpr (by omega);simp only [Bn.f];refine BJ (MK n _ hn (by simp only [show (⟨#[]⟩:ByteArray).size=0 from rfl];omega)) ?_;rw [Nh,List.append_nil]
theorem Kr {n:Int} (h:Qw n):Ev (λk=>Cv.f k n) (IK n):=by
 obtain ⟨h0,h1⟩:=h;rw [VQ];unfold Gb;simp only [Cv.f];by_cases hn:n<0
 ·rw [if_pos hn];have e:(10:Nat)^(18+1)=10000000000000000000:=by decide
  have hl:=(La 18 n.natAbs).mpr (by omega);refine AU hn ?_;rw [JV (n:=n+1) (by omega) (by omega),JV (n:= -(n+1)) (by omega) (by omega),EU (n:= -(n+1)) (by omega) (by omega),EU (n:= -(n+1)+1) (by omega) (by omega),show -(n+1)+1=(n.natAbs:Int) by omega];refine AY (KE (by omega)) (AU (by rw [strOfNums_size];omega) (BJ (Ad _) ?_));apply EP;rw [Dm,Ec (Ko _),Ec]
  ·rfl
  ·intro x hx;rcases List.mem_cons.mp hx with e|e
   ·omega
   ·exact Ko _ x e
 ·rw [if_neg hn];refine Ab hn ?_;rw [EU (by omega) (by omega),show n=(n.toNat:Int) by omega,Int.toNat_natCast];exact AY (KE (by omega)) (Ad _)
def J9 (s:ByteArray):Int×Bool:=match JY (bytesOf s) 0 with
 |some n=>(n,true)
 |none=>(0,false)
theorem M6 (s:ByteArray) (hs:s.size<=19) (d:Nat):∀ (i acc:Nat),i+d=s.size->acc<10^i->Ev (λk=>BA.l0 k s acc i) (match JY ((bytesOf s).drop i) acc with|some n=>((n:Int),true)|none=>(0,false)):=by
 induction d with
 |zero=>
  intro i acc hi ha;apply Az;simp only [BA.l0];rw [List.drop_eq_nil_of_le (by rw [bytesOf_length];omega)];exact Ab (by omega) (Ad _)
 |succ d ih=>
  intro i acc hi ha;apply Az;simp only [BA.l0];rcases Ea s (show i<=s.size by omega) with ⟨e,_⟩|⟨hlt,hd⟩
  ·omega
  rw [hd];obtain ⟨b0,b1⟩:=GH s i;generalize bt s i=c at*
  have h18:(10:Nat)^i<=10^18:=Nat.pow_le_pow_right (by decide) (by omega);have e18:(10:Nat)^18=1000000000000000000:=by decide
  refine AU (by omega) (AU (by omega) ?_);simp only [JY];by_cases h1:c<48
  ·rw [if_neg (by omega)];exact AU h1 (Ad _)
  by_cases h2:c>57
  ·rw [if_neg (by omega)];exact Ab h1 (AU h2 (Ad _))
  rw [if_pos (by omega)];refine Ab h1 (Ab h2 ?_);rw [EU (n:=10*(acc:Int)) (by omega) (by omega),EU b0 (by omega),EU (n:=10*(acc:Int)+c) (by omega) (by omega),EU (n:=10*(acc:Int)+c - 48) (by omega) (by omega),JV (n:=(i:Int)+1) (by omega) (by omega),
   show 10*(acc:Int)+c - 48=((10*acc+(c - 48).toNat:Nat):Int) by omega,show (i:Int)+1=((i+1:Nat):Int) by omega]
  exact ih (i+1) _ (by omega) (by rw [Nat.pow_succ];omega)
theorem IA (s:ByteArray) {most:Int} (hm:most<=19):Ev (λk=>BA.f k s most) (if 1<=s.size/\(s.size:Int)<=most then J9 s else (0,false)):=by
 simp only [BA.f];by_cases h1:(s.size:Int)<1
 ·rw [if_neg (by omega)];refine AU h1 (Az ?_);simp only [BA.j0];exact AU (by trivial) (Ad _)
 ·refine Ab h1 (Az ?_);simp only [BA.j0];by_cases h2:(s.size:Int)>most
  ·rw [if_neg (by omega),decide_eq_true h2];exact AU rfl (Ad _)
  ·rw [if_pos (by omega),decide_eq_false h2];refine Ab (by simp) ?_;have:=M6 s (by omega) s.size 0 0 (by omega) (by decide);unfold J9;simpa using this
theorem Sb {s:ByteArray} {n:Nat} (h:bytesOf s=dd n):J9 s=((n:Int),true):=by
 unfold J9;rw [h,Ww]
theorem PO {s:ByteArray} {l:List Int} (h:bytesOf s=l):s.size=l.length:=by rw [<-bytesOf_length,h]
theorem Jk {n:Int} (h:Qw n) {s:ByteArray}:(∀ m,Qw m->bytesOf s≠Gb m)->Ev (λk=>(Cv.f k n).bind λt=>if t.toList=s.toList then some (n,true) else some ((0:Int),false)) ((0:Int),false):=by
 intro hno;refine AY (Kr h) (Ab ?_ (Ad _));rw [Fa,GR];exact λe=>hno n h e.symm
theorem KF {n:Int} (h:Qw n) {s:ByteArray} (hs:bytesOf s=Gb n):Ev (λk=>(Cv.f k n).bind λt=>if t.toList=s.toList then some (n,true) else some ((0:Int),false)) (n,true):=by
 refine AY (Kr h) (AU ?_ (Ad _));rw [Fa,GR,hs]
theorem M7 {s:ByteArray} {n:Int} {b:Bool} (hs:s.size<=19) (h:J9 s=(n,b)):0<=n/\n<10000000000000000000:=by
 have hv:=Tj (IA s (most:=19) (by omega)) (IA s (most:=19) (by omega));have key:∀ (l:List Int) (a m:Nat),JY l a=some m->m<(a+1)*10^l.length:=by
  intro l;induction l with
  |nil=>intro a m h;simp only [JY] at h;have:=Option.some.inj h;simp;omega
  |cons c l ih=>
   intro a m h;simp only [JY] at h;split at h
   ·have:=ih _ _ h;rw [List.length_cons,Nat.pow_succ];have h2:(10*a+(c - 48).toNat+1)*10^l.length<=(a+1)*10*10^l.length:=Nat.mul_le_mul_right _ (by omega);rw [Nat.mul_comm (10^l.length) 10, <-Nat.mul_assoc];omega
   ·cases h
 unfold J9 at h;cases hm:JY (bytesOf s) 0 with
 |none=>rw [hm] at h;simp only [Prod.mk.injEq] at h;omega
 |some m=>
  rw [hm] at h;simp only [Prod.mk.injEq] at h;have:=key _ _ _ hm;rw [bytesOf_length] at this;have h2:(10:Nat)^s.size<=10^19:=Nat.pow_le_pow_right (by decide) hs;have e:(10:Nat)^19=10000000000000000000:=by decide
  omega
theorem QZ {s:ByteArray} (hs:s.size<=140737488351232):Ev (λk=>Au.f k s) (GU s):=by
 have hneg:∀ x4:Int,1<=x4->x4<=9223372036854775808->wrap64 (wrap64 (-(wrap64 (IntKind.u64.wrap (x4 - 1)))) - 1)= -x4/\Qw (-x4):=by
  intro x4 h1 h2;rw [EU (by omega) (by omega),JV (n:=x4 - 1) (by omega) (by omega),JV (n:= -(x4 - 1)) (by omega) (by omega),JV (by omega) (by omega)];exact ⟨by omega,by unfold Qw;omega⟩
 have main:∀ b:Bool,(b=true->0<s.size/\bt s 0=45)->(b=false->0<s.size->bt s 0≠45)->Ev (λk=>Au.j0 k s b) (GU s):=by
  intro b hb1 hb2;apply Az;simp only [Au.j0];cases b with
  |true=>
   obtain ⟨hpos,h45⟩:=hb1 rfl;have hd:bytesOf s=45::bytesOf (s.extract 1 s.size):=by
    rw [Dj];rcases Ea s (i:=0) (by omega) with ⟨e,_⟩|⟨_,hd⟩
    ·omega
    ·rw [List.drop_zero,show bt s ((0:Nat):Int)=45 from h45] at hd;rw [hd];simp only [Nat.zero_add,List.drop_succ_cons,List.drop_zero];rw [List.take_of_length_le];rw [List.length_drop,bytesOf_length];omega
   refine AU rfl (AU (by omega) (AY (IA _ (by omega)) ?_));have hsz:(s.extract 1 s.size).size=s.size - 1:=by rw [ByteArray.size_extract];omega
   rcases Lx s with ⟨n,hn,hbs,hr⟩|⟨hno,hr⟩
   ·rw [hr];have hn0:n<0:=by
     by_cases h:n<0
     ·exact h
     ·unfold Gb at hbs;rw [if_neg (by omega),hd] at hbs;have:=Sa hbs.symm;omega
    unfold Gb at hbs;rw [if_pos hn0,hd] at hbs;have hbs2:=(List.cons.inj hbs).2;have hl:=PO hbs2;have e:(10:Nat)^(18+1)=10000000000000000000:=by decide
    have hn':=hn;unfold Qw at hn';have hlen:=(La 18 n.natAbs).mpr (by omega);have hp:=PM n.natAbs;rw [if_pos (by omega),Sb hbs2];refine AU rfl (Ab (by omega) (Az ?_));simp only [Au.j1];rw [decide_eq_false (by omega)];refine Ab (by simp) ?_;obtain ⟨hw,hi⟩:=hneg (n.natAbs:Int) (by omega) (by omega);rw [hw,show -(n.natAbs:Int)=n by omega];exact KF hn (by rw [hd,hbs2];unfold Gb;rw [if_pos hn0])
   ·rw [hr];have hfalse:∀ x4:Int,Ev (λk=>Au.j1 k s x4 true) ((0:Int),false):=by
     intro x4;apply Az;simp only [Au.j1];exact AU (by trivial) (Ad _)
    by_cases hc:1<=(s.extract 1 s.size).size/\((s.extract 1 s.size).size:Int)<=19
    ·rw [if_pos hc];have hvr:=M7 (s:=s.extract 1 s.size) (n:=(J9 (s.extract 1 s.size)).1) (b:=(J9 (s.extract 1 s.size)).2) (by omega) rfl;by_cases h2:(J9 (s.extract 1 s.size)).2=true
     ·refine AU h2 ?_;by_cases h3:(J9 (s.extract 1 s.size)).1=0
      ·exact AU h3 (hfalse _)
      ·refine Ab h3 ?_;by_cases h4:(J9 (s.extract 1 s.size)).1>9223372036854775808
       ·rw [decide_eq_true h4];exact hfalse _
       ·rw [decide_eq_false h4];apply Az;simp only [Au.j1];refine Ab (by simp) ?_;obtain ⟨hw,hi⟩:=hneg (J9 (s.extract 1 s.size)).1 (by omega) (by omega);rw [hw];exact Jk hi hno
     ·exact Ab h2 (hfalse _)
    ·rw [if_neg hc];exact Ab (by simp) (hfalse _)
  |false=>
   refine Ab (by simp) (AY (IA _ (by omega)) ?_);rcases Lx s with ⟨n,hn,hbs,hr⟩|⟨hno,hr⟩
   ·rw [hr];have hn':=hn;unfold Qw at hn';have hn0:¬n<0:=by
     intro h;unfold Gb at hbs;rw [if_pos h] at hbs;have hp:0<s.size:=by rw [PO hbs];simp
     refine hb2 rfl hp ?_;rw [OD,hbs];rfl
    have hbs2:=hbs;unfold Gb at hbs2;rw [if_neg hn0] at hbs2;have hl:=PO hbs2;have e:(10:Nat)^(18+1)=10000000000000000000:=by decide
    have hlen:=(La 18 n.toNat).mpr (by omega);have hp:=PM n.toNat;rw [if_pos (by omega),Sb hbs2];refine AU rfl (Ab (by simp only;omega) ?_);simp only
    rw [show (n.toNat:Int)=n by omega,JV hn'.1 hn'.2];exact KF hn hbs
   ·rw [hr];by_cases hc:1<=s.size/\(s.size:Int)<=19
    ·rw [if_pos hc];have hvr:=M7 (s:=s) (n:=(J9 s).1) (b:=(J9 s).2) (by omega) rfl;by_cases h2:(J9 s).2=true
     ·refine AU h2 ?_;by_cases h3:(J9 s).1>9223372036854775807
      ·exact AU h3 (Ad _)
      ·refine Ab h3 ?_;rw [JV (by omega) (by omega)];exact Jk (by unfold Qw;omega) hno
     ·exact Ab h2 (Ad _)
    ·rw [if_neg hc];exact Ab (by simp) (Ad _)
 simp only [Au.f];by_cases h:(s.size:Int)>0
 ·refine AU h (AU (by omega) (main _ ?_ ?_))
  ·intro hb;exact ⟨by omega,by simpa using hb⟩
  ·intro hb _;simpa using hb
 ·exact Ab h (main false (λh=>by cases h) (λ_ h'=>by omega))
theorem RU {c:Int} (h:0<=c/\c<256):0<=Jb c/\Jb c<256:=by unfold Jb;split<;>omega
theorem Qa (s:ByteArray):bytesOf (IM s)=(bytesOf s).map Jb:=by
 unfold IM;refine Ec λx hx=>?_
 obtain ⟨c,hc,rfl⟩:=List.mem_map.mp hx;exact RU (FZ hc)
theorem Qb (s:ByteArray):(IM s).size=s.size:=by
 rw [<-bytesOf_length,Qa,List.length_map,bytesOf_length]
theorem Y5 {s:ByteArray} (hs:s.size<=9223372036854775806):FU.f s=some (IM s):=by unfold FU.f;rw [if_pos hs]
theorem Tu {s:ByteArray} (hs:s.size<=9223372036854775806):EB.f s=some (IM s):=by unfold EB.f;rw [if_pos hs]
def Wy (x:Int):List (List Int)->List (List Int)
 |[]=>[[x]]
 |h::t=>(x::h)::t
def El:List Int->List (List Int)
 |[]=>[[]]
 |x::l=>if x=46 then []::El l else Wy x (El l)
theorem Lb (l:List Int):El l≠[]:=by
 cases l with
 |nil=>simp [El]
 |cons x l=>
  unfold El;split
  ·simp
  ·cases El l<;>simp [Wy]
theorem L6 {a:List Int} (h:∀ c∈a,c≠46):El a=[a]:=by
 induction a with
 |nil=>rfl
 |cons x a ih=>
  rw [El,if_neg (h x (List.mem_cons_self ..)),ih λc hc=>h c (List.mem_cons_of_mem _ hc)];rfl
theorem M8 {a b:List Int} (h:∀ c∈a,c≠46):El (a++46::b)=a::El b:=by
 induction a with
 |nil=>simp [El]
 |cons x a ih=>
  rw [List.cons_append,El,if_neg (h x (List.mem_cons_self ..)),ih λc hc=>h c (List.mem_cons_of_mem _ hc)];rfl
theorem PQ {l:List Int} (h:∀ c∈l,0<=c/\c<256):∀ p∈El l,∀ c∈p,0<=c/\c<256:=by
 induction l with
 |nil=>intro p hp c hc;simp [El] at hp;subst hp;simp at hc
 |cons x l ih=>
  have ih:=ih λc hc=>h c (List.mem_cons_of_mem _ hc)
  intro p hp c hc;unfold El at hp;split at hp
  ·rcases List.mem_cons.mp hp with rfl|e
   ·simp at hc
   ·exact ih p e c hc
  ·cases hs:El l with
   |nil=>exact absurd hs (Lb l)
   |cons q t=>
    rw [hs] at hp ih;simp only [Wy] at hp;rcases List.mem_cons.mp hp with rfl|e
    ·rcases List.mem_cons.mp hc with rfl|e
     ·exact h c (List.mem_cons_self ..)
     ·exact ih q (List.mem_cons_self ..) c e
    ·exact ih p (List.mem_cons_of_mem _ e) c hc
theorem M9 (l:List Int):l.length+1=((El l).map List.length).sum+(El l).length:=by
 induction l with
 |nil=>rfl
 |cons x l ih=>
  unfold El;split
  ·simp only [List.length_cons,List.map_cons,List.sum_cons,List.length_nil];omega
  ·cases hs:El l with
   |nil=>exact absurd hs (Lb l)
   |cons q t=>
    rw [hs] at ih;simp only [Wy,List.length_cons,List.map_cons,List.sum_cons] at ih⊢
    omega
def parts (s:ByteArray):List ByteArray:=(El (bytesOf s)).map strOfNums
theorem L8 (s:ByteArray):(parts s).map bytesOf=El (bytesOf s):=by
 unfold parts;rw [List.map_map]
 conv=>rhs;rw [<-List.map_id (El (bytesOf s))]
 exact List.map_congr_left λp hp=>Ec (PQ (λc hc=>FZ hc) p hp)
theorem Nl {a b:List ByteArray} (h:a.map bytesOf=b.map bytesOf):a=b:=by
 induction a generalizing b with
 |nil=>cases b with
  |nil=>rfl
  |cons=>simp at h
 |cons x a ih=>cases b with
  |nil=>simp at h
  |cons y b=>
   simp only [List.map_cons,List.cons.injEq] at h;rw [EP h.1,ih h.2]
theorem RV (n:Nat):∀ l:List UInt8,l.length<=n->(Lib.splitK [46] 0 (Lib.count l [46]) l).map (List.map λb=>(b.toNat:Int))=El (l.map λb=>(b.toNat:Int)):=by
 induction n with
 |zero=>
  intro l hl;have:l=[]:=List.length_eq_zero_iff.mp (by omega);subst this;rfl
 |succ n ih=>
  intro l hl;by_cases hm:Lib.index l [46]= -1
  ·have hb:=hm;rw [Lib.index_one] at hb;rw [Lib.count_miss hm];rw [L6]
   ·rfl
   ·intro c hc;obtain ⟨b,hb2,rfl⟩:=List.mem_map.mp hc;obtain ⟨k,hk,hk2⟩:=List.getElem_of_mem hb2;have:=Lib.indexByte_none hb k;intro e;apply this;rw [List.getElem?_eq_getElem hk,hk2];congr 1;exact UInt8.toNat_inj.mp (by simp;omega)
  ·have hge:=Lib.index_ge l [46];obtain ⟨i,hi⟩:∃ i:Nat,Lib.index l [46]=i:=⟨(Lib.index l [46]).toNat,by omega⟩;have hb:=hi;rw [Lib.index_one] at hb;obtain ⟨h1,h2⟩:=Lib.indexByte_some hb;have hlt:i<l.length:=by
    rcases Nat.lt_or_ge i l.length with h|h
    ·exact h
    ·rw [List.getElem?_eq_none h] at h1;cases h1
   rw [Lib.count_hit (by simp) hi,Nat.add_comm 1];have hs:l.map (λb=>(b.toNat:Int))=(l.take i).map (λb=>(b.toNat:Int))++46::(l.drop (i+1)).map (λb=>(b.toNat:Int)):=by
    conv=>lhs;rw [<-List.take_append_drop i l,List.drop_eq_getElem_cons hlt]
    rw [List.map_append,List.map_cons];rw [List.getElem?_eq_getElem hlt] at h1;rw [Option.some.inj h1];rfl
   rw [hs,M8,Lib.splitK,if_neg (by simpa using hm),hi]
   ·simp only [List.map_cons,Int.toNat_natCast,Nat.add_zero,List.length_cons,List.length_nil,Nat.zero_add];rw [ih _ (by rw [List.length_drop];omega)]
   ·intro c hc;obtain ⟨b,hb2,rfl⟩:=List.mem_map.mp hc;obtain ⟨k,hk,hk2⟩:=List.getElem_of_mem hb2;rw [List.length_take] at hk;have:=h2 k (by omega);intro e;apply this;rw [List.getElem_take] at hk2;rw [List.getElem?_eq_getElem (by omega),hk2];congr 1;exact UInt8.toNat_inj.mp (by simp;omega)
theorem Qc (s:ByteArray):Mc s (⟨#[46]⟩:ByteArray)=parts s:=by
 apply Nl;rw [L8];have h:=Lib.splitB_data (⟨#[46]⟩:ByteArray) 0 (Lib.countB s ⟨#[46]⟩) s;have h2:=RV s.data.toList.length s.data.toList (Nat.le_refl _);unfold Mc;have e:bytesOf=(λl:List UInt8=>l.map λb=>(b.toNat:Int))∘λx:ByteArray=>x.data.toList:=rfl
 rw [e, <-List.map_map,h];exact h2
theorem Sc {s:ByteArray} (hs:s.size<4294967281):strings_Split.f s (⟨#[46]⟩:ByteArray)=some (parts s):=by
 unfold strings_Split.f;rw [if_pos ⟨hs,by decide⟩,Qc]
theorem Tv {l:List Int} {a k:Nat} {c:Int} {r:List Int} (hak:a<=k) (h:l.drop k=c::r):(l.drop a).take (k+1 - a)=(l.drop a).take (k - a)++[c]:=by
 have hk:l[k]? =some c:=by
  have:=congrArg (λx=>x[0]?) h;simpa [List.getElem?_drop] using this
 rw [show k+1 - a=(k - a)+1 by omega,List.take_add_one,List.getElem?_drop,show a+(k - a)=k by omega,hk];rfl
theorem RX (s:ByteArray) (hs:s.size<=4294967296) (d:Nat):∀ (a k:Nat) (acc:List ByteArray),k+d=s.size->a<=k->acc.length<=a->(∀ c∈((bytesOf s).drop a).take (k - a),c≠46)->Ev (λn=>Bh.l0 n s acc a k) (acc++(El ((bytesOf s).drop a)).map strOfNums):=by
 induction d with
 |zero=>
  intro a k acc hk hak hacc hno;apply Az;simp only [Bh.l0];refine Ab (by omega) (AU (by omega) (AU (by omega) (AU (by omega) (BJ (Ad _) ?_))));have hl:=bytesOf_length s;rw [List.take_of_length_le (by rw [List.length_drop];omega)] at hno;rw [L6 hno];congr 1;simp only [List.map_cons,List.map_nil];congr 1;apply EP;rw [Dj,Ec λc hc=>FZ (List.mem_of_mem_drop hc),Int.toNat_natCast,List.take_of_length_le (by rw [List.length_drop];omega)]
 |succ d ih=>
  intro a k acc hk hak hacc hno;apply Az;simp only [Bh.l0];refine AU (by omega) (AU (by omega) ?_);have hw:wrap64 ((k:Int)+1)=((k+1:Nat):Int):=by rw [JV (by omega) (by omega)];omega
  rw [hw];have hl:=bytesOf_length s;rcases Ea s (i:=k) (by omega) with ⟨h1,_⟩|⟨h1,h2⟩
  ·omega
  ·by_cases hc:bt s k=46
   ·refine AU hc (AU (by omega) (AU (by omega) (AU (by omega) (AU (by omega) ?_))));refine BJ (ih (k+1) (k+1) _ (by omega) (by omega) (by simp;omega) (by simp)) ?_;rw [hc] at h2;have e:(bytesOf s).drop a=((bytesOf s).drop a).take (k - a)++46::(bytesOf s).drop (k+1):=by
     conv=>lhs;rw [<-List.take_append_drop (k - a) ((bytesOf s).drop a)]
     rw [List.drop_drop,show a+(k - a)=k by omega,h2]
    rw [e,M8 hno,List.map_cons,List.append_assoc];congr 1;rw [List.singleton_append];congr 1;apply EP;rw [Dj,Ec λc hc=>FZ (List.mem_of_mem_drop (List.mem_of_mem_take hc)),Int.toNat_natCast,Int.toNat_natCast]
   ·refine Ab hc (ih a (k+1) acc (by omega) (by omega) hacc ?_);rw [Tv hak h2];intro c hcm;rcases List.mem_append.mp hcm with e|e
    ·exact hno c e
    ·simp only [List.mem_singleton] at e;rw [e];exact hc
theorem Kt {s:ByteArray} (hs:s.size<=4294967296):Ev (λn=>Bh.f n s) (parts s):=by
 simp only [Bh.f];have:=RX s hs s.size 0 0 [] (by omega) (Nat.le_refl _) (Nat.le_refl _) (by simp);simpa [parts] using this
def L9 (c:Int):Bool:=decide (97<=c/\c<=122)||decide (48<=c/\c<=57)||decide (c=45)
def OH (s:ByteArray):Bool:=decide (1<=s.size)&&(decide (s.size<=63)&&(!decide (bt s 0=45)&&(!decide (bt s ((s.size:Int) - 1)=45)&&(bytesOf s).all L9)))
theorem Tw (s:ByteArray) (hs:s.size<=63) (d:Nat):∀ k:Nat,k+d=s.size->Ev (λn=>Ap.l0 n s k) (((bytesOf s).drop k).all L9):=by
 induction d with
 |zero=>
  intro k hk;apply Az;simp only [Ap.l0];have hl:=bytesOf_length s;exact Ab (by omega) (BJ (Ad _) (by rw [List.drop_eq_nil_of_le (by omega)];rfl))
 |succ d ih=>
  intro k hk;apply Az;simp only [Ap.l0];have hw:wrap64 ((k:Int)+1)=((k+1:Nat):Int):=by rw [JV (by omega) (by omega)];omega
  rw [hw];refine AU (by omega) (AU (by omega) ?_);rcases Ea s (i:=k) (by omega) with ⟨h1,_⟩|⟨h1,h2⟩
  ·omega
  ·have ih:=ih (k+1) (by omega);rw [h2,List.all_cons];have yes:L9 (bt s k)=true->Ev (λn=>Ap.l0 n s ((k+1:Nat):Int)) (L9 (bt s k)&&((bytesOf s).drop (k+1)).all L9):=λh=>BJ ih (by rw [h];rfl)
   have no:L9 (bt s k)=false->Ev (λ_=>some false) (L9 (bt s k)&&((bytesOf s).drop (k+1)).all L9):=λh=>BJ (Ad _) (by rw [h];rfl)
   have fin:Ev (λn=>if bt s k=45 then Ap.l0 n s ((k+1:Nat):Int) else some false) (L9 (bt s k)&&((bytesOf s).drop (k+1)).all L9)\/(97<=bt s k/\bt s k<=122)\/(48<=bt s k/\bt s k<=57):=by
    by_cases a:97<=bt s k/\bt s k<=122
    ·exact .inr (.inl a)
    ·by_cases b:48<=bt s k/\bt s k<=57
     ·exact .inr (.inr b)
     ·left;by_cases c:bt s k=45
      ·exact AU c (yes (by unfold L9;rw [decide_eq_true c];simp))
      ·exact Ab c (no (by unfold L9;rw [decide_eq_false a,decide_eq_false b,decide_eq_false c];rfl))
   by_cases a:bt s k>=97
   ·refine AU a ?_;by_cases b:bt s k<=122
    ·exact AU b (yes (by unfold L9;rw [decide_eq_true ⟨a,b⟩];rfl))
    ·refine Ab b (AU (by omega) (Ab (by omega) ?_));rcases fin with h|h|h
     ·exact h
     ·omega
     ·omega
   ·refine Ab a ?_;by_cases b:bt s k>=48
    ·refine AU b ?_;by_cases c:bt s k<=57
     ·exact AU c (yes (by unfold L9;rw [decide_eq_true (p:=48<=bt s k/\bt s k<=57) ⟨b,c⟩];simp))
     ·refine Ab c ?_;rcases fin with h|h|h
      ·exact h
      ·omega
      ·omega
    ·refine Ab b ?_;rcases fin with h|h|h
     ·exact h
     ·omega
     ·omega
theorem Wz (s:ByteArray) (hs:s.size<=140737488351232):Ev (λn=>Ap.f n s) (OH s):=by
 have no:OH s=false->Ev (λn=>Ap.j0 n s true) (OH s):=λh=>by
  apply Az;simp only [Ap.j0];exact AU (by trivial) (BJ (Ad _) h.symm)
 simp only [Ap.f];unfold OH at no⊢
 by_cases h1:(s.size:Int)<1
 ·exact AU h1 (no (by rw [decide_eq_false (show ¬1<=s.size by omega)];rfl))
 ·refine Ab h1 ?_;by_cases h2:(s.size:Int)>63
  ·exact AU h2 (no (by rw [decide_eq_false (show ¬s.size<=63 by omega)];simp))
  ·refine Ab h2 (AU (by omega) ?_);by_cases h3:bt s 0=45
   ·exact AU h3 (no (by rw [decide_eq_true h3];simp))
   ·refine Ab h3 ?_;rw [JV (by omega) (by omega)];refine AU (by omega) (AU (by omega) ?_);by_cases h4:bt s ((s.size:Int) - 1)=45
    ·rw [beq_iff_eq.mpr h4];exact no (by rw [decide_eq_true h4];simp)
    ·rw [beq_eq_false_iff_ne.mpr h4];apply Az;simp only [Ap.j0];refine Ab (by simp) (BJ (Tw s (by omega) s.size 0 (by omega)) ?_);rw [decide_eq_true (show 1<=s.size by omega),decide_eq_true (show s.size<=63 by omega),decide_eq_false h3,decide_eq_false h4];rfl
theorem Jz {l:List ByteArray} {i:Nat} {c:ByteArray} {r:List ByteArray} (h:l.drop i=c::r):EH ByteArray.empty l (i:Int)=c:=by
 unfold EH;have:=congrArg (λx=>x[0]?) h;simp only [List.getElem?_drop,Nat.add_zero,List.getElem?_cons_zero] at this;rw [Int.toNat_natCast,List.getD_eq_getElem?_getD,this];rfl
theorem Im {α:Type} (l:List α) {i:Nat} (h:i<=l.length):(i=l.length/\l.drop i=[])\/(∃ c,i<l.length/\l.drop i=c::l.drop (i+1)):=by
 rcases Nat.lt_or_ge i l.length with h1|h1
 ·exact .inr ⟨l[i],h1,List.drop_eq_getElem_cons h1⟩
 ·exact .inl ⟨by omega,List.drop_eq_nil_of_le h1⟩
theorem Y6 (c:Int) (e:Bool):GG.f c e=some (L9 c&& !(e&&decide (c=45))):=by
 unfold GG.f L9;by_cases a:c>=97
 ·rw [if_pos a];by_cases b:c<=122
  ·rw [if_pos b,decide_eq_true (show 97<=c/\c<=122 from ⟨a,b⟩),decide_eq_false (show ¬c=45 by omega)];simp
  ·rw [if_neg b,if_pos (by omega),if_neg (by omega),if_neg (by omega),decide_eq_false (by omega),decide_eq_false (by omega),decide_eq_false (by omega)];rfl
 ·rw [if_neg a];by_cases b:c>=48
  ·rw [if_pos b];by_cases d:c<=57
   ·rw [if_pos d,decide_eq_true (show 48<=c/\c<=57 from ⟨b,d⟩),decide_eq_false (show ¬c=45 by omega)];simp
   ·rw [if_neg d,if_neg (by omega),decide_eq_false (by omega),decide_eq_false (by omega),decide_eq_false (by omega)];rfl
  ·rw [if_neg b];by_cases d:c=45
   ·rw [if_pos d,decide_eq_true d];simp
   ·rw [if_neg d,decide_eq_false (by omega),decide_eq_false (by omega),decide_eq_false d];rfl
def PR (s:ByteArray) (i:Nat):Bool:=decide (i=0)||decide (i+1=s.size)
def NA (s:ByteArray) (i:Nat):Bool:=L9 (bt s i)&& !(PR s i&&decide (bt s i=45))
def Fx (s:ByteArray) (i d:Nat):Bool:=(List.range' i d).all (NA s)
theorem Qd (s:ByteArray) (l:List ByteArray) (n j:Int) (hs:s.size<=63) (r:Bool) (K:Ev (λk=>BI.l0 k l n (wrap64 (j+1))) r) (d:Nat):∀ i:Nat,i+d=s.size->Ev (λk=>BI.l1 k s l n j (s.size:Int) i) (Fx s i d&&r):=by
 induction d with
 |zero=>
  intro i hi;apply Az;simp only [BI.l1];exact Ab (by omega) (BJ K (by simp [Fx]))
 |succ d ih=>
  intro i hi;have ih:=ih (i+1) (by omega);have hw:wrap64 ((i:Int)+1)=((i+1:Nat):Int):=by rw [JV (by omega) (by omega)];omega
  have hf:Fx s i (d+1)=(NA s i&&Fx s (i+1) d):=by unfold Fx;rw [List.range'_succ,List.all_cons]
  have main:∀ e:Bool,e=PR s i->Ev (λk=>(GG.f (bt s i) e).bind λt=>if t=true then BI.l1 k s l n j (s.size:Int) ((i+1:Nat):Int) else some false) (Fx s i (d+1)&&r):=by
   intro e he;rw [Y6,hf,he];show Ev _ (((L9 (bt s i)&& !(PR s i&&decide (bt s i=45)))&&Fx s (i+1) d)&&r);cases (L9 (bt s i)&& !(PR s i&&decide (bt s i=45))) with
   |true=>exact AY (Ad true) (AU rfl ih)
   |false=>exact AY (Ad false) (Ab (by simp) (Ad _))
  apply Az;simp only [BI.l1];rw [hw];refine AU (by omega) (AU (by omega) (AU (by omega) ?_));by_cases h0:(i:Int)=0
  ·exact AU h0 (main true (by unfold PR;rw [decide_eq_true (show i=0 by omega)];rfl))
  ·refine Ab h0 (main _ ?_);unfold PR;rw [JV (by omega) (by omega),decide_eq_false (show ¬i=0 by omega),Bool.false_or,Bool.eq_iff_iff,beq_iff_eq,decide_eq_true_iff];omega
theorem Qe (s:ByteArray) (d:Nat):∀ i,1<=i->i+d+1=s.size->Fx s i d=(((bytesOf s).drop i).take d).all L9:=by
 induction d with
 |zero=>intro i _ _;simp [Fx]
 |succ d ih=>
  intro i h1 h2;have hl:=bytesOf_length s;rcases Ea s (i:=i) (by omega) with ⟨h3,_⟩|⟨h3,h4⟩
  ·omega
  ·have ih:=ih (i+1) (by omega) (by omega);unfold Fx at ih⊢
   rw [List.range'_succ,List.all_cons,ih,h4,List.take_succ_cons,List.all_cons];congr 1;unfold NA PR;rw [decide_eq_false (show ¬i=0 by omega),decide_eq_false (show ¬i+1=s.size by omega)];simp
theorem W9 (s:ByteArray):OH s=(decide (1<=s.size)&&(decide (s.size<=63)&&Fx s 0 s.size)):=by
 unfold OH;by_cases h1:1<=s.size
 ·rw [decide_eq_true h1];by_cases h2:s.size<=63
  ·rw [decide_eq_true h2,Bool.true_and,Bool.true_and,Bool.true_and,Bool.true_and];have hl:=bytesOf_length s;by_cases he:s.size=1
   ·rcases Ea s (i:=0) (by omega) with ⟨h3,_⟩|⟨h3,h4⟩
    ·omega
    ·rw [List.drop_zero] at h4;have h5:(bytesOf s).drop (0+1)=[]:=List.drop_eq_nil_of_le (by omega);rw [h5] at h4;rw [h4,he];simp only [Fx,List.range'_one,List.all_cons,List.all_nil,Bool.and_true,NA,PR];rw [show ((1:Nat):Int) - 1=((0:Nat):Int) by omega];show ((!decide (bt s ((0:Nat):Int)=45))&&_)=_;generalize decide (bt s ((0:Nat):Int)=45)=x;generalize L9 (bt s ((0:Nat):Int))=y;cases x<;>cases y<;>simp
   ·obtain ⟨m,hm⟩:∃ m,s.size=m+2:=⟨s.size - 2,by omega⟩;have hmid:=Qe s m 1 (by omega) (by omega);rcases Ea s (i:=0) (by omega) with ⟨h3,_⟩|⟨h3,h4⟩
    ·omega
    ·rw [List.drop_zero] at h4;rcases Ea s (i:=m+1) (by omega) with ⟨h5,_⟩|⟨h5,h6⟩
     ·omega
     ·have h7:(bytesOf s).drop (m+1+1)=[]:=List.drop_eq_nil_of_le (by omega);rw [h7] at h6;have e:bytesOf s=bt s ((0:Nat):Int)::((((bytesOf s).drop 1).take m)++[bt s ((m+1:Nat):Int)]):=by
       conv=>lhs;rw [h4]
       congr 1;show (bytesOf s).drop 1=_
       conv=>lhs;rw [<-List.take_append_drop m ((bytesOf s).drop 1)]
       rw [List.drop_drop,show 1+m=m+1 by omega,h6]
      have f:Fx s 0 (m+2)=(NA s 0&&(Fx s 1 m&&NA s (m+1))):=by
       unfold Fx;rw [List.range'_succ,List.all_cons,show m+1=m+1 from rfl,List.range'_concat,List.all_append];simp;rw [Nat.add_comm 1 m]
      conv=>lhs;rw [show (bytesOf s).all L9=(bt s ((0:Nat):Int)::((((bytesOf s).drop 1).take m)++[bt s ((m+1:Nat):Int)])).all L9 by rw [<-e]]
      rw [hm,f,hmid];rw [List.all_cons,List.all_append];simp only [NA,PR,List.all_cons,List.all_nil,Bool.and_true];rw [show ((m+2:Nat):Int) - 1=((m+1:Nat):Int) by omega,decide_eq_true (show m+1+1=s.size by omega)];show ((!decide (bt s ((0:Nat):Int)=45))&&_)=_;generalize decide (bt s ((0:Nat):Int)=45)=x;generalize L9 (bt s ((0:Nat):Int))=y;generalize decide (bt s ((m+1:Nat):Int)=45)=z;generalize L9 (bt s ((m+1:Nat):Int))=u;generalize List.all _ L9=v;cases x<;>cases y<;>cases z<;>cases u<;>cases v<;>simp
  ·rw [decide_eq_false h2];simp
 ·rw [decide_eq_false h1];rfl
theorem RY (l:List ByteArray) (hl:l.length<=8796093022208) (d:Nat):∀ i:Nat,i+d=l.length->Ev (λk=>BI.l0 k l (l.length:Int) i) ((l.drop i).all OH):=by
 induction d with
 |zero=>
  intro i hi;apply Az;simp only [BI.l0];exact Ab (by omega) (BJ (Ad _) (by rw [List.drop_eq_nil_of_le (by omega)];rfl))
 |succ d ih=>
  intro i hi;apply Az;simp only [BI.l0];refine AU (by omega) (AU (by omega) (AU (by omega) ?_));rcases Im l (i:=i) (by omega) with ⟨h1,_⟩|⟨c,h1,h2⟩
  ·omega
  ·rw [Jz h2,h2,List.all_cons];have ih:=ih (i+1) (by omega);have hw:wrap64 ((i:Int)+1)=((i+1:Nat):Int):=by rw [JV (by omega) (by omega)];omega
   have no:OH c=false->Ev (λk=>BI.j1 k c l (l.length:Int) i true) (OH c&&(l.drop (i+1)).all OH):=λh=>by
    apply Az;simp only [BI.j1];exact AU (by trivial) (BJ (Ad _) (by rw [h];rfl))
   by_cases a:(c.size:Int)<1
   ·exact AU a (no (by unfold OH;rw [decide_eq_false (show ¬1<=c.size by omega)];rfl))
   ·refine Ab a ?_;by_cases b:(c.size:Int)>63
    ·rw [decide_eq_true b];exact no (by unfold OH;rw [decide_eq_false (show ¬c.size<=63 by omega)];simp)
    ·rw [decide_eq_false b];apply Az;simp only [BI.j1];refine Ab (by simp) (BJ (Qd c l _ i (by omega) _ (by rw [hw];exact ih) c.size 0 (by omega)) ?_);rw [W9,decide_eq_true (show 1<=c.size by omega),decide_eq_true (show c.size<=63 by omega)];rfl
theorem VR {l:List ByteArray} (hl:l.length<=8796093022208):Ev (λk=>BI.f k l) (l.all OH):=by
 have:=RY l hl l.length 0 (by omega);simpa [BI.f] using this
def Gl (s:ByteArray):ByteArray×Bool:=if s.size<=64/\(parts (IM s)).all OH=true then (IM s,true) else (⟨#[]⟩,false)
theorem J2 (s:ByteArray):(parts s).length<=s.size+1:=by
 have:=M9 (bytesOf s);rw [bytesOf_length] at this;unfold parts;rw [List.length_map];omega
theorem VS (s:ByteArray):Ev (λk=>EO.f k s) (Gl s):=by
 simp only [EO.f];unfold Gl;by_cases h:(s.size:Int)>64
 ·exact AU h (BJ (Ad _) (by rw [if_neg (by omega)]))
 ·refine Ab h ?_;have hs:=Qb s;have hp:=J2 (IM s);rw [Y5 (by omega)];refine AY (Ad _) ?_;rw [Sc (by omega)];refine AY (Ad _) (AY (VR (by omega)) ?_);by_cases hr:(parts (IM s)).all OH=true
  ·exact AU hr (BJ (Ad _) (by rw [if_pos ⟨by omega,hr⟩]))
  ·exact Ab hr (BJ (Ad _) (by rw [if_neg λe=>hr e.2]))
theorem NC (s:ByteArray) (l:List ByteArray) (hl:l.length<=8796093022208) (hsz:∀ p∈l,p.size<=140737488351232) (d:Nat):∀ i:Nat,i+d=l.length->Ev (λk=>BH.l0 k s l i) (if (l.drop i).all OH=true then (s,true) else (⟨#[]⟩,false)):=by
 induction d with
 |zero=>
  intro i hi;apply Az;simp only [BH.l0];exact Ab (by omega) (BJ (Ad _) (by rw [List.drop_eq_nil_of_le (by omega)];rfl))
 |succ d ih=>
  intro i hi;apply Az;simp only [BH.l0];refine AU (by omega) (AU (by omega) ?_);rcases Im l (i:=i) (by omega) with ⟨h1,_⟩|⟨c,h1,h2⟩
  ·omega
  ·have ih:=ih (i+1) (by omega);have hw:wrap64 ((i:Int)+1)=((i+1:Nat):Int):=by rw [JV (by omega) (by omega)];omega
   rw [Jz h2,h2,List.all_cons,hw];refine AY (Wz c (hsz c (List.mem_of_mem_drop (by rw [h2];exact List.mem_cons_self ..)))) ?_;by_cases hc:OH c=true
   ·refine AU hc (BJ ih ?_);rw [hc,Bool.true_and]
   ·refine Ab hc (BJ (Ad _) ?_);rw [Bool.not_eq_true] at hc;rw [hc];rfl
theorem XA {l:List Nat} {x:Nat} (h:x∈l):x<=l.sum:=by
 induction l with
 |nil=>simp at h
 |cons y l ih=>
  rw [List.sum_cons];rcases List.mem_cons.mp h with rfl|e
  ·omega
  ·have:=ih e;omega
theorem ND {s p:ByteArray} (h:p∈parts s):p.size<=s.size:=by
 have h1:bytesOf p∈El (bytesOf s):=by rw [<-L8];exact List.mem_map_of_mem h
 have h2:=M9 (bytesOf s);have h3:(bytesOf p).length<=((El (bytesOf s)).map List.length).sum:=XA (List.mem_map_of_mem h1);have h4:1<=(El (bytesOf s)).length:=List.length_pos_iff.mpr (Lb _);rw [bytesOf_length] at h2 h3;omega
theorem PS {s:ByteArray} (hs:s.size<=140737488351232):Ev (λk=>BH.f k s) (Gl s):=by
 simp only [BH.f];rw [Tu (by omega)];refine AY (Ad _) ?_;have hz:=Qb s;have no:¬(s.size<=64/\(parts (IM s)).all OH=true)->Ev (λn=>BH.j0 n (IM s) true) (Gl s):=λh=>by
  apply Az;simp only [BH.j0];exact AU (by trivial) (BJ (Ad _) (by unfold Gl;rw [if_neg h]))
 by_cases h1:((IM s).size:Int)<1
 ·refine AU h1 (no λh=>?_);have hb:bytesOf (IM s)=[]:=H7.mpr (by omega);have h2:=h.2;unfold parts at h2;rw [hb] at h2;exact absurd h2 (by decide+kernel)
 ·refine Ab h1 ?_;by_cases h2:((IM s).size:Int)>64
  ·rw [decide_eq_true h2];exact no λh=>by omega
  ·rw [decide_eq_false h2];apply Az;simp only [BH.j0];have hp:=J2 (IM s);refine Ab (by simp) (AY (Kt (by omega)) (BJ (NC (IM s) _ (by omega) (λp hp=>by have:=ND hp;omega) (parts (IM s)).length 0 (by omega)) ?_));rw [List.drop_zero];unfold Gl;by_cases hr:(parts (IM s)).all OH=true
   ·rw [if_pos hr,if_pos ⟨by omega,hr⟩]
   ·rw [if_neg hr,if_neg λe=>hr e.2]
def Qf (p:ByteArray):Bool:=(GU p).2&&(decide (0<=(GU p).1)&&decide ((GU p).1<=255))
def Y7 (s:ByteArray):Bool:=(parts s).all Qf&&decide ((parts s).length=4)
theorem OI (p:ByteArray) (g:Nat->Option Bool) (r:Bool) (h:Ev g r) (x:Int×Bool) (hx:x=GU p):Ev (λk=>if x.2=true then (if x.1<0 then some false else if x.1>255 then some false else g k) else some false) (Qf p&&r):=by
 subst hx;unfold Qf;by_cases a:(GU p).2=true
 ·refine AU a ?_;by_cases b:(GU p).1<0
  ·exact AU b (BJ (Ad _) (by rw [a,decide_eq_false (show ¬0<=(GU p).1 by omega)];rfl))
  ·refine Ab b ?_;by_cases c:(GU p).1>255
   ·exact AU c (BJ (Ad _) (by rw [a,decide_eq_false (show ¬(GU p).1<=255 by omega)];simp))
   ·exact Ab c (BJ h (by rw [a,decide_eq_true (show 0<=(GU p).1 by omega),decide_eq_true (show (GU p).1<=255 by omega)];rfl))
 ·refine Ab a (BJ (Ad _) ?_);rw [Bool.not_eq_true] at a;rw [a];rfl
theorem XB (l:List ByteArray) (hl:l.length<=8796093022208) (d:Nat):∀ i:Nat,i+d=l.length->Ev (λk=>Dn.l0 k l l (l.length:Int) i) ((l.drop i).all Qf&&decide (l.length=4)):=by
 induction d with
 |zero=>
  intro i hi;apply Az;simp only [Dn.l0];refine Ab (by omega) (BJ (Ad _) ?_);rw [List.drop_eq_nil_of_le (by omega),List.all_nil,Bool.true_and,Bool.eq_iff_iff,beq_iff_eq,decide_eq_true_iff];omega
 |succ d ih=>
  intro i hi;apply Az;simp only [Dn.l0];refine AU (by omega) (AU (by omega) (AU (by omega) ?_));rcases Im l (i:=i) (by omega) with ⟨h1,_⟩|⟨c,h1,h2⟩
  ·omega
  ·have ih:=ih (i+1) (by omega);have hw:wrap64 ((i:Int)+1)=((i+1:Nat):Int):=by rw [JV (by omega) (by omega)];omega
   rw [Jz h2,h2,List.all_cons,hw,Bool.and_assoc];exact AY (Ad (GU c)) (OI c _ _ ih _ rfl)
theorem Y8 {s:ByteArray} (hs:s.size<4294967281):Ev (λk=>Dn.f k s) (Y7 s):=by
 simp only [Dn.f];rw [Sc hs];have hp:=J2 s;refine AY (Ad _) (BJ (XB (parts s) (by omega) _ 0 (Nat.zero_add _)) ?_);rw [List.drop_zero];rfl
theorem Qg (l:List ByteArray) (hl:l.length<=8796093022208) (hsz:∀ p∈l,p.size<=140737488351232) (d:Nat):∀ i:Nat,i+d=l.length->Ev (λk=>Ch.l0 k l i) ((l.drop i).all Qf&&decide (l.length=4)):=by
 induction d with
 |zero=>
  intro i hi;apply Az;simp only [Ch.l0];refine Ab (by omega) (BJ (Ad _) ?_);rw [List.drop_eq_nil_of_le (by omega),List.all_nil,Bool.true_and,Bool.eq_iff_iff,beq_iff_eq,decide_eq_true_iff];omega
 |succ d ih=>
  intro i hi;apply Az;simp only [Ch.l0];refine AU (by omega) (AU (by omega) ?_);rcases Im l (i:=i) (by omega) with ⟨h1,_⟩|⟨c,h1,h2⟩
  ·omega
  ·have ih:=ih (i+1) (by omega);have hw:wrap64 ((i:Int)+1)=((i+1:Nat):Int):=by rw [JV (by omega) (by omega)];omega
   rw [Jz h2,h2,List.all_cons,hw,Bool.and_assoc];exact AY (QZ (hsz c (List.mem_of_mem_drop (by rw [h2];exact List.mem_cons_self ..)))) (OI c _ _ ih _ rfl)
theorem Ty {s:ByteArray} (hs:s.size<4294967281):Ev (λk=>Ch.f k s) (Y7 s):=by
 simp only [Ch.f];have hp:=J2 s;refine AY (Kt (by omega)) (BJ (Qg (parts s) (by omega) (λp hp=>by have:=ND hp;omega) _ 0 (Nat.zero_add _)) ?_);rw [List.drop_zero];rfl
end Go.Proofs.YtfggjdkccdkogaaGreatDoor.Y
