/- Layer 22's cookie there and back: the printed function tells true. No condition. -/
import Derived.Test.YtfggjdkccdkogaaGreatDoorPrint24
import Derived.Test.YtfggjdkccdkogaaGreatDoorPrint27
import Derived.Laws.BitsAllLaws
section
namespace Go.Proofs.YtfggjdkccdkogaaGreatDoor.Y
set_option linter.unusedVariables false
set_option linter.unusedSimpArgs false
open RowKit Print Ac Aq Aw
def GX (n:Nat):List Int:=if n<128 then [(n:Int)] else ((n%128+128:Nat):Int)::GX (n/128)
termination_by n
decreasing_by omega
theorem Jp {n:Nat} (h:n<128):GX n=[(n:Int)]:=by rw [GX,if_pos h]
theorem KX {n:Nat} (h:¬n<128):GX n=((n%128+128:Nat):Int)::GX (n/128):=by rw [GX,if_neg h]
theorem Od (n:Nat):∀ x∈GX n,0<=x/\x<256:=by
 induction n using Nat.strongRecOn with
 |_ n ih=>
  intro x hx;by_cases h:n<128
  ·rw [Jp h] at hx;simp only [List.mem_singleton] at hx;omega
  ·rw [KX h] at hx;rcases List.mem_cons.mp hx with e|e
   ·omega
   ·exact ih (n/128) (by omega) x e
theorem XY (j:Nat):∀ n:Nat,n<128^(j+1)->(GX n).length<=j+1:=by
 induction j with
 |zero=>intro n h;rw [Jp (by simpa using h)];simp
 |succ j ih=>
  intro n h;by_cases hn:n<128
  ·rw [Jp hn];simp
  ·rw [KX hn];have:=ih (n/128) (by rw [Nat.pow_succ] at h;exact Nat.div_lt_of_lt_mul (by omega));simp only [List.length_cons];omega
theorem IJ {n:Nat} (h:n<18446744073709551616):(GX n).length<=10:=by
 have e:(128:Nat)^(9+1)=1180591620717411303424:=by decide
 exact XY 9 n (by omega)
theorem LA (n:Nat):0<(GX n).length:=by
 rw [GX];split<;>simp
theorem XZ (n:Nat):bytesOf (strOfNums (GX n))=GX n:=Ec (Od n)
theorem ZJ:∀ m:Fin 256,Go.bits .or .u8 (m.val:Int) 128=((m.val%128+128:Nat):Int):=by decide+kernel
theorem or128_nat (n:Nat):Go.bits .or .u8 ((n:Int)%256) 128=((n%128+128:Nat):Int):=by
 have:=ZJ ⟨n%256,by omega⟩;simp only at this;rw [show (n:Int)%256=((n%256:Nat):Int) by omega,this];congr 2;omega
theorem YV (n:Nat):∀ xs:List Int,n<18446744073709551616->xs.length+(GX n).length<=140737488355328->Ev (λk=>Bj.l0 k xs n) (xs++GX n):=by
 induction n using Nat.strongRecOn with
 |_ n ih=>
  intro xs hn hl;apply Az;simp only [Bj.l0];have hp:=LA n;by_cases h:n<128
  ·refine Ab (by omega) (AU (by omega) (BJ (Ad _) ?_));rw [Jp h];congr 2;omega
  ·rw [KX h] at hl⊢
   simp only [List.length_cons] at hl;refine AU (by omega) (AU (by omega) ?_);rw [or128_nat,show (n:Int)/128=((n/128:Nat):Int) by omega];refine BJ (ih (n/128) (by omega) _ (by omega) (by simp only [List.length_append,List.length_singleton];omega)) ?_;simp
theorem Rq (n:Nat):∀ xs:List Int,n<18446744073709551616->xs.length+(GX n).length<=140737488355328->Ev (λk=>Cc.l0 k xs n) (xs++GX n):=by
 induction n using Nat.strongRecOn with
 |_ n ih=>
  intro xs hn hl;apply Az;simp only [Cc.l0];have hp:=LA n;by_cases h:n<128
  ·refine Ab (by omega) (AU (by omega) (BJ (Ad _) ?_));rw [Jp h];congr 2;omega
  ·rw [KX h] at hl⊢
   simp only [List.length_cons] at hl;refine AU (by omega) (AU (by omega) ?_);rw [or128_nat,show (n:Int)/128=((n/128:Nat):Int) by omega];refine BJ (ih (n/128) (by omega) _ (by omega) (by simp only [List.length_append,List.length_singleton];omega)) ?_;simp
def put (n:Nat):ByteArray:=strOfNums (GX n)
theorem Qu (n:Nat):(put n).size=(GX n).length:=by rw [put,strOfNums_size]
theorem ME (n:Nat):bytesOf (put n)=GX n:=XZ n
theorem Xa {n:Nat} (h:n<18446744073709551616):Ev (λk=>DK.f k n) (put n):=by
 have h10:=IJ h;simp only [DK.f,Bj.f];exact AY (YV n [] h (by simp;omega)) (Ad _)
theorem Pj (n:Nat):∀ xs:List Int,n<18446744073709551616->xs.length+(GX n).length<=140737488355328->Ev (λk=>CS.l0 k n xs) (strOfNums (xs++GX n)):=by
 induction n using Nat.strongRecOn with
 |_ n ih=>
  intro xs hn hl;apply Az;simp only [CS.l0];have hp:=LA n;by_cases h:n<128
  ·refine Ab (by omega) (AU (by omega) (BJ (Ad _) ?_));rw [Jp h];congr 3;omega
  ·rw [KX h] at hl⊢
   simp only [List.length_cons] at hl;refine AU (by omega) (AU (by omega) ?_);rw [show Int.tdiv (n:Int) 128=((n/128:Nat):Int) by rw [Int.tdiv_eq_ediv_of_nonneg (by omega)];omega,EU (by omega) (by omega),show Int.tmod (n:Int) 128=((n%128:Nat):Int) by rw [Int.tmod_eq_emod_of_nonneg (by omega)];omega,EU (by omega) (by omega),
    show (128+((n%128:Nat):Int))%256=((n%128+128:Nat):Int) by omega]
   refine BJ (ih (n/128) (by omega) _ (by omega) (by simp only [List.length_append,List.length_singleton];omega)) ?_;simp
theorem NT {n:Nat} (h:n<18446744073709551616):Ev (λk=>CS.f k n) (put n):=by
 have h10:=IJ h;simp only [CS.f];exact Pj n [] h (by simp;omega)
def Jr (t:ByteArray):ByteArray:=strOfNums (GX t.size++bytesOf t)
theorem Rs (t:ByteArray):∀ x∈GX t.size++bytesOf t,0<=x/\x<256:=by
 intro x hx;rcases List.mem_append.mp hx with h|h
 ·exact Od _ x h
 ·exact FZ h
theorem JR (t:ByteArray):bytesOf (Jr t)=GX t.size++bytesOf t:=Ec (Rs t)
theorem Og (t:ByteArray):(Jr t).size=(GX t.size).length+t.size:=by rw [Jr,strOfNums_size,List.length_append,bytesOf_length]
theorem JS {t:ByteArray} (h:t.size<=140737488351232):Ev (λk=>De.f k t) (Jr t):=by
 have h10:=IJ (n:=t.size) (by omega);simp only [De.f,Cc.f];rw [EU (by omega) (by omega)];refine AY (Rq t.size [] (by omega) (by simp;omega)) (AU ?_ (Ad _));simp only [List.nil_append];omega
theorem G5 {t:ByteArray} (h:t.size<=140737488351232):Ev (λk=>BB.f k t) (Jr t):=by
 have h10:=IJ (n:=t.size) (by omega);simp only [BB.f];rw [EU (by omega) (by omega)];refine AY (NT (n:=t.size) (by omega)) (AU ?_ (BJ (Ad _) ?_))
 ·rw [Qu];omega
 ·apply EP;rw [Dm,ME,JR]
end Go.Proofs.YtfggjdkccdkogaaGreatDoor.Y
end
section
namespace Go.Proofs.YtfggjdkccdkogaaGreatDoor.Y
set_option linter.unusedVariables false
set_option linter.unusedSimpArgs false
open RowKit Print Ac Aq Aw
def IW (s:ByteArray):List Nat:=s.data.toList.map (·.toNat)
theorem Kn (s:ByteArray):bytesOf s=(IW s).map λ(n:Nat)=>(n:Int):=by
 rw [Gj,IW,List.map_map];rfl
theorem KQ {s:ByteArray} {n:Nat} (h:n∈IW s):n<256:=by
 obtain ⟨b,_,rfl⟩:=List.mem_map.1 h;exact b.toNat_lt
theorem QT (s:ByteArray):(IW s).length=s.size:=by rw [IW,List.length_map];rfl
def Ws (l:List Nat) (s:Nat):Nat:=l.foldl Ns.upd s
theorem RQ {s b:Nat} (hs:s<4294967296) (hb:b<256):Ns.upd s b<4294967296:=by
 rw [Ns.TG];exact Ns.Ps 8 (Nat.xor_lt_two_pow (show s<2^32 from hs) (show b<2^32 by omega))
theorem Wt:∀ (l:List Nat) (s:Nat),s<4294967296->(∀ x∈l,x<256)->Ws l s<4294967296:=by
 intro l;induction l with
 |nil=>exact λ_ h _=>h
 |cons b l ih=>exact λs hs h=>ih _ (RQ hs (h b (.head _))) (λy hy=>h y (.tail _ hy))
def PI (s:ByteArray):Nat:=Ws (IW s) 4294967295
theorem SY (s:ByteArray):PI s<4294967296:=Wt _ _ (by decide) λ_ h=>KQ h
theorem QU {c:Nat} (h:c<256):Ns.entry c<4294967296:=Ns.Ps 8 (show c<2^32 by omega)
theorem VI {s b:Nat} (hs:s<4294967296) (hb:b<256):NV (s:Int) (b:Int)=(Ns.upd s b:Nat):=by
 unfold NV Ma Ns.upd;have hx:(s%256) ^^^ b<256:=Nat.xor_lt_two_pow (n:=8) (by omega) hb;rw [show (s:Int)%256=((s%256:Nat):Int) by omega,show (s:Int)/256=((s/256:Nat):Int) by omega,u8_xor_nat _ _ (by omega) hb,Int.toNat_natCast,u32_xor_nat _ _ (by omega) (QU hx)]
theorem VJ:∀ (l:List Nat) (s:Nat),s<4294967296->(∀ x∈l,x<256)->(l.map λ(n:Nat)=>(n:Int)).foldl NV (s:Int)=(Ws l s:Nat):=by
 intro l;induction l with
 |nil=>exact λ_ _ _=>rfl
 |cons b l ih=>
  intro s hs h;rw [List.map_cons,List.foldl_cons,VI hs (h b (.head _))];exact ih _ (RQ hs (h b (.head _))) (λy hy=>h y (.tail _ hy))
theorem YK {c:Nat} (h:c<4294967296):4294967295 ^^^ c=4294967295 - c:=by
 apply Nat.eq_of_testBit_eq;intro i;have e:4294967295 - c=2^32 - (c+1):=by omega
 rw [Nat.testBit_xor,e,Nat.testBit_two_pow_sub_succ (by omega),show (4294967295:Nat)=2^32 - (0+1) by decide,Nat.testBit_two_pow_sub_succ (by decide)];by_cases hi:i<32
 ·simp [hi]
 ·have:c.testBit i=false:=Nat.testBit_lt_two_pow (Nat.lt_of_lt_of_le h (Nat.pow_le_pow_right (n:=2) (i:=32) (by decide) (by omega)));simp [hi,this]
theorem VK (t:ByteArray):UT [t]=((4294967295 - PI t:Nat):Int):=by
 unfold UT;rw [List.foldl_cons,List.foldl_nil,NW,Kn,show (4294967295:Int)=((4294967295:Nat):Int) by rfl,VJ _ _ (by decide) λ_ h=>KQ h];show Go.bits .xor .u32 ((4294967295:Nat):Int) ((PI t:Nat):Int)=_;rw [u32_xor_nat _ _ (by decide) (SY t),YK (SY t)]
def VM (v:Nat):List Int:=[((v%256:Nat):Int),((v/256%256:Nat):Int),((v/65536%256:Nat):Int),((v/16777216:Nat):Int)]
def F5 (t:ByteArray):ByteArray:=strOfNums (VM (4294967295 - PI t))
theorem IX (t:ByteArray):(F5 t).size=4:=strOfNums_size _
theorem VN {t:ByteArray} (h:t.size<=9223372036854775806):F4.f [t]=some (F5 t):=by
 have hs:Ig.f [t]=some (UT [t]):=by
  unfold Ig.f;rw [if_pos (by intro x hx;obtain rfl:=List.mem_singleton.1 hx;exact h)]
 unfold F4.f;rw [hs,Option.bind_some,VK,F5];have hc:4294967295 - PI t<=4294967295:=by omega
 generalize 4294967295 - PI t=v at*
 refine congrArg some (congrArg strOfNums ?_);simp only [VM,List.cons.injEq,and_true];exact ⟨by omega,by omega,by omega,by omega⟩
theorem VO (k:Nat):∀ n:Nat,n<4294967296->k<=32->Ev (λr=>CP.f r (n:Int) (k:Int)) ((n/2^k%2:Nat):Int):=by
 intro n hn hk;simp only [CP.f];induction k generalizing n with
 |zero=>
  apply Az;simp only [CP.l0];refine Ab (by omega) (BJ (Ad _) ?_);rw [Int.tmod_eq_emod_of_nonneg (by omega),Nat.pow_zero,Nat.div_one];omega
 |succ k ih=>
  apply Az;simp only [CP.l0];refine AU (by omega) ?_;rw [show wrap64 (Int.tdiv (n:Int) 2)=((n/2:Nat):Int) by rw [Int.tdiv_eq_ediv_of_nonneg (by omega)];unfold wrap64;omega,show wrap64 (((k+1:Nat):Int) - 1)=(k:Int) by unfold wrap64;omega];refine BJ (ih (n/2) (by omega) (by omega)) ?_;rw [Nat.div_div_eq_div_mul,Nat.pow_succ,Nat.mul_comm]
theorem Wu (x y k:Nat):(x ^^^ y)%2^(k+1)=(x ^^^ y)%2^k+2^k*(if x/2^k%2=y/2^k%2 then 0 else 1):=by
 have h1:(x ^^^ y)%2^(k+1)=(x ^^^ y)%2^k+2^k*((x ^^^ y)/2^k%2):=by rw [Nat.pow_succ,Nat.mod_mul]
 rw [h1];congr 2;have h2:(x ^^^ y)/2^k%2=((x ^^^ y).testBit k).toNat:=by rw [Nat.testBit_eq_decide_div_mod_eq];rcases Nat.mod_two_eq_zero_or_one ((x ^^^ y)/2^k) with h|h<;>rw [h]<;>rfl
 have hb:∀ z:Nat,z/2^k%2=(z.testBit k).toNat:=λz=>by rw [Nat.testBit_eq_decide_div_mod_eq];rcases Nat.mod_two_eq_zero_or_one (z/2^k) with h|h<;>rw [h]<;>rfl
 rw [h2,Nat.testBit_xor,hb x,hb y];cases x.testBit k<;>cases y.testBit k<;>decide
theorem PK {x y:Nat} (hx:x<4294967296) (hy:y<4294967296):Ev (λr=>Bf.f r (x:Int) (y:Int)) ((x ^^^ y:Nat):Int):=by
 simp only [Bf.f];have main:∀ d k:Nat,k+d=32->Ev (λr=>Bf.l0 r (x:Int) (y:Int) (((x ^^^ y)%2^k:Nat):Int) ((2^k:Nat):Int) (k:Int)) ((x ^^^ y:Nat):Int):=by
  intro d;induction d with
  |zero=>
   intro k hk;obtain rfl:k=32:=by omega
   apply Az;simp only [Bf.l0];refine Ab (by omega) (BJ (Ad _) ?_);rw [Nat.mod_eq_of_lt (Nat.xor_lt_two_pow (show x<2^32 from hx) (show y<2^32 from hy))]
  |succ d ih=>
   intro k hk;apply Az;simp only [Bf.l0];have hp:2^k<=2147483648:=Nat.pow_le_pow_right (n:=2) (j:=31) (by decide) (by omega);have hm:(x ^^^ y)%2^k<2^k:=Nat.mod_lt _ (Nat.two_pow_pos k);have hl:=Wu x y k;have hq:=ih (k+1) (by omega);rw [hl] at hq;have w1:wrap64 (2*((2^k:Nat):Int))=((2^(k+1):Nat):Int):=by rw [Nat.pow_succ];unfold wrap64;omega
   have w2:wrap64 ((k:Int)+1)=((k+1:Nat):Int):=by unfold wrap64;omega
   refine AU (by omega) (AY (VO k x hx (by omega)) (AY (VO k y hy (by omega)) ?_));rw [w1,w2];by_cases hb:x/2^k%2=y/2^k%2
   ·rw [if_pos hb,Nat.mul_zero,Nat.add_zero] at hq;exact AU (by rw [hb]) hq
   ·rw [if_neg hb,Nat.mul_one] at hq;refine Ab (by omega) ?_;rw [show wrap64 ((((x ^^^ y)%2^k:Nat):Int)+((2^k:Nat):Int))=(((x ^^^ y)%2^k+2^k:Nat):Int) by unfold wrap64;omega];exact hq
 have h:=main 32 0 rfl;rw [Nat.pow_zero,Nat.mod_one] at h;exact h
theorem VP {c:Nat} (h:c<256):Ev (λr=>Bz.f r (c:Int)) ((Ns.entry c:Nat):Int):=by
 simp only [Bz.f];have main:∀ d k n:Nat,k+d=8->n<4294967296->Ev (λr=>Bz.l0 r (n:Int) (k:Int)) ((Ns.steps d n:Nat):Int):=by
  intro d;induction d with
  |zero=>
   intro k n hk hn;apply Az;simp only [Bz.l0];exact Ab (by omega) (Ad _)
  |succ d ih=>
   intro k n hk hn;apply Az;simp only [Bz.l0];have w2:wrap64 ((k:Int)+1)=((k+1:Nat):Int):=by unfold wrap64;omega
   have w1:wrap64 (Int.tdiv (n:Int) 2)=((n/2:Nat):Int):=by rw [Int.tdiv_eq_ediv_of_nonneg (by omega)];unfold wrap64;omega
   have hs:Ns.steps (d+1) n=Ns.steps d (Ns.step1 n):=rfl;have hlt:=Ns.Pq (show n<2^32 from hn);have hq:=ih (k+1) (Ns.step1 n) (by omega) hlt;rw [w1,w2,hs];refine AU (by omega) ?_;unfold Ns.step1 at hq⊢
   by_cases h1:n%2=1
   ·rw [if_pos h1] at hq⊢
    refine AU (by rw [Int.tmod_eq_emod_of_nonneg (by omega)];omega) (AY (PK (x:=n/2) (y:=3988292384) (by omega) (by decide)) hq)
   ·rw [if_neg h1] at hq⊢
    exact Ab (by rw [Int.tmod_eq_emod_of_nonneg (by omega)];omega) hq
 exact main 8 0 c rfl (by omega)
theorem Wv {s b:Nat} (hs:s<4294967296) (hb:b<256):Ev (λr=>Eo.f r (s:Int) (b:Int)) ((Ns.upd s b:Nat):Int):=by
 simp only [Eo.f];have hx:b ^^^ (s%256)<256:=Nat.xor_lt_two_pow (n:=8) hb (by omega);rw [show Int.tmod (s:Int) 256=((s%256:Nat):Int) by rw [Int.tmod_eq_emod_of_nonneg (by omega)];omega,show wrap64 (Int.tdiv (s:Int) 256)=((s/256:Nat):Int) by rw [Int.tdiv_eq_ediv_of_nonneg (by omega)];unfold wrap64;omega];refine AY (PK (x:=b) (y:=s%256) (by omega) (by omega)) (AY (VP hx) (AY (PK (x:=s/256) (y:=Ns.entry (b ^^^ (s%256))) (by omega) (QU hx)) (BJ (Ad _) ?_)));unfold Ns.upd;rw [Nat.xor_comm b]
theorem RS {s:ByteArray} (h:s.size<=1000000000):Ev (λr=>Cm.f r s) ((4294967295 - PI s:Nat):Int):=by
 simp only [Cm.f];have hl:=QT s;have main:∀ d k c:Nat,k+d=s.size->c<4294967296->Ev (λr=>Cm.l0 r s (c:Int) (k:Int)) ((4294967295 - Ws ((IW s).drop k) c:Nat):Int):=by
  intro d;induction d with
  |zero=>
   intro k c hk hc;apply Az;simp only [Cm.l0];refine Ab (by omega) (BJ (Ad _) ?_);rw [List.drop_eq_nil_of_le (by omega)];show wrap64 _=((4294967295 - c:Nat):Int);unfold wrap64;omega
  |succ d ih=>
   intro k c hk hc;apply Az;simp only [Cm.l0];have hlt:k<(IW s).length:=by omega
   have hb:bt s (k:Int)=((IW s)[k]:Nat):=by
    rw [OD,Kn,Int.toNat_natCast,List.getD_eq_getElem?_getD,List.getElem?_map,List.getElem?_eq_getElem hlt];rfl
   have hr:=KQ (List.getElem_mem hlt);rw [List.drop_eq_getElem_cons hlt];refine AU (by omega) (AU (by omega) ?_);rw [hb,show wrap64 (((IW s)[k]:Nat):Int)=(((IW s)[k]:Nat):Int) by unfold wrap64;omega,show wrap64 ((k:Int)+1)=((k+1:Nat):Int) by unfold wrap64;omega];exact AY (Wv hc hr) (ih (k+1) _ (by omega) (RQ hc hr))
 exact main s.size 0 4294967295 (by omega) (by decide)
theorem Il {s:ByteArray} (h:s.size<=1000000000):Ev (λr=>Ci.f r s) (F5 s):=by
 simp only [Ci.f];refine AY (RS h) (BJ (Ad _) ?_);rw [F5];have hc:4294967295 - PI s<=4294967295:=by omega
 generalize 4294967295 - PI s=v at*
 have e1:Int.tdiv (v:Int) 256=((v/256:Nat):Int):=by rw [Int.tdiv_eq_ediv_of_nonneg (by omega)];omega
 have e2:Int.tdiv (v:Int) 65536=((v/65536:Nat):Int):=by rw [Int.tdiv_eq_ediv_of_nonneg (by omega)];omega
 have e3:Int.tdiv (v:Int) 16777216=((v/16777216:Nat):Int):=by rw [Int.tdiv_eq_ediv_of_nonneg (by omega)];omega
 rw [e1,e2,e3];refine congrArg strOfNums ?_;simp only [VM,List.cons.injEq,and_true];rw [Int.tmod_eq_emod_of_nonneg (by omega),show wrap64 ((v/256:Nat):Int)=((v/256:Nat):Int) by unfold wrap64;omega,show wrap64 ((v/65536:Nat):Int)=((v/65536:Nat):Int) by unfold wrap64;omega,show wrap64 ((v/16777216:Nat):Int)=((v/16777216:Nat):Int) by unfold wrap64;omega,Int.tmod_eq_emod_of_nonneg (by omega),Int.tmod_eq_emod_of_nonneg (by omega)];exact ⟨by omega,by omega,by omega,by omega⟩
end Go.Proofs.YtfggjdkccdkogaaGreatDoor.Y
end
section
namespace Go.Proofs.YtfggjdkccdkogaaGreatDoor.Y
open RowKit Print Ac Aq Aw
theorem Vs {α:Type} {f:Nat->Option α} {r:α} (hm:∀ k,CZ (f k) (f (k+1))) (K:Nat) (h:f K=some r):Ev f r:=by
 refine ⟨K,λk hk=>?_⟩;induction k with
 |zero=>
  obtain rfl:K=0:=by omega
  exact h
 |succ k ih=>
  rcases Nat.lt_or_ge k K with h1|h1
  ·obtain rfl:K=k+1:=by omega
   exact h
  ·exact hm k _ (ih h1)
theorem Ez:Ev (λk=>AX.f k) true:=Vs AX.mono 60 (by decide+kernel)
end Go.Proofs.YtfggjdkccdkogaaGreatDoor.Y
end
