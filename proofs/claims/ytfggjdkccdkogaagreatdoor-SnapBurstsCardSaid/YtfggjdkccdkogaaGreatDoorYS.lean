/- Layer 22's cookie there and back: the printed function tells true. No condition. -/
import Derived.Test.YtfggjdkccdkogaaGreatDoorPrint24
import Derived.Test.YtfggjdkccdkogaaGreatDoorPrint27
import Derived.Laws.BitsAllLaws
section
namespace Go.Proofs.YtfggjdkccdkogaaGreatDoor.Y
set_option linter.unusedVariables false
set_option linter.unusedSimpArgs false
open RowKit Print Ac Aq Aw
def GX (n:Nat):List Int:=if n<128 then [(n:Int)] else ((n%128+128:Nat):Int)::GX (n/128)
termination_by n
decreasing_by omega
theorem Jp {n:Nat} (h:n<128):GX n=[(n:Int)]:=by rw [GX,if_pos h]
theorem KX {n:Nat} (h:¬n<128):GX n=((n%128+128:Nat):Int)::GX (n/128):=by rw [GX,if_neg h]
theorem Od (n:Nat):∀ x∈GX n,0<=x/\x<256:=by
 induction n using Nat.strongRecOn with
 |_ n ih=>
  intro x hx;by_cases h:n<128
  ·rw [Jp h] at hx;simp only [List.mem_singleton] at hx;omega
  ·rw [KX h] at hx;rcases List.mem_cons.mp hx with e|e
   ·omega
   ·exact ih (n/128) (by omega) x e
theorem XY (j:Nat):∀ n:Nat,n<128^(j+1)->(GX n).length<=j+1:=by
 induction j with
 |zero=>intro n h;rw [Jp (by simpa using h)];simp
 |succ j ih=>
  intro n h;by_cases hn:n<128
  ·rw [Jp hn];simp
  ·rw [KX hn];have:=ih (n/128) (by rw [Nat.pow_succ] at h;exact Nat.div_lt_of_lt_mul (by omega));simp only [List.length_cons];omega
theorem IJ {n:Nat} (h:n<18446744073709551616):(GX n).length<=10:=by
 have e:(128:Nat)^(9+1)=1180591620717411303424:=by decide
 exact XY 9 n (by omega)
theorem LA (n:Nat):0<(GX n).length:=by
 rw [GX];split<;>simp
theorem XZ (n:Nat):bytesOf (strOfNums (GX n))=GX n:=Ec (Od n)
theorem ZJ:∀ m:Fin 256,Go.bits .or .u8 (m.val:Int) 128=((m.val%128+128:Nat):Int):=by decide+kernel
theorem or128_nat (n:Nat):Go.bits .or .u8 ((n:Int)%256) 128=((n%128+128:Nat):Int):=by
 have:=ZJ ⟨n%256,by omega⟩;simp only at this;rw [show (n:Int)%256=((n%256:Nat):Int) by omega,this];congr 2;omega
theorem YV (n:Nat):∀ xs:List Int,n<18446744073709551616->xs.length+(GX n).length<=140737488355328->Ev (λk=>Bj.l0 k xs n) (xs++GX n):=by
 induction n using Nat.strongRecOn with
 |_ n ih=>
  intro xs hn hl;apply Az;simp only [Bj.l0];have hp:=LA n;by_cases h:n<128
  ·refine Ab (by omega) (AU (by omega) (BJ (Ad _) ?_));rw [Jp h];congr 2;omega
  ·rw [KX h] at hl⊢
   simp only [List.length_cons] at hl;refine AU (by omega) (AU (by omega) ?_);rw [or128_nat,show (n:Int)/128=((n/128:Nat):Int) by omega];refine BJ (ih (n/128) (by omega) _ (by omega) (by simp only [List.length_append,List.length_singleton];omega)) ?_;simp
theorem Rq (n:Nat):∀ xs:List Int,n<18446744073709551616->xs.length+(GX n).length<=140737488355328->Ev (λk=>Cc.l0 k xs n) (xs++GX n):=by
 induction n using Nat.strongRecOn with
 |_ n ih=>
  intro xs hn hl;apply Az;simp only [Cc.l0];have hp:=LA n;by_cases h:n<128
  ·refine Ab (by omega) (AU (by omega) (BJ (Ad _) ?_));rw [Jp h];congr 2;omega
  ·rw [KX h] at hl⊢
   simp only [List.length_cons] at hl;refine AU (by omega) (AU (by omega) ?_);rw [or128_nat,show (n:Int)/128=((n/128:Nat):Int) by omega];refine BJ (ih (n/128) (by omega) _ (by omega) (by simp only [List.length_append,List.length_singleton];omega)) ?_;simp
def put (n:Nat):ByteArray:=strOfNums (GX n)
theorem Qu (n:Nat):(put n).size=(GX n).length:=by rw [put,strOfNums_size]
theorem ME (n:Nat):bytesOf (put n)=GX n:=XZ n
theorem Xa {n:Nat} (h:n<18446744073709551616):Ev (λk=>DK.f k n) (put n):=by
 have h10:=IJ h;simp only [DK.f,Bj.f];exact AY (YV n [] h (by simp;omega)) (Ad _)
def scan:Nat->List Int->Int->Int×Int×Int
 |k,[],_=>if k<10 then (0,0,30) else (0,0,31)
 |k,c::l,n=>if 10<=k then (0,0,31) else if 128<=c then scan (k+1) l (n+(c - 128)*128^k) else if k=9/\1<c then (0,0,31) else if 0<k/\c=0 then (0,0,32) else (n+c*128^k,(k:Int)+1,0)
theorem Sy (l:List Int) (n:Int):scan 10 l n=(0,0,31):=by cases l<;>simp [scan]
theorem Jq (k:Nat):(0:Int)<128^k:=Int.pow_pos (by decide)
theorem Sz {k:Nat} (h:k<=9):(128:Int)^k<=9223372036854775808:=by
 have:=Nat.pow_le_pow_right (n:=128) (by decide) h;have e:((128:Nat):Int)^k=((128^k:Nat):Int):=by simp
 have e2:(128:Nat)^9=9223372036854775808:=by decide
 rw [show (128:Int)=((128:Nat):Int) by rfl,e];omega
theorem LB {k:Nat} (h:k<=8):(128:Int)^k<=72057594037927936:=by
 have:=Nat.pow_le_pow_right (n:=128) (by decide) h;have e:((128:Nat):Int)^k=((128^k:Nat):Int):=by simp
 have e2:(128:Nat)^8=72057594037927936:=by decide
 rw [show (128:Int)=((128:Nat):Int) by rfl,e];omega
theorem NU (k:Nat):(2:Int)^(7*k)=128^k:=by rw [Int.pow_mul];rfl
theorem ZK {c:Int} {k:Nat} (hk:k<=9) (h0:0<=c) (h:c*128^k<=18446744073709551615):shl .u64 c (7*(k:Int))=c*128^k:=by
 unfold shl;rw [show min (7*(k:Int)).toNat IntKind.u64.bits=7*k by
  have:IntKind.u64.bits=64:=rfl
  omega,NU,EU (Int.mul_nonneg h0 (Int.le_of_lt (Jq k))) h]
theorem Pk (k:IntKind) (x y:Int):Go.bits .or k x y=Go.bits .or k y x:=by
 unfold Go.bits;simp only [BitVec.or_comm]
theorem Xn:(2:Int)^64=18446744073709551616:=by decide
theorem TA {n c:Int} {k:Nat} (h0:0<=n) (h1:n<128^k) (hc:0<=c) (h:n+c*128^k<=18446744073709551615):Go.bits .or .u64 n (c*128^k)=n+c*128^k:=by
 have hm:=Int.mul_nonneg hc (Int.le_of_lt (Jq k));have e:=bits_join .u64 64 (by decide) wraps_u64 (7*k) (c*128^k) n hm (by rw [NU];exact Int.mul_emod_left _ _) (by rw [Xn];omega) h0 (by rw [NU];exact h1) (by rw [Xn];omega);rw [Pk,e,Int.add_comm]
theorem YW {c:Int} (h0:128<=c) (h1:c<256):Go.bits .and .u8 c 127=c - 128:=by
 have:=bits_mask .u8 8 (by decide) wraps_u8 7 (by decide) c (by omega) (by omega);rw [show (127:Int)=2^7 - 1 by decide,this];omega
theorem JQ {c P:Int} (hP:0<P) (hc:c<=127):c*P<=127*P:=Int.mul_le_mul_of_nonneg_right hc (Int.le_of_lt hP)
theorem V3 {s:ByteArray} {k:Nat} {n:Int} (hk:k<=9) (hs:k<s.size) (hz:s.size<=4611686018427387904) (h0:0<=n) (h1:n<128^k) (hc:bt s k<128):
 Ev (λj=>BR.j1 j s n k) (if k=9/\1<bt s k then (0,0,31) else if 0<k/\bt s k=0 then (0,0,32) else (n+bt s k*128^k,(k:Int)+1,0)):=by
 obtain ⟨b0,b1⟩:=GH s k;generalize hb:bt s k=c at*
 have hP:=Jq k;have hP9:=Sz hk;have hm:=JQ hP (show c<=127 by omega);have j2f:Ev (λj=>BR.j2 j s n k false) (if 0<k/\c=0 then (0,0,32) else if k=9/\1<c then (Go.bits .or .u64 n (shl .u64 c (7*(k:Int))),(k:Int)+1,0) else (n+c*128^k,(k:Int)+1,0)):=by
  apply Az;have hw:wrap64 (7*(k:Int))=7*(k:Int):=JV (by omega) (by omega);have hw1:wrap64 ((k:Int)+1)=(k:Int)+1:=JV (by omega) (by omega);have hval:¬(k=9/\1<c)->Go.bits .or .u64 n (shl .u64 c (7*(k:Int)))=n+c*128^k:=by
   intro hno;have hle:n+c*128^k<=18446744073709551615:=by
    rcases Nat.lt_or_ge k 9 with h9|h9
    ·have:=LB (show k<=8 by omega);omega
    ·obtain rfl:k=9:=by omega
     have e9:(128:Int)^9=9223372036854775808:=by decide
     rw [e9] at h1⊢
     omega
   rw [ZK hk b0 (by omega),TA h0 h1 b0 hle]
  simp only [BR.j2,hw,hw1,hb,EU b0 (show c<=18446744073709551615 by omega)];refine Ab (by simp) ?_;by_cases hk0:0<k
  ·refine AU (by omega) (AU (by omega) (AU (by omega) ?_));by_cases hc0:c=0
   ·exact AU hc0 (BJ (Ad _) (by rw [if_pos ⟨hk0,hc0⟩]))
   ·refine Ab hc0 (AU (by omega) (BJ (Ad _) ?_));rw [if_neg (λh=>hc0 h.2)];split
    ·rfl
    ·rw [hval (by assumption)]
  ·refine Ab (by omega) (AU (by omega) (AU (by omega) (AU (by omega) (BJ (Ad _) ?_))));rw [if_neg (λh=>hk0 h.1),if_neg (λh=>by omega),hval (λh=>by omega)]
 apply Az;simp only [BR.j1,hb];refine Ab (by omega) ?_;by_cases h9:k=9
 ·refine AU (by omega) (AU (by omega) (AU (by omega) ?_));by_cases hc1:1<c
  ·rw [if_pos ⟨h9,hc1⟩,decide_eq_true (show c>1 by omega)];apply Az;simp only [BR.j2];exact AU trivial (Ad _)
  ·rw [if_neg (λh=>hc1 h.2),decide_eq_false (show ¬c>1 by omega)];refine BJ j2f ?_;split
   ·rfl
   ·rw [if_neg (λh=>hc1 h.2)]
 ·refine Ab (by omega) (BJ j2f ?_);simp only [h9,false_and,if_false]
theorem UL (s:ByteArray) (hz:s.size<=4611686018427387904) (d:Nat):∀ (k:Nat) (m n:Int),k+d=10->k<=s.size->(k<=9->m=n/\0<=n/\n<128^k)->Ev (λj=>BR.l0 j s m k) (scan k ((bytesOf s).drop k) n):=by
 induction d with
 |zero=>
  intro k m n hk hs _;obtain rfl:k=10:=by omega
  rw [Sy];apply Az;simp only [BR.l0];refine Ab (by omega) ?_;apply Az;simp only [BR.j1];refine AU (by rfl) ?_;apply Az;simp only [BR.j2];exact AU (by simp) (Ad _)
 |succ d ih=>
  intro k m n hk hs hm;obtain ⟨rfl,h0,h1⟩:=hm (by omega);apply Az;simp only [BR.l0];refine AU (by omega) ?_;rcases Ea s hs with ⟨e,hd⟩|⟨hlt,hd⟩
  ·rw [hd];exact AU (by omega) (BJ (Ad _) (by simp only [scan];rw [if_pos (by omega)]))
  ·rw [hd];obtain ⟨b0,b1⟩:=GH s k;refine Ab (by omega) (AU (by omega) (AU (by omega) ?_));simp only [scan];rw [if_neg (by omega)];by_cases hc:bt s k<128
   ·rw [if_neg (by omega)];exact AU hc (V3 (by omega) hlt hz h0 h1 hc)
   ·rw [if_pos (by omega)];have hw:wrap64 (7*(k:Int))=7*(k:Int):=JV (by omega) (by omega);have hw1:wrap64 ((k:Int)+1)=((k+1:Nat):Int):=by rw [JV (by omega) (by omega)];omega
    rw [hw,hw1,YW (by omega) b1,EU (by omega) (by omega)];refine Ab hc (AU (by omega) (ih (k+1) _ _ (by omega) (by omega) λh9=>?_));have hP:=Jq k;have hP8:=LB (show k<=8 by omega);have hmul:=JQ hP (show bt s k - 128<=127 by omega);have hnn:=Int.mul_nonneg (show 0<=bt s k - 128 by omega) (Int.le_of_lt hP);rw [ZK (by omega) (by omega) (by omega),TA h0 h1 (by omega) (by omega)];refine ⟨rfl,by omega,?_⟩;rw [Int.pow_succ];omega
def tk (s:ByteArray):Int×Int×Int:=scan 0 (bytesOf s) 0
theorem TB {s:ByteArray} (hz:s.size<=4611686018427387904):Ev (λk=>BR.f k s) (tk s):=by
 simp only [BR.f];exact UL s hz 10 0 0 0 rfl (by omega) (λ_=>⟨rfl,by omega,by simp⟩)
theorem Nr (s:ByteArray) (hz:s.size<=4611686018427387904) (d:Nat):∀ (k:Nat) (m n p:Int),k+d=10->k<=s.size->(k<=9->m=n/\0<=n/\n<128^k/\p=128^k)->Ev (λj=>BL.l0 j s m p k) (scan k ((bytesOf s).drop k) n):=by
 induction d with
 |zero=>
  intro k m n p hk hs _;obtain rfl:k=10:=by omega
  rw [Sy];apply Az;simp only [BL.l0];exact Ab (by omega) (Ad _)
 |succ d ih=>
  intro k m n p hk hs hm;obtain ⟨rfl,h0,h1,rfl⟩:=hm (by omega);apply Az;simp only [BL.l0];refine AU (by omega) ?_;rcases Ea s hs with ⟨e,hd⟩|⟨hlt,hd⟩
  ·rw [hd];exact AU (by omega) (BJ (Ad _) (by simp only [scan];rw [if_pos (by omega)]))
  ·rw [hd];obtain ⟨b0,b1⟩:=GH s k;have hP:=Jq k;have hP9:=Sz (show k<=9 by omega);generalize bt s k=c at*
   have hw1:wrap64 ((k:Int)+1)=((k+1:Nat):Int):=by rw [JV (by omega) (by omega)];omega
   rw [EU b0 (show c<=18446744073709551615 by omega),hw1];refine Ab (by omega) (AU (by omega) (AU (by omega) ?_));simp only [scan];rw [if_neg (by omega)];by_cases hc:c<128
   ·rw [if_neg (by omega)];have hm:=JQ hP (show c<=127 by omega);have j1f:Ev (λj=>BL.j1 j m (128^k) k c false) (if 0<k/\c=0 then (0,0,32) else if k=9/\1<c then (IntKind.u64.wrap (m+IntKind.u64.wrap (c*128^k)),(k:Int)+1,0) else (m+c*128^k,(k:Int)+1,0)):=by
     apply Az;have hval:¬(k=9/\1<c)->IntKind.u64.wrap (m+IntKind.u64.wrap (c*128^k))=m+c*128^k:=by
      intro hno;have hnn:=Int.mul_nonneg b0 (Int.le_of_lt hP);have hle:m+c*128^k<=18446744073709551615:=by
       rcases Nat.lt_or_ge k 9 with h9|h9
       ·have:=LB (show k<=8 by omega);omega
       ·obtain rfl:k=9:=by omega
        have e9:(128:Int)^9=9223372036854775808:=by decide
        rw [e9] at h1⊢
        omega
      rw [EU hnn (by omega),EU (by omega) hle]
     have hw1':wrap64 ((k:Int)+1)=(k:Int)+1:=JV (by omega) (by omega);simp only [BL.j1,hw1'];refine Ab (by simp) ?_;by_cases hk0:0<k
     ·refine AU (by omega) ?_;by_cases hc0:c=0
      ·exact AU hc0 (BJ (Ad _) (by rw [if_pos ⟨hk0,hc0⟩]))
      ·refine Ab hc0 (BJ (Ad _) ?_);rw [if_neg (λh=>hc0 h.2)];split
       ·rfl
       ·rw [hval (by assumption)]
     ·refine Ab (by omega) (BJ (Ad _) ?_);rw [if_neg (λh=>hk0 h.1),if_neg (λh=>by omega),hval (λh=>by omega)]
    refine Ab (by omega) ?_;by_cases h9:k=9
    ·refine AU (by omega) ?_;by_cases hc1:1<c
     ·rw [if_pos ⟨h9,hc1⟩,decide_eq_true (show c>1 by omega)];apply Az;simp only [BL.j1];exact AU (by simp) (Ad _)
     ·rw [if_neg (λh=>hc1 h.2),decide_eq_false (show ¬c>1 by omega)];refine BJ j1f ?_;split
      ·rfl
      ·rw [if_neg (λh=>hc1 h.2)]
    ·refine Ab (by omega) (BJ j1f ?_);simp only [h9,false_and,if_false]
   ·rw [if_pos (by omega)];refine AU (by omega) (ih (k+1) _ _ _ (by omega) (by omega) λh9=>?_);have hP8:=LB (show k<=8 by omega);have hmul:=JQ hP (show c - 128<=127 by omega);have hnn:=Int.mul_nonneg (show 0<=c - 128 by omega) (Int.le_of_lt hP);rw [EU (show 0<=c - 128 by omega) (by omega),EU hnn (by omega),EU (by omega) (by omega),EU (by omega) (by omega)];refine ⟨rfl,by omega,?_,?_⟩
    ·rw [Int.pow_succ];omega
    ·rw [Int.pow_succ]
theorem MF {s:ByteArray} (hz:s.size<=4611686018427387904):Ev (λk=>BL.f k s) (tk s):=by
 simp only [BL.f];exact Nr s hz 10 0 0 0 1 rfl (by omega) (λ_=>⟨rfl,by omega,by simp,by simp⟩)
theorem V4 (a b P:Int):a*P+b*(128*P)=(a+b*128)*P:=by rw [Int.add_mul,Int.mul_assoc]
theorem Oe (k:Nat):(128:Int)^(k+1)=128*128^k:=by rw [Int.pow_succ,Int.mul_comm]
theorem V5 (m:Nat):∀ (k:Nat) (n:Int) (rest:List Int),k<=9->m*128^k<18446744073709551616->(0<k->m≠0)->scan k (GX m++rest) n=(n+m*128^k,(k:Int)+(GX m).length,0):=by
 induction m using Nat.strongRecOn with
 |_ m ih=>
  intro k n rest hk hm h0;by_cases h:m<128
  ·rw [Jp h];simp only [List.singleton_append,scan];rw [if_neg (by omega),if_neg (by omega),if_neg,if_neg]
   ·simp
   ·rintro ⟨a,b⟩;exact h0 a (by omega)
   ·rintro ⟨rfl,b⟩;have e9:(128:Nat)^9=9223372036854775808:=by decide
    rw [e9] at hm;omega
  ·have hkk:k+1<=9:=by
    rcases Nat.lt_or_ge k 9 with h9|h9
    ·omega
    ·obtain rfl:k=9:=by omega
     have e9:(128:Nat)^9=9223372036854775808:=by decide
     rw [e9] at hm;omega
   have hle:m/128*128^(k+1)<=m*128^k:=by
    rw [Nat.pow_succ,Nat.mul_comm (128^k) 128, <-Nat.mul_assoc];exact Nat.mul_le_mul_right _ (by omega)
   rw [KX h];simp only [List.cons_append,scan];rw [if_neg (by omega),if_pos (by omega),ih (m/128) (by omega) (k+1) _ rest hkk (by omega) (λ_=>by omega)];refine Prod.ext ?_ (Prod.ext ?_ rfl)
   ·show n+(((m%128+128:Nat):Int) - 128)*128^k+((m/128:Nat):Int)*128^(k+1)=n+(m:Int)*128^k;have e1:(((m%128+128:Nat):Int) - 128)+((m/128:Nat):Int)*128=m:=by omega
    rw [Int.add_assoc,Oe,V4,e1]
   ·simp only [List.length_cons];omega
theorem V6 {n:Nat} (h:n<18446744073709551616) {s:ByteArray} {rest:List Int} (hs:bytesOf s=GX n++rest):tk s=((n:Int),((GX n).length:Int),0):=by
 rw [tk,hs,V5 n 0 0 rest (by omega) (by simpa using h) (λh=>by omega)];simp
theorem UM (l:List Int):∀ (k:Nat) (n0 n a:Int),(∀ c∈l,0<=c/\c<256)->scan k l n0=(n,a,0)->∃ m:Nat,n=n0+m*128^k/\a=(k:Int)+(GX m).length/\l.take (GX m).length=GX m/\(GX m).length<=l.length/\m*128^k<18446744073709551616/\(0<k->m≠0):=by
 induction l with
 |nil=>intro k n0 n a _ h;simp only [scan] at h;split at h<;>simp at h
 |cons c l ih=>
  intro k n0 n a hr h;obtain ⟨c0,c1⟩:=hr c (List.mem_cons_self ..);simp only [scan] at h;by_cases h10:10<=k
  ·rw [if_pos h10] at h;simp at h
  rw [if_neg h10] at h;by_cases hc:128<=c
  ·rw [if_pos hc] at h;obtain ⟨m,e1,e2,e3,e4,e5,e6⟩:=ih (k+1) _ n a (λx hx=>hr x (List.mem_cons_of_mem _ hx)) h;have hm0:=e6 (by omega);have hd:GX ((c - 128).toNat+128*m)=c::GX m:=by
    rw [KX (by omega)];congr 1
    ·omega
    ·congr 1;omega
   refine ⟨(c - 128).toNat+128*m,?_,?_,?_,?_,?_,?_⟩
   ·have e7:(c - 128)+(m:Int)*128=(((c - 128).toNat+128*m:Nat):Int):=by omega
    rw [e1,Int.add_assoc,Oe,V4,e7]
   ·rw [hd,e2];simp only [List.length_cons];omega
   ·rw [hd];simp only [List.length_cons,List.take_succ_cons,e3]
   ·rw [hd];simp only [List.length_cons];omega
   ·rw [Nat.pow_succ,Nat.mul_comm (128^k) 128, <-Nat.mul_assoc] at e5;have hp:128^k<=9223372036854775808:=by
     have:=Nat.pow_le_pow_right (n:=128) (by decide) (show k<=9 by omega);have e2:(128:Nat)^9=9223372036854775808:=by decide
     omega
    have h1:m*128*128^k<=(18446744073709551616 - 1):=by omega
    have hdvd:∃ q,18446744073709551616=q*128^k/\q%2=0:=by
     refine ⟨2^(64 - 7*k),?_,?_⟩
     ·rw [show (128:Nat)=2^7 by decide, <-Nat.pow_mul, <-Nat.pow_add,show 64 - 7*k+7*k=64 by omega]
     ·rw [show 64 - 7*k=(63 - 7*k)+1 by omega,Nat.pow_succ];omega
    obtain ⟨q,hq,hq2⟩:=hdvd;have hpp:0<128^k:=Nat.pow_pos (by decide);have hlt:m*128<q:=by
     rw [hq] at e5;exact Nat.lt_of_mul_lt_mul_right e5
    have hk8:k<=8:=by
     rcases Nat.lt_or_ge k 9 with h9|h9
     ·omega
     ·obtain rfl:k=9:=by omega
      exfalso;have e9:(128:Nat)^9=9223372036854775808:=by decide
      rw [e9] at hq;omega
    have hq128:q%128=0:=by
     have e8:q=128*2^(57 - 7*k):=by
      have:q*128^k=(128*2^(57 - 7*k))*128^k:=by
       rw [<-hq,show (128:Nat)=2^7 by decide, <-Nat.pow_mul,Nat.mul_assoc, <-Nat.pow_add, <-Nat.pow_add,show 7+(57 - 7*k+7*k)=64 by omega]
      exact Nat.eq_of_mul_eq_mul_right hpp this
     omega
    have:(c - 128).toNat+128*m<q:=by omega
    rw [hq];exact Nat.mul_lt_mul_of_pos_right this hpp
   ·intro _;omega
  ·rw [if_neg hc] at h;by_cases h9:k=9/\1<c
   ·rw [if_pos h9] at h;simp at h
   rw [if_neg h9] at h;by_cases hz:0<k/\c=0
   ·rw [if_pos hz] at h;simp at h
   rw [if_neg hz] at h;simp only [Prod.mk.injEq,and_true] at h;obtain ⟨h1,h2⟩:=h;have hd:GX c.toNat=[c]:=by rw [Jp (by omega)];congr 1;omega
   refine ⟨c.toNat,?_,?_,?_,?_,?_,?_⟩
   ·rw [<-h1];congr 2;omega
   ·rw [hd, <-h2];simp
   ·rw [hd];simp
   ·rw [hd];simp
   ·rcases Nat.lt_or_ge k 9 with h9'|h9'
    ·have:=Nat.pow_le_pow_right (n:=128) (by decide) (show k<=8 by omega);have e2:(128:Nat)^8=72057594037927936:=by decide
     have:c.toNat*128^k<=127*72057594037927936:=Nat.mul_le_mul (by omega) (by omega);omega
    ·obtain rfl:k=9:=by omega
     have e9:(128:Nat)^9=9223372036854775808:=by decide
     rw [e9];omega
   ·intro hk;omega
theorem Pm {s:ByteArray} {n a:Int} (h:tk s=(n,a,0)):∃ m:Nat,n=m/\a=((GX m).length:Int)/\(bytesOf s).take (GX m).length=GX m/\(GX m).length<=s.size/\m<18446744073709551616:=by
 obtain ⟨m,e1,e2,e3,e4,e5,_⟩:=UM (bytesOf s) 0 0 n a (λc hc=>FZ hc) h;exact ⟨m,by simpa using e1,by simpa using e2,e3,by rw [bytesOf_length] at e4;exact e4,by simpa using e5⟩
theorem UN (l:List Int):∀ (k:Nat) (n0:Int),(scan k l n0).2.2=0\/((scan k l n0).1=0/\(scan k l n0).2.1=0/\((scan k l n0).2.2=30\/(scan k l n0).2.2=31\/(scan k l n0).2.2=32)):=by
 induction l with
 |nil=>intro k n0;simp only [scan];split<;>simp
 |cons c l ih=>
  intro k n0;simp only [scan];split
  ·simp
  split
  ·exact ih _ _
  split
  ·simp
  split
  ·simp
  ·simp
def Jr (t:ByteArray):ByteArray:=strOfNums (GX t.size++bytesOf t)
theorem Rs (t:ByteArray):∀ x∈GX t.size++bytesOf t,0<=x/\x<256:=by
 intro x hx;rcases List.mem_append.mp hx with h|h
 ·exact Od _ x h
 ·exact FZ h
theorem JR (t:ByteArray):bytesOf (Jr t)=GX t.size++bytesOf t:=Ec (Rs t)
theorem Og (t:ByteArray):(Jr t).size=(GX t.size).length+t.size:=by rw [Jr,strOfNums_size,List.length_append,bytesOf_length]
theorem JS {t:ByteArray} (h:t.size<=140737488351232):Ev (λk=>De.f k t) (Jr t):=by
 have h10:=IJ (n:=t.size) (by omega);simp only [De.f,Cc.f];rw [EU (by omega) (by omega)];refine AY (Rq t.size [] (by omega) (by simp;omega)) (AU ?_ (Ad _));simp only [List.nil_append];omega
def MG (s:ByteArray) (most:Int):ByteArray×Int×Int:=
 if (tk s).2.2=0 then
  if (tk s).1>mx most 0 then (⟨#[]⟩,0,31)
  else if (tk s).1>(s.size:Int) - (tk s).2.1 then (⟨#[]⟩,0,30)
  else (s.extract (tk s).2.1.toNat ((tk s).2.1+(tk s).1).toNat,(tk s).2.1+(tk s).1,0)
 else (⟨#[]⟩,0,(tk s).2.2)
theorem MZ {s:ByteArray} (h:(tk s).2.2=0):0<=(tk s).1/\(tk s).1<18446744073709551616/\0<(tk s).2.1/\(tk s).2.1<=s.size:=by
 obtain ⟨m,e1,e2,_,e4,e5⟩:=Pm (s:=s) (n:=(tk s).1) (a:=(tk s).2.1) (Prod.ext rfl (Prod.ext rfl h));have:=LA m;omega
theorem V7 {a:Int} (h:a<=9223372036854775807):0<=mx a 0/\mx a 0<=9223372036854775807:=by
 unfold mx;split<;>omega
theorem Qv {s:ByteArray} {most:Int} (hz:s.size<=281474976710656) (hm:most<=9223372036854775807):Ev (λk=>ER.f k s most) (MG s most):=by
 simp only [ER.f];refine AY (TB (by omega)) ?_;unfold MG;obtain ⟨m0,m1⟩:=V7 hm;by_cases h0:(tk s).2.2=0
 ·obtain ⟨a0,a1,a2,a3⟩:=MZ h0;rw [EU m0 (by omega),JV (n:=(s.size:Int) - (tk s).2.1) (by omega) (by omega),EU (n:=(s.size:Int) - (tk s).2.1) (by omega) (by omega)];simp only [h0,if_true];by_cases h1:(tk s).1>mx most 0
  ·simp only [h1,if_true];exact Ad _
  ·simp only [h1,if_false];by_cases h2:(tk s).1>(s.size:Int) - (tk s).2.1
   ·simp only [h2,if_true];exact Ad _
   ·simp only [h2,if_false];rw [JV (n:=(tk s).1) (by omega) (by omega),JV (n:=(tk s).2.1+(tk s).1) (by omega) (by omega)];exact AU (by omega) (AU (by omega) (AU (by omega) (Ad _)))
 ·simp only [h0,if_false];exact Ad _
theorem MM {s:ByteArray} {most:Int} (hz:s.size<=281474976710656) (hm:most<=9223372036854775807):Ev (λk=>Bt.f k s most) (MG s most):=by
 have hj:∀ q:Int,0<=q->q<=9223372036854775807->q=mx most 0->Ev (λk=>Bt.j0 k s q) (MG s most):=by
  intro q q0 q1 e;apply Az;simp only [Bt.j0];refine AY (MF (by omega)) ?_;unfold MG;rw [<-e];by_cases h0:(tk s).2.2=0
  ·obtain ⟨a0,a1,a2,a3⟩:=MZ h0;rw [EU q0 (by omega),JV (n:=(s.size:Int) - (tk s).2.1) (by omega) (by omega),EU (n:=(s.size:Int) - (tk s).2.1) (by omega) (by omega)];simp only [h0,if_true];by_cases h1:(tk s).1>q
   ·simp only [h1,if_true];exact Ad _
   ·simp only [h1,if_false];by_cases h2:(tk s).1>(s.size:Int) - (tk s).2.1
    ·simp only [h2,if_true];exact Ad _
    ·simp only [h2,if_false];rw [JV (n:=(tk s).1) (by omega) (by omega),JV (n:=(tk s).2.1+(tk s).1) (by omega) (by omega)];exact AU (by omega) (AU (by omega) (AU (by omega) (Ad _)))
  ·simp only [h0,if_false];exact Ad _
 simp only [Bt.f];by_cases h:most<0
 ·exact AU h (hj 0 (by omega) (by omega) (by unfold mx;rw [if_pos h]))
 ·exact Ab h (hj most (by omega) hm (by unfold mx;rw [if_neg h]))
theorem V8 {s u:ByteArray} {most a:Int} (h:MG s most=(u,a,0)):a<=s.size/\0<=a/\bytesOf (Jr u)=(bytesOf s).take a.toNat/\u.size<=s.size:=by
 unfold MG at h;by_cases h0:(tk s).2.2=0
 ·rw [if_pos h0] at h;obtain ⟨a0,a1,a2,a3⟩:=MZ h0;by_cases h1:(tk s).1>mx most 0
  ·rw [if_pos h1] at h;simp at h
  rw [if_neg h1] at h;by_cases h2:(tk s).1>(s.size:Int) - (tk s).2.1
  ·rw [if_pos h2] at h;simp at h
  rw [if_neg h2] at h;simp only [Prod.mk.injEq,and_true] at h;obtain ⟨hu,ha⟩:=h;obtain ⟨m,e1,e2,e3,e4,e5⟩:=Pm (s:=s) (n:=(tk s).1) (a:=(tk s).2.1) (Prod.ext rfl (Prod.ext rfl h0));rw [e1,e2] at hu ha h2;have hus:u.size=m:=by
   rw [<-hu,ByteArray.size_extract];omega
  refine ⟨by omega,by omega,?_,by omega⟩;rw [JR,hus, <-ha, <-hu,Dj,show (((GX m).length:Int)+(m:Int)).toNat=(GX m).length+m by omega,Int.toNat_natCast,show (GX m).length+m - (GX m).length=m by omega,List.take_add,e3]
 ·rw [if_neg h0] at h;simp only [Prod.mk.injEq] at h;exact absurd h.2.2 h0
theorem Xb {t s:ByteArray} {most:Int} {rest:List Int} (ht:t.size<=140737488351232) (hs:bytesOf s=GX t.size++(bytesOf t++rest)):MG s most=if (t.size:Int)>mx most 0 then (⟨#[]⟩,0,31) else (t,((GX t.size).length:Int)+t.size,0):=by
 have h:=V6 (n:=t.size) (by omega) hs;unfold MG;rw [h];simp only [if_true];have hsz:s.size=(GX t.size).length+(t.size+rest.length):=by rw [<-bytesOf_length,hs];simp [bytesOf_length]
 split
 ·rfl
 ·rw [if_neg (by omega)];refine Prod.ext ?_ rfl;apply EP;simp only
  rw [Dj,hs,Int.toNat_natCast,show (((GX t.size).length:Int)+(t.size:Int)).toNat - (GX t.size).length=t.size by omega,List.drop_left];rw [<-bytesOf_length t,List.take_left]
end Go.Proofs.YtfggjdkccdkogaaGreatDoor.Y
end
section
namespace Go.Proofs.YtfggjdkccdkogaaGreatDoor.Y
set_option linter.unusedVariables false
set_option linter.unusedSimpArgs false
open RowKit Print Ac Aq Aw
def IW (s:ByteArray):List Nat:=s.data.toList.map (·.toNat)
theorem Kn (s:ByteArray):bytesOf s=(IW s).map λ(n:Nat)=>(n:Int):=by
 rw [Gj,IW,List.map_map];rfl
theorem KQ {s:ByteArray} {n:Nat} (h:n∈IW s):n<256:=by
 obtain ⟨b,_,rfl⟩:=List.mem_map.1 h;exact b.toNat_lt
theorem QT (s:ByteArray):(IW s).length=s.size:=by rw [IW,List.length_map];rfl
def Ws (l:List Nat) (s:Nat):Nat:=l.foldl Ns.upd s
theorem RQ {s b:Nat} (hs:s<4294967296) (hb:b<256):Ns.upd s b<4294967296:=by
 rw [Ns.TG];exact Ns.Ps 8 (Nat.xor_lt_two_pow (show s<2^32 from hs) (show b<2^32 by omega))
theorem Wt:∀ (l:List Nat) (s:Nat),s<4294967296->(∀ x∈l,x<256)->Ws l s<4294967296:=by
 intro l;induction l with
 |nil=>exact λ_ h _=>h
 |cons b l ih=>exact λs hs h=>ih _ (RQ hs (h b (.head _))) (λy hy=>h y (.tail _ hy))
def PI (s:ByteArray):Nat:=Ws (IW s) 4294967295
theorem SY (s:ByteArray):PI s<4294967296:=Wt _ _ (by decide) λ_ h=>KQ h
theorem QU {c:Nat} (h:c<256):Ns.entry c<4294967296:=Ns.Ps 8 (show c<2^32 by omega)
theorem VI {s b:Nat} (hs:s<4294967296) (hb:b<256):NV (s:Int) (b:Int)=(Ns.upd s b:Nat):=by
 unfold NV Ma Ns.upd;have hx:(s%256) ^^^ b<256:=Nat.xor_lt_two_pow (n:=8) (by omega) hb;rw [show (s:Int)%256=((s%256:Nat):Int) by omega,show (s:Int)/256=((s/256:Nat):Int) by omega,u8_xor_nat _ _ (by omega) hb,Int.toNat_natCast,u32_xor_nat _ _ (by omega) (QU hx)]
theorem VJ:∀ (l:List Nat) (s:Nat),s<4294967296->(∀ x∈l,x<256)->(l.map λ(n:Nat)=>(n:Int)).foldl NV (s:Int)=(Ws l s:Nat):=by
 intro l;induction l with
 |nil=>exact λ_ _ _=>rfl
 |cons b l ih=>
  intro s hs h;rw [List.map_cons,List.foldl_cons,VI hs (h b (.head _))];exact ih _ (RQ hs (h b (.head _))) (λy hy=>h y (.tail _ hy))
theorem YK {c:Nat} (h:c<4294967296):4294967295 ^^^ c=4294967295 - c:=by
 apply Nat.eq_of_testBit_eq;intro i;have e:4294967295 - c=2^32 - (c+1):=by omega
 rw [Nat.testBit_xor,e,Nat.testBit_two_pow_sub_succ (by omega),show (4294967295:Nat)=2^32 - (0+1) by decide,Nat.testBit_two_pow_sub_succ (by decide)];by_cases hi:i<32
 ·simp [hi]
 ·have:c.testBit i=false:=Nat.testBit_lt_two_pow (Nat.lt_of_lt_of_le h (Nat.pow_le_pow_right (n:=2) (i:=32) (by decide) (by omega)));simp [hi,this]
theorem VK (t:ByteArray):UT [t]=((4294967295 - PI t:Nat):Int):=by
 unfold UT;rw [List.foldl_cons,List.foldl_nil,NW,Kn,show (4294967295:Int)=((4294967295:Nat):Int) by rfl,VJ _ _ (by decide) λ_ h=>KQ h];show Go.bits .xor .u32 ((4294967295:Nat):Int) ((PI t:Nat):Int)=_;rw [u32_xor_nat _ _ (by decide) (SY t),YK (SY t)]
def VM (v:Nat):List Int:=[((v%256:Nat):Int),((v/256%256:Nat):Int),((v/65536%256:Nat):Int),((v/16777216:Nat):Int)]
def F5 (t:ByteArray):ByteArray:=strOfNums (VM (4294967295 - PI t))
theorem IX (t:ByteArray):(F5 t).size=4:=strOfNums_size _
theorem aV {v:Nat} (h:v<4294967296):∀ x∈VM v,0<=x/\x<256:=by
 intro x hx;simp only [VM,List.mem_cons,List.not_mem_nil,or_false] at hx;omega
theorem aJ (t:ByteArray):bytesOf (F5 t)=VM (4294967295 - PI t):=Ec (aV (by omega))
theorem VN {t:ByteArray} (h:t.size<=9223372036854775806):F4.f [t]=some (F5 t):=by
 have hs:Ig.f [t]=some (UT [t]):=by
  unfold Ig.f;rw [if_pos (by intro x hx;obtain rfl:=List.mem_singleton.1 hx;exact h)]
 unfold F4.f;rw [hs,Option.bind_some,VK,F5];have hc:4294967295 - PI t<=4294967295:=by omega
 generalize 4294967295 - PI t=v at*
 refine congrArg some (congrArg strOfNums ?_);simp only [VM,List.cons.injEq,and_true];exact ⟨by omega,by omega,by omega,by omega⟩
def IY (s:ByteArray):Bool:=decide (4<=s.size)&&decide (bytesOf (s.extract (s.size - 4) s.size)=bytesOf (F5 (s.extract 0 (s.size - 4))))
theorem MR {s:ByteArray} (h:s.size<=1000000000):EK.f s=some (IY s):=by
 unfold EK.f IY;have hw:wrap64 ((s.size:Int) - 4)=(s.size:Int) - 4:=by unfold wrap64;omega
 rw [hw];by_cases h4:4<=s.size
 ·rw [if_pos (by omega),if_pos (by omega),if_pos (by omega),show ((s.size:Int) - 4).toNat=s.size - 4 by omega,VN (by rw [ByteArray.size_extract];omega),Option.bind_some,decide_eq_true h4,Bool.true_and,M5]
 ·rw [if_neg (by omega),decide_eq_false h4,Bool.false_and]
theorem VO (k:Nat):∀ n:Nat,n<4294967296->k<=32->Ev (λr=>CP.f r (n:Int) (k:Int)) ((n/2^k%2:Nat):Int):=by
 intro n hn hk;simp only [CP.f];induction k generalizing n with
 |zero=>
  apply Az;simp only [CP.l0];refine Ab (by omega) (BJ (Ad _) ?_);rw [Int.tmod_eq_emod_of_nonneg (by omega),Nat.pow_zero,Nat.div_one];omega
 |succ k ih=>
  apply Az;simp only [CP.l0];refine AU (by omega) ?_;rw [show wrap64 (Int.tdiv (n:Int) 2)=((n/2:Nat):Int) by rw [Int.tdiv_eq_ediv_of_nonneg (by omega)];unfold wrap64;omega,show wrap64 (((k+1:Nat):Int) - 1)=(k:Int) by unfold wrap64;omega];refine BJ (ih (n/2) (by omega) (by omega)) ?_;rw [Nat.div_div_eq_div_mul,Nat.pow_succ,Nat.mul_comm]
theorem Wu (x y k:Nat):(x ^^^ y)%2^(k+1)=(x ^^^ y)%2^k+2^k*(if x/2^k%2=y/2^k%2 then 0 else 1):=by
 have h1:(x ^^^ y)%2^(k+1)=(x ^^^ y)%2^k+2^k*((x ^^^ y)/2^k%2):=by rw [Nat.pow_succ,Nat.mod_mul]
 rw [h1];congr 2;have h2:(x ^^^ y)/2^k%2=((x ^^^ y).testBit k).toNat:=by rw [Nat.testBit_eq_decide_div_mod_eq];rcases Nat.mod_two_eq_zero_or_one ((x ^^^ y)/2^k) with h|h<;>rw [h]<;>rfl
 have hb:∀ z:Nat,z/2^k%2=(z.testBit k).toNat:=λz=>by rw [Nat.testBit_eq_decide_div_mod_eq];rcases Nat.mod_two_eq_zero_or_one (z/2^k) with h|h<;>rw [h]<;>rfl
 rw [h2,Nat.testBit_xor,hb x,hb y];cases x.testBit k<;>cases y.testBit k<;>decide
theorem PK {x y:Nat} (hx:x<4294967296) (hy:y<4294967296):Ev (λr=>Bf.f r (x:Int) (y:Int)) ((x ^^^ y:Nat):Int):=by
 simp only [Bf.f];have main:∀ d k:Nat,k+d=32->Ev (λr=>Bf.l0 r (x:Int) (y:Int) (((x ^^^ y)%2^k:Nat):Int) ((2^k:Nat):Int) (k:Int)) ((x ^^^ y:Nat):Int):=by
  intro d;induction d with
  |zero=>
   intro k hk;obtain rfl:k=32:=by omega
   apply Az;simp only [Bf.l0];refine Ab (by omega) (BJ (Ad _) ?_);rw [Nat.mod_eq_of_lt (Nat.xor_lt_two_pow (show x<2^32 from hx) (show y<2^32 from hy))]
  |succ d ih=>
   intro k hk;apply Az;simp only [Bf.l0];have hp:2^k<=2147483648:=Nat.pow_le_pow_right (n:=2) (j:=31) (by decide) (by omega);have hm:(x ^^^ y)%2^k<2^k:=Nat.mod_lt _ (Nat.two_pow_pos k);have hl:=Wu x y k;have hq:=ih (k+1) (by omega);rw [hl] at hq;have w1:wrap64 (2*((2^k:Nat):Int))=((2^(k+1):Nat):Int):=by rw [Nat.pow_succ];unfold wrap64;omega
   have w2:wrap64 ((k:Int)+1)=((k+1:Nat):Int):=by unfold wrap64;omega
   refine AU (by omega) (AY (VO k x hx (by omega)) (AY (VO k y hy (by omega)) ?_));rw [w1,w2];by_cases hb:x/2^k%2=y/2^k%2
   ·rw [if_pos hb,Nat.mul_zero,Nat.add_zero] at hq;exact AU (by rw [hb]) hq
   ·rw [if_neg hb,Nat.mul_one] at hq;refine Ab (by omega) ?_;rw [show wrap64 ((((x ^^^ y)%2^k:Nat):Int)+((2^k:Nat):Int))=(((x ^^^ y)%2^k+2^k:Nat):Int) by unfold wrap64;omega];exact hq
 have h:=main 32 0 rfl;rw [Nat.pow_zero,Nat.mod_one] at h;exact h
theorem VP {c:Nat} (h:c<256):Ev (λr=>Bz.f r (c:Int)) ((Ns.entry c:Nat):Int):=by
 simp only [Bz.f];have main:∀ d k n:Nat,k+d=8->n<4294967296->Ev (λr=>Bz.l0 r (n:Int) (k:Int)) ((Ns.steps d n:Nat):Int):=by
  intro d;induction d with
  |zero=>
   intro k n hk hn;apply Az;simp only [Bz.l0];exact Ab (by omega) (Ad _)
  |succ d ih=>
   intro k n hk hn;apply Az;simp only [Bz.l0];have w2:wrap64 ((k:Int)+1)=((k+1:Nat):Int):=by unfold wrap64;omega
   have w1:wrap64 (Int.tdiv (n:Int) 2)=((n/2:Nat):Int):=by rw [Int.tdiv_eq_ediv_of_nonneg (by omega)];unfold wrap64;omega
   have hs:Ns.steps (d+1) n=Ns.steps d (Ns.step1 n):=rfl;have hlt:=Ns.Pq (show n<2^32 from hn);have hq:=ih (k+1) (Ns.step1 n) (by omega) hlt;rw [w1,w2,hs];refine AU (by omega) ?_;unfold Ns.step1 at hq⊢
   by_cases h1:n%2=1
   ·rw [if_pos h1] at hq⊢
    refine AU (by rw [Int.tmod_eq_emod_of_nonneg (by omega)];omega) (AY (PK (x:=n/2) (y:=3988292384) (by omega) (by decide)) hq)
   ·rw [if_neg h1] at hq⊢
    exact Ab (by rw [Int.tmod_eq_emod_of_nonneg (by omega)];omega) hq
 exact main 8 0 c rfl (by omega)
theorem Wv {s b:Nat} (hs:s<4294967296) (hb:b<256):Ev (λr=>Eo.f r (s:Int) (b:Int)) ((Ns.upd s b:Nat):Int):=by
 simp only [Eo.f];have hx:b ^^^ (s%256)<256:=Nat.xor_lt_two_pow (n:=8) hb (by omega);rw [show Int.tmod (s:Int) 256=((s%256:Nat):Int) by rw [Int.tmod_eq_emod_of_nonneg (by omega)];omega,show wrap64 (Int.tdiv (s:Int) 256)=((s/256:Nat):Int) by rw [Int.tdiv_eq_ediv_of_nonneg (by omega)];unfold wrap64;omega];refine AY (PK (x:=b) (y:=s%256) (by omega) (by omega)) (AY (VP hx) (AY (PK (x:=s/256) (y:=Ns.entry (b ^^^ (s%256))) (by omega) (QU hx)) (BJ (Ad _) ?_)));unfold Ns.upd;rw [Nat.xor_comm b]
theorem RS {s:ByteArray} (h:s.size<=1000000000):Ev (λr=>Cm.f r s) ((4294967295 - PI s:Nat):Int):=by
 simp only [Cm.f];have hl:=QT s;have main:∀ d k c:Nat,k+d=s.size->c<4294967296->Ev (λr=>Cm.l0 r s (c:Int) (k:Int)) ((4294967295 - Ws ((IW s).drop k) c:Nat):Int):=by
  intro d;induction d with
  |zero=>
   intro k c hk hc;apply Az;simp only [Cm.l0];refine Ab (by omega) (BJ (Ad _) ?_);rw [List.drop_eq_nil_of_le (by omega)];show wrap64 _=((4294967295 - c:Nat):Int);unfold wrap64;omega
  |succ d ih=>
   intro k c hk hc;apply Az;simp only [Cm.l0];have hlt:k<(IW s).length:=by omega
   have hb:bt s (k:Int)=((IW s)[k]:Nat):=by
    rw [OD,Kn,Int.toNat_natCast,List.getD_eq_getElem?_getD,List.getElem?_map,List.getElem?_eq_getElem hlt];rfl
   have hr:=KQ (List.getElem_mem hlt);rw [List.drop_eq_getElem_cons hlt];refine AU (by omega) (AU (by omega) ?_);rw [hb,show wrap64 (((IW s)[k]:Nat):Int)=(((IW s)[k]:Nat):Int) by unfold wrap64;omega,show wrap64 ((k:Int)+1)=((k+1:Nat):Int) by unfold wrap64;omega];exact AY (Wv hc hr) (ih (k+1) _ (by omega) (RQ hc hr))
 exact main s.size 0 4294967295 (by omega) (by decide)
theorem Il {s:ByteArray} (h:s.size<=1000000000):Ev (λr=>Ci.f r s) (F5 s):=by
 simp only [Ci.f];refine AY (RS h) (BJ (Ad _) ?_);rw [F5];have hc:4294967295 - PI s<=4294967295:=by omega
 generalize 4294967295 - PI s=v at*
 have e1:Int.tdiv (v:Int) 256=((v/256:Nat):Int):=by rw [Int.tdiv_eq_ediv_of_nonneg (by omega)];omega
 have e2:Int.tdiv (v:Int) 65536=((v/65536:Nat):Int):=by rw [Int.tdiv_eq_ediv_of_nonneg (by omega)];omega
 have e3:Int.tdiv (v:Int) 16777216=((v/16777216:Nat):Int):=by rw [Int.tdiv_eq_ediv_of_nonneg (by omega)];omega
 rw [e1,e2,e3];refine congrArg strOfNums ?_;simp only [VM,List.cons.injEq,and_true];rw [Int.tmod_eq_emod_of_nonneg (by omega),show wrap64 ((v/256:Nat):Int)=((v/256:Nat):Int) by unfold wrap64;omega,show wrap64 ((v/65536:Nat):Int)=((v/65536:Nat):Int) by unfold wrap64;omega,show wrap64 ((v/16777216:Nat):Int)=((v/16777216:Nat):Int) by unfold wrap64;omega,Int.tmod_eq_emod_of_nonneg (by omega),Int.tmod_eq_emod_of_nonneg (by omega)];exact ⟨by omega,by omega,by omega,by omega⟩
theorem PL {s:ByteArray} (h:s.size<=1000000000):Ev (λr=>CB.f r s) (IY s):=by
 simp only [CB.f];unfold IY;have hw:wrap64 ((s.size:Int) - 4)=(s.size:Int) - 4:=by unfold wrap64;omega
 rw [hw];by_cases h4:4<=s.size
 ·rw [show ((s.size:Int) - 4).toNat=s.size - 4 by omega];refine AU (by omega) (AU (by omega) (AU (by omega) (AY (Il (by rw [ByteArray.size_extract];omega)) (BJ (Ad _) ?_))));rw [decide_eq_true h4,Bool.true_and,M5]
 ·exact Ab (by omega) (BJ (Ad _) (by rw [decide_eq_false h4,Bool.false_and]))
end Go.Proofs.YtfggjdkccdkogaaGreatDoor.Y
end
section
namespace Go.Proofs.YtfggjdkccdkogaaGreatDoor.Y
open RowKit Print Ac Aq Aw
theorem Vs {α:Type} {f:Nat->Option α} {r:α} (hm:∀ k,CZ (f k) (f (k+1))) (K:Nat) (h:f K=some r):Ev f r:=by
 refine ⟨K,λk hk=>?_⟩;induction k with
 |zero=>
  obtain rfl:K=0:=by omega
  exact h
 |succ k ih=>
  rcases Nat.lt_or_ge k K with h1|h1
  ·obtain rfl:K=k+1:=by omega
   exact h
  ·exact hm k _ (ih h1)
theorem Ez:Ev (λk=>AX.f k) true:=Vs AX.mono 60 (by decide+kernel)
end Go.Proofs.YtfggjdkccdkogaaGreatDoor.Y
end
