/- What snap reads is what the document reads: of every text no longer than a row may be. -/
import Derived.Test.YtfggjdkccdkogaaGreatDoorPrint26
import Derived.Test.YtfggjdkccdkogaaGreatDoorYB
import Derived.Test.YtfggjdkccdkogaaGreatDoorYS
section
namespace Go.Proofs.YtfggjdkccdkogaaGreatDoor.Y
set_option linter.unusedVariables false
set_option linter.unusedSimpArgs false
open RowKit Print Ac Aq Aw
def FI (no:Int) (is:Bool) (no2:Int):Int:=if is=true then (if no=0 then no2 else no) else no
theorem FD (s:ByteArray) (no:Int) (is:Bool) (no2:Int):Bp.f s no is no2=some (s,FI no is no2):=by
 unfold Bp.f FI;split
 ·split<;>rfl
 ·rfl
theorem OL (s:ByteArray):0<=(tk s).1/\(tk s).1<18446744073709551616/\0<=(tk s).2.1/\(tk s).2.1<=s.size:=by
 rcases UN (bytesOf s) 0 0 with h|⟨h1,h2,_⟩
 ·have:=MZ (s:=s) h;omega
 ·have e1:(tk s).1=0:=h1;have e2:(tk s).2.1=0:=h2;omega
theorem Pd (s:ByteArray) (most:Int):0<=(MG s most).2.1/\(MG s most).2.1<=s.size/\((MG s most).1.size:Int)<=mx most 0:=by
 have hm:0<=mx most 0:=by unfold mx;split<;>omega
 have ha:=OL s;unfold MG
 repeat' split
 all_goals first
  |exact ⟨Int.le_refl _,Int.natCast_nonneg _,hm⟩
  |(refine ⟨?_,?_,?_⟩<;>simp only [ByteArray.size_extract]<;>omega)
def Ie (most:Int) (s:ByteArray) (no:Int):Int×ByteArray×Int:=if no=0 then (mn (tk s).1 most,s.extract (tk s).2.1.toNat s.size,if (tk s).2.2=0 then (if (tk s).1>most then 224 else 0) else (tk s).2.2) else (0,s,no)
theorem FT {s:ByteArray} {no most:Int} (hs:s.size<=1000000000) (h0:0<=most) (h1:most<=253402300799):Ev (λk=>Bl.f k s no most) (Ie most s no):=by
 simp only [Bl.f];have ha:=OL s;unfold Ie;by_cases h:no=0
 ·rw [if_pos h];subst h;refine AU rfl (AY (TB (by omega)) ?_);simp only [FD,Option.bind_some];refine AU (by omega) (AU (by omega) (BJ (Ad _) ?_));rw [EU h0 (by omega)];refine Prod.ext ?_ (Prod.ext rfl ?_)
  ·show wrap64 (mn (tk s).1 most)=mn (tk s).1 most;unfold wrap64 mn;split<;>omega
  ·show FI (FI 0 ((tk s).2.2 != 0) (tk s).2.2) (decide ((tk s).1>most)) 224=_;unfold FI;by_cases he:(tk s).2.2=0
   ·rw [he,if_pos rfl];by_cases hm:(tk s).1>most
    ·simp [hm]
    ·simp [hm]
   ·simp [he]
 ·rw [if_neg h];exact Ab h (Ad _)
def Gc (most:Int) (s:ByteArray) (no:Int):ByteArray×ByteArray×Int:=if no=0 then ((MG s most).1,s.extract (MG s most).2.1.toNat s.size,(MG s most).2.2) else (⟨#[]⟩,s,no)
theorem F6 {s:ByteArray} {no most:Int} (hs:s.size<=1000000000) (h1:most<=253402300799):Ev (λk=>Cw.f k s no most) (Gc most s no):=by
 simp only [Cw.f];have ha:=Pd s most;unfold Gc;by_cases h:no=0
 ·rw [if_pos h];subst h;refine AU rfl (AY (Qv (by omega) (by omega)) ?_);simp only [FD,Option.bind_some];refine AU (by omega) (AU (by omega) (BJ (Ad _) (Prod.ext rfl (Prod.ext rfl ?_))));show FI 0 ((MG s most).2.2 != 0) (MG s most).2.2=_;unfold FI;by_cases he:(MG s most).2.2=0
  ·simp [he]
  ·simp [he]
 ·rw [if_neg h];exact Ab h (Ad _)
def JZ (s:ByteArray) (no:Int):Int×ByteArray×Int:=if no=0 then (if s.size=0 then (0,s,224) else (bt s 0,s.extract 1 s.size,0)) else (0,s,no)
theorem Gx {s:ByteArray}:s.toList=([]:List UInt8)↔s.size=0:=by
 rw [toList_data, <-Array.toList_empty,Array.toList_inj, <-ByteArray.size_data,Array.size_eq_zero_iff]
theorem OM (s:ByteArray) (no:Int):Dt.f s no=some (JZ s no):=by
 unfold Dt.f JZ;rw [FD,Option.bind_some];by_cases hz:s.size=0
 ·have hb:(s.toList==([]:List UInt8))=true:=beq_iff_eq.2 (Gx.2 hz);by_cases h:no=0<;>simp [FI,hb,hz,h]
 ·have hb:(s.toList==([]:List UInt8))=false:=beq_eq_false_iff_ne.2 λe=>hz (Gx.1 e)
  have p1:0<s.size:=by omega
  have p2:1<=s.size:=p1;by_cases h:no=0
  ·simp only [FI,hb,if_neg (show ¬(false=true) by decide),h,if_true,if_neg hz];rw [if_pos (by omega),if_pos (by omega)]
  ·simp only [FI,hb,if_neg (show ¬(false=true) by decide),if_neg h]
def Ja (most:Int) (s:ByteArray) (e:Int):ByteArray×Int×Int:=if e=0 then (if (tk s).2.2=0 then (if (tk s).1>most then (⟨#[]⟩,224,0) else (s.extract (tk s).2.1.toNat s.size,0,(tk s).1)) else (⟨#[]⟩,(tk s).2.2,0)) else (s,e,0)
theorem Hq {s:ByteArray} {e most:Int} (hs:s.size<=1000000000) (h0:0<=most) (h1:most<=253402300799):Ev (λk=>Bg.f k s e most) (Ja most s e):=by
 simp only [Bg.f];have ha:=OL s;unfold Ja;by_cases h:e=0
 ·rw [if_pos h];refine AU h (AY (MF (by omega)) ?_);rw [EU h0 (by omega)];by_cases he:(tk s).2.2=0
  ·refine AU he ?_;by_cases hm:(tk s).1>most
   ·exact AU hm (BJ (Ad _) (by rw [if_pos he,if_pos hm]))
   ·refine Ab hm (AU (by omega) (AU (by omega) (BJ (Ad _) ?_)));rw [if_pos he,if_neg hm,show wrap64 (tk s).1=(tk s).1 by unfold wrap64;omega]
  ·exact Ab he (BJ (Ad _) (by rw [if_neg he]))
 ·rw [if_neg h];exact Ab h (Ad _)
def H9 (most:Int) (s:ByteArray) (e:Int):ByteArray×Int×ByteArray:=if e=0 then (if (MG s most).2.2=0 then (s.extract (MG s most).2.1.toNat s.size,0,(MG s most).1) else (⟨#[]⟩,(MG s most).2.2,⟨#[]⟩)) else (s,e,⟨#[]⟩)
theorem IB {s:ByteArray} {e most:Int} (hs:s.size<=1000000000) (h1:most<=253402300799):Ev (λk=>Cj.f k s e most) (H9 most s e):=by
 simp only [Cj.f];have ha:=Pd s most;unfold H9;by_cases h:e=0
 ·rw [if_pos h];refine AU h (AY (MM (by omega) (by omega)) ?_);by_cases he:(MG s most).2.2=0
  ·exact AU he (AU (by omega) (AU (by omega) (BJ (Ad _) (by rw [if_pos he]))))
  ·exact Ab he (BJ (Ad _) (by rw [if_neg he]))
 ·rw [if_neg h];exact Ab h (Ad _)
def Le (s:ByteArray) (e:Int):ByteArray×Int×Int:=if e=0 then (if s.size=0 then (⟨#[]⟩,224,0) else (s.extract 1 s.size,0,bt s 0)) else (s,e,0)
theorem OO (s:ByteArray) (e:Int):Cb.f s e=some (Le s e):=by
 unfold Cb.f Le;by_cases h:e=0
 ·rw [if_pos h,if_pos h];by_cases hz:s.size=0
  ·rw [if_pos (Gx.2 hz),if_pos hz]
  ·rw [if_neg (λe=>hz (Gx.1 e)),if_neg hz,if_pos (by omega),if_pos (by omega)]
 ·rw [if_neg h,if_neg h]
def UG (s:ByteArray) (no:Int) (S:ByteArray) (E:Int):Prop:=no=E/\(no=0->s=S)
theorem MU {s S:ByteArray} {no E most:Int} (h:UG s no S E):UG (Ie most s no).2.1 (Ie most s no).2.2 (Ja most S E).1 (Ja most S E).2.1/\((Ja most S E).2.1=0->E=0/\(Ie most s no).1=(Ja most S E).2.2/\0<=(Ja most S E).2.2/\(Ja most S E).2.2<=most):=by
 obtain ⟨rfl,h⟩:=h;have ha:=OL S;unfold Ie Ja UG;by_cases hn:no=0
 ·obtain rfl:=h hn;rw [if_pos hn,if_pos hn];by_cases he:(tk s).2.2=0
  ·rw [if_pos he,if_pos he];by_cases hm:(tk s).1>most
   ·rw [if_pos hm,if_pos hm];exact ⟨⟨rfl,λh=>by cases h⟩,λh=>by cases h⟩
   ·rw [if_neg hm,if_neg hm];refine ⟨⟨rfl,λ_=>rfl⟩,λ_=>⟨hn,?_,by simp only;omega,by simp only;omega⟩⟩;show mn (tk s).1 most=(tk s).1;unfold mn;rw [if_neg (by omega)]
  ·rw [if_neg he,if_neg he];exact ⟨⟨rfl,λh=>(he h).elim⟩,λh=>(he h).elim⟩
 ·rw [if_neg hn,if_neg hn];exact ⟨⟨rfl,λh=>(hn h).elim⟩,λh=>(hn h).elim⟩
theorem Kz {s S:ByteArray} {no E most:Int} (h:UG s no S E):UG (Gc most s no).2.1 (Gc most s no).2.2 (H9 most S E).1 (H9 most S E).2.1/\((H9 most S E).2.1=0->E=0/\(Gc most s no).1=(H9 most S E).2.2):=by
 obtain ⟨rfl,h⟩:=h;unfold Gc H9 UG;by_cases hn:no=0
 ·obtain rfl:=h hn;rw [if_pos hn,if_pos hn];by_cases he:(MG s most).2.2=0
  ·rw [if_pos he];exact ⟨⟨he,λ_=>rfl⟩,λ_=>⟨hn,rfl⟩⟩
  ·rw [if_neg he];exact ⟨⟨rfl,λh=>(he h).elim⟩,λh=>(he h).elim⟩
 ·rw [if_neg hn,if_neg hn];exact ⟨⟨rfl,λh=>(hn h).elim⟩,λh=>(hn h).elim⟩
theorem Sk {s S:ByteArray} {no E:Int} (h:UG s no S E):UG (JZ s no).2.1 (JZ s no).2.2 (Le S E).1 (Le S E).2.1/\((Le S E).2.1=0->E=0/\(JZ s no).1=(Le S E).2.2):=by
 obtain ⟨rfl,h⟩:=h;unfold JZ Le UG;by_cases hn:no=0
 ·obtain rfl:=h hn;rw [if_pos hn,if_pos hn];by_cases hz:s.size=0
  ·rw [if_pos hz,if_pos hz];exact ⟨⟨rfl,λh=>by cases h⟩,λh=>by cases h⟩
  ·rw [if_neg hz,if_neg hz];exact ⟨⟨rfl,λ_=>rfl⟩,λ_=>⟨hn,rfl⟩⟩
 ·rw [if_neg hn,if_neg hn];exact ⟨⟨rfl,λh=>(hn h).elim⟩,λh=>(hn h).elim⟩
theorem Gy (most:Int) (s:ByteArray) (no:Int):(Ie most s no).2.1.size<=s.size:=by
 unfold Ie;split
 ·simp only [ByteArray.size_extract];omega
 ·exact Nat.le_refl _
theorem Gq (most:Int) (s:ByteArray) (no:Int):(Gc most s no).2.1.size<=s.size/\((Gc most s no).1.size:Int)<=mx most 0:=by
 have ha:=Pd s most;unfold Gc;split
 ·refine ⟨?_,ha.2.2⟩;simp only [ByteArray.size_extract];omega
 ·exact ⟨Nat.le_refl _,by unfold mx;simp only;show ((0:Nat):Int)<=_;split<;>omega⟩
theorem K3 (s:ByteArray) (no:Int):(JZ s no).2.1.size<=s.size/\0<=(JZ s no).1/\(JZ s no).1<256:=by
 have hb:=GH s 0;unfold JZ;split
 ·split
  ·exact ⟨Nat.le_refl _,Int.le_refl 0,show (0:Int)<256 by decide⟩
  ·refine ⟨?_,hb.1,hb.2⟩;simp only [ByteArray.size_extract];omega
 ·exact ⟨Nat.le_refl _,Int.le_refl 0,show (0:Int)<256 by decide⟩
theorem Lf (most:Int) (s:ByteArray) (e:Int):(Ja most s e).1.size<=s.size:=by
 unfold Ja
 repeat' split
 all_goals (first|exact Nat.zero_le _|exact Nat.le_refl _|(simp only [ByteArray.size_extract];omega))
theorem JM (most:Int) (s:ByteArray) (e:Int):(H9 most s e).1.size<=s.size/\((H9 most s e).2.2.size:Int)<=mx most 0:=by
 have ha:=Pd s most;have hz:((⟨#[]⟩:ByteArray).size:Int)<=mx most 0:=by show ((0:Nat):Int)<=_;unfold mx;split<;>omega
 unfold H9
 repeat' split
 ·exact ⟨by simp only [ByteArray.size_extract];omega,ha.2.2⟩
 ·exact ⟨Nat.zero_le _,hz⟩
 ·exact ⟨Nat.le_refl _,hz⟩
theorem OP (s:ByteArray) (e:Int):(Le s e).1.size<=s.size:=by
 unfold Le
 repeat' split
 all_goals (first|exact Nat.zero_le _|exact Nat.le_refl _|(simp only [ByteArray.size_extract];omega))
def GV (v:Int) (se ht ho:Bool):Int:=(if se=true then 1 else 0)+(if ht=true then 2 else 0)+(if ho=true/\1<v then 4 else 0)
theorem MV (v:Int) (b0 b1 b2 b3:ByteArray) (se ht:Bool) (c6 c7:Int) (ho:Bool) (c9:Int):FM.f v b0 b1 b2 b3 se ht c6 c7 ho c9=some (GV v se ht ho):=by
 unfold FM.f GV Ye;by_cases h:1<v
 ·rw [decide_eq_true h];cases se<;>cases ht<;>cases ho<;>simp [h]<;>decide
 ·rw [decide_eq_false h];cases se<;>cases ht<;>cases ho<;>simp [h]<;>decide
theorem K4 (v:Int) (b0 b1 b2 b3:ByteArray) (c4 c5 c6:Int) (ho se ht:Bool) (ss:Int):Ev (λk=>BU.f k v b0 b1 b2 b3 c4 c5 c6 ho se ht ss) (GV v se ht ho):=by
 simp only [BU.f];unfold GV;cases se<;>cases ht<;>cases ho<;>simp only [if_true,if_neg (show ¬(false=true) by decide)]<;>apply Az<;>simp only [BU.j0,if_true,if_neg (show ¬(false=true) by decide)]<;>by_cases h:v>=2<;>simp [h,show (1<v)=(v>=2) from propext ⟨λ_=>by omega,λ_=>by omega⟩]<;>first|exact Ad _|exact BJ (Ad _) (by unfold wrap64;omega)|(unfold wrap64;simp;exact Ad _)
theorem Vd {f:Int} (h0:0<=f) (h1:f<256):Ee f 1=(Int.tmod f 2==1)/\Ee f 2=(((Int.tdiv f 2)%256)%2==1)/\Ee f 4=(((Int.tdiv f 4)%256)%2==1):=
 LD (P:=λf=>Ee f 1=(Int.tmod f 2==1)/\Ee f 2=(((Int.tdiv f 2)%256)%2==1)/\Ee f 4=(((Int.tdiv f 4)%256)%2==1)) (by decide+kernel) h0 h1
end Go.Proofs.YtfggjdkccdkogaaGreatDoor.Y
end
section
namespace Go.Proofs.YtfggjdkccdkogaaGreatDoor.Y
set_option linter.unusedVariables false
set_option linter.unusedSimpArgs false
open RowKit Print Ac Aq Aw
theorem D6 {α:Type} {o:Option α} {r:α} (h:o=some r):Ev (λ_=>o) r:=⟨0,λ_ _=>h⟩
theorem Iw {α β:Type} {g:Nat->Option α} {r:α} {φ:α->β} (h:Ev g r):Ev (λk=>(g k).map φ) (φ r):=by
 obtain ⟨K,h⟩:=h;exact ⟨K,λk hk=>by show (g k).map φ=_;rw [h k hk];rfl⟩
theorem JN {most:Int} {s:ByteArray} {e:Int} (h:e≠0):(H9 most s e).2.1=e:=by unfold H9;rw [if_neg h]
theorem Lg {most:Int} {s:ByteArray} {e:Int} (h:e≠0):(Ja most s e).2.1=e:=by unfold Ja;rw [if_neg h]
theorem OQ {s:ByteArray} {e:Int} (h:e≠0):(Le s e).2.1=e:=by unfold Le;rw [if_neg h]
abbrev Fs:Int:=253402300799
set_option maxHeartbeats 2000000 in
theorem NL {v:Int} {s S:ByteArray} {no E:Int} (hv:1<=v/\v<=3) (hs:s.size<=1000000000) (hS:S.size<=1000000000) (h:UG s no S E):
 ∃ (c:SC) (s':ByteArray) (no':Int) (S':ByteArray) (E':Int) (C:SC),Ev (λk=>JW k s no v) (c,s',no')/\Ev (λk=>BF.f k S E v) (S',E',C.f0,C.f1,C.f2,C.f3,C.f4,C.f5,C.f6,C.f7,C.f8,C.f9,C.f10)/\UG s' no' S' E'/\(E'=0->c=C/\E=0/\Fy c=true)/\Fb c/\Fb C/\s'.size<=s.size/\S'.size<=S.size/\(E≠0->E'=E):=by
 have hm:∀ m:Int,0<=m->mx m 0=m:=λm hm=>by unfold mx;split<;>omega
 rcases h1:Gc 64 s no with ⟨d,s1,n1⟩
 rcases r1:H9 64 S E with ⟨S1,E1,D⟩
 have m1:=Kz (most:=64) h;have z1:=Gq 64 s no;have y1:=JM 64 S E;have p1:=F6 (s:=s) (no:=no) (most:=64) hs (by decide);have q1:=IB (s:=S) (e:=E) (most:=64) hS (by decide);rw [h1] at m1 z1 p1;rw [r1] at m1 y1 q1;rw [hm 64 (by decide)] at z1 y1;simp only at m1 z1 y1;rcases h2:Gc 64 s1 n1 with ⟨p,s2,n2⟩
 rcases r2:H9 64 S1 E1 with ⟨S2,E2,P⟩
 have m2:=Kz (most:=64) m1.1;have z2:=Gq 64 s1 n1;have y2:=JM 64 S1 E1;have p2:=F6 (s:=s1) (no:=n1) (most:=64) (by omega) (by decide);have q2:=IB (s:=S1) (e:=E1) (most:=64) (by omega) (by decide);rw [h2] at m2 z2 p2;rw [r2] at m2 y2 q2;rw [hm 64 (by decide)] at z2 y2;simp only at m2 z2 y2;rcases h3:Gc 64 s2 n2 with ⟨nm,s3,n3⟩
 rcases r3:H9 64 S2 E2 with ⟨S3,E3,NM⟩
 have m3:=Kz (most:=64) m2.1;have z3:=Gq 64 s2 n2;have y3:=JM 64 S2 E2;have p3:=F6 (s:=s2) (no:=n2) (most:=64) (by omega) (by decide);have q3:=IB (s:=S2) (e:=E2) (most:=64) (by omega) (by decide);rw [h3] at m3 z3 p3;rw [r3] at m3 y3 q3;rw [hm 64 (by decide)] at z3 y3;simp only at m3 z3 y3;rcases h4:Gc 128 s3 n3 with ⟨vl,s4,n4⟩
 rcases r4:H9 128 S3 E3 with ⟨S4,E4,VL⟩
 have m4:=Kz (most:=128) m3.1;have z4:=Gq 128 s3 n3;have y4:=JM 128 S3 E3;have p4:=F6 (s:=s3) (no:=n3) (most:=128) (by omega) (by decide);have q4:=IB (s:=S3) (e:=E3) (most:=128) (by omega) (by decide);rw [h4] at m4 z4 p4;rw [r4] at m4 y4 q4;rw [hm 128 (by decide)] at z4 y4;simp only at m4 z4 y4;rcases h5:JZ s4 n4 with ⟨f,s5,n5⟩
 rcases r5:Le S4 E4 with ⟨S5,E5,F⟩
 have m5:=Sk m4.1;have z5:=K3 s4 n4;have y5:=OP S4 E4;have p5:=D6 (OM s4 n4);have q5:=D6 (OO S4 E4);rw [h5] at m5 z5 p5;rw [r5] at m5 y5 q5;simp only at m5 z5 y5;rcases h6:Ie Fs s5 n5 with ⟨ex,s6,n6⟩
 rcases r6:Ja Fs S5 E5 with ⟨S6,E6,EX⟩
 have m6:=MU (most:=Fs) m5.1;have z6:=Gy Fs s5 n5;have y6:=Lf Fs S5 E5;have p6:=FT (s:=s5) (no:=n5) (most:=Fs) (by omega) (by decide) (by decide);have q6:=Hq (s:=S5) (e:=E5) (most:=Fs) (by omega) (by decide) (by decide);rw [h6] at m6 z6 p6;rw [r6] at m6 y6 q6;simp only at m6 z6 y6;rcases h7:Ie Fs s6 n6 with ⟨cr,s7,n7⟩
 rcases r7:Ja Fs S6 E6 with ⟨S7,E7,CR⟩
 have m7:=MU (most:=Fs) m6.1;have z7:=Gy Fs s6 n6;have y7:=Lf Fs S6 E6;have p7:=FT (s:=s6) (no:=n6) (most:=Fs) (by omega) (by decide) (by decide);have q7:=Hq (s:=S6) (e:=E6) (most:=Fs) (by omega) (by decide) (by decide);rw [h7] at m7 z7 p7;rw [r7] at m7 y7 q7;simp only at m7 z7 y7;obtain ⟨ac,ho,s8,n8,S8,E8,AC,HO,p8,q8,m8,e8,w8,x8,k8⟩:∃ (ac:Int) (ho:Bool) (s8:ByteArray) (n8:Int) (S8:ByteArray) (E8 AC:Int) (HO:Bool),Ev (λk=>if 1<v then (Bl.f k s7 n7 253402300799).map λz=>(z.1,Ee f 4,z.2.1,z.2.2) else some (cr,true,s7,n7)) (ac,ho,s8,n8)/\
  (v>=2/\Ev (λk=>Bg.f k S7 E7 Fs) (S8,E8,AC)/\HO=((((Int.tdiv F 4)%256)%2)==1)\/¬v>=2/\S8=S7/\E8=E7/\AC=CR/\HO=true)/\UG s8 n8 S8 E8/\(E8=0->E7=0/\(cr=CR->ac=AC)/\(f=F->ho=HO))/\s8.size<=s7.size/\S8.size<=S7.size/\(E7≠0->E8=E7):=by
  by_cases h2v:1<v
  ·rcases h8:Ie Fs s7 n7 with ⟨ac,s8,n8⟩
   rcases r8:Ja Fs S7 E7 with ⟨S8,E8,AC⟩
   have m8:=MU (most:=Fs) m7.1;have z8:=Gy Fs s7 n7;have y8:=Lf Fs S7 E7;have p8:=FT (s:=s7) (no:=n7) (most:=Fs) (by omega) (by decide) (by decide);have q8:=Hq (s:=S7) (e:=E7) (most:=Fs) (by omega) (by decide) (by decide);rw [h8] at m8 z8 p8;rw [r8] at m8 y8 q8;simp only at m8 z8 y8;exact ⟨ac,Ee f 4,s8,n8,S8,E8,AC,_,AU h2v (Iw p8), .inl ⟨by omega,q8,rfl⟩,m8.1,λhe=>⟨(m8.2 he).1,λ_=>(m8.2 he).2.1,λhf=>by rw [<-hf];exact (Vd z5.2.1 z5.2.2).2.2⟩,z8,y8,λh=>by have:=Lg (most:=Fs) (s:=S7) h;rw [r8] at this;exact this⟩
  ·exact ⟨cr,true,s7,n7,S7,E7,CR,true,Ab h2v (Ad _), .inr ⟨by omega,rfl,rfl,rfl,rfl⟩,m7.1,λhe=>⟨he,id,λ_=>rfl⟩,Nat.le_refl _,Nat.le_refl _,λ_=>rfl⟩
 obtain ⟨ss,s9,n9,S9,E9,SS,p9,q9,m9,e9,w9,x9,k9⟩:∃ (ss:Int) (s9:ByteArray) (n9:Int) (S9:ByteArray) (E9 SS:Int),Ev (λ_=>if 2<v then (Dt.f s8 n8).map λq=>(wrap64 q.1,q.2.1,q.2.2) else some (0,s8,n8)) (ss,s9,n9)/\
  (v=3/\(∃ b,Cb.f S8 E8=some (S9,E9,b)/\SS=wrap64 b)\/¬v=3/\S9=S8/\E9=E8/\SS=0)/\UG s9 n9 S9 E9/\(E9=0->E8=0/\ss=SS)/\s9.size<=s8.size/\S9.size<=S8.size/\(E8≠0->E9=E8):=by
  by_cases h3v:2<v
  ·rcases h9:JZ s8 n8 with ⟨b,s9,n9⟩
   rcases r9:Le S8 E8 with ⟨S9,E9,B⟩
   have m9:=Sk m8;have z9:=K3 s8 n8;have y9:=OP S8 E8;have p9:=D6 (OM s8 n8);have q9:=OO S8 E8;rw [h9] at m9 z9 p9;rw [r9] at m9 y9 q9;simp only at m9 z9 y9;exact ⟨wrap64 b,s9,n9,S9,E9,wrap64 B,AU h3v (Iw p9), .inl ⟨by omega,B,q9,rfl⟩,m9.1,λhe=>⟨(m9.2 he).1,by rw [(m9.2 he).2]⟩,z9.1,y9,λh=>by have:=OQ (s:=S8) h;rw [r9] at this;exact this⟩
  ·exact ⟨0,s8,n8,S8,E8,0,Ab h3v (Ad _), .inr ⟨by omega,rfl,rfl,rfl⟩,m8,λhe=>⟨he,rfl⟩,Nat.le_refl _,Nat.le_refl _,λ_=>rfl⟩
 have hfew:Fb ⟨d,p,nm,vl,cr,ac,ex,ho,Ee f 1,Ee f 2,ss⟩:=⟨by simp only;omega,by simp only;omega,by simp only;omega,by simp only;omega⟩;have hfew2:Fb ⟨D,P,NM,VL,CR,AC,EX,HO,(Int.tmod F 2==1),((((Int.tdiv F 2)%256)%2)==1),SS⟩:=⟨by simp only;omega,by simp only;omega,by simp only;omega,by simp only;omega⟩;have fl:=MV v d p nm vl (Ee f 1) (Ee f 2) ex cr ho ac;have right:=Kw (d:=d) (p:=p) (n:=nm) (v:=vl) (c4:=cr) (c5:=ac) (c6:=ex) (ho:=ho) (se:=Ee f 1) (ht:=Ee f 2) (ss:=ss) (by have:=hfew.1;simp only at this;omega) (by have:=hfew.2.1;simp only at this;omega) (by have:=hfew.2.2.1;simp only at this;omega) (by have:=hfew.2.2.2;simp only at this;omega);have rright:=Ky (d:=D) (p:=P) (n:=NM) (v:=VL) (c4:=CR) (c5:=AC) (c6:=EX) (ho:=HO) (se:=(Int.tmod F 2==1)) (ht:=((((Int.tdiv F 2)%256)%2)==1)) (ss:=SS) (by have:=hfew2.1;simp only at this;omega) (by have:=hfew2.2.1;simp only at this;omega) (by have:=hfew2.2.2.1;simp only at this;omega) (by have:=hfew2.2.2.2;simp only at this;omega);have rfl_:=K4 v D P NM VL CR AC EX HO (Int.tmod F 2==1) ((((Int.tdiv F 2)%256)%2)==1) SS;have heq:E9=0->(d=D/\p=P/\nm=NM/\vl=VL/\cr=CR/\ac=AC/\ex=EX/\ho=HO/\Ee f 1=(Int.tmod F 2==1)/\Ee f 2=((((Int.tdiv F 2)%256)%2)==1)/\ss=SS)/\f=F/\E=0:=by
  intro he;have a9:=e9 he;have a8:=e8 a9.1;have a7:=m7.2 a8.1;have a6:=m6.2 a7.1;have a5:=m5.2 a6.1;have a4:=m4.2 a5.1;have a3:=m3.2 a4.1;have a2:=m2.2 a3.1;have a1:=m1.2 a2.1;have hF:f=F:=a5.2;have hb:=Vd z5.2.1 z5.2.2;exact ⟨⟨a1.2,a2.2,a3.2,a4.2,a7.2.1,a8.2.1 a7.2.1,a6.2.1,a8.2.2 hF,by rw [<-hF];exact hb.1,by rw [<-hF];exact hb.2.1,a9.2⟩,hF,a1.1⟩
 have hkeep:E≠0->E9=E:=by
  intro h0;have a1:=JN (most:=64) (s:=S) h0;rw [r1] at a1;simp only at a1;have a2:=JN (most:=64) (s:=S1) (e:=E1) (by rw [a1];exact h0);rw [r2] at a2;simp only at a2;have a3:=JN (most:=64) (s:=S2) (e:=E2) (by rw [a2,a1];exact h0);rw [r3] at a3;simp only at a3;have a4:=JN (most:=128) (s:=S3) (e:=E3) (by rw [a3,a2,a1];exact h0);rw [r4] at a4;simp only at a4;have a5:=OQ (s:=S4) (e:=E4) (by rw [a4,a3,a2,a1];exact h0);rw [r5] at a5;simp only at a5;have a6:=Lg (most:=Fs) (s:=S5) (e:=E5) (by rw [a5,a4,a3,a2,a1];exact h0);rw [r6] at a6;simp only at a6;have a7:=Lg (most:=Fs) (s:=S6) (e:=E6) (by rw [a6,a5,a4,a3,a2,a1];exact h0);rw [r7] at a7;simp only at a7;have e7:E7=E:=by rw [a7,a6,a5,a4,a3,a2,a1]
  have e8:=k8 (by rw [e7];exact h0);rw [k9 (by rw [e8,e7];exact h0),e8,e7]
 have pEv:∀ no',Ev (λk=>if f=GV v (Ee f 1) (Ee f 2) ho then (Aj.f k d p nm vl cr ac ex ho (Ee f 1) (Ee f 2) ss).bind λok=>Bp.f s9 n9 (!ok) 224 else Bp.f s9 n9 true 224) (s9,no')->Ev (λk=>JW k s no v) (⟨d,p,nm,vl,cr,ac,ex,ho,Ee f 1,Ee f 2,ss⟩,s9,no'):=λno' hh=>
  AY p1 (AY p2 (AY p3 (AY p4 (AY p5 (AY p6 (AY p7 (AY p8 (AY p9 (AY (D6 fl) (Iw hh))))))))))
 have qEv:∀ S' E',Ev (λk=>BF.j1 k v F S9 E9 D P NM VL CR AC EX HO (Int.tmod F 2==1) ((((Int.tdiv F 2)%256)%2)==1) SS) (S',E',D,P,NM,VL,CR,AC,EX,HO,(Int.tmod F 2==1),((((Int.tdiv F 2)%256)%2)==1),SS)->Ev (λk=>BF.f k S E v) (S',E',D,P,NM,VL,CR,AC,EX,HO,(Int.tmod F 2==1),((((Int.tdiv F 2)%256)%2)==1),SS):=by
  intro S' E' hh;have j0:Ev (λk=>BF.j0 k v F S8 E8 D P NM VL CR AC EX HO (Int.tmod F 2==1) ((((Int.tdiv F 2)%256)%2)==1) 0) (S',E',D,P,NM,VL,CR,AC,EX,HO,(Int.tmod F 2==1),((((Int.tdiv F 2)%256)%2)==1),SS):=by
   apply Az;simp only [BF.j0];rcases q9 with ⟨a,b,hb,hss⟩|⟨a,rfl,rfl,rfl⟩
   ·refine AU a (AY (D6 hb) ?_);rw [<-hss];exact hh
   ·exact Ab a hh
  refine AY q1 (AY q2 (AY q3 (AY q4 (AY q5 (AY q6 (AY q7 ?_))))));rcases q8 with ⟨a,b,rfl⟩|⟨a,rfl,rfl,rfl,rfl⟩
  ·exact AU a (AY b j0)
  ·exact Ab a j0
 have hsz:s9.size<=s.size:=by omega
 have hsz2:S9.size<=S.size:=by omega
 by_cases h0:E9=0
 ·obtain ⟨⟨rfl,rfl,rfl,rfl,rfl,rfl,rfl,rfl,g1,g2,rfl⟩,rfl,hE⟩:=heq h0;have hn9:n9=0:=m9.1.trans h0;obtain rfl:=m9.2 hn9;rw [<-g1, <-g2] at qEv hfew2 rright rfl_;by_cases hf:f=GV v (Ee f 1) (Ee f 2) ho
  ·cases hr:Gw d p nm vl cr ac ex ho ss
   ·rw [hr] at right rright;refine ⟨_,s9,224,⟨#[]⟩,224,_,pEv 224 (AU hf (AY right (D6 ?_))),qEv ⟨#[]⟩ 224 ?_,⟨rfl,λh=>by cases h⟩,λh=>(by cases h),hfew,hfew2,hsz,Nat.zero_le _,λh=>(h hE).elim⟩
    ·rw [FD];simp [FI,hn9]
    ·apply Az;simp only [BF.j1];exact AU h0 (AY rfl_ (AU hf (AY rright (Ab (by decide) (Ad _)))))
   ·rw [hr] at right rright;refine ⟨_,s9,0,s9,E9,_,pEv 0 (AU hf (AY right (D6 ?_))),qEv s9 E9 ?_,⟨h0.symm,λ_=>rfl⟩,λ_=>⟨rfl,hE,hr⟩,hfew,hfew2,hsz,hsz2,λh=>(h hE).elim⟩
    ·rw [FD];simp [FI,hn9]
    ·apply Az;simp only [BF.j1];exact AU h0 (AY rfl_ (AU hf (AY rright (AU rfl (Ad _)))))
  ·refine ⟨_,s9,224,⟨#[]⟩,224,_,pEv 224 (Ab hf (D6 ?_)),qEv ⟨#[]⟩ 224 ?_,⟨rfl,λh=>by cases h⟩,λh=>(by cases h),hfew,hfew2,hsz,Nat.zero_le _,λh=>(h hE).elim⟩
   ·rw [FD];simp [FI,hn9]
   ·apply Az;simp only [BF.j1];exact AU h0 (AY rfl_ (Ab hf (Ad _)))
 ·have hn9:n9≠0:=λe=>h0 (m9.1.symm.trans e)
  have hfail:∀ is,FI n9 is 224=n9:=λis=>by unfold FI;split<;>simp [hn9]
  refine ⟨_,s9,n9,S9,E9,_,pEv n9 ?_,qEv S9 E9 ?_,m9,λh=>(h0 h).elim,hfew,hfew2,hsz,hsz2,hkeep⟩
  ·by_cases hf:f=GV v (Ee f 1) (Ee f 2) ho
   ·exact AU hf (AY right (D6 (by rw [FD,hfail])))
   ·exact Ab hf (D6 (by rw [FD,hfail]))
  ·apply Az;simp only [BF.j1];exact Ab h0 (Ad _)
end Go.Proofs.YtfggjdkccdkogaaGreatDoor.Y
end
section
namespace Go.Proofs.YtfggjdkccdkogaaGreatDoor.Y
set_option linter.unusedVariables false
set_option linter.unusedSimpArgs false
open RowKit Print Ac Aq Aw
theorem Pe {v:Int} {N i:Nat} {S:ByteArray} {E:Int} {out:List SC} (h:E≠0):Ev (λk=>AR.l0 k v (N:Int) out (i:Int) S E) (0,[],E):=by
 have hj:∀ b,b=false->Ev (λk=>AR.j2 k v (N:Int) out (i:Int) b S E) (0,[],E):=by
  rintro b rfl;apply Az;simp only [AR.j2];exact Ab (by decide) (Ab h (Ad _))
 apply Az;simp only [AR.l0];by_cases hi:(i:Int)<(N:Int)
 ·exact AU hi (hj _ (beq_eq_false_iff_ne.2 h))
 ·exact Ab hi (hj _ rfl)
theorem Sl {out:List SC} {q:Nat} (h:out.length=q+1):AB out (wrap64 (((q+1:Nat):Int) - 1))=out[q]'(by omega)\/1000000<q:=by
 by_cases hq:q<=1000000
 ·left;rw [show wrap64 (((q+1:Nat):Int) - 1)=(q:Int) by unfold wrap64;omega];exact Hg (by omega)
 ·right;omega
theorem Ri {out:List SC} {c:SC} {q:Nat} (h:Eh D9 kC out) (hl:out.length=q+1) (hc:Gd (kC (out[q]'(by omega))) (kC c)<0):Eh D9 kC (out++[c]):=by
 refine List.pairwise_append.2 ⟨h,List.pairwise_singleton _ _,λx hx y hy=>?_⟩;obtain rfl:=List.mem_singleton.1 hy;obtain ⟨j,hj,rfl⟩:=List.getElem_of_mem hx;rcases Nat.lt_or_ge j q with h1|h1
 ·exact D9.tr (List.pairwise_iff_getElem.1 h j q hj (by omega) h1) hc
 ·obtain rfl:j=q:=by omega
  exact hc
theorem OT {v:Int} {N i:Nat} {s S1:ByteArray} {E1:Int} {C:SC} {out:List SC} {fin:Int×List SC×Int} (hi:i<N) (hN:N<=60) (hl:out.length=i) (hq:Ev (λk=>BF.f k s 0 v) (S1,E1,C.f0,C.f1,C.f2,C.f3,C.f4,C.f5,C.f6,C.f7,C.f8,C.f9,C.f10))
 (h:E1≠0\/i=0) (hh:Ev (λk=>AR.l0 k v (N:Int) (out++[C]) ((i+1:Nat):Int) S1 E1) fin):Ev (λk=>AR.l0 k v (N:Int) out (i:Int) s 0) fin:=by
 have w1:wrap64 ((i:Int)+1)=((i+1:Nat):Int):=by unfold wrap64;omega
 have hlt:out.length<1353245080339:=by omega
 apply Az;unfold AR.l0;refine AU (by omega) ?_;apply Az;unfold AR.j2;refine AU (beq_iff_eq.2 rfl) (AY hq ?_);dsimp only
 rw [w1];by_cases h0:E1=0
 ·exact AU h0 (Ab (by omega) (AU hlt hh))
 ·exact Ab h0 (AU hlt hh)
theorem Rj {v:Int} {N q:Nat} {s S1:ByteArray} {C:SC} {out:List SC} {t:Int} {fin:Int×List SC×Int} (hi:q+1<N) (hN:N<=60) (hl:out.length=q+1) (hq:Ev (λk=>BF.f k s 0 v) (S1,0,C.f0,C.f1,C.f2,C.f3,C.f4,C.f5,C.f6,C.f7,C.f8,C.f9,C.f10))
 (hk:Ev (λk=>CL.f k (out[q]'(by omega)).f0 (out[q]'(by omega)).f1 (out[q]'(by omega)).f2 C.f0 C.f1 C.f2) t) (hh:Ev (λk=>AR.l0 k v (N:Int) (out++[C]) ((q+1+1:Nat):Int) S1 (if t>=0 then 224 else 0)) fin):Ev (λk=>AR.l0 k v (N:Int) out ((q+1:Nat):Int) s 0) fin:=by
 have w1:wrap64 (((q+1:Nat):Int)+1)=((q+1+1:Nat):Int):=by unfold wrap64;omega
 have w2:wrap64 (((q+1:Nat):Int) - 1)=(q:Int):=by unfold wrap64;omega
 have hlt:out.length<1353245080339:=by omega
 apply Az;unfold AR.l0;refine AU (by omega) ?_;apply Az;unfold AR.j2;refine AU (beq_iff_eq.2 rfl) (AY hq ?_);dsimp only
 rw [w1,w2,Hg (by omega)];refine AU rfl (AU (by omega) (AU (by omega) (AU (by omega) ?_)));refine AY (Ad _) (AY (Ad _) (AY hk ?_));by_cases ht:t>=0
 ·rw [if_pos ht] at hh;exact AU ht (AU hlt hh)
 ·rw [if_neg ht] at hh;exact Ab ht (AU hlt hh)
theorem Rk {v:Int} {m:Nat} {s s1:ByteArray} {n1 no2:Int} {c:SC} {out:List SC} {fin:List SC×ByteArray×Int} (hp:Ev (λk=>JW k s 0 v) (c,s1,n1)) (ho:JX out c s1 n1=some (s1,no2)) (hh:Ev (λk=>if no2=0 then Fz k v m s1 no2 (out++[c]) else some (out++[c],s1,no2)) fin):Ev (λk=>Fz k v (m+1) s 0 out) fin:=by
 unfold Fz;exact AY hp (AY (D6 ho) hh)
def Ve (v:Int) (N m i:Nat) (s:ByteArray) (out:List SC):Prop:=
 ∃ (out':List SC) (s':ByteArray) (no':Int),Ev (λk=>Fz k v m s 0 out) (out',s',no')/\(∀ c∈out',Fb c)/\out'.length<=N/\s'.size<=s.size/\
  (no'=0/\Eh D9 kC out'/\(∀ c∈out',Fy c=true)/\out'.length=N/\(∀ fin,Ev (λk=>AR.l0 k v (N:Int) out' (N:Int) s' 0) fin->Ev (λk=>AR.l0 k v (N:Int) out (i:Int) s 0) fin)\/
   no'≠0/\Ev (λk=>AR.l0 k v (N:Int) out (i:Int) s 0) (0,[],no'))
theorem OU {v:Int} {N:Nat} (hv:1<=v/\v<=3) (hN:N<=60):∀ (m i:Nat) (s:ByteArray) (out:List SC),i+m=N->out.length=i->s.size<=1000000000->Eh D9 kC out->(∀ c∈out,Fy c=true/\Fb c)->
 Ve v N m i s out:=by
 intro m;induction m with
 |zero=>
  intro i s out hi hl hs hr hg;obtain rfl:i=N:=by omega
  exact ⟨out,s,0,Ad _,λc hc=>(hg c hc).2,by omega,Nat.le_refl _, .inl ⟨rfl,hr,λc hc=>(hg c hc).1,hl,λ_ h=>h⟩⟩
 |succ m ih=>
  intro i s out hi hl hs hr hg;obtain ⟨c,s1,n1,S1,E1,C,hp,hq,hsim,heq,hf,hf2,hz1,hz2,_⟩:=NL (v:=v) (s:=s) (S:=s) (no:=0) (E:=0) hv hs hs ⟨rfl,λ_=>rfl⟩;have hfew:∀ x∈out++[c],Fb x:=λx hx=>(List.mem_append.1 hx).elim (λh=>(hg x h).2) λh=>by obtain rfl:=List.mem_singleton.1 h;exact hf
  have hlen:(out++[c]).length=i+1:=by rw [List.length_append,hl];rfl
  have prog:=λno2 fin ho hh=>Rk (v:=v) (m:=m) (s:=s) (s1:=s1) (n1:=n1) (c:=c) (out:=out) (no2:=no2) (fin:=fin) hp ho hh
  by_cases h0:E1=0
  ·obtain ⟨rfl, -,hright⟩:=heq h0;have hn1:n1=0:=hsim.1.trans h0;obtain rfl:=hsim.2 hn1;subst hn1;have hg2:∀ x∈out++[c],Fy x=true/\Fb x:=λx hx=>(List.mem_append.1 hx).elim (λh=>hg x h) λh=>by obtain rfl:=List.mem_singleton.1 h;exact ⟨hright,hf⟩
   have goon:Eh D9 kC (out++[c])->JX out c s1 0=some (s1,0)->(∀ fin,Ev (λk=>AR.l0 k v N (out++[c]) ((i+1:Nat):Int) s1 0) fin->Ev (λk=>AR.l0 k v (N:Int) out (i:Int) s 0) fin)->Ve v N (m+1) i s out:=λhR hO href=>by
    obtain ⟨out',s',no',e1,e2,e3,e4,e5⟩:=ih (i+1) s1 (out++[c]) (by omega) hlen (by omega) hR hg2;refine ⟨out',s',no',prog 0 _ hO (AU rfl e1),e2,e3,by omega,?_⟩;rcases e5 with ⟨a,b,c',d,f⟩|⟨a,b⟩
    ·exact .inl ⟨a,b,c',d,λfin h=>href fin (f fin h)⟩
    ·exact .inr ⟨a,href _ b⟩
   rcases Nat.eq_zero_or_pos out.length with hz|hz
   ·have hi0:i=0:=by omega
    obtain rfl:out=[]:=List.eq_nil_of_length_eq_zero hz;refine goon (List.pairwise_singleton _ _) (by unfold JX;rw [if_neg (by simp)]) λfin hh=>OT (by omega) hN hl hq (.inr hi0) ?_
    rw [h0];exact hh
   ·obtain ⟨q,hq1⟩:∃ q,out.length=q+1:=⟨out.length - 1,by omega⟩;obtain rfl:i=q+1:=by omega
    have hrd:=(Sl hq1).resolve_right (by omega);have hrd2:AB out ((out.length:Int) - 1)=out[q]'(by omega):=by rw [<-hrd,hq1,show wrap64 (((q+1:Nat):Int) - 1)=((q+1:Nat):Int) - 1 by unfold wrap64;omega]
    have hmem:out[q]'(by omega)∈out:=List.getElem_mem _;have hkeys:=Qh (x:=out[q]'(by omega)) (y:=c) (hg _ hmem).2.sm hf.sm;have hord:JX out c s1 0=some (s1,FI 0 (decide (0<=Gd (kC (out[q]'(by omega))) (kC c))) 224):=by
     unfold JX;rw [if_pos hz,FD,hrd2];rfl
    have hrefq:=λ(fin:Int×List SC×Int) (hh:Ev (λk=>AR.l0 k v (N:Int) (out++[c]) ((q+1+1:Nat):Int) s1 (if Gd (kC (out[q]'(by omega))) (kC c)>=0 then 224 else 0)) fin)=>Rj (v:=v) (N:=N) (q:=q) (s:=s) (S1:=s1) (C:=c) (out:=out) (t:=Gd (kC (out[q]'(by omega))) (kC c)) (fin:=fin) (by omega) hN hq1 (by rw [h0] at hq;exact hq) hkeys hh
    by_cases hcmp:Gd (kC (out[q]'(by omega))) (kC c)<0
    ·rw [decide_eq_false (by omega)] at hord;refine goon (Ri hr hq1 hcmp) hord λfin hh=>hrefq fin ?_
     rw [if_neg (by omega)];exact hh
    ·rw [decide_eq_true (by omega)] at hord;refine ⟨out++[c],s1,224,prog 224 _ hord (Ab (by decide) (Ad _)),hfew,by omega,hz1, .inr ⟨by decide,hrefq _ ?_⟩⟩;rw [if_pos (by omega)];exact Pe (by decide)
  ·have hn1:n1≠0:=λe=>h0 (hsim.1.symm.trans e)
   have hord:JX out c s1 n1=some (s1,n1):=by
    unfold JX;split
    ·rw [FD];unfold FI;split<;>simp [hn1]
    ·rfl
   refine ⟨out++[c],s1,n1,prog n1 _ hord (Ab hn1 (Ad _)),hfew,by omega,hz1, .inr ⟨hn1,OT (by omega) hN hl hq (.inl h0) ?_⟩⟩;rw [hsim.1];exact Pe h0
end Go.Proofs.YtfggjdkccdkogaaGreatDoor.Y
end
section
namespace Go.Proofs.YtfggjdkccdkogaaGreatDoor.Y
set_option linter.unusedVariables false
set_option linter.unusedSimpArgs false
open RowKit Print Ac Aq Aw
theorem Vf {l:List SC} (hr:Eh D9 kC l) (hl:∀ c∈l,Fy c=true):Po l=if IZ l=true then ([],152) else (l,0):=by
 unfold Po;rw [RZ l.length l [] (by simpa using hr) hl];unfold FC;rw [List.nil_append,if_neg (Nat.lt_irrefl _)]
theorem Ql {v:Int} (hv:1<=v/\v<=3) {s:ByteArray} {no:Int} (hs:s.size<=1000000000) (h0:no≠0):∀ m:Nat,∃ (out:List SC) (s':ByteArray),Ev (λk=>Fz k v m s no []) (out,s',no)/\(∀ c∈out,Fb c)/\out.length<=1
 |0=>⟨[],s,Ad _,λc hc=>(by cases hc),Nat.zero_le _⟩
 |m+1=>by
  obtain ⟨c,s1,n1,S1,E1,C,hp,hq,hsim,heq,hf,hf2,hz1,hz2,hk⟩:=NL (v:=v) (s:=s) (S:=s) (no:=no) (E:=no) hv hs hs ⟨rfl,λ_=>rfl⟩;have hn1:n1=no:=hsim.1.trans (hk h0);refine ⟨[c],s1,?_,λx hx=>by obtain rfl:=List.mem_singleton.1 hx;exact hf,Nat.le_refl _⟩;unfold Fz;refine AY hp (AY (D6 (r:=(s1,n1)) (by unfold JX;rw [if_neg (by simp)])) ?_);dsimp only
  rw [hn1];exact Ab h0 (Ad _)
structure Rl (r:Int×List SC×Int):Prop where
 few:∀ c∈r.2.1,Fb c
 len:r.2.1.length<=60
 good:r.2.2=0->PU r.2.1/\1<=r.1/\r.1<=3
 bad:r.2.2≠0->r.1=0/\r.2.1=[]
theorem GJ {no:Int} (h:no≠0):Rl (0,[],no):=⟨λc hc=>(by cases hc),Nat.zero_le _,λe=>(h e).elim,λ_=>⟨rfl,rfl⟩⟩
theorem Pf (s:ByteArray):(s.toList==([]:List UInt8))=decide (s.size=0):=by
 by_cases h:s.size=0
 ·rw [decide_eq_true h];exact beq_iff_eq.2 (Gx.2 h)
 ·rw [decide_eq_false h];exact beq_eq_false_iff_ne.2 λe=>h (Gx.1 e)
def FP (s:ByteArray):ByteArray:=s.extract 3 (s.size - 4)
theorem Rm {v:Int} {s:ByteArray} (hs:s.size<=1000000000) (h8:8<=s.size) (hv:1<=v/\v<=3) (hv2:wrap64 (bt s 2)=v):
 ∃ r,Ev (λk=>Je k s) r/\Ev (λk=>(Bg.f k (FP s) 0 60).bind λb=>AR.l0 k v b.2.2 ([]:List SC) 0 b.1 b.2.1) r/\Rl r:=by
 have hh:(FP s).size<=1000000000:=by unfold FP;rw [ByteArray.size_extract];omega
 rcases h1:Ie 60 (FP s) 0 with ⟨N,s1,n1⟩
 rcases r1:Ja 60 (FP s) 0 with ⟨S1,E1,M⟩
 have m1:=MU (s:=FP s) (S:=FP s) (no:=0) (E:=0) (most:=60) ⟨rfl,λ_=>rfl⟩;have z1:=Gy 60 (FP s) 0;have p1:=FT (s:=FP s) (no:=0) (most:=60) hh (by decide) (by decide);have q1:=Hq (s:=FP s) (e:=0) (most:=60) hh (by decide) (by decide);have hN:0<=N/\N<=60:=by
  have ha:=OL (FP s);have:N=mn (tk (FP s)).1 60:=by have:=congrArg (·.1) h1;unfold Ie at this;rw [if_pos rfl] at this;exact this.symm
  rw [this];unfold mn;split<;>omega
 have hM:E1≠0->M=0:=by
  intro h;unfold Ja at r1;rw [if_pos rfl] at r1;split at r1
  ·split at r1
   ·exact (congrArg (·.2.2) r1).symm
   ·exact (h (congrArg (·.2.1) r1).symm).elim
  ·exact (congrArg (·.2.2) r1).symm
 rw [h1] at m1 z1 p1;rw [r1] at m1 q1;simp only at m1 z1;have prog:∀ (out:List SC) (s':ByteArray) (no':Int) (r:Int×List SC×Int),Ev (λk=>Fz k v N.toNat s1 n1 []) (out,s',no')->(∀ c∈out,Fb c)->out.length<=60->
  (let e:=FI no' (!(decide (s'.size=0))||(Po out).2 != 0) 224;r=if e=0 then (v,out,0) else (0,[],e))->Ev (λk=>Je k s) r:=by
  intro out s' no' r hr hf hl he;unfold Je;refine AY p1 (AU hN ?_);rw [hv2];refine AY hr (AY (NG (l:=out) (by omega) hf) ?_);dsimp only
  rw [Pf];refine AY (D6 (FD _ _ _ _)) ?_;dsimp only at he⊢
  rw [he];by_cases h:FI no' (!(decide (s'.size=0))||(Po out).2 != 0) 224=0
  ·simp only [if_pos h];exact Ad _
  ·simp only [if_neg h];exact Ad _
 by_cases h0:E1=0
 ·have hn1:n1=0:=m1.1.1.trans h0;obtain rfl:=m1.1.2 hn1;have hNM:N=M:=(m1.2 h0).2.1;subst hn1;subst h0;subst hNM;obtain ⟨n,rfl⟩:∃ n:Nat,N=(n:Int):=⟨N.toNat,by omega⟩;rw [Int.toNat_natCast] at prog;obtain ⟨out,s',no',e1,e2,e3,e4,e5⟩:=OU (v:=v) (N:=n) hv (by omega) n 0 s1 [] (by omega) rfl (by omega) List.Pairwise.nil (λc hc=>(by cases hc));rcases e5 with ⟨rfl,a,b,hlen,ref⟩|⟨a,ref⟩
  ·have last:∀ fin,Ev (λk=>if s'.toList=([]:List UInt8) then ((Br.f k out).bind λt=>(if t=true then (some (0,([]:List SC),224)) else (some (v,out,0)))) else (some (0,([]:List SC),224))) fin->Ev (λk=>(Bg.f k (FP s) 0 60).bind λb=>AR.l0 k v b.2.2 ([]:List SC) 0 b.1 b.2.1) fin:=by
    intro fin hh;refine AY q1 (ref fin ?_);apply Az;unfold AR.l0;refine Ab (by omega) ?_;apply Az;unfold AR.j2;exact Ab (by decide) (AU rfl hh)
   have ho:=Vf a b;by_cases hz:s'.size=0
   ·have hd:decide (s'.size=0)=true:=decide_eq_true hz;cases hm:IZ out
    ·rw [hm,if_neg (by decide)] at ho;refine ⟨(v,out,0),prog out s' 0 _ e1 e2 (by omega) ?_,last _ (AU (Gx.2 hz) (AY (NF (by omega)) ?_)),⟨e2,by simp only;omega,λ_=>⟨⟨a,b,hm⟩,hv⟩,λh=>(h rfl).elim⟩⟩
     ·rw [hd,ho];rfl
     ·rw [hm];exact Ab (by decide) (Ad _)
    ·rw [hm,if_pos rfl] at ho;refine ⟨(0,[],224),prog out s' 0 _ e1 e2 (by omega) ?_,last _ (AU (Gx.2 hz) (AY (NF (by omega)) ?_)),GJ (by decide)⟩
     ·rw [hd,ho];rfl
     ·rw [hm];exact AU rfl (Ad _)
   ·have hd:decide (s'.size=0)=false:=decide_eq_false hz;refine ⟨(0,[],224),prog out s' 0 _ e1 e2 (by omega) ?_,last _ (Ab (λe=>hz (Gx.1 e)) (Ad _)),GJ (by decide)⟩;rw [hd];rfl
  ·refine ⟨(0,[],no'),prog out s' no' _ e1 e2 (by omega) ?_,AY q1 ref,GJ a⟩;have hfail:∀ is,FI no' is 224=no':=λis=>by unfold FI;split<;>simp [a]
   simp only [hfail,if_neg a]
 ·have hn1:n1≠0:=λe=>h0 (m1.1.1.symm.trans e)
  obtain ⟨out,s',e1,e2,e3⟩:=Ql (v:=v) hv (s:=s1) (no:=n1) (by omega) hn1 N.toNat;have hfail:∀ is,FI n1 is 224=n1:=λis=>by unfold FI;split<;>simp [hn1]
  refine ⟨(0,[],n1),prog out s' n1 _ e1 e2 (by omega) ?_,AY q1 ?_,GJ hn1⟩
  ·simp only [hfail,if_neg hn1]
  ·rw [hM h0,m1.1.1];exact Pe (N:=0) (i:=0) h0
theorem Lh {s:ByteArray} (hs:s.size<=1000000000):∃ r,Ev (λk=>Ck.f k s) r/\Ev (λk=>AR.f k s) r/\Rl r:=by
 unfold Ck.f AR.f;by_cases h8:s.size<8
 ·exact ⟨_,Ab (by omega) (AU h8 (Ad _)),AU (by omega) (Ad _),GJ (by decide)⟩
 by_cases hc:(s.extract 0 2).toList=([67,74]:List UInt8)
 ·have hb:=GH s 2;have hw:wrap64 (bt s 2)=bt s 2:=by unfold wrap64;omega
  by_cases hv:bt s 2<1\/3<bt s 2
  ·refine ⟨(0,[],222),Ab (by omega) (Ab h8 (AU hc (AU hv (Ad _)))),Ab (by omega) (AU (by omega) (AU hc (AU (by omega) ?_))),GJ (by decide)⟩;rw [hw];have hj:∀ b,b=true->Ev (λk=>AR.j0 k s (bt s 2) b) (0,[],222):=by
    rintro b rfl;apply Az;unfold AR.j0;exact AU rfl (Ad _)
   by_cases h1:bt s 2<1
   ·exact AU h1 (hj _ rfl)
   ·exact Ab h1 (hj _ (decide_eq_true (by omega)))
  ·obtain ⟨r,a,b,c⟩:=Rm (v:=bt s 2) hs (by omega) (by omega) hw;have hx:wrap64 ((s.size:Int) - 4)=((s.size - 4:Nat):Int):=by unfold wrap64;omega
   have hj:∀ r,Ev (λk=>if IY s=true then ((Bg.f k (FP s) 0 60).bind λb=>AR.l0 k (bt s 2) b.2.2 ([]:List SC) 0 b.1 b.2.1) else some (0,[],223)) r->Ev (λk=>if (wrap64 (bt s 2))<1 then (AR.j0 k s (wrap64 (bt s 2)) true) else (AR.j0 k s (wrap64 (bt s 2)) (decide ((wrap64 (bt s 2))>3)))) r:=by
    intro r hh;rw [hw];refine Ab (by omega) ?_;rw [decide_eq_false (by omega)];apply Az;unfold AR.j0;refine Ab (by decide) (AY (PL hs) ?_);by_cases hr:IY s=true
    ·simp only [if_pos hr] at hh;refine AU hr ?_;rw [hx];exact AU (by omega) (AU (by omega) hh)
    ·simp only [if_neg hr] at hh;exact Ab hr hh
   by_cases hr:IY s=true
   ·refine ⟨r,Ab (by omega) (Ab h8 (AU hc (Ab hv (AY (D6 (MR hs)) (AU hr a))))),Ab (by omega) (AU (by omega) (AU hc (AU (by omega) (hj r ?_)))),c⟩;exact AU hr b
   ·refine ⟨(0,[],223),Ab (by omega) (Ab h8 (AU hc (Ab hv (AY (D6 (MR hs)) (Ab hr (Ad _)))))),Ab (by omega) (AU (by omega) (AU hc (AU (by omega) (hj _ ?_)))),GJ (by decide)⟩;exact Ab hr (Ad _)
 ·exact ⟨_,Ab (by omega) (Ab h8 (Ab hc (Ad _))),Ab (by omega) (AU (by omega) (Ab hc (Ad _))),GJ (by decide)⟩
end Go.Proofs.YtfggjdkccdkogaaGreatDoor.Y
end
