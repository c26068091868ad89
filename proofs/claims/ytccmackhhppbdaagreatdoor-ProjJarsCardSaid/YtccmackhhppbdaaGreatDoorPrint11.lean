/- Printed by a program of this claim's session (xprint.py): the machine's side: each Go function as a Lean function, and that a call of it comes to what that tells; the row of a statement. No condition. -/
import Derived.Test.YtccmackhhppbdaaGreatDoorPrint10
import Derived.Test.YtccmackhhppbdaaGreatDoorPrint9
namespace Go.Proofs.YtccmackhhppbdaaGreatDoor.Print
open RowKit Af BI BM
attribute [local go_sem] Ck Cm DC DD CW CX Cn Co
set_option linter.unusedVariables false
set_option linter.unusedSimpArgs false
mutual
def Al.j0:Nat->ByteArray->Bool->Option (ByteArray×Bool)
 |0,_,_=>none
 |k+1,x0,x15=>if x15=true then (some ((⟨#[]⟩:ByteArray),false)) else ((BG.f k x0).bind λt332=>(Al.l0 k x0 t332 0))
def Al.l0:Nat->ByteArray->List ByteArray->Int->Option (ByteArray×Bool)
 |0,_,_,_=>none
 |k+1,x0,x4,x5=>if x5<(x4.length:Int) then (if 0<=x5 then ((AZ.f k (CY ByteArray.empty x4 x5)).bind λt336=>(if t336=true then (Al.l0 k x0 x4 (wrap64 (x5+1))) else (some ((⟨#[]⟩:ByteArray),false)))) else (none)) else (some (x0,true))
end
def Al.f (k:Nat) (a0:ByteArray):Option (ByteArray×Bool):=(Ce.f a0).bind λt331=>(if (t331.size:Int)<1 then (Al.j0 k t331 true) else (Al.j0 k t331 (decide ((t331.size:Int)>64))))
set_option maxHeartbeats 8000000 in
set_option maxRecDepth 100000 in
theorem Al.calls (k:Nat) (a0:ByteArray) (r1:ByteArray) (r2:Bool) (w:World) (h:Al.f k a0=some (r1,r2)):
 Calls Tryz.prog 40 #[.string a0] w λe w'=>e= .returned (.tuple #[.string r1, .bool r2])/\Below w.heap.size w w':=by
 have HB:=AA.mk (Below.refl w.heap.size w);have H:((Ce.f a0).bind λt331=>(if (t331.size:Int)<1 then (Al.j0 k t331 true) else (Al.j0 k t331 (decide ((t331.size:Int)>64)))))=some (r1,r2):=h;clear h;replace H:=Option.bind_eq_some_iff.mp H;obtain ⟨t331,A20,H⟩:=H;try dsimp only at H
 have A2:=AA.mk A20;clear A20;have HC3:=AA.mk H;clear H;go_enter Tryz.func40,Tryz.ntmps40;go_upto_region 2 with (first|((with_reducible refine AP (f:=61) rfl ?_);refine Aj (some 7) rfl rfl Tryz.func61 (by kernel_rfl) rfl #[.string a0] rfl xg ?_;(with_reducible refine (Ce.calls a0 t331 _ A2.out).mono ?_);rintro e w4 ⟨rfl,hb⟩;refine ⟨_,rfl,?_⟩;replace HB:=AA.mk (AL xb hb);(try clear hb)))
 (try simp only [Act.put,List.setIfInBounds_toArray,List.set_cons_zero,List.set_cons_succ]);go_cut [15] (λv15 wc=>∃ (kq:Nat) (x15_2:Bool),v15= .bool x15_2/\AA (Al.j0 kq t331 x15_2=some (r1,r2))/\AA (kq<=k)/\AA (Below w.heap.size w wc));case first=>
  have H:=HC3.out;clear HC3;by_cases c5:(t331.size:Int)<1
  ·rw [if_pos c5] at H;have c5b0:decide ((t331.size:Int)<1)=true:=decide_eq_true c5;have c5b1:decide (t331.size<1)=true:=decide_eq_true (by omega);clear c5;(first|rw [c5b0]|(simp only [Cq,Cx];rw [c5b0])|skip);have H':=AA.mk H;clear H;go_wp2;go_meet;case rel=>exact ⟨_,(true),xq,H',⟨by first|omega|exact Nat.le_refl _⟩,⟨xb⟩⟩
  ·rw [if_neg c5] at H;have c5b0:decide ((t331.size:Int)<1)=false:=decide_eq_false c5;have c5b1:decide (t331.size<1)=false:=decide_eq_false (by omega);clear c5;(first|rw [c5b0]|(simp only [Cq,Cx];rw [c5b0])|skip);have H':=AA.mk H;clear H;go_wp2;go_meet;case rel=>exact ⟨_,(decide ((t331.size:Int)>64)),xq,H',⟨by first|omega|exact Nat.le_refl _⟩,⟨xb⟩⟩
 case rest=>
  clear HC3;try clear p2
  try clear p3
  try clear c4
  try clear c5
  try clear c5b0
  try clear c5b1
  obtain ⟨kq,x15_2,rfl,HA,HJ2,HB⟩:=hcut;cases kq with
  |zero=>exact absurd HA.out (by simp [Al.j0])
  |succ kj2=>
   have H:=HA.out;clear HA;simp only [Al.j0] at H;by_cases c6:x15_2=true
   ·subst c6;have H1:(some ((⟨#[]⟩:ByteArray),false))=some (r1,r2):=by rw [if_pos rfl] at H;exact H
    clear H;have H:=H1;clear H1;simp only [Option.some.injEq,Prod.mk.injEq] at H;obtain ⟨rfl,rfl⟩:=H;go_wp2;go_ret2;exact ⟨xe,xb⟩
   ·replace c6:=Bool.eq_false_iff.mpr c6;subst c6;have H1:((BG.f kj2 t331).bind λt332=>(Al.l0 kj2 t331 t332 0))=some (r1,r2):=by rw [if_neg (show ¬(false=true) by decide)] at H;exact H
    clear H;have H:=H1;clear H1;replace H:=Option.bind_eq_some_iff.mp H;obtain ⟨t332,A70,H⟩:=H;replace H:(Al.l0 kj2 t331 t332 0)=some (r1,r2):=H;have A7:=AA.mk A70;clear A70;have H':=AA.mk H;clear H;go_wp2_with (first|((with_reducible refine AP (f:=62) rfl ?_);refine Aj (some 17) rfl rfl Tryz.func62 (by kernel_rfl) rfl #[.string t331] rfl xg ?_;(with_reducible refine (BG.calls kj2 t331 t332 _ A7.out).mono ?_);rintro e w8 ⟨v333,rfl,ho0,hb⟩;refine ⟨_,rfl,?_⟩;have HO334:=AA.mk (Kd.Bv ho0 (Av xb));replace HB:=AA.mk (AL xb hb);(try clear hb);(try clear ho0)));go_loopg [5] kj2 (λkq v5 w'=>∃ (x5_2:Int),v5= .int .i64 x5_2/\AA (Al.l0 kq t331 t332 x5_2=some (r1,r2))/\AA (kq<=kj2)/\AA (Kd.R Kd.string 9 w' w.heap.size (λ_=>True) v333 t332)/\AA (Below w.heap.size w w'));case atStart=>exact ⟨(0),xq,H',⟨Nat.le_refl _⟩,⟨by (with_reducible repeat (first|apply Kd.Ar|apply Kd.Au|apply Kd.BB));exact HO334.out⟩,⟨xb⟩⟩
    case round=>
     clear H';try clear p2
     try clear p3
     try clear c4
     try clear c5
     try clear c5b0
     try clear c5b1
     try clear c6
     try clear p6
     try clear p2
     try clear p3
     obtain ⟨x5_2,rfl,HA,HK2,HO_4,HB⟩:=hrel;cases gk with
     |zero=>exact absurd HA.out (by simp [Al.l0])
     |succ k2=>
      have H:=HA.out;clear HA;simp only [Al.l0] at H;by_cases c9:x5_2<(t332.length:Int)
      ·rw [if_pos c9] at H;have c9b0:decide (x5_2<(t332.length:Int))=true:=decide_eq_true c9;clear c9;by_cases c10:0<=x5_2
       ·rw [if_pos c10] at H;have c10b0:decide (0<=x5_2)=true:=decide_eq_true c10;clear c10;replace H:=Option.bind_eq_some_iff.mp H;obtain ⟨t336,A110,H⟩:=H;replace H:(if t336=true then (Al.l0 k2 t331 t332 (wrap64 (x5_2+1))) else (some ((⟨#[]⟩:ByteArray),false)))=some (r1,r2):=H;have A11:=AA.mk A110;clear A110;by_cases c12:t336=true
        ·subst c12;rw [if_pos rfl] at H;have H':=AA.mk H;clear H;obtain ⟨Ao13,co13,eo13⟩:=Kd.Bf HO_4.out;subst eo13;have p335:0<=(x5_2:Int):=xa;have q335:x5_2<(t332.length:Int):=xa;obtain ⟨ad335,e335,hx335_0⟩:=Kd.DU (Kd.Ap HO_4.out).2.2 x5_2 p335 q335;cases e335;replace p335:=eq_true p335;replace q335:=eq_true q335;go_wp2_with (first|((with_reducible refine AP (f:=63) rfl ?_);refine Aj (some 28) rfl rfl Tryz.func63 (by kernel_rfl) rfl #[.string (CY ByteArray.empty t332 x5_2)] rfl xg ?_;(with_reducible refine (AZ.calls k2 (CY ByteArray.empty t332 x5_2) true _ A11.out).mono ?_);rintro e w' ⟨rfl,⟨nd,rfl⟩⟩;refine ⟨_,rfl,?_⟩));go_roundg k2;case measure=>have:=HJ2.out;have:=HK2.out;omega
         case rel=>exact ⟨(wrap64 (x5_2+1)),xq,H',⟨by have:=HJ2.out;have:=HK2.out;omega⟩,⟨by (with_reducible repeat (first|apply Kd.Ar|apply Kd.Au|apply Kd.BB));exact HO_4.out⟩,⟨xb⟩⟩
        ·replace c12:=Bool.eq_false_iff.mpr c12;subst c12;have H1:(some ((⟨#[]⟩:ByteArray),false))=some (r1,r2):=by rw [if_neg (show ¬(false=true) by decide)] at H;exact H
         clear H;have H:=H1;clear H1;simp only [Option.some.injEq,Prod.mk.injEq] at H;obtain ⟨rfl,rfl⟩:=H;obtain ⟨Ao14,co14,eo14⟩:=Kd.Bf HO_4.out;subst eo14;have p335:0<=(x5_2:Int):=xa;have q335:x5_2<(t332.length:Int):=xa;obtain ⟨ad335,e335,hx335_0⟩:=Kd.DU (Kd.Ap HO_4.out).2.2 x5_2 p335 q335;cases e335;replace p335:=eq_true p335;replace q335:=eq_true q335;go_wp2_with (first|((with_reducible refine AP (f:=63) rfl ?_);refine Aj (some 28) rfl rfl Tryz.func63 (by kernel_rfl) rfl #[.string (CY ByteArray.empty t332 x5_2)] rfl xg ?_;(with_reducible refine (AZ.calls k2 (CY ByteArray.empty t332 x5_2) false _ A11.out).mono ?_);rintro e w' ⟨rfl,⟨nd,rfl⟩⟩;refine ⟨_,rfl,?_⟩));go_ret2;exact ⟨xe,xb⟩
       ·rw [if_neg c10] at H;exact absurd H (by simp)
      ·rw [if_neg c9] at H;have c9b0:decide (x5_2<(t332.length:Int))=false:=decide_eq_false c9;clear c9;simp only [Option.some.injEq,Prod.mk.injEq] at H;obtain ⟨rfl,rfl⟩:=H;obtain ⟨Ao15,co15,eo15⟩:=Kd.Bf HO_4.out;subst eo15;go_wp2;go_ret2;exact ⟨xe,xb⟩
mutual
def Ag.j0:Nat->ByteArray->Bool->Option (Int×Bool)
 |0,_,_=>none
 |k+1,x0,x16=>if x16=true then (some (0,false)) else (Ag.l0 k x0 0 0)
def Ag.l0:Nat->ByteArray->Int->Int->Option (Int×Bool)
 |0,_,_,_=>none
 |k+1,x0,x6,x7=>if x7<(x0.size:Int) then (if 0<=x7 then (if (bt x0 x7)<48 then (some (0,false)) else (if (bt x0 x7)>57 then (some (0,false)) else (Ag.l0 k x0 (IntKind.u64.wrap ((IntKind.u64.wrap ((IntKind.u64.wrap (10*x6))+(IntKind.u64.wrap (bt x0 x7)))) - 48)) (wrap64 (x7+1))))) else (none)) else (some (x6,true))
end
def Ag.f (k:Nat) (a0:ByteArray) (a1:Int):Option (Int×Bool):=if (a0.size:Int)<1 then (Ag.j0 k a0 true) else (Ag.j0 k a0 (decide ((a0.size:Int)>a1)))
set_option maxHeartbeats 8000000 in
set_option maxRecDepth 100000 in
theorem Ag.calls (k:Nat) (a0:ByteArray) (a1:Int) (r1:Int) (r2:Bool) (w:World) (h:Ag.f k a0 a1=some (r1,r2)):
 Calls Tryz.prog 74 #[.string a0, .int .i64 a1] w λe w'=>e= .returned (.tuple #[.int .u64 r1, .bool r2])/\BA w w':=by
 have H:(if (a0.size:Int)<1 then (Ag.j0 k a0 true) else (Ag.j0 k a0 (decide ((a0.size:Int)>a1))))=some (r1,r2):=h;clear h;have HC3:=AA.mk H;clear H;go_enter Tryz.func74,Tryz.ntmps74;go_upto_region 1 with (fail)
 go_cut [16] (λv16 wc=>∃ (kq:Nat) (x16_2:Bool),v16= .bool x16_2/\AA (Ag.j0 kq a0 x16_2=some (r1,r2))/\AA (kq<=k)/\BA w wc);case first=>
  have H:=HC3.out;clear HC3;by_cases c4:(a0.size:Int)<1
  ·rw [if_pos c4] at H;have c4b0:decide ((a0.size:Int)<1)=true:=decide_eq_true c4;have c4b1:decide (a0.size<1)=true:=decide_eq_true (by omega);clear c4;(first|rw [c4b0]|(simp only [Cq,Cx];rw [c4b0])|skip);have H':=AA.mk H;clear H;go_wp2;go_meet;case rel=>exact ⟨_,(true),xq,H',⟨by first|omega|exact Nat.le_refl _⟩,xd⟩
  ·rw [if_neg c4] at H;have c4b0:decide ((a0.size:Int)<1)=false:=decide_eq_false c4;have c4b1:decide (a0.size<1)=false:=decide_eq_false (by omega);clear c4;(first|rw [c4b0]|(simp only [Cq,Cx];rw [c4b0])|skip);have H':=AA.mk H;clear H;go_wp2;go_meet;case rel=>exact ⟨_,(decide ((a0.size:Int)>a1)),xq,H',⟨by first|omega|exact Nat.le_refl _⟩,xd⟩
 case rest=>
  clear HC3;try clear p2
  try clear c4
  try clear c4b0
  try clear c4b1
  obtain ⟨kq,x16_2,rfl,HA,HJ2,⟨mc2,rfl⟩⟩:=hcut;cases kq with
  |zero=>exact absurd HA.out (by simp [Ag.j0])
  |succ kj2=>
   have H:=HA.out;clear HA;simp only [Ag.j0] at H;by_cases c5:x16_2=true
   ·subst c5;have H1:(some (0,false))=some (r1,r2):=by rw [if_pos rfl] at H;exact H
    clear H;have H:=H1;clear H1;simp only [Option.some.injEq,Prod.mk.injEq] at H;obtain ⟨rfl,rfl⟩:=H;go_wp2;go_ret2;exact ⟨xq,xd⟩
   ·replace c5:=Bool.eq_false_iff.mpr c5;subst c5;have H1:(Ag.l0 kj2 a0 0 0)=some (r1,r2):=by rw [if_neg (show ¬(false=true) by decide)] at H;exact H
    clear H;have H:=H1;clear H1;have H':=AA.mk H;clear H;go_wp2;go_loopg [6,7] kj2 (λkq v6 v7 w'=>∃ (x6_2:Int) (x7_2:Int),v6= .int .u64 x6_2/\v7= .int .i64 x7_2/\AA (Ag.l0 kq a0 x6_2 x7_2=some (r1,r2))/\AA (kq<=kj2)/\BA w w');case atStart=>exact ⟨(0),(0),xq,xq,H',⟨Nat.le_refl _⟩,xd⟩
    case round=>
     clear H';try clear c2
     try clear p2
     try clear c4
     try clear c4b0
     try clear c4b1
     try clear c5
     try clear p2
     obtain ⟨x6_2,x7_2,rfl,rfl,HA,HK2,⟨m2,rfl⟩⟩:=hrel;cases gk with
     |zero=>exact absurd HA.out (by simp [Ag.l0])
     |succ k2=>
      have H:=HA.out;clear HA;simp only [Ag.l0] at H;by_cases c6:x7_2<(a0.size:Int)
      ·rw [if_pos c6] at H;have c6b0:decide (x7_2<(a0.size:Int))=true:=decide_eq_true c6;clear c6;by_cases c7:0<=x7_2
       ·rw [if_pos c7] at H;have c7b0:decide (0<=x7_2)=true:=decide_eq_true c7;clear c7;by_cases c9:(bt a0 x7_2)<48
        ·rw [if_pos c9] at H;have c9b0:decide ((bt a0 x7_2)<48)=true:=decide_eq_true c9;clear c9;simp only [Option.some.injEq,Prod.mk.injEq] at H;obtain ⟨rfl,rfl⟩:=H;have p8:0<=(x7_2:Int):=xa;have q8:x7_2<(a0.size:Int):=xa;have hx8:=Bl a0 x7_2;replace p8:=eq_true p8;replace q8:=eq_true q8;go_wp2;go_ret2;exact ⟨xq,xd⟩
        ·rw [if_neg c9] at H;have c9b0:decide ((bt a0 x7_2)<48)=false:=decide_eq_false c9;clear c9;by_cases c11:(bt a0 x7_2)>57
         ·rw [if_pos c11] at H;have c11b0:decide (57<(bt a0 x7_2))=true:=decide_eq_true c11;clear c11;simp only [Option.some.injEq,Prod.mk.injEq] at H;obtain ⟨rfl,rfl⟩:=H;have p8:0<=(x7_2:Int):=xa;have q8:x7_2<(a0.size:Int):=xa;have hx8:=Bl a0 x7_2;replace p8:=eq_true p8;replace q8:=eq_true q8;have p10:0<=(x7_2:Int):=xa;have q10:x7_2<(a0.size:Int):=xa;have hx10:=Bl a0 x7_2;replace p10:=eq_true p10;replace q10:=eq_true q10;go_wp2;go_ret2;exact ⟨xq,xd⟩
         ·rw [if_neg c11] at H;have c11b0:decide (57<(bt a0 x7_2))=false:=decide_eq_false c11;clear c11;have H':=AA.mk H;clear H;have p8:0<=(x7_2:Int):=xa;have q8:x7_2<(a0.size:Int):=xa;have hx8:=Bl a0 x7_2;replace p8:=eq_true p8;replace q8:=eq_true q8;have p10:0<=(x7_2:Int):=xa;have q10:x7_2<(a0.size:Int):=xa;have hx10:=Bl a0 x7_2;replace p10:=eq_true p10;replace q10:=eq_true q10;have p12:0<=(x7_2:Int):=xa;have q12:x7_2<(a0.size:Int):=xa;have hx12:=Bl a0 x7_2;replace p12:=eq_true p12;replace q12:=eq_true q12;go_wp2;go_roundg k2;case measure=>have:=HJ2.out;have:=HK2.out;omega
          case rel=>exact ⟨(IntKind.u64.wrap ((IntKind.u64.wrap ((IntKind.u64.wrap (10*x6_2))+(IntKind.u64.wrap (bt a0 x7_2)))) - 48)),(wrap64 (x7_2+1)),xq,xq,H',⟨by have:=HJ2.out;have:=HK2.out;omega⟩,xd⟩
       ·rw [if_neg c7] at H;exact absurd H (by simp)
      ·rw [if_neg c6] at H;have c6b0:decide (x7_2<(a0.size:Int))=false:=decide_eq_false c6;clear c6;simp only [Option.some.injEq,Prod.mk.injEq] at H;obtain ⟨rfl,rfl⟩:=H;go_wp2;go_ret2;exact ⟨xq,xd⟩
def BJ.l0:Nat->Int->ByteArray->Option (ByteArray)
 |0,_,_=>none
 |k+1,x0,x3=>if x0>=10 then ((some (([(IntKind.u64.wrap (48+(Int.tmod x0 10)))%256]:List Int):List Int)).bind λy337=>(if (strOfNums y337).size+x3.size<=9223372036854775807 then (BJ.l0 k (IntKind.u64.wrap (Int.tdiv x0 10)) ((strOfNums y337)++x3)) else (none))) else ((some (([(IntKind.u64.wrap (48+x0))%256]:List Int):List Int)).bind λy340=>(if (strOfNums y340).size+x3.size<=9223372036854775807 then (some ((strOfNums y340)++x3)) else (none)))
def BJ.f (k:Nat) (a0:Int):Option (ByteArray):=BJ.l0 k a0 (⟨#[]⟩:ByteArray)
set_option maxHeartbeats 8000000 in
set_option maxRecDepth 100000 in
theorem BJ.calls (k:Nat) (a0:Int) (r:ByteArray) (w:World) (h:BJ.f k a0=some r):
 Calls Tryz.prog 83 #[.int .u64 a0] w λe w'=>e= .returned (.string r)/\Below w.heap.size w w':=by
 have HB:=AA.mk (Below.refl w.heap.size w);have H:(BJ.l0 k a0 (⟨#[]⟩:ByteArray))=some r:=h;clear h;have H':=AA.mk H;clear H;go_enter Tryz.func83,Tryz.ntmps83;go_wp2;go_loopg [0,3] k (λkq v0 v3 w'=>∃ (x0_1:Int) (x3_1:ByteArray),v0= .int .u64 x0_1/\v3= .string x3_1/\AA (BJ.l0 kq x0_1 x3_1=some r)/\AA (kq<=k)/\AA (Below w.heap.size w w'));case atStart=>exact ⟨(a0),((⟨#[]⟩:ByteArray)),xq,xq,H',⟨Nat.le_refl _⟩,⟨xb⟩⟩
 case round=>
  clear H';obtain ⟨x0_1,x3_1,rfl,rfl,HA,HK1,HB⟩:=hrel;cases gk with
  |zero=>exact absurd HA.out (by simp [BJ.l0])
  |succ k1=>
   have H:=HA.out;clear HA;simp only [BJ.l0] at H;by_cases c2:x0_1>=10
   ·rw [if_pos c2] at H;have c2b0:decide (10<=x0_1)=true:=decide_eq_true c2;clear c2;obtain ⟨y337,hy337⟩:∃ y_:List Int,y_=(([(IntKind.u64.wrap (48+(Int.tmod x0_1 10)))%256]:List Int)):=⟨_,rfl⟩;replace H:(if (strOfNums y337).size+x3_1.size<=9223372036854775807 then (BJ.l0 k1 (IntKind.u64.wrap (Int.tdiv x0_1 10)) ((strOfNums y337)++x3_1)) else (none))=some r:=by first|(rw [hy337];with_reducible exact H)|(have H2_:=(Option.bind_some _ _).symm.trans H;rw [hy337];with_reducible exact H2_)|(have H2_:=(Option.bind_some _ _).symm.trans H;with_reducible exact H2_)|with_reducible exact H|(rw [hy337];exact H)|exact H
    have Ny337:=AA.mk hy337;clear hy337;by_cases c3:(strOfNums y337).size+x3_1.size<=9223372036854775807
    ·rw [if_pos c3] at H;have c3b0:=eq_true c3;have c3b1:decide ((strOfNums y337).size+x3_1.size<=9223372036854775807)=true:=decide_eq_true c3;try have c3b2:(9223372036854775807<(strOfNums y337).size+x3_1.size)=False:=eq_false (Nat.not_lt.2 c3)
     have H':=AA.mk H;clear H;go_wp2_with (first|((with_reducible refine EC (N:=10) rfl ?_);refine Kd.ML (Kd.int .u8) _ 5 ?hg (N:=10) ?hd (xs:=([(IntKind.u64.wrap (48+(Int.tmod x0_1 10)))%256]:List Int)) (inner:=[.int .u8 ((IntKind.u64.wrap (48+(Int.tmod x0_1 10)))%256)]) (ok:=λ_=>True) (okp:=λ_=>True) ?hr ?hp (λ_ hk=>hk) trivial (Below.refl _ _) (Nat.le_refl _) (by simp) ?_;(case hd=>rfl);(case hg=>rfl);(case hr=>first|(go_simp;done)|(go_simp;rfl));(case hp=>exact (Bz.one (show Kd.M (Kd.int .u8) _ _ _ ((IntKind.u64.wrap (48+(Int.tmod x0_1 10)))%256) [.int .u8 ((IntKind.u64.wrap (48+(Int.tmod x0_1 10)))%256)] from rfl) (Bz.none _ _)));intro v338 w4 ho5 hb hg_ hnew_;clear hg_ hnew_;(first|rw [<-Ny337.out] at ho5|(simp only [Int.reduceToNat] at ho5;rw [<-Ny337.out] at ho5));have HO339:=AA.mk (Kd.Bv ho5 (Av xb));replace HB:=AA.mk (AL xb hb);clear hb ho5;have hcv6:=Im (P:=Tryz.prog) Tryz.underlying94 Tryz.underlying5 Tryz.underlying9 (Kd.Kh HO339.out)));go_roundg k1;case measure=>have:=HK1.out;omega
     case rel=>exact ⟨(IntKind.u64.wrap (Int.tdiv x0_1 10)),((strOfNums y337)++x3_1),xq,xq,H',⟨by have:=HK1.out;omega⟩,⟨xb⟩⟩
    ·rw [if_neg c3] at H;exact absurd H (by simp)
   ·rw [if_neg c2] at H;have c2b0:decide (10<=x0_1)=false:=decide_eq_false c2;clear c2;obtain ⟨y340,hy340⟩:∃ y_:List Int,y_=(([(IntKind.u64.wrap (48+x0_1))%256]:List Int)):=⟨_,rfl⟩;replace H:(if (strOfNums y340).size+x3_1.size<=9223372036854775807 then (some ((strOfNums y340)++x3_1)) else (none))=some r:=by first|(rw [hy340];with_reducible exact H)|(have H2_:=(Option.bind_some _ _).symm.trans H;rw [hy340];with_reducible exact H2_)|(have H2_:=(Option.bind_some _ _).symm.trans H;with_reducible exact H2_)|with_reducible exact H|(rw [hy340];exact H)|exact H
    have Ny340:=AA.mk hy340;clear hy340;by_cases c7:(strOfNums y340).size+x3_1.size<=9223372036854775807
    ·rw [if_pos c7] at H;have c7b0:=eq_true c7;have c7b1:decide ((strOfNums y340).size+x3_1.size<=9223372036854775807)=true:=decide_eq_true c7;try have c7b2:(9223372036854775807<(strOfNums y340).size+x3_1.size)=False:=eq_false (Nat.not_lt.2 c7)
     obtain rfl:=Option.some.inj H;go_wp2_with (first|((with_reducible refine EC (N:=19) rfl ?_);refine Kd.ML (Kd.int .u8) _ 5 ?hg (N:=19) ?hd (xs:=([(IntKind.u64.wrap (48+x0_1))%256]:List Int)) (inner:=[.int .u8 ((IntKind.u64.wrap (48+x0_1))%256)]) (ok:=λ_=>True) (okp:=λ_=>True) ?hr ?hp (λ_ hk=>hk) trivial (Below.refl _ _) (Nat.le_refl _) (by simp) ?_;(case hd=>rfl);(case hg=>rfl);(case hr=>first|(go_simp;done)|(go_simp;rfl));(case hp=>exact (Bz.one (show Kd.M (Kd.int .u8) _ _ _ ((IntKind.u64.wrap (48+x0_1))%256) [.int .u8 ((IntKind.u64.wrap (48+x0_1))%256)] from rfl) (Bz.none _ _)));intro v341 w8 ho9 hb hg_ hnew_;clear hg_ hnew_;(first|rw [<-Ny340.out] at ho9|(simp only [Int.reduceToNat] at ho9;rw [<-Ny340.out] at ho9));have HO342:=AA.mk (Kd.Bv ho9 (Av xb));replace HB:=AA.mk (AL xb hb);clear hb ho9;have hcv10:=Im (P:=Tryz.prog) Tryz.underlying94 Tryz.underlying5 Tryz.underlying9 (Kd.Kh HO342.out)));go_ret;exact ⟨xe,xb⟩
    ·rw [if_neg c7] at H;exact absurd H (by simp)
def Bg.f (k:Nat) (a0:Int):Option (ByteArray):=if a0<0 then ((BJ.f k (IntKind.u64.wrap ((IntKind.u64.wrap (wrap64 (-(wrap64 (a0+1)))))+1))).bind λt343=>(if 1+t343.size<=9223372036854775807 then (some ((⟨#[45]⟩:ByteArray)++t343)) else (none))) else ((BJ.f k (IntKind.u64.wrap (a0))).bind λt344=>(some t344))
set_option maxHeartbeats 8000000 in
set_option maxRecDepth 100000 in
theorem Bg.calls (k:Nat) (a0:Int) (r:ByteArray) (w:World) (h:Bg.f k a0=some r):
 Calls Tryz.prog 75 #[.int .i64 a0] w λe w'=>e= .returned (.string r)/\Below w.heap.size w w':=by
 have HB:=AA.mk (Below.refl w.heap.size w);have H:(if a0<0 then ((BJ.f k (IntKind.u64.wrap ((IntKind.u64.wrap (wrap64 (-(wrap64 (a0+1)))))+1))).bind λt343=>(if 1+t343.size<=9223372036854775807 then (some ((⟨#[45]⟩:ByteArray)++t343)) else (none))) else ((BJ.f k (IntKind.u64.wrap (a0))).bind λt344=>(some t344)))=some r:=h;clear h;by_cases c2:a0<0
 ·rw [if_pos c2] at H;have c2b0:decide (a0<0)=true:=decide_eq_true c2;clear c2;replace H:=Option.bind_eq_some_iff.mp H;obtain ⟨t343,A30,H⟩:=H;replace H:(if 1+t343.size<=9223372036854775807 then (some ((⟨#[45]⟩:ByteArray)++t343)) else (none))=some r:=H;have A3:=AA.mk A30;clear A30;by_cases c4:1+t343.size<=9223372036854775807
  ·rw [if_pos c4] at H;have c4b0:=eq_true c4;have c4b1:decide (1+t343.size<=9223372036854775807)=true:=decide_eq_true c4;try have c4b2:(9223372036854775807<1+t343.size)=False:=eq_false (Nat.not_lt.2 c4)
   obtain rfl:=Option.some.inj H;go_enter Tryz.func75,Tryz.ntmps75;go_wp2_with (first|((with_reducible refine AP (f:=83) rfl ?_);refine Aj (some 10) rfl rfl Tryz.func83 (by kernel_rfl) rfl #[.int .u64 (IntKind.u64.wrap ((IntKind.u64.wrap (wrap64 (-(wrap64 (a0+1)))))+1))] rfl xg ?_;(with_reducible refine (BJ.calls k (IntKind.u64.wrap ((IntKind.u64.wrap (wrap64 (-(wrap64 (a0+1)))))+1)) t343 _ A3.out).mono ?_);rintro e w5 ⟨rfl,hb⟩;refine ⟨_,rfl,?_⟩;replace HB:=AA.mk (AL xb hb);(try clear hb)));go_ret;exact ⟨xe,xb⟩
  ·rw [if_neg c4] at H;exact absurd H (by simp)
 ·rw [if_neg c2] at H;have c2b0:decide (a0<0)=false:=decide_eq_false c2;clear c2;replace H:=Option.bind_eq_some_iff.mp H;obtain ⟨t344,A60,H⟩:=H;replace H:(some t344)=some r:=H;have A6:=AA.mk A60;clear A60;obtain rfl:=Option.some.inj H;go_enter Tryz.func75,Tryz.ntmps75;go_wp2_with (first|((with_reducible refine AP (f:=83) rfl ?_);refine Aj (some 14) rfl rfl Tryz.func83 (by kernel_rfl) rfl #[.int .u64 (IntKind.u64.wrap (a0))] rfl xg ?_;(with_reducible refine (BJ.calls k (IntKind.u64.wrap (a0)) t344 _ A6.out).mono ?_);rintro e w7 ⟨rfl,hb⟩;refine ⟨_,rfl,?_⟩;replace HB:=AA.mk (AL xb hb);(try clear hb)));go_ret;exact ⟨xe,xb⟩
end Go.Proofs.YtccmackhhppbdaaGreatDoor.Print
