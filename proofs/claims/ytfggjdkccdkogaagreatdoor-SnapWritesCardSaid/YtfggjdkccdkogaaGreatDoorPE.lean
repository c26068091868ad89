/- Several parts of the claim's proof in one text, said short by a program of this session. No condition. -/
import Derived.Test.YtfggjdkccdkogaaGreatDoorGcrc
import Derived.Test.YtfggjdkccdkogaaGreatDoorPD
section
namespace Go.Proofs.YtfggjdkccdkogaaGreatDoor.Print
open RowKit Ac Aq Aw
attribute [local go_sem] DC DD DX DY Co Cq DI DJ
set_option linter.unusedVariables false
set_option linter.unusedSimpArgs false
mutual
def BH.j0:Nat->ByteArray->Bool->Option (ByteArray×Bool)
 |0,_,_=>none
 |k+1,x0,x15=>if x15=true then (some ((⟨#[]⟩:ByteArray),false)) else ((Bh.f k x0).bind λt347=>(BH.l0 k x0 t347 0))
def BH.l0:Nat->ByteArray->List ByteArray->Int->Option (ByteArray×Bool)
 |0,_,_,_=>none
 |k+1,x0,x4,x5=>if x5<(x4.length:Int) then (if 0<=x5 then ((Ap.f k (EH ByteArray.empty x4 x5)).bind λt351=>(if t351=true then (BH.l0 k x0 x4 (wrap64 (x5+1))) else (some ((⟨#[]⟩:ByteArray),false)))) else (none)) else (some (x0,true))
end
def BH.f (k:Nat) (a0:ByteArray):Option (ByteArray×Bool):=(EB.f a0).bind λt346=>(if (t346.size:Int)<1 then (BH.j0 k t346 true) else (BH.j0 k t346 (decide ((t346.size:Int)>64))))
set_option maxHeartbeats 8000000 in
set_option maxRecDepth 100000 in
theorem BH.calls (k:Nat) (a0:ByteArray) (r1:ByteArray) (r2:Bool) (w:World) (h:BH.f k a0=some (r1,r2)):
 Calls Tryz.prog 91 #[.string a0] w λe w'=>e= .returned (.tuple #[.string r1, .bool r2])/\Below w.heap.size w w':=by
 have HB:=AA.mk (Below.refl w.heap.size w);have H:((EB.f a0).bind λt346=>(if (t346.size:Int)<1 then (BH.j0 k t346 true) else (BH.j0 k t346 (decide ((t346.size:Int)>64)))))=some (r1,r2):=h;clear h;replace H:=Option.bind_eq_some_iff.mp H;obtain ⟨t346,A20,H⟩:=H;try dsimp only at H
 have A2:=AA.mk A20;clear A20;have HC3:=AA.mk H;clear H;go_enter Tryz.func91,Tryz.ntmps91;go_upto_region 2 with (first|((with_reducible refine AQ (f:=113) rfl ?_);refine Ag (some 7) rfl rfl Tryz.func113 (by kernel_rfl) rfl #[.string a0] rfl xg ?_;(with_reducible refine (EB.calls a0 t346 _ A2.out).mono ?_);rintro e w4 ⟨rfl,hb⟩;refine ⟨_,rfl,?_⟩;replace HB:=AA.mk (AO xb hb);(try clear hb)))
 (try simp only [Act.put,List.setIfInBounds_toArray,List.set_cons_zero,List.set_cons_succ]);go_cut [15] (λv15 wc=>∃ (kq:Nat) (x15_2:Bool),v15= .bool x15_2/\AA (BH.j0 kq t346 x15_2=some (r1,r2))/\AA (kq<=k)/\AA (Below w.heap.size w wc));case first=>
  have H:=HC3.out;clear HC3;by_cases c5:(t346.size:Int)<1
  ·rw [if_pos c5] at H;have c5b0:decide ((t346.size:Int)<1)=true:=decide_eq_true c5;have c5b1:decide (t346.size<1)=true:=decide_eq_true (by omega);clear c5;(first|rw [c5b0]|(simp only [CE,CU];rw [c5b0])|skip);have H':=AA.mk H;clear H;go_wp2;go_meet;case rel=>exact ⟨_,(true),xq,H',⟨by first|omega|exact Nat.le_refl _⟩,⟨xb⟩⟩
  ·rw [if_neg c5] at H;have c5b0:decide ((t346.size:Int)<1)=false:=decide_eq_false c5;have c5b1:decide (t346.size<1)=false:=decide_eq_false (by omega);clear c5;(first|rw [c5b0]|(simp only [CE,CU];rw [c5b0])|skip);have H':=AA.mk H;clear H;go_wp2;go_meet;case rel=>exact ⟨_,(decide ((t346.size:Int)>64)),xq,H',⟨by first|omega|exact Nat.le_refl _⟩,⟨xb⟩⟩
 case rest=>
  clear HC3;try clear c1
  try clear p2
  try clear p3
  try clear c5
  try clear c5b0
  try clear c5b1
  obtain ⟨kq,x15_2,rfl,HA,HJ2,HB⟩:=hcut;cases kq with
  |zero=>exact absurd HA.out (by simp [BH.j0])
  |succ kj2=>
   have H:=HA.out;clear HA;simp only [BH.j0] at H;by_cases c6:x15_2=true
   ·subst c6;have H1:(some ((⟨#[]⟩:ByteArray),false))=some (r1,r2):=by rw [if_pos rfl] at H;exact H
    clear H;have H:=H1;clear H1;simp only [Option.some.injEq,Prod.mk.injEq] at H;obtain ⟨rfl,rfl⟩:=H;go_wp2;go_ret2;exact ⟨xe,xb⟩
   ·replace c6:=Bool.eq_false_iff.mpr c6;subst c6;have H1:((Bh.f kj2 t346).bind λt347=>(BH.l0 kj2 t346 t347 0))=some (r1,r2):=by rw [if_neg (show ¬(false=true) by decide)] at H;exact H
    clear H;have H:=H1;clear H1;replace H:=Option.bind_eq_some_iff.mp H;obtain ⟨t347,A70,H⟩:=H;replace H:(BH.l0 kj2 t346 t347 0)=some (r1,r2):=H;have A7:=AA.mk A70;clear A70;have H':=AA.mk H;clear H;go_wp2_with (first|((with_reducible refine AQ (f:=114) rfl ?_);refine Ag (some 17) rfl rfl Tryz.func114 (by kernel_rfl) rfl #[.string t346] rfl xg ?_;(with_reducible refine (Bh.calls kj2 t346 t347 _ A7.out).mono ?_);rintro e w8 ⟨v348,rfl,ho0,hb⟩;refine ⟨_,rfl,?_⟩;have HO349:=AA.mk (Kd.CJ ho0 (Ai xb));replace HB:=AA.mk (AO xb hb);(try clear hb);(try clear ho0)));go_loopg [5] kj2 (λkq v5 w'=>∃ (x5_2:Int),v5= .int .i64 x5_2/\AA (BH.l0 kq t346 t347 x5_2=some (r1,r2))/\AA (kq<=kj2)/\AA (Kd.R Kd.string 9 w' w.heap.size (λ_=>True) v348 t347)/\AA (Below w.heap.size w w'));case atStart=>exact ⟨(0),xq,H',⟨Nat.le_refl _⟩,⟨by (with_reducible repeat (first|apply Kd.BX|apply Kd.BZ|apply Kd.Bc));exact HO349.out⟩,⟨xb⟩⟩
    case round=>
     clear H';try clear c1
     try clear p2
     try clear p3
     try clear c5
     try clear c5b0
     try clear c5b1
     try clear c6
     try clear p6
     try clear p2
     try clear p3
     obtain ⟨x5_2,rfl,HA,HK2,HO_4,HB⟩:=hrel;cases gk with
     |zero=>exact absurd HA.out (by simp [BH.l0])
     |succ k2=>
      have H:=HA.out;clear HA;simp only [BH.l0] at H;by_cases c9:x5_2<(t347.length:Int)
      ·rw [if_pos c9] at H;have c9b0:decide (x5_2<(t347.length:Int))=true:=decide_eq_true c9;clear c9;by_cases c10:0<=x5_2
       ·rw [if_pos c10] at H;have c10b0:decide (0<=x5_2)=true:=decide_eq_true c10;clear c10;replace H:=Option.bind_eq_some_iff.mp H;obtain ⟨t351,A110,H⟩:=H;replace H:(if t351=true then (BH.l0 k2 t346 t347 (wrap64 (x5_2+1))) else (some ((⟨#[]⟩:ByteArray),false)))=some (r1,r2):=H;have A11:=AA.mk A110;clear A110;by_cases c12:t351=true
        ·subst c12;rw [if_pos rfl] at H;have H':=AA.mk H;clear H;obtain ⟨Ao13,co13,eo13⟩:=Kd.Cg HO_4.out;subst eo13;have p350:0<=(x5_2:Int):=xa;have q350:x5_2<(t347.length:Int):=xa;obtain ⟨ad350,e350,hx350_0⟩:=Kd.FR (Kd.BN HO_4.out).2.2 x5_2 p350 q350;cases e350;replace p350:=eq_true p350;replace q350:=eq_true q350;go_wp2_with (first|((with_reducible refine AQ (f:=115) rfl ?_);refine Ag (some 28) rfl rfl Tryz.func115 (by kernel_rfl) rfl #[.string (EH ByteArray.empty t347 x5_2)] rfl xg ?_;(with_reducible refine (Ap.calls k2 (EH ByteArray.empty t347 x5_2) true _ A11.out).mono ?_);rintro e w' ⟨rfl,⟨nd,rfl⟩⟩;refine ⟨_,rfl,?_⟩));go_roundg k2;case measure=>have:=HJ2.out;have:=HK2.out;omega
         case rel=>exact ⟨(wrap64 (x5_2+1)),xq,H',⟨by have:=HJ2.out;have:=HK2.out;omega⟩,⟨by (with_reducible repeat (first|apply Kd.BX|apply Kd.BZ|apply Kd.Bc));exact HO_4.out⟩,⟨xb⟩⟩
        ·replace c12:=Bool.eq_false_iff.mpr c12;subst c12;have H1:(some ((⟨#[]⟩:ByteArray),false))=some (r1,r2):=by rw [if_neg (show ¬(false=true) by decide)] at H;exact H
         clear H;have H:=H1;clear H1;simp only [Option.some.injEq,Prod.mk.injEq] at H;obtain ⟨rfl,rfl⟩:=H;obtain ⟨Ao14,co14,eo14⟩:=Kd.Cg HO_4.out;subst eo14;have p350:0<=(x5_2:Int):=xa;have q350:x5_2<(t347.length:Int):=xa;obtain ⟨ad350,e350,hx350_0⟩:=Kd.FR (Kd.BN HO_4.out).2.2 x5_2 p350 q350;cases e350;replace p350:=eq_true p350;replace q350:=eq_true q350;go_wp2_with (first|((with_reducible refine AQ (f:=115) rfl ?_);refine Ag (some 28) rfl rfl Tryz.func115 (by kernel_rfl) rfl #[.string (EH ByteArray.empty t347 x5_2)] rfl xg ?_;(with_reducible refine (Ap.calls k2 (EH ByteArray.empty t347 x5_2) false _ A11.out).mono ?_);rintro e w' ⟨rfl,⟨nd,rfl⟩⟩;refine ⟨_,rfl,?_⟩));go_ret2;exact ⟨xe,xb⟩
       ·rw [if_neg c10] at H;exact absurd H (by simp)
      ·rw [if_neg c9] at H;have c9b0:decide (x5_2<(t347.length:Int))=false:=decide_eq_false c9;clear c9;simp only [Option.some.injEq,Prod.mk.injEq] at H;obtain ⟨rfl,rfl⟩:=H;obtain ⟨Ao15,co15,eo15⟩:=Kd.Cg HO_4.out;subst eo15;go_wp2;go_ret2;exact ⟨xe,xb⟩
mutual
def BA.j0:Nat->ByteArray->Bool->Option (Int×Bool)
 |0,_,_=>none
 |k+1,x0,x16=>if x16=true then (some (0,false)) else (BA.l0 k x0 0 0)
def BA.l0:Nat->ByteArray->Int->Int->Option (Int×Bool)
 |0,_,_,_=>none
 |k+1,x0,x6,x7=>if x7<(x0.size:Int) then (if 0<=x7 then (if (bt x0 x7)<48 then (some (0,false)) else (if (bt x0 x7)>57 then (some (0,false)) else (BA.l0 k x0 (IntKind.u64.wrap ((IntKind.u64.wrap ((IntKind.u64.wrap (10*x6))+(IntKind.u64.wrap (bt x0 x7)))) - 48)) (wrap64 (x7+1))))) else (none)) else (some (x6,true))
end
def BA.f (k:Nat) (a0:ByteArray) (a1:Int):Option (Int×Bool):=if (a0.size:Int)<1 then (BA.j0 k a0 true) else (BA.j0 k a0 (decide ((a0.size:Int)>a1)))
set_option maxHeartbeats 8000000 in
set_option maxRecDepth 100000 in
theorem BA.calls (k:Nat) (a0:ByteArray) (a1:Int) (r1:Int) (r2:Bool) (w:World) (h:BA.f k a0 a1=some (r1,r2)):
 Calls Tryz.prog 126 #[.string a0, .int .i64 a1] w λe w'=>e= .returned (.tuple #[.int .u64 r1, .bool r2])/\BP w w':=by
 have H:(if (a0.size:Int)<1 then (BA.j0 k a0 true) else (BA.j0 k a0 (decide ((a0.size:Int)>a1))))=some (r1,r2):=h;clear h;have HC3:=AA.mk H;clear H;go_enter Tryz.func126,Tryz.ntmps126;go_upto_region 1 with (fail)
 go_cut [16] (λv16 wc=>∃ (kq:Nat) (x16_2:Bool),v16= .bool x16_2/\AA (BA.j0 kq a0 x16_2=some (r1,r2))/\AA (kq<=k)/\BP w wc);case first=>
  have H:=HC3.out;clear HC3;by_cases c4:(a0.size:Int)<1
  ·rw [if_pos c4] at H;have c4b0:decide ((a0.size:Int)<1)=true:=decide_eq_true c4;have c4b1:decide (a0.size<1)=true:=decide_eq_true (by omega);clear c4;(first|rw [c4b0]|(simp only [CE,CU];rw [c4b0])|skip);have H':=AA.mk H;clear H;go_wp2;go_meet;case rel=>exact ⟨_,(true),xq,H',⟨by first|omega|exact Nat.le_refl _⟩,xd⟩
  ·rw [if_neg c4] at H;have c4b0:decide ((a0.size:Int)<1)=false:=decide_eq_false c4;have c4b1:decide (a0.size<1)=false:=decide_eq_false (by omega);clear c4;(first|rw [c4b0]|(simp only [CE,CU];rw [c4b0])|skip);have H':=AA.mk H;clear H;go_wp2;go_meet;case rel=>exact ⟨_,(decide ((a0.size:Int)>a1)),xq,H',⟨by first|omega|exact Nat.le_refl _⟩,xd⟩
 case rest=>
  clear HC3;try clear c1
  try clear p2
  try clear c4
  try clear c4b0
  try clear c4b1
  obtain ⟨kq,x16_2,rfl,HA,HJ2,⟨mc2,rfl⟩⟩:=hcut;cases kq with
  |zero=>exact absurd HA.out (by simp [BA.j0])
  |succ kj2=>
   have H:=HA.out;clear HA;simp only [BA.j0] at H;by_cases c5:x16_2=true
   ·subst c5;have H1:(some (0,false))=some (r1,r2):=by rw [if_pos rfl] at H;exact H
    clear H;have H:=H1;clear H1;simp only [Option.some.injEq,Prod.mk.injEq] at H;obtain ⟨rfl,rfl⟩:=H;go_wp2;go_ret2;exact ⟨xq,xd⟩
   ·replace c5:=Bool.eq_false_iff.mpr c5;subst c5;have H1:(BA.l0 kj2 a0 0 0)=some (r1,r2):=by rw [if_neg (show ¬(false=true) by decide)] at H;exact H
    clear H;have H:=H1;clear H1;have H':=AA.mk H;clear H;go_wp2;go_loopg [6,7] kj2 (λkq v6 v7 w'=>∃ (x6_2:Int) (x7_2:Int),v6= .int .u64 x6_2/\v7= .int .i64 x7_2/\AA (BA.l0 kq a0 x6_2 x7_2=some (r1,r2))/\AA (kq<=kj2)/\BP w w');case atStart=>exact ⟨(0),(0),xq,xq,H',⟨Nat.le_refl _⟩,xd⟩
    case round=>
     clear H';try clear c1
     try clear c2
     try clear p2
     try clear c4
     try clear c4b0
     try clear c4b1
     try clear c5
     try clear p2
     obtain ⟨x6_2,x7_2,rfl,rfl,HA,HK2,⟨m2,rfl⟩⟩:=hrel;cases gk with
     |zero=>exact absurd HA.out (by simp [BA.l0])
     |succ k2=>
      have H:=HA.out;clear HA;simp only [BA.l0] at H;by_cases c6:x7_2<(a0.size:Int)
      ·rw [if_pos c6] at H;have c6b0:decide (x7_2<(a0.size:Int))=true:=decide_eq_true c6;clear c6;by_cases c7:0<=x7_2
       ·rw [if_pos c7] at H;have c7b0:decide (0<=x7_2)=true:=decide_eq_true c7;clear c7;by_cases c9:(bt a0 x7_2)<48
        ·rw [if_pos c9] at H;have c9b0:decide ((bt a0 x7_2)<48)=true:=decide_eq_true c9;clear c9;simp only [Option.some.injEq,Prod.mk.injEq] at H;obtain ⟨rfl,rfl⟩:=H;have p8:0<=(x7_2:Int):=xa;have q8:x7_2<(a0.size:Int):=xa;have hx8:=CV a0 x7_2;replace p8:=eq_true p8;replace q8:=eq_true q8;go_wp2;go_ret2;exact ⟨xq,xd⟩
        ·rw [if_neg c9] at H;have c9b0:decide ((bt a0 x7_2)<48)=false:=decide_eq_false c9;clear c9;by_cases c11:(bt a0 x7_2)>57
         ·rw [if_pos c11] at H;have c11b0:decide (57<(bt a0 x7_2))=true:=decide_eq_true c11;clear c11;simp only [Option.some.injEq,Prod.mk.injEq] at H;obtain ⟨rfl,rfl⟩:=H;have p8:0<=(x7_2:Int):=xa;have q8:x7_2<(a0.size:Int):=xa;have hx8:=CV a0 x7_2;replace p8:=eq_true p8;replace q8:=eq_true q8;have p10:0<=(x7_2:Int):=xa;have q10:x7_2<(a0.size:Int):=xa;have hx10:=CV a0 x7_2;replace p10:=eq_true p10;replace q10:=eq_true q10;go_wp2;go_ret2;exact ⟨xq,xd⟩
         ·rw [if_neg c11] at H;have c11b0:decide (57<(bt a0 x7_2))=false:=decide_eq_false c11;clear c11;have H':=AA.mk H;clear H;have p8:0<=(x7_2:Int):=xa;have q8:x7_2<(a0.size:Int):=xa;have hx8:=CV a0 x7_2;replace p8:=eq_true p8;replace q8:=eq_true q8;have p10:0<=(x7_2:Int):=xa;have q10:x7_2<(a0.size:Int):=xa;have hx10:=CV a0 x7_2;replace p10:=eq_true p10;replace q10:=eq_true q10;have p12:0<=(x7_2:Int):=xa;have q12:x7_2<(a0.size:Int):=xa;have hx12:=CV a0 x7_2;replace p12:=eq_true p12;replace q12:=eq_true q12;go_wp2;go_roundg k2;case measure=>have:=HJ2.out;have:=HK2.out;omega
          case rel=>exact ⟨(IntKind.u64.wrap ((IntKind.u64.wrap ((IntKind.u64.wrap (10*x6_2))+(IntKind.u64.wrap (bt a0 x7_2)))) - 48)),(wrap64 (x7_2+1)),xq,xq,H',⟨by have:=HJ2.out;have:=HK2.out;omega⟩,xd⟩
       ·rw [if_neg c7] at H;exact absurd H (by simp)
      ·rw [if_neg c6] at H;have c6b0:decide (x7_2<(a0.size:Int))=false:=decide_eq_false c6;clear c6;simp only [Option.some.injEq,Prod.mk.injEq] at H;obtain ⟨rfl,rfl⟩:=H;go_wp2;go_ret2;exact ⟨xq,xd⟩
def Bn.l0:Nat->Int->ByteArray->Option (ByteArray)
 |0,_,_=>none
 |k+1,x0,x3=>if x0>=10 then ((some (([(IntKind.u64.wrap (48+(Int.tmod x0 10)))%256]:List Int):List Int)).bind λy352=>(if (strOfNums y352).size+x3.size<=9223372036854775807 then (Bn.l0 k (IntKind.u64.wrap (Int.tdiv x0 10)) ((strOfNums y352)++x3)) else (none))) else ((some (([(IntKind.u64.wrap (48+x0))%256]:List Int):List Int)).bind λy355=>(if (strOfNums y355).size+x3.size<=9223372036854775807 then (some ((strOfNums y355)++x3)) else (none)))
def Bn.f (k:Nat) (a0:Int):Option (ByteArray):=Bn.l0 k a0 (⟨#[]⟩:ByteArray)
set_option maxHeartbeats 8000000 in
set_option maxRecDepth 100000 in
theorem Bn.calls (k:Nat) (a0:Int) (r:ByteArray) (w:World) (h:Bn.f k a0=some r):
 Calls Tryz.prog 134 #[.int .u64 a0] w λe w'=>e= .returned (.string r)/\Below w.heap.size w w':=by
 have HB:=AA.mk (Below.refl w.heap.size w);have H:(Bn.l0 k a0 (⟨#[]⟩:ByteArray))=some r:=h;clear h;have H':=AA.mk H;clear H;go_enter Tryz.func134,Tryz.ntmps134;go_wp2;go_loopg [0,3] k (λkq v0 v3 w'=>∃ (x0_1:Int) (x3_1:ByteArray),v0= .int .u64 x0_1/\v3= .string x3_1/\AA (Bn.l0 kq x0_1 x3_1=some r)/\AA (kq<=k)/\AA (Below w.heap.size w w'));case atStart=>exact ⟨(a0),((⟨#[]⟩:ByteArray)),xq,xq,H',⟨Nat.le_refl _⟩,⟨xb⟩⟩
 case round=>
  clear H';try clear c1
  obtain ⟨x0_1,x3_1,rfl,rfl,HA,HK1,HB⟩:=hrel;cases gk with
  |zero=>exact absurd HA.out (by simp [Bn.l0])
  |succ k1=>
   have H:=HA.out;clear HA;simp only [Bn.l0] at H;by_cases c2:x0_1>=10
   ·rw [if_pos c2] at H;have c2b0:decide (10<=x0_1)=true:=decide_eq_true c2;clear c2;obtain ⟨y352,hy352⟩:∃ y_:List Int,y_=(([(IntKind.u64.wrap (48+(Int.tmod x0_1 10)))%256]:List Int)):=⟨_,rfl⟩;replace H:(if (strOfNums y352).size+x3_1.size<=9223372036854775807 then (Bn.l0 k1 (IntKind.u64.wrap (Int.tdiv x0_1 10)) ((strOfNums y352)++x3_1)) else (none))=some r:=by first|(rw [hy352];with_reducible exact H)|(have H2_:=(Option.bind_some _ _).symm.trans H;rw [hy352];with_reducible exact H2_)|(have H2_:=(Option.bind_some _ _).symm.trans H;with_reducible exact H2_)|with_reducible exact H|(rw [hy352];exact H)|exact H
    have Ny352:=AA.mk hy352;clear hy352;by_cases c3:(strOfNums y352).size+x3_1.size<=9223372036854775807
    ·rw [if_pos c3] at H;have c3b0:=eq_true c3;have c3b1:decide ((strOfNums y352).size+x3_1.size<=9223372036854775807)=true:=decide_eq_true c3;try have c3b2:(9223372036854775807<(strOfNums y352).size+x3_1.size)=False:=eq_false (Nat.not_lt.2 c3)
     have H':=AA.mk H;clear H;go_wp2_with (first|((with_reducible refine Fp (N:=10) rfl ?_);refine Kd.Lu (Kd.int .u8) _ 5 ?hg (N:=10) ?hd (xs:=([(IntKind.u64.wrap (48+(Int.tmod x0_1 10)))%256]:List Int)) (inner:=[.int .u8 ((IntKind.u64.wrap (48+(Int.tmod x0_1 10)))%256)]) (ok:=λ_=>True) (okp:=λ_=>True) ?hr ?hp (λ_ hk=>hk) trivial (Below.refl _ _) (Nat.le_refl _) (by simp) ?_;(case hd=>rfl);(case hg=>rfl);(case hr=>first|(go_simp;done)|(go_simp;rfl));(case hp=>exact (CY.one (show Kd.M (Kd.int .u8) _ _ _ ((IntKind.u64.wrap (48+(Int.tmod x0_1 10)))%256) [.int .u8 ((IntKind.u64.wrap (48+(Int.tmod x0_1 10)))%256)] from rfl) (CY.none _ _)));intro v353 w4 ho5 hb hg_ hnew_;clear hg_ hnew_;(first|rw [<-Ny352.out] at ho5|(simp only [Int.reduceToNat] at ho5;rw [<-Ny352.out] at ho5));have HO354:=AA.mk (Kd.CJ ho5 (Ai xb));replace HB:=AA.mk (AO xb hb);clear hb ho5;have hcv6:=C9 (P:=Tryz.prog) Tryz.underlying67 Tryz.underlying5 Tryz.underlying9 (Kd.Dl HO354.out)));go_roundg k1;case measure=>have:=HK1.out;omega
     case rel=>exact ⟨(IntKind.u64.wrap (Int.tdiv x0_1 10)),((strOfNums y352)++x3_1),xq,xq,H',⟨by have:=HK1.out;omega⟩,⟨xb⟩⟩
    ·rw [if_neg c3] at H;exact absurd H (by simp)
   ·rw [if_neg c2] at H;have c2b0:decide (10<=x0_1)=false:=decide_eq_false c2;clear c2;obtain ⟨y355,hy355⟩:∃ y_:List Int,y_=(([(IntKind.u64.wrap (48+x0_1))%256]:List Int)):=⟨_,rfl⟩;replace H:(if (strOfNums y355).size+x3_1.size<=9223372036854775807 then (some ((strOfNums y355)++x3_1)) else (none))=some r:=by first|(rw [hy355];with_reducible exact H)|(have H2_:=(Option.bind_some _ _).symm.trans H;rw [hy355];with_reducible exact H2_)|(have H2_:=(Option.bind_some _ _).symm.trans H;with_reducible exact H2_)|with_reducible exact H|(rw [hy355];exact H)|exact H
    have Ny355:=AA.mk hy355;clear hy355;by_cases c7:(strOfNums y355).size+x3_1.size<=9223372036854775807
    ·rw [if_pos c7] at H;have c7b0:=eq_true c7;have c7b1:decide ((strOfNums y355).size+x3_1.size<=9223372036854775807)=true:=decide_eq_true c7;try have c7b2:(9223372036854775807<(strOfNums y355).size+x3_1.size)=False:=eq_false (Nat.not_lt.2 c7)
     obtain rfl:=Option.some.inj H;go_wp2_with (first|((with_reducible refine Fp (N:=19) rfl ?_);refine Kd.Lu (Kd.int .u8) _ 5 ?hg (N:=19) ?hd (xs:=([(IntKind.u64.wrap (48+x0_1))%256]:List Int)) (inner:=[.int .u8 ((IntKind.u64.wrap (48+x0_1))%256)]) (ok:=λ_=>True) (okp:=λ_=>True) ?hr ?hp (λ_ hk=>hk) trivial (Below.refl _ _) (Nat.le_refl _) (by simp) ?_;(case hd=>rfl);(case hg=>rfl);(case hr=>first|(go_simp;done)|(go_simp;rfl));(case hp=>exact (CY.one (show Kd.M (Kd.int .u8) _ _ _ ((IntKind.u64.wrap (48+x0_1))%256) [.int .u8 ((IntKind.u64.wrap (48+x0_1))%256)] from rfl) (CY.none _ _)));intro v356 w8 ho9 hb hg_ hnew_;clear hg_ hnew_;(first|rw [<-Ny355.out] at ho9|(simp only [Int.reduceToNat] at ho9;rw [<-Ny355.out] at ho9));have HO357:=AA.mk (Kd.CJ ho9 (Ai xb));replace HB:=AA.mk (AO xb hb);clear hb ho9;have hcv10:=C9 (P:=Tryz.prog) Tryz.underlying67 Tryz.underlying5 Tryz.underlying9 (Kd.Dl HO357.out)));go_ret;exact ⟨xe,xb⟩
    ·rw [if_neg c7] at H;exact absurd H (by simp)
def Cv.f (k:Nat) (a0:Int):Option (ByteArray):=if a0<0 then ((Bn.f k (IntKind.u64.wrap ((IntKind.u64.wrap (wrap64 (-(wrap64 (a0+1)))))+1))).bind λt358=>(if 1+t358.size<=9223372036854775807 then (some ((⟨#[45]⟩:ByteArray)++t358)) else (none))) else ((Bn.f k (IntKind.u64.wrap (a0))).bind λt359=>(some t359))
set_option maxHeartbeats 8000000 in
set_option maxRecDepth 100000 in
theorem Cv.calls (k:Nat) (a0:Int) (r:ByteArray) (w:World) (h:Cv.f k a0=some r):
 Calls Tryz.prog 127 #[.int .i64 a0] w λe w'=>e= .returned (.string r)/\Below w.heap.size w w':=by
 have HB:=AA.mk (Below.refl w.heap.size w);have H:(if a0<0 then ((Bn.f k (IntKind.u64.wrap ((IntKind.u64.wrap (wrap64 (-(wrap64 (a0+1)))))+1))).bind λt358=>(if 1+t358.size<=9223372036854775807 then (some ((⟨#[45]⟩:ByteArray)++t358)) else (none))) else ((Bn.f k (IntKind.u64.wrap (a0))).bind λt359=>(some t359)))=some r:=h;clear h;by_cases c2:a0<0
 ·rw [if_pos c2] at H;have c2b0:decide (a0<0)=true:=decide_eq_true c2;clear c2;replace H:=Option.bind_eq_some_iff.mp H;obtain ⟨t358,A30,H⟩:=H;replace H:(if 1+t358.size<=9223372036854775807 then (some ((⟨#[45]⟩:ByteArray)++t358)) else (none))=some r:=H;have A3:=AA.mk A30;clear A30;by_cases c4:1+t358.size<=9223372036854775807
  ·rw [if_pos c4] at H;have c4b0:=eq_true c4;have c4b1:decide (1+t358.size<=9223372036854775807)=true:=decide_eq_true c4;try have c4b2:(9223372036854775807<1+t358.size)=False:=eq_false (Nat.not_lt.2 c4)
   obtain rfl:=Option.some.inj H;go_enter Tryz.func127,Tryz.ntmps127;go_wp2_with (first|((with_reducible refine AQ (f:=134) rfl ?_);refine Ag (some 10) rfl rfl Tryz.func134 (by kernel_rfl) rfl #[.int .u64 (IntKind.u64.wrap ((IntKind.u64.wrap (wrap64 (-(wrap64 (a0+1)))))+1))] rfl xg ?_;(with_reducible refine (Bn.calls k (IntKind.u64.wrap ((IntKind.u64.wrap (wrap64 (-(wrap64 (a0+1)))))+1)) t358 _ A3.out).mono ?_);rintro e w5 ⟨rfl,hb⟩;refine ⟨_,rfl,?_⟩;replace HB:=AA.mk (AO xb hb);(try clear hb)));go_ret;exact ⟨xe,xb⟩
  ·rw [if_neg c4] at H;exact absurd H (by simp)
 ·rw [if_neg c2] at H;have c2b0:decide (a0<0)=false:=decide_eq_false c2;clear c2;replace H:=Option.bind_eq_some_iff.mp H;obtain ⟨t359,A60,H⟩:=H;replace H:(some t359)=some r:=H;have A6:=AA.mk A60;clear A60;obtain rfl:=Option.some.inj H;go_enter Tryz.func127,Tryz.ntmps127;go_wp2_with (first|((with_reducible refine AQ (f:=134) rfl ?_);refine Ag (some 14) rfl rfl Tryz.func134 (by kernel_rfl) rfl #[.int .u64 (IntKind.u64.wrap (a0))] rfl xg ?_;(with_reducible refine (Bn.calls k (IntKind.u64.wrap (a0)) t359 _ A6.out).mono ?_);rintro e w7 ⟨rfl,hb⟩;refine ⟨_,rfl,?_⟩;replace HB:=AA.mk (AO xb hb);(try clear hb)));go_ret;exact ⟨xe,xb⟩
end Go.Proofs.YtfggjdkccdkogaaGreatDoor.Print
end
section
namespace Go.Proofs.YtfggjdkccdkogaaGreatDoor.Print
open RowKit Ac Aq Aw
attribute [local go_sem] DC DD DX DY Co Cq DI DJ
set_option linter.unusedVariables false
set_option linter.unusedSimpArgs false
mutual
def Au.j0:Nat->ByteArray->Bool->Option (Int×Bool)
 |0,_,_=>none
 |k+1,x0,x16=>if x16=true then (if 1<=(x0.size:Int) then ((BA.f k (x0.extract 1 x0.size) 19).bind λbt360=>(if bt360.2=true then (if bt360.1=0 then (Au.j1 k x0 bt360.1 true) else (Au.j1 k x0 bt360.1 (decide (bt360.1>9223372036854775808)))) else (Au.j1 k x0 bt360.1 true))) else (none)) else ((BA.f k x0 19).bind λbt363=>(if bt363.2=true then (if bt363.1>9223372036854775807 then (some (0,false)) else ((Cv.f k (wrap64 (bt363.1))).bind λt365=>(if t365.toList=x0.toList then (some (wrap64 (bt363.1),true)) else (some (0,false))))) else (some (0,false))))
def Au.j1:Nat->ByteArray->Int->Bool->Option (Int×Bool)
 |0,_,_,_=>none
 |k+1,x0,x4,x32=>if x32=true then (some (0,false)) else ((Cv.f k (wrap64 ((wrap64 (-(wrap64 (IntKind.u64.wrap (x4 - 1))))) - 1))).bind λt362=>(if t362.toList=x0.toList then (some (wrap64 ((wrap64 (-(wrap64 (IntKind.u64.wrap (x4 - 1))))) - 1),true)) else (some (0,false))))
end
def Au.f (k:Nat) (a0:ByteArray):Option (Int×Bool):=if (a0.size:Int)>0 then (if 0<(a0.size:Int) then (Au.j0 k a0 ((bt a0 0)==45)) else (none)) else (Au.j0 k a0 false)
set_option maxHeartbeats 8000000 in
set_option maxRecDepth 100000 in
theorem Au.calls (k:Nat) (a0:ByteArray) (r1:Int) (r2:Bool) (w:World) (h:Au.f k a0=some (r1,r2)):
 Calls Tryz.prog 116 #[.string a0] w λe w'=>e= .returned (.tuple #[.int .i64 r1, .bool r2])/\Below w.heap.size w w':=by
 have HB:=AA.mk (Below.refl w.heap.size w);have H:(if (a0.size:Int)>0 then (if 0<(a0.size:Int) then (Au.j0 k a0 ((bt a0 0)==45)) else (none)) else (Au.j0 k a0 false))=some (r1,r2):=h;clear h;have HC2:=AA.mk H;clear H;go_enter Tryz.func116,Tryz.ntmps116;go_upto_region 1 with (fail)
 go_cut [16] (λv16 wc=>∃ (kq:Nat) (x16_1:Bool),v16= .bool x16_1/\AA (Au.j0 kq a0 x16_1=some (r1,r2))/\AA (kq<=k)/\AA (Below w.heap.size w wc));case first=>
  have H:=HC2.out;clear HC2;by_cases c3:(a0.size:Int)>0
  ·rw [if_pos c3] at H;have c3b0:decide (0<(a0.size:Int))=true:=decide_eq_true c3;have c3b1:decide (0<a0.size)=true:=decide_eq_true (by omega);clear c3;(first|rw [c3b0]|(simp only [CE,CU];rw [c3b0])|skip);by_cases c4:0<(a0.size:Int)
   ·rw [if_pos c4] at H;have c4b0:decide (0<(a0.size:Int))=true:=decide_eq_true c4;have c4b1:decide (0<a0.size)=true:=decide_eq_true (by omega);clear c4;have H':=AA.mk H;clear H;have p5:0<=(0:Int):=(by omega);have q5:0<a0.size:=(by have:(0:Int)<(a0.size:Int):=xa;omega);have hx5:∀ h:0<a0.size,((a0[0]'h).toNat:Int)=bt a0 0:=CV a0 0;clear p5;have qi5:(0<(a0.size:Int))=True:=eq_true (xa);replace q5:=eq_true q5;go_wp2;go_meet;case rel=>exact ⟨_,(((bt a0 0)==45)),xq,H',⟨by first|omega|exact Nat.le_refl _⟩,⟨xb⟩⟩
   ·rw [if_neg c4] at H;exact absurd H (by simp)
  ·rw [if_neg c3] at H;have c3b0:decide (0<(a0.size:Int))=false:=decide_eq_false c3;have c3b1:decide (0<a0.size)=false:=decide_eq_false (by omega);clear c3;(first|rw [c3b0]|(simp only [CE,CU];rw [c3b0])|skip);have H':=AA.mk H;clear H;go_wp2;go_meet;case rel=>exact ⟨_,(false),xq,H',⟨by first|omega|exact Nat.le_refl _⟩,⟨xb⟩⟩
 case rest=>
  clear HC2;try clear c1
  try clear p2
  try clear c3
  try clear c3b0
  try clear c3b1
  try clear c4
  try clear c4b0
  try clear c4b1
  try clear p5
  try clear q5
  try clear hx5
  try clear qi5
  try clear p5
  try clear q5
  obtain ⟨kq,x16_1,rfl,HA,HJ1,HB⟩:=hcut;cases kq with
  |zero=>exact absurd HA.out (by simp [Au.j0])
  |succ kj1=>
   have H:=HA.out;clear HA;simp only [Au.j0] at H;by_cases c6:x16_1=true
   ·subst c6;have H1:(if 1<=(a0.size:Int) then ((BA.f kj1 (a0.extract 1 a0.size) 19).bind λbt360=>(if bt360.2=true then (if bt360.1=0 then (Au.j1 kj1 a0 bt360.1 true) else (Au.j1 kj1 a0 bt360.1 (decide (bt360.1>9223372036854775808)))) else (Au.j1 kj1 a0 bt360.1 true))) else (none))=some (r1,r2):=by rw [if_pos rfl] at H;exact H
    clear H;have H:=H1;clear H1;by_cases c7:1<=(a0.size:Int)
    ·rw [if_pos c7] at H;have c7b0:=eq_true c7;have c7b1:decide (1<=(a0.size:Int))=true:=decide_eq_true c7;clear c7;replace H:=Option.bind_eq_some_iff.mp H;obtain ⟨⟨t360,t361⟩,A80,H⟩:=H;replace H:(if t361=true then (if t360=0 then (Au.j1 kj1 a0 t360 true) else (Au.j1 kj1 a0 t360 (decide (t360>9223372036854775808)))) else (Au.j1 kj1 a0 t360 true))=some (r1,r2):=H;have A8:=AA.mk A80;clear A80;have HC9:=AA.mk H;clear H;go_upto_region 3 with (first|((with_reducible refine AQ (f:=126) rfl ?_);refine Ag (some 20) rfl rfl Tryz.func126 (by kernel_rfl) rfl #[.string (a0.extract 1 a0.size), .int .i64 19] rfl xg ?_;(with_reducible refine (BA.calls kj1 (a0.extract 1 a0.size) 19 t360 t361 _ A8.out).mono ?_);rintro e w' ⟨rfl,⟨nd,rfl⟩⟩;refine ⟨_,rfl,?_⟩))
     (try simp only [Act.put,List.setIfInBounds_toArray,List.set_cons_zero,List.set_cons_succ]);go_cut [32] (λv32 wc=>∃ (kq:Nat) (x32_8:Bool),v32= .bool x32_8/\AA (Au.j1 kq a0 t360 x32_8=some (r1,r2))/\AA (kq<=kj1)/\AA (Below w.heap.size w wc));case first=>
      have H:=HC9.out;clear HC9;by_cases c10:t361=true
      ·subst c10;have H1:(if t360=0 then (Au.j1 kj1 a0 t360 true) else (Au.j1 kj1 a0 t360 (decide (t360>9223372036854775808))))=some (r1,r2):=by rw [if_pos rfl] at H;exact H
       clear H;have H:=H1;clear H1;by_cases c11:t360=0
       ·rw [if_pos c11] at H;have c11b0:(t360==0)=true:=beq_iff_eq.mpr c11;have c11b1:(t360 != 0)=false:=bne_eq_false_iff_eq.mpr c11;clear c11;(first|rw [c11b0]|(simp only [CE,CU];rw [c11b0])|skip);have H':=AA.mk H;clear H;go_wp2;go_meet;case rel=>exact ⟨_,(true),xq,H',⟨by have:=HJ1.out;first|omega|exact Nat.le_refl _⟩,⟨xb⟩⟩
       ·rw [if_neg c11] at H;have c11b0:(t360==0)=false:=beq_eq_false_iff_ne.mpr c11;have c11b1:(t360 != 0)=true:=bne_iff_ne.mpr c11;(first|rw [c11b0]|(simp only [CE,CU];rw [c11b0])|skip);have H':=AA.mk H;clear H;go_wp2;go_meet;case rel=>exact ⟨_,(decide (t360>9223372036854775808)),xq,H',⟨by have:=HJ1.out;first|omega|exact Nat.le_refl _⟩,⟨xb⟩⟩
      ·replace c10:=Bool.eq_false_iff.mpr c10;subst c10;have H1:(Au.j1 kj1 a0 t360 true)=some (r1,r2):=by rw [if_neg (show ¬(false=true) by decide)] at H;exact H
       clear H;have H:=H1;clear H1;have H':=AA.mk H;clear H;go_wp2;go_meet;case rel=>exact ⟨_,(true),xq,H',⟨by have:=HJ1.out;first|omega|exact Nat.le_refl _⟩,⟨xb⟩⟩
     case rest=>
      clear HC9;try clear c1
      try clear p2
      try clear c3
      try clear c3b0
      try clear c3b1
      try clear p3
      try clear c4
      try clear c4b0
      try clear c4b1
      try clear p5
      try clear q5
      try clear hx5
      try clear qi5
      try clear c6
      try clear p6
      try clear c7
      try clear c7b0
      try clear c7b1
      try clear c10
      try clear c11
      try clear c11b0
      try clear c11b1
      try clear p2
      try clear p5
      try clear q5
      obtain ⟨kq,x32_8,rfl,HA,HJ8,HB⟩:=hcut;cases kq with
      |zero=>exact absurd HA.out (by simp [Au.j1])
      |succ kj8=>
       have H:=HA.out;clear HA;simp only [Au.j1] at H;by_cases c12:x32_8=true
       ·subst c12;have H1:(some (0,false))=some (r1,r2):=by rw [if_pos rfl] at H;exact H
        clear H;have H:=H1;clear H1;simp only [Option.some.injEq,Prod.mk.injEq] at H;obtain ⟨rfl,rfl⟩:=H;go_wp2;go_ret2;exact ⟨xe,xb⟩
       ·replace c12:=Bool.eq_false_iff.mpr c12;subst c12;have H1:((Cv.f kj8 (wrap64 ((wrap64 (-(wrap64 (IntKind.u64.wrap (t360 - 1))))) - 1))).bind λt362=>(if t362.toList=a0.toList then (some (wrap64 ((wrap64 (-(wrap64 (IntKind.u64.wrap (t360 - 1))))) - 1),true)) else (some (0,false))))=some (r1,r2):=by rw [if_neg (show ¬(false=true) by decide)] at H;exact H
        clear H;have H:=H1;clear H1;replace H:=Option.bind_eq_some_iff.mp H;obtain ⟨t362,A130,H⟩:=H;replace H:(if t362.toList=a0.toList then (some (wrap64 ((wrap64 (-(wrap64 (IntKind.u64.wrap (t360 - 1))))) - 1),true)) else (some (0,false)))=some (r1,r2):=H;have A13:=AA.mk A130;clear A130;by_cases c14:t362.toList=a0.toList
        ·rw [if_pos c14] at H;have c14b0:(t362.toList==a0.toList)=true:=beq_iff_eq.mpr c14;have c14b1:(t362.toList != a0.toList)=false:=bne_eq_false_iff_eq.mpr c14;clear c14;simp only [Option.some.injEq,Prod.mk.injEq] at H;obtain ⟨rfl,rfl⟩:=H;go_wp2_with (first|((with_reducible refine AQ (f:=127) rfl ?_);refine Ag (some 39) rfl rfl Tryz.func127 (by kernel_rfl) rfl #[.int .i64 (wrap64 ((wrap64 (-(wrap64 (IntKind.u64.wrap (t360 - 1))))) - 1))] rfl xg ?_;(with_reducible refine (Cv.calls kj8 (wrap64 ((wrap64 (-(wrap64 (IntKind.u64.wrap (t360 - 1))))) - 1)) t362 _ A13.out).mono ?_);rintro e w15 ⟨rfl,hb⟩;refine ⟨_,rfl,?_⟩;replace HB:=AA.mk (AO xb hb);(try clear hb)));go_ret2;exact ⟨xe,xb⟩
        ·rw [if_neg c14] at H;have c14b0:(t362.toList==a0.toList)=false:=beq_eq_false_iff_ne.mpr c14;have c14b1:(t362.toList != a0.toList)=true:=bne_iff_ne.mpr c14;simp only [Option.some.injEq,Prod.mk.injEq] at H;obtain ⟨rfl,rfl⟩:=H;go_wp2_with (first|((with_reducible refine AQ (f:=127) rfl ?_);refine Ag (some 39) rfl rfl Tryz.func127 (by kernel_rfl) rfl #[.int .i64 (wrap64 ((wrap64 (-(wrap64 (IntKind.u64.wrap (t360 - 1))))) - 1))] rfl xg ?_;(with_reducible refine (Cv.calls kj8 (wrap64 ((wrap64 (-(wrap64 (IntKind.u64.wrap (t360 - 1))))) - 1)) t362 _ A13.out).mono ?_);rintro e w16 ⟨rfl,hb⟩;refine ⟨_,rfl,?_⟩;replace HB:=AA.mk (AO xb hb);(try clear hb)));go_ret2;exact ⟨xe,xb⟩
    ·rw [if_neg c7] at H;exact absurd H (by simp)
   ·replace c6:=Bool.eq_false_iff.mpr c6;subst c6;have H1:((BA.f kj1 a0 19).bind λbt363=>(if bt363.2=true then (if bt363.1>9223372036854775807 then (some (0,false)) else ((Cv.f kj1 (wrap64 (bt363.1))).bind λt365=>(if t365.toList=a0.toList then (some (wrap64 (bt363.1),true)) else (some (0,false))))) else (some (0,false))))=some (r1,r2):=by rw [if_neg (show ¬(false=true) by decide)] at H;exact H
    clear H;have H:=H1;clear H1;replace H:=Option.bind_eq_some_iff.mp H;obtain ⟨⟨t363,t364⟩,A170,H⟩:=H;replace H:(if t364=true then (if t363>9223372036854775807 then (some (0,false)) else ((Cv.f kj1 (wrap64 (t363))).bind λt365=>(if t365.toList=a0.toList then (some (wrap64 (t363),true)) else (some (0,false))))) else (some (0,false)))=some (r1,r2):=H;have A17:=AA.mk A170;clear A170;by_cases c18:t364=true
    ·subst c18;rw [if_pos rfl] at H;by_cases c19:t363>9223372036854775807
     ·rw [if_pos c19] at H;have c19b0:decide (9223372036854775807<t363)=true:=decide_eq_true c19;clear c19;simp only [Option.some.injEq,Prod.mk.injEq] at H;obtain ⟨rfl,rfl⟩:=H;go_wp2_with (first|((with_reducible refine AQ (f:=126) rfl ?_);refine Ag (some 45) rfl rfl Tryz.func126 (by kernel_rfl) rfl #[.string a0, .int .i64 19] rfl xg ?_;(with_reducible refine (BA.calls kj1 a0 19 t363 true _ A17.out).mono ?_);rintro e w' ⟨rfl,⟨nd,rfl⟩⟩;refine ⟨_,rfl,?_⟩));go_ret2;exact ⟨xe,xb⟩
     ·rw [if_neg c19] at H;have c19b0:decide (9223372036854775807<t363)=false:=decide_eq_false c19;clear c19;replace H:=Option.bind_eq_some_iff.mp H;obtain ⟨t365,A200,H⟩:=H;replace H:(if t365.toList=a0.toList then (some (wrap64 (t363),true)) else (some (0,false)))=some (r1,r2):=H;have A20:=AA.mk A200;clear A200;by_cases c21:t365.toList=a0.toList
      ·rw [if_pos c21] at H;have c21b0:(t365.toList==a0.toList)=true:=beq_iff_eq.mpr c21;have c21b1:(t365.toList != a0.toList)=false:=bne_eq_false_iff_eq.mpr c21;clear c21;simp only [Option.some.injEq,Prod.mk.injEq] at H;obtain ⟨rfl,rfl⟩:=H;go_wp2_with (first|((with_reducible refine AQ (f:=126) rfl ?_);refine Ag (some 45) rfl rfl Tryz.func126 (by kernel_rfl) rfl #[.string a0, .int .i64 19] rfl xg ?_;(with_reducible refine (BA.calls kj1 a0 19 t363 true _ A17.out).mono ?_);rintro e w' ⟨rfl,⟨nd,rfl⟩⟩;refine ⟨_,rfl,?_⟩)|(go_at_call 127;(with_reducible refine (Cv.calls kj1 (wrap64 (t363)) t365 _ A20.out).mono ?_);rintro e w22 ⟨rfl,hb⟩;replace HB:=AA.mk (AO xb hb);(try clear hb)));go_ret2;exact ⟨xe,xb⟩
      ·rw [if_neg c21] at H;have c21b0:(t365.toList==a0.toList)=false:=beq_eq_false_iff_ne.mpr c21;have c21b1:(t365.toList != a0.toList)=true:=bne_iff_ne.mpr c21;simp only [Option.some.injEq,Prod.mk.injEq] at H;obtain ⟨rfl,rfl⟩:=H;go_wp2_with (first|((with_reducible refine AQ (f:=126) rfl ?_);refine Ag (some 45) rfl rfl Tryz.func126 (by kernel_rfl) rfl #[.string a0, .int .i64 19] rfl xg ?_;(with_reducible refine (BA.calls kj1 a0 19 t363 true _ A17.out).mono ?_);rintro e w' ⟨rfl,⟨nd,rfl⟩⟩;refine ⟨_,rfl,?_⟩)|(go_at_call 127;(with_reducible refine (Cv.calls kj1 (wrap64 (t363)) t365 _ A20.out).mono ?_);rintro e w23 ⟨rfl,hb⟩;replace HB:=AA.mk (AO xb hb);(try clear hb)));go_ret2;exact ⟨xe,xb⟩
    ·replace c18:=Bool.eq_false_iff.mpr c18;subst c18;have H1:(some (0,false))=some (r1,r2):=by rw [if_neg (show ¬(false=true) by decide)] at H;exact H
     clear H;have H:=H1;clear H1;simp only [Option.some.injEq,Prod.mk.injEq] at H;obtain ⟨rfl,rfl⟩:=H;go_wp2_with (first|((with_reducible refine AQ (f:=126) rfl ?_);refine Ag (some 45) rfl rfl Tryz.func126 (by kernel_rfl) rfl #[.string a0, .int .i64 19] rfl xg ?_;(with_reducible refine (BA.calls kj1 a0 19 t363 false _ A17.out).mono ?_);rintro e w' ⟨rfl,⟨nd,rfl⟩⟩;refine ⟨_,rfl,?_⟩));go_ret2;exact ⟨xe,xb⟩
def Ch.l0:Nat->List ByteArray->Int->Option (Bool)
 |0,_,_=>none
 |k+1,x3,x4=>if x4<(x3.length:Int) then (if 0<=x4 then ((Au.f k (EH ByteArray.empty x3 x4)).bind λbt370=>(if bt370.2=true then (if bt370.1<0 then (some false) else (if bt370.1>255 then (some false) else (Ch.l0 k x3 (wrap64 (x4+1))))) else (some false))) else (none)) else (some ((x3.length:Int)==4))
def Ch.f (k:Nat) (a0:ByteArray):Option (Bool):=(Bh.f k a0).bind λt366=>(Ch.l0 k t366 0)
set_option maxHeartbeats 8000000 in
set_option maxRecDepth 100000 in
theorem Ch.calls (k:Nat) (a0:ByteArray) (r:Bool) (w:World) (h:Ch.f k a0=some r):
 Calls Tryz.prog 92 #[.string a0] w λe w'=>e= .returned (.bool r)/\Below w.heap.size w w':=by
 have HB:=AA.mk (Below.refl w.heap.size w);have H:((Bh.f k a0).bind λt366=>(Ch.l0 k t366 0))=some r:=h;clear h;replace H:=Option.bind_eq_some_iff.mp H;obtain ⟨t366,A20,H⟩:=H;try dsimp only at H
 have A2:=AA.mk A20;clear A20;have H':=AA.mk H;clear H;go_enter Tryz.func92,Tryz.ntmps92;go_wp2_with (first|((with_reducible refine AQ (f:=114) rfl ?_);refine Ag (some 8) rfl rfl Tryz.func114 (by kernel_rfl) rfl #[.string a0] rfl xg ?_;(with_reducible refine (Bh.calls k a0 t366 _ A2.out).mono ?_);rintro e w3 ⟨v367,rfl,ho0,hb⟩;refine ⟨_,rfl,?_⟩;have HO368:=AA.mk (Kd.CJ ho0 (Ai xb));replace HB:=AA.mk (AO xb hb);(try clear hb);(try clear ho0)));go_loopg [4] k (λkq v4 w'=>∃ (x4_1:Int),v4= .int .i64 x4_1/\AA (Ch.l0 kq t366 x4_1=some r)/\AA (kq<=k)/\AA (Kd.R Kd.string 9 w' w.heap.size (λ_=>True) v367 t366)/\AA (Below w.heap.size w w'));case atStart=>exact ⟨(0),xq,H',⟨Nat.le_refl _⟩,⟨by (with_reducible repeat (first|apply Kd.BX|apply Kd.BZ|apply Kd.Bc));exact HO368.out⟩,⟨xb⟩⟩
 case round=>
  clear H';try clear c1
  try clear p2
  try clear p3
  obtain ⟨x4_1,rfl,HA,HK1,HO_3,HB⟩:=hrel;cases gk with
  |zero=>exact absurd HA.out (by simp [Ch.l0])
  |succ k1=>
   have H:=HA.out;clear HA;simp only [Ch.l0] at H;by_cases c4:x4_1<(t366.length:Int)
   ·rw [if_pos c4] at H;have c4b0:decide (x4_1<(t366.length:Int))=true:=decide_eq_true c4;clear c4;by_cases c5:0<=x4_1
    ·rw [if_pos c5] at H;have c5b0:decide (0<=x4_1)=true:=decide_eq_true c5;clear c5;replace H:=Option.bind_eq_some_iff.mp H;obtain ⟨⟨t370,t371⟩,A60,H⟩:=H;replace H:(if t371=true then (if t370<0 then (some false) else (if t370>255 then (some false) else (Ch.l0 k1 t366 (wrap64 (x4_1+1))))) else (some false))=some r:=H;have A6:=AA.mk A60;clear A60;by_cases c7:t371=true
     ·subst c7;rw [if_pos rfl] at H;by_cases c8:t370<0
      ·rw [if_pos c8] at H;have c8b0:decide (t370<0)=true:=decide_eq_true c8;clear c8;obtain rfl:=Option.some.inj H;obtain ⟨Ao9,co9,eo9⟩:=Kd.Cg HO_3.out;subst eo9;have p369:0<=(x4_1:Int):=xa;have q369:x4_1<(t366.length:Int):=xa;obtain ⟨ad369,e369,hx369_0⟩:=Kd.FR (Kd.BN HO_3.out).2.2 x4_1 p369 q369;cases e369;replace p369:=eq_true p369;replace q369:=eq_true q369;go_wp2_with (first|((with_reducible refine AQ (f:=116) rfl ?_);refine Ag (some 20) rfl rfl Tryz.func116 (by kernel_rfl) rfl #[.string (EH ByteArray.empty t366 x4_1)] rfl xg ?_;(with_reducible refine (Au.calls k1 (EH ByteArray.empty t366 x4_1) t370 true _ A6.out).mono ?_);rintro e w10 ⟨rfl,hb⟩;refine ⟨_,rfl,?_⟩;replace HO_3:=AA.mk (Kd.Af (xR HO_3) hb);replace HB:=AA.mk (AO xb hb);(try clear hb)));go_ret;exact ⟨xe,xb⟩
      ·rw [if_neg c8] at H;have c8b0:decide (t370<0)=false:=decide_eq_false c8;clear c8;by_cases c11:t370>255
       ·rw [if_pos c11] at H;have c11b0:decide (255<t370)=true:=decide_eq_true c11;clear c11;obtain rfl:=Option.some.inj H;obtain ⟨Ao12,co12,eo12⟩:=Kd.Cg HO_3.out;subst eo12;have p369:0<=(x4_1:Int):=xa;have q369:x4_1<(t366.length:Int):=xa;obtain ⟨ad369,e369,hx369_0⟩:=Kd.FR (Kd.BN HO_3.out).2.2 x4_1 p369 q369;cases e369;replace p369:=eq_true p369;replace q369:=eq_true q369;go_wp2_with (first|((with_reducible refine AQ (f:=116) rfl ?_);refine Ag (some 20) rfl rfl Tryz.func116 (by kernel_rfl) rfl #[.string (EH ByteArray.empty t366 x4_1)] rfl xg ?_;(with_reducible refine (Au.calls k1 (EH ByteArray.empty t366 x4_1) t370 true _ A6.out).mono ?_);rintro e w13 ⟨rfl,hb⟩;refine ⟨_,rfl,?_⟩;replace HO_3:=AA.mk (Kd.Af (xR HO_3) hb);replace HB:=AA.mk (AO xb hb);(try clear hb)));go_ret;exact ⟨xe,xb⟩
       ·rw [if_neg c11] at H;have c11b0:decide (255<t370)=false:=decide_eq_false c11;clear c11;have H':=AA.mk H;clear H;obtain ⟨Ao14,co14,eo14⟩:=Kd.Cg HO_3.out;subst eo14;have p369:0<=(x4_1:Int):=xa;have q369:x4_1<(t366.length:Int):=xa;obtain ⟨ad369,e369,hx369_0⟩:=Kd.FR (Kd.BN HO_3.out).2.2 x4_1 p369 q369;cases e369;replace p369:=eq_true p369;replace q369:=eq_true q369;go_wp2_with (first|((with_reducible refine AQ (f:=116) rfl ?_);refine Ag (some 20) rfl rfl Tryz.func116 (by kernel_rfl) rfl #[.string (EH ByteArray.empty t366 x4_1)] rfl xg ?_;(with_reducible refine (Au.calls k1 (EH ByteArray.empty t366 x4_1) t370 true _ A6.out).mono ?_);rintro e w15 ⟨rfl,hb⟩;refine ⟨_,rfl,?_⟩;replace HO_3:=AA.mk (Kd.Af (xR HO_3) hb);replace HB:=AA.mk (AO xb hb);(try clear hb)));go_roundg k1;case measure=>have:=HK1.out;omega
        case rel=>exact ⟨(wrap64 (x4_1+1)),xq,H',⟨by have:=HK1.out;omega⟩,⟨by (with_reducible repeat (first|apply Kd.BX|apply Kd.BZ|apply Kd.Bc));exact HO_3.out⟩,⟨xb⟩⟩
     ·replace c7:=Bool.eq_false_iff.mpr c7;subst c7;have H1:(some false)=some r:=by rw [if_neg (show ¬(false=true) by decide)] at H;exact H
      clear H;have H:=H1;clear H1;obtain rfl:=Option.some.inj H;obtain ⟨Ao16,co16,eo16⟩:=Kd.Cg HO_3.out;subst eo16;have p369:0<=(x4_1:Int):=xa;have q369:x4_1<(t366.length:Int):=xa;obtain ⟨ad369,e369,hx369_0⟩:=Kd.FR (Kd.BN HO_3.out).2.2 x4_1 p369 q369;cases e369;replace p369:=eq_true p369;replace q369:=eq_true q369;go_wp2_with (first|((with_reducible refine AQ (f:=116) rfl ?_);refine Ag (some 20) rfl rfl Tryz.func116 (by kernel_rfl) rfl #[.string (EH ByteArray.empty t366 x4_1)] rfl xg ?_;(with_reducible refine (Au.calls k1 (EH ByteArray.empty t366 x4_1) t370 false _ A6.out).mono ?_);rintro e w17 ⟨rfl,hb⟩;refine ⟨_,rfl,?_⟩;replace HO_3:=AA.mk (Kd.Af (xR HO_3) hb);replace HB:=AA.mk (AO xb hb);(try clear hb)));go_ret;exact ⟨xe,xb⟩
    ·rw [if_neg c5] at H;exact absurd H (by simp)
   ·rw [if_neg c4] at H;have c4b0:decide (x4_1<(t366.length:Int))=false:=decide_eq_false c4;clear c4;obtain rfl:=Option.some.inj H;obtain ⟨Ao18,co18,eo18⟩:=Kd.Cg HO_3.out;subst eo18;go_wp2;go_ret;exact ⟨xe,xb⟩
def CX.l0:Nat->ByteArray->Int->Option (Bool)
 |0,_,_=>none
 |k+1,x0,x3=>if x3<(x0.size:Int) then (if 0<=x3 then (if (bt x0 x3)<33 then (some false) else (if (bt x0 x3)>126 then (some false) else (if (bt x0 x3)=59 then (some false) else (CX.l0 k x0 (wrap64 (x3+1)))))) else (none)) else (some true)
def CX.f (k:Nat) (a0:ByteArray):Option (Bool):=CX.l0 k a0 0
set_option maxHeartbeats 8000000 in
set_option maxRecDepth 100000 in
theorem CX.calls (k:Nat) (a0:ByteArray) (r:Bool) (w:World) (h:CX.f k a0=some r):
 Calls Tryz.prog 117 #[.string a0] w λe w'=>e= .returned (.bool r)/\BP w w':=by
 have H:(CX.l0 k a0 0)=some r:=h;clear h;have H':=AA.mk H;clear H;go_enter Tryz.func117,Tryz.ntmps117;go_wp2;go_loopg [3] k (λkq v3 w'=>∃ (x3_1:Int),v3= .int .i64 x3_1/\AA (CX.l0 kq a0 x3_1=some r)/\AA (kq<=k)/\BP w w');case atStart=>exact ⟨(0),xq,H',⟨Nat.le_refl _⟩,xd⟩
 case round=>
  clear H';try clear c1
  obtain ⟨x3_1,rfl,HA,HK1,⟨m1,rfl⟩⟩:=hrel;cases gk with
  |zero=>exact absurd HA.out (by simp [CX.l0])
  |succ k1=>
   have H:=HA.out;clear HA;simp only [CX.l0] at H;by_cases c2:x3_1<(a0.size:Int)
   ·rw [if_pos c2] at H;have c2b0:decide (x3_1<(a0.size:Int))=true:=decide_eq_true c2;clear c2;by_cases c3:0<=x3_1
    ·rw [if_pos c3] at H;have c3b0:decide (0<=x3_1)=true:=decide_eq_true c3;clear c3;by_cases c5:(bt a0 x3_1)<33
     ·rw [if_pos c5] at H;have c5b0:decide ((bt a0 x3_1)<33)=true:=decide_eq_true c5;clear c5;obtain rfl:=Option.some.inj H;have p4:0<=(x3_1:Int):=xa;have q4:x3_1<(a0.size:Int):=xa;have hx4:=CV a0 x3_1;replace p4:=eq_true p4;replace q4:=eq_true q4;go_wp2;go_ret;exact ⟨xq,xd⟩
     ·rw [if_neg c5] at H;have c5b0:decide ((bt a0 x3_1)<33)=false:=decide_eq_false c5;clear c5;by_cases c7:(bt a0 x3_1)>126
      ·rw [if_pos c7] at H;have c7b0:decide (126<(bt a0 x3_1))=true:=decide_eq_true c7;clear c7;obtain rfl:=Option.some.inj H;have p4:0<=(x3_1:Int):=xa;have q4:x3_1<(a0.size:Int):=xa;have hx4:=CV a0 x3_1;replace p4:=eq_true p4;replace q4:=eq_true q4;have p6:0<=(x3_1:Int):=xa;have q6:x3_1<(a0.size:Int):=xa;have hx6:=CV a0 x3_1;replace p6:=eq_true p6;replace q6:=eq_true q6;go_wp2;go_ret;exact ⟨xq,xd⟩
      ·rw [if_neg c7] at H;have c7b0:decide (126<(bt a0 x3_1))=false:=decide_eq_false c7;clear c7;by_cases c9:(bt a0 x3_1)=59
       ·rw [if_pos c9] at H;have c9b0:((bt a0 x3_1)==59)=true:=beq_iff_eq.mpr c9;have c9b1:((bt a0 x3_1) != 59)=false:=bne_eq_false_iff_eq.mpr c9;clear c9;obtain rfl:=Option.some.inj H;have p4:0<=(x3_1:Int):=xa;have q4:x3_1<(a0.size:Int):=xa;have hx4:=CV a0 x3_1;replace p4:=eq_true p4;replace q4:=eq_true q4;have p6:0<=(x3_1:Int):=xa;have q6:x3_1<(a0.size:Int):=xa;have hx6:=CV a0 x3_1;replace p6:=eq_true p6;replace q6:=eq_true q6;have p8:0<=(x3_1:Int):=xa;have q8:x3_1<(a0.size:Int):=xa;have hx8:=CV a0 x3_1;replace p8:=eq_true p8;replace q8:=eq_true q8;go_wp2;go_ret;exact ⟨xq,xd⟩
       ·rw [if_neg c9] at H;have c9b0:((bt a0 x3_1)==59)=false:=beq_eq_false_iff_ne.mpr c9;have c9b1:((bt a0 x3_1) != 59)=true:=bne_iff_ne.mpr c9;have H':=AA.mk H;clear H;have p4:0<=(x3_1:Int):=xa;have q4:x3_1<(a0.size:Int):=xa;have hx4:=CV a0 x3_1;replace p4:=eq_true p4;replace q4:=eq_true q4;have p6:0<=(x3_1:Int):=xa;have q6:x3_1<(a0.size:Int):=xa;have hx6:=CV a0 x3_1;replace p6:=eq_true p6;replace q6:=eq_true q6;have p8:0<=(x3_1:Int):=xa;have q8:x3_1<(a0.size:Int):=xa;have hx8:=CV a0 x3_1;replace p8:=eq_true p8;replace q8:=eq_true q8;go_wp2;go_roundg k1;case measure=>have:=HK1.out;omega
        case rel=>exact ⟨(wrap64 (x3_1+1)),xq,H',⟨by have:=HK1.out;omega⟩,xd⟩
    ·rw [if_neg c3] at H;exact absurd H (by simp)
   ·rw [if_neg c2] at H;have c2b0:decide (x3_1<(a0.size:Int))=false:=decide_eq_false c2;clear c2;obtain rfl:=Option.some.inj H;go_wp2;go_ret;exact ⟨xq,xd⟩
end Go.Proofs.YtfggjdkccdkogaaGreatDoor.Print
end
