/- Printed by a program of this claim's session (xprint.py): the machine's side: each Go function as a Lean function, and that a call of it comes to what that tells; the row of a statement. No condition. -/
import Derived.Test.YtohjohhcjcljoaaGreatDoorPB
namespace Go.Proofs.YtohjohhcjcljoaaGreatDoor.Print
open RowKit Ak BR BS
attribute [local go_sem] DT DU Df Dh Cy Cz DV DW
set_option linter.unusedVariables false
set_option linter.unusedSimpArgs false
mutual
def BM.j0:Nat->ByteArray->Bool->Option (ByteArray×Bool)
 |0,_,_=>none
 |k+1,x0,x15=>if x15=true then (some ((⟨#[]⟩:ByteArray),false)) else ((Bo.f k x0).bind λt359=>(BM.l0 k x0 t359 0))
def BM.l0:Nat->ByteArray->List ByteArray->Int->Option (ByteArray×Bool)
 |0,_,_,_=>none
 |k+1,x0,x4,x5=>if x5<(x4.length:Int) then (if 0<=x5 then ((Aw.f k (Dw ByteArray.empty x4 x5)).bind λt363=>(if t363=true then (BM.l0 k x0 x4 (wrap64 (x5+1))) else (some ((⟨#[]⟩:ByteArray),false)))) else (none)) else (some (x0,true))
end
def BM.f (k:Nat) (a0:ByteArray):Option (ByteArray×Bool):=(Dj.f a0).bind λt358=>(if (t358.size:Int)<1 then (BM.j0 k t358 true) else (BM.j0 k t358 (decide ((t358.size:Int)>64))))
set_option maxHeartbeats 8000000 in
set_option maxRecDepth 100000 in
theorem BM.calls (k:Nat) (a0:ByteArray) (r1:ByteArray) (r2:Bool) (w:World) (h:BM.f k a0=some (r1,r2)):
 Calls Tryz.prog 63 #[.string a0] w λe w'=>e= .returned (.tuple #[.string r1, .bool r2])/\Below w.heap.size w w':=by
 have HB:=AA.mk (Below.refl w.heap.size w);have H:((Dj.f a0).bind λt358=>(if (t358.size:Int)<1 then (BM.j0 k t358 true) else (BM.j0 k t358 (decide ((t358.size:Int)>64)))))=some (r1,r2):=h;clear h;replace H:=Option.bind_eq_some_iff.mp H;obtain ⟨t358,A20,H⟩:=H;try dsimp only at H
 have A2:=AA.mk A20;clear A20;have HC3:=AA.mk H;clear H;go_enter Tryz.func63,Tryz.ntmps63;go_upto_region 2 with (first|((with_reducible refine AQ (f:=84) rfl ?_);refine XJ (some 7) rfl rfl Tryz.func84 (by kernel_rfl) rfl #[.string a0] rfl xg ?_;(with_reducible refine (Dj.calls a0 t358 _ A2.out).mono ?_);rintro e w4 ⟨rfl,hb⟩;refine ⟨_,rfl,?_⟩;replace HB:=AA.mk (AL xb hb);(try clear hb)))
 (try simp only [Act.put,List.setIfInBounds_toArray,List.set_cons_zero,List.set_cons_succ]);go_cut [15] (λv15 wc=>∃ (kq:Nat) (x15_2:Bool),v15= .bool x15_2/\AA (BM.j0 kq t358 x15_2=some (r1,r2))/\AA (kq<=k)/\AA (Below w.heap.size w wc));case first=>
  have H:=HC3.out;clear HC3;by_cases c5:(t358.size:Int)<1
  ·rw [if_pos c5] at H;have c5b0:decide ((t358.size:Int)<1)=true:=decide_eq_true c5;have c5b1:decide (t358.size<1)=true:=decide_eq_true (by omega);clear c5;(first|rw [c5b0]|(simp only [CW,CY];rw [c5b0])|skip);have H':=AA.mk H;clear H;go_wp2;go_meet;case rel=>exact ⟨_,(true),xq,H',⟨by first|omega|exact Nat.le_refl _⟩,⟨xb⟩⟩
  ·rw [if_neg c5] at H;have c5b0:decide ((t358.size:Int)<1)=false:=decide_eq_false c5;have c5b1:decide (t358.size<1)=false:=decide_eq_false (by omega);clear c5;(first|rw [c5b0]|(simp only [CW,CY];rw [c5b0])|skip);have H':=AA.mk H;clear H;go_wp2;go_meet;case rel=>exact ⟨_,(decide ((t358.size:Int)>64)),xq,H',⟨by first|omega|exact Nat.le_refl _⟩,⟨xb⟩⟩
 case rest=>
  clear HC3;try clear p2
  try clear p3
  try clear c5
  try clear c5b0
  try clear c5b1
  obtain ⟨kq,x15_2,rfl,HA,HJ2,HB⟩:=hcut;cases kq with
  |zero=>exact absurd HA.out (by simp [BM.j0])
  |succ kj2=>
   have H:=HA.out;clear HA;simp only [BM.j0] at H;by_cases c6:x15_2=true
   ·subst c6;have H1:(some ((⟨#[]⟩:ByteArray),false))=some (r1,r2):=by rw [if_pos rfl] at H;exact H
    clear H;have H:=H1;clear H1;simp only [Option.some.injEq,Prod.mk.injEq] at H;obtain ⟨rfl,rfl⟩:=H;go_wp2;go_ret2;exact ⟨xe,xb⟩
   ·replace c6:=Bool.eq_false_iff.mpr c6;subst c6;have H1:((Bo.f kj2 t358).bind λt359=>(BM.l0 kj2 t358 t359 0))=some (r1,r2):=by rw [if_neg (show ¬(false=true) by decide)] at H;exact H
    clear H;have H:=H1;clear H1;replace H:=Option.bind_eq_some_iff.mp H;obtain ⟨t359,A70,H⟩:=H;replace H:(BM.l0 kj2 t358 t359 0)=some (r1,r2):=H;have A7:=AA.mk A70;clear A70;have H':=AA.mk H;clear H;go_wp2_with (first|((with_reducible refine AQ (f:=85) rfl ?_);refine XJ (some 17) rfl rfl Tryz.func85 (by kernel_rfl) rfl #[.string t358] rfl xg ?_;(with_reducible refine (Bo.calls kj2 t358 t359 _ A7.out).mono ?_);rintro e w8 ⟨v360,rfl,ho0,hb⟩;refine ⟨_,rfl,?_⟩;have HO361:=AA.mk (Kd.Bz ho0 (Ag xb));replace HB:=AA.mk (AL xb hb);(try clear hb);(try clear ho0)));go_loopg [5] kj2 (λkq v5 w'=>∃ (x5_2:Int),v5= .int .i64 x5_2/\AA (BM.l0 kq t358 t359 x5_2=some (r1,r2))/\AA (kq<=kj2)/\AA (Kd.R Kd.string 9 w' w.heap.size (λ_=>True) v360 t359)/\AA (Below w.heap.size w w'));case atStart=>exact ⟨(0),xq,H',⟨Nat.le_refl _⟩,⟨by (with_reducible repeat (first|apply Kd.Am|apply Kd.Ao|apply Kd.WE));exact HO361.out⟩,⟨xb⟩⟩
    case round=>
     clear H';try clear p2
     try clear p3
     try clear c5
     try clear c5b0
     try clear c5b1
     try clear c6
     try clear p6
     try clear c8
     try clear p2
     try clear p3
     obtain ⟨x5_2,rfl,HA,HK2,HO_4,HB⟩:=hrel;cases gk with
     |zero=>exact absurd HA.out (by simp [BM.l0])
     |succ k2=>
      have H:=HA.out;clear HA;simp only [BM.l0] at H;by_cases c9:x5_2<(t359.length:Int)
      ·rw [if_pos c9] at H;have c9b0:decide (x5_2<(t359.length:Int))=true:=decide_eq_true c9;clear c9;by_cases c10:0<=x5_2
       ·rw [if_pos c10] at H;have c10b0:decide (0<=x5_2)=true:=decide_eq_true c10;clear c10;replace H:=Option.bind_eq_some_iff.mp H;obtain ⟨t363,A110,H⟩:=H;replace H:(if t363=true then (BM.l0 k2 t358 t359 (wrap64 (x5_2+1))) else (some ((⟨#[]⟩:ByteArray),false)))=some (r1,r2):=H;have A11:=AA.mk A110;clear A110;by_cases c12:t363=true
        ·subst c12;rw [if_pos rfl] at H;have H':=AA.mk H;clear H;obtain ⟨Ao13,co13,eo13⟩:=Kd.BV HO_4.out;subst eo13;have p362:0<=(x5_2:Int):=xa;have q362:x5_2<(t359.length:Int):=xa;obtain ⟨ad362,e362,hx362_0⟩:=Kd.Ez (Kd.AX HO_4.out).2.2 x5_2 p362 q362;cases e362;replace p362:=eq_true p362;replace q362:=eq_true q362;go_wp2_with (first|((with_reducible refine AQ (f:=86) rfl ?_);refine XJ (some 28) rfl rfl Tryz.func86 (by kernel_rfl) rfl #[.string (Dw ByteArray.empty t359 x5_2)] rfl xg ?_;(with_reducible refine (Aw.calls k2 (Dw ByteArray.empty t359 x5_2) true _ A11.out).mono ?_);rintro e w' ⟨rfl,⟨nd,rfl⟩⟩;refine ⟨_,rfl,?_⟩));go_roundg k2;case measure=>have:=HJ2.out;have:=HK2.out;omega
         case rel=>exact ⟨(wrap64 (x5_2+1)),xq,H',⟨by have:=HJ2.out;have:=HK2.out;omega⟩,⟨by (with_reducible repeat (first|apply Kd.Am|apply Kd.Ao|apply Kd.WE));exact HO_4.out⟩,⟨xb⟩⟩
        ·replace c12:=Bool.eq_false_iff.mpr c12;subst c12;have H1:(some ((⟨#[]⟩:ByteArray),false))=some (r1,r2):=by rw [if_neg (show ¬(false=true) by decide)] at H;exact H
         clear H;have H:=H1;clear H1;simp only [Option.some.injEq,Prod.mk.injEq] at H;obtain ⟨rfl,rfl⟩:=H;obtain ⟨Ao14,co14,eo14⟩:=Kd.BV HO_4.out;subst eo14;have p362:0<=(x5_2:Int):=xa;have q362:x5_2<(t359.length:Int):=xa;obtain ⟨ad362,e362,hx362_0⟩:=Kd.Ez (Kd.AX HO_4.out).2.2 x5_2 p362 q362;cases e362;replace p362:=eq_true p362;replace q362:=eq_true q362;go_wp2_with (first|((with_reducible refine AQ (f:=86) rfl ?_);refine XJ (some 28) rfl rfl Tryz.func86 (by kernel_rfl) rfl #[.string (Dw ByteArray.empty t359 x5_2)] rfl xg ?_;(with_reducible refine (Aw.calls k2 (Dw ByteArray.empty t359 x5_2) false _ A11.out).mono ?_);rintro e w' ⟨rfl,⟨nd,rfl⟩⟩;refine ⟨_,rfl,?_⟩));go_ret2;exact ⟨xe,xb⟩
       ·rw [if_neg c10] at H;exact absurd H (by simp)
      ·rw [if_neg c9] at H;have c9b0:decide (x5_2<(t359.length:Int))=false:=decide_eq_false c9;clear c9;simp only [Option.some.injEq,Prod.mk.injEq] at H;obtain ⟨rfl,rfl⟩:=H;obtain ⟨Ao15,co15,eo15⟩:=Kd.BV HO_4.out;subst eo15;go_wp2;go_ret2;exact ⟨xe,xb⟩
mutual
def BH.j0:Nat->ByteArray->Bool->Option (Int×Bool)
 |0,_,_=>none
 |k+1,x0,x16=>if x16=true then (some (0,false)) else (BH.l0 k x0 0 0)
def BH.l0:Nat->ByteArray->Int->Int->Option (Int×Bool)
 |0,_,_,_=>none
 |k+1,x0,x6,x7=>if x7<(x0.size:Int) then (if 0<=x7 then (if (bt x0 x7)<48 then (some (0,false)) else (if (bt x0 x7)>57 then (some (0,false)) else (BH.l0 k x0 (IntKind.u64.wrap ((IntKind.u64.wrap ((IntKind.u64.wrap (10*x6))+(IntKind.u64.wrap (bt x0 x7)))) - 48)) (wrap64 (x7+1))))) else (none)) else (some (x6,true))
end
def BH.f (k:Nat) (a0:ByteArray) (a1:Int):Option (Int×Bool):=if (a0.size:Int)<1 then (BH.j0 k a0 true) else (BH.j0 k a0 (decide ((a0.size:Int)>a1)))
set_option maxHeartbeats 8000000 in
set_option maxRecDepth 100000 in
theorem BH.calls (k:Nat) (a0:ByteArray) (a1:Int) (r1:Int) (r2:Bool) (w:World) (h:BH.f k a0 a1=some (r1,r2)):
 Calls Tryz.prog 99 #[.string a0, .int .i64 a1] w λe w'=>e= .returned (.tuple #[.int .u64 r1, .bool r2])/\Be w w':=by
 have H:(if (a0.size:Int)<1 then (BH.j0 k a0 true) else (BH.j0 k a0 (decide ((a0.size:Int)>a1))))=some (r1,r2):=h;clear h;have HC3:=AA.mk H;clear H;go_enter Tryz.func99,Tryz.ntmps99;go_upto_region 1 with (fail)
 go_cut [16] (λv16 wc=>∃ (kq:Nat) (x16_2:Bool),v16= .bool x16_2/\AA (BH.j0 kq a0 x16_2=some (r1,r2))/\AA (kq<=k)/\Be w wc);case first=>
  have H:=HC3.out;clear HC3;by_cases c4:(a0.size:Int)<1
  ·rw [if_pos c4] at H;have c4b0:decide ((a0.size:Int)<1)=true:=decide_eq_true c4;have c4b1:decide (a0.size<1)=true:=decide_eq_true (by omega);clear c4;(first|rw [c4b0]|(simp only [CW,CY];rw [c4b0])|skip);have H':=AA.mk H;clear H;go_wp2;go_meet;case rel=>exact ⟨_,(true),xq,H',⟨by first|omega|exact Nat.le_refl _⟩,xd⟩
  ·rw [if_neg c4] at H;have c4b0:decide ((a0.size:Int)<1)=false:=decide_eq_false c4;have c4b1:decide (a0.size<1)=false:=decide_eq_false (by omega);clear c4;(first|rw [c4b0]|(simp only [CW,CY];rw [c4b0])|skip);have H':=AA.mk H;clear H;go_wp2;go_meet;case rel=>exact ⟨_,(decide ((a0.size:Int)>a1)),xq,H',⟨by first|omega|exact Nat.le_refl _⟩,xd⟩
 case rest=>
  clear HC3;try clear p2
  try clear c4
  try clear c4b0
  try clear c4b1
  obtain ⟨kq,x16_2,rfl,HA,HJ2,⟨mc2,rfl⟩⟩:=hcut;cases kq with
  |zero=>exact absurd HA.out (by simp [BH.j0])
  |succ kj2=>
   have H:=HA.out;clear HA;simp only [BH.j0] at H;by_cases c5:x16_2=true
   ·subst c5;have H1:(some (0,false))=some (r1,r2):=by rw [if_pos rfl] at H;exact H
    clear H;have H:=H1;clear H1;simp only [Option.some.injEq,Prod.mk.injEq] at H;obtain ⟨rfl,rfl⟩:=H;go_wp2;go_ret2;exact ⟨xq,xd⟩
   ·replace c5:=Bool.eq_false_iff.mpr c5;subst c5;have H1:(BH.l0 kj2 a0 0 0)=some (r1,r2):=by rw [if_neg (show ¬(false=true) by decide)] at H;exact H
    clear H;have H:=H1;clear H1;have H':=AA.mk H;clear H;go_wp2;go_loopg [6,7] kj2 (λkq v6 v7 w'=>∃ (x6_2:Int) (x7_2:Int),v6= .int .u64 x6_2/\v7= .int .i64 x7_2/\AA (BH.l0 kq a0 x6_2 x7_2=some (r1,r2))/\AA (kq<=kj2)/\Be w w');case atStart=>exact ⟨(0),(0),xq,xq,H',⟨Nat.le_refl _⟩,xd⟩
    case round=>
     clear H';try clear c2
     try clear p2
     try clear c4
     try clear c4b0
     try clear c4b1
     try clear c5
     try clear p2
     obtain ⟨x6_2,x7_2,rfl,rfl,HA,HK2,⟨m2,rfl⟩⟩:=hrel;cases gk with
     |zero=>exact absurd HA.out (by simp [BH.l0])
     |succ k2=>
      have H:=HA.out;clear HA;simp only [BH.l0] at H;by_cases c6:x7_2<(a0.size:Int)
      ·rw [if_pos c6] at H;have c6b0:decide (x7_2<(a0.size:Int))=true:=decide_eq_true c6;clear c6;by_cases c7:0<=x7_2
       ·rw [if_pos c7] at H;have c7b0:decide (0<=x7_2)=true:=decide_eq_true c7;clear c7;by_cases c9:(bt a0 x7_2)<48
        ·rw [if_pos c9] at H;have c9b0:decide ((bt a0 x7_2)<48)=true:=decide_eq_true c9;clear c9;simp only [Option.some.injEq,Prod.mk.injEq] at H;obtain ⟨rfl,rfl⟩:=H;have p8:0<=(x7_2:Int):=xa;have q8:x7_2<(a0.size:Int):=xa;have hx8:=Cj a0 x7_2;replace p8:=eq_true p8;replace q8:=eq_true q8;go_wp2;go_ret2;exact ⟨xq,xd⟩
        ·rw [if_neg c9] at H;have c9b0:decide ((bt a0 x7_2)<48)=false:=decide_eq_false c9;clear c9;by_cases c11:(bt a0 x7_2)>57
         ·rw [if_pos c11] at H;have c11b0:decide (57<(bt a0 x7_2))=true:=decide_eq_true c11;clear c11;simp only [Option.some.injEq,Prod.mk.injEq] at H;obtain ⟨rfl,rfl⟩:=H;have p8:0<=(x7_2:Int):=xa;have q8:x7_2<(a0.size:Int):=xa;have hx8:=Cj a0 x7_2;replace p8:=eq_true p8;replace q8:=eq_true q8;have p10:0<=(x7_2:Int):=xa;have q10:x7_2<(a0.size:Int):=xa;have hx10:=Cj a0 x7_2;replace p10:=eq_true p10;replace q10:=eq_true q10;go_wp2;go_ret2;exact ⟨xq,xd⟩
         ·rw [if_neg c11] at H;have c11b0:decide (57<(bt a0 x7_2))=false:=decide_eq_false c11;clear c11;have H':=AA.mk H;clear H;have p8:0<=(x7_2:Int):=xa;have q8:x7_2<(a0.size:Int):=xa;have hx8:=Cj a0 x7_2;replace p8:=eq_true p8;replace q8:=eq_true q8;have p10:0<=(x7_2:Int):=xa;have q10:x7_2<(a0.size:Int):=xa;have hx10:=Cj a0 x7_2;replace p10:=eq_true p10;replace q10:=eq_true q10;have p12:0<=(x7_2:Int):=xa;have q12:x7_2<(a0.size:Int):=xa;have hx12:=Cj a0 x7_2;replace p12:=eq_true p12;replace q12:=eq_true q12;go_wp2;go_roundg k2;case measure=>have:=HJ2.out;have:=HK2.out;omega
          case rel=>exact ⟨(IntKind.u64.wrap ((IntKind.u64.wrap ((IntKind.u64.wrap (10*x6_2))+(IntKind.u64.wrap (bt a0 x7_2)))) - 48)),(wrap64 (x7_2+1)),xq,xq,H',⟨by have:=HJ2.out;have:=HK2.out;omega⟩,xd⟩
       ·rw [if_neg c7] at H;exact absurd H (by simp)
      ·rw [if_neg c6] at H;have c6b0:decide (x7_2<(a0.size:Int))=false:=decide_eq_false c6;clear c6;simp only [Option.some.injEq,Prod.mk.injEq] at H;obtain ⟨rfl,rfl⟩:=H;go_wp2;go_ret2;exact ⟨xq,xd⟩
def Br.l0:Nat->Int->ByteArray->Option (ByteArray)
 |0,_,_=>none
 |k+1,x0,x3=>if x0>=10 then ((some (([(IntKind.u64.wrap (48+(Int.tmod x0 10)))%256]:List Int):List Int)).bind λy364=>(if (strOfNums y364).size+x3.size<=9223372036854775807 then (Br.l0 k (IntKind.u64.wrap (Int.tdiv x0 10)) ((strOfNums y364)++x3)) else (none))) else ((some (([(IntKind.u64.wrap (48+x0))%256]:List Int):List Int)).bind λy367=>(if (strOfNums y367).size+x3.size<=9223372036854775807 then (some ((strOfNums y367)++x3)) else (none)))
def Br.f (k:Nat) (a0:Int):Option (ByteArray):=Br.l0 k a0 (⟨#[]⟩:ByteArray)
set_option maxHeartbeats 8000000 in
set_option maxRecDepth 100000 in
theorem Br.calls (k:Nat) (a0:Int) (r:ByteArray) (w:World) (h:Br.f k a0=some r):
 Calls Tryz.prog 107 #[.int .u64 a0] w λe w'=>e= .returned (.string r)/\Below w.heap.size w w':=by
 have HB:=AA.mk (Below.refl w.heap.size w);have H:(Br.l0 k a0 (⟨#[]⟩:ByteArray))=some r:=h;clear h;have H':=AA.mk H;clear H;go_enter Tryz.func107,Tryz.ntmps107;go_wp2;go_loopg [0,3] k (λkq v0 v3 w'=>∃ (x0_1:Int) (x3_1:ByteArray),v0= .int .u64 x0_1/\v3= .string x3_1/\AA (Br.l0 kq x0_1 x3_1=some r)/\AA (kq<=k)/\AA (Below w.heap.size w w'));case atStart=>exact ⟨(a0),((⟨#[]⟩:ByteArray)),xq,xq,H',⟨Nat.le_refl _⟩,⟨xb⟩⟩
 case round=>
  clear H';try clear c1
  obtain ⟨x0_1,x3_1,rfl,rfl,HA,HK1,HB⟩:=hrel;cases gk with
  |zero=>exact absurd HA.out (by simp [Br.l0])
  |succ k1=>
   have H:=HA.out;clear HA;simp only [Br.l0] at H;by_cases c2:x0_1>=10
   ·rw [if_pos c2] at H;have c2b0:decide (10<=x0_1)=true:=decide_eq_true c2;clear c2;obtain ⟨y364,hy364⟩:∃ y_:List Int,y_=(([(IntKind.u64.wrap (48+(Int.tmod x0_1 10)))%256]:List Int)):=⟨_,rfl⟩;replace H:(if (strOfNums y364).size+x3_1.size<=9223372036854775807 then (Br.l0 k1 (IntKind.u64.wrap (Int.tdiv x0_1 10)) ((strOfNums y364)++x3_1)) else (none))=some r:=by first|(rw [hy364];with_reducible exact H)|(have H2_:=(Option.bind_some _ _).symm.trans H;rw [hy364];with_reducible exact H2_)|(have H2_:=(Option.bind_some _ _).symm.trans H;with_reducible exact H2_)|with_reducible exact H|(rw [hy364];exact H)|exact H
    have Ny364:=AA.mk hy364;clear hy364;by_cases c3:(strOfNums y364).size+x3_1.size<=9223372036854775807
    ·rw [if_pos c3] at H;have c3b0:=eq_true c3;have c3b1:decide ((strOfNums y364).size+x3_1.size<=9223372036854775807)=true:=decide_eq_true c3;try have c3b2:(9223372036854775807<(strOfNums y364).size+x3_1.size)=False:=eq_false (Nat.not_lt.2 c3)
     have H':=AA.mk H;clear H;go_wp2_with (first|((with_reducible refine FY (N:=10) rfl ?_);refine Kd.NV (Kd.int .u8) _ 5 ?hg (N:=10) ?hd (xs:=([(IntKind.u64.wrap (48+(Int.tmod x0_1 10)))%256]:List Int)) (inner:=[.int .u8 ((IntKind.u64.wrap (48+(Int.tmod x0_1 10)))%256)]) (ok:=λ_=>True) (okp:=λ_=>True) ?hr ?hp (λ_ hk=>hk) trivial (Below.refl _ _) (Nat.le_refl _) (by simp) ?_;(case hd=>rfl);(case hg=>rfl);(case hr=>first|(go_simp;done)|(go_simp;rfl));(case hp=>exact (Cw.one (show Kd.M (Kd.int .u8) _ _ _ ((IntKind.u64.wrap (48+(Int.tmod x0_1 10)))%256) [.int .u8 ((IntKind.u64.wrap (48+(Int.tmod x0_1 10)))%256)] from rfl) (Cw.none _ _)));intro v365 w4 ho5 hb hg_ hnew_;clear hg_ hnew_;(first|rw [<-Ny364.out] at ho5|(simp only [Int.reduceToNat] at ho5;rw [<-Ny364.out] at ho5));have HO366:=AA.mk (Kd.Bz ho5 (Ag xb));replace HB:=AA.mk (AL xb hb);clear hb ho5;have hcv6:=K7 (P:=Tryz.prog) Tryz.underlying108 Tryz.underlying5 Tryz.underlying9 (Kd.NU HO366.out)));go_roundg k1;case measure=>have:=HK1.out;omega
     case rel=>exact ⟨(IntKind.u64.wrap (Int.tdiv x0_1 10)),((strOfNums y364)++x3_1),xq,xq,H',⟨by have:=HK1.out;omega⟩,⟨xb⟩⟩
    ·rw [if_neg c3] at H;exact absurd H (by simp)
   ·rw [if_neg c2] at H;have c2b0:decide (10<=x0_1)=false:=decide_eq_false c2;clear c2;obtain ⟨y367,hy367⟩:∃ y_:List Int,y_=(([(IntKind.u64.wrap (48+x0_1))%256]:List Int)):=⟨_,rfl⟩;replace H:(if (strOfNums y367).size+x3_1.size<=9223372036854775807 then (some ((strOfNums y367)++x3_1)) else (none))=some r:=by first|(rw [hy367];with_reducible exact H)|(have H2_:=(Option.bind_some _ _).symm.trans H;rw [hy367];with_reducible exact H2_)|(have H2_:=(Option.bind_some _ _).symm.trans H;with_reducible exact H2_)|with_reducible exact H|(rw [hy367];exact H)|exact H
    have Ny367:=AA.mk hy367;clear hy367;by_cases c7:(strOfNums y367).size+x3_1.size<=9223372036854775807
    ·rw [if_pos c7] at H;have c7b0:=eq_true c7;have c7b1:decide ((strOfNums y367).size+x3_1.size<=9223372036854775807)=true:=decide_eq_true c7;try have c7b2:(9223372036854775807<(strOfNums y367).size+x3_1.size)=False:=eq_false (Nat.not_lt.2 c7)
     obtain rfl:=Option.some.inj H;go_wp2_with (first|((with_reducible refine FY (N:=19) rfl ?_);refine Kd.NV (Kd.int .u8) _ 5 ?hg (N:=19) ?hd (xs:=([(IntKind.u64.wrap (48+x0_1))%256]:List Int)) (inner:=[.int .u8 ((IntKind.u64.wrap (48+x0_1))%256)]) (ok:=λ_=>True) (okp:=λ_=>True) ?hr ?hp (λ_ hk=>hk) trivial (Below.refl _ _) (Nat.le_refl _) (by simp) ?_;(case hd=>rfl);(case hg=>rfl);(case hr=>first|(go_simp;done)|(go_simp;rfl));(case hp=>exact (Cw.one (show Kd.M (Kd.int .u8) _ _ _ ((IntKind.u64.wrap (48+x0_1))%256) [.int .u8 ((IntKind.u64.wrap (48+x0_1))%256)] from rfl) (Cw.none _ _)));intro v368 w8 ho9 hb hg_ hnew_;clear hg_ hnew_;(first|rw [<-Ny367.out] at ho9|(simp only [Int.reduceToNat] at ho9;rw [<-Ny367.out] at ho9));have HO369:=AA.mk (Kd.Bz ho9 (Ag xb));replace HB:=AA.mk (AL xb hb);clear hb ho9;have hcv10:=K7 (P:=Tryz.prog) Tryz.underlying108 Tryz.underlying5 Tryz.underlying9 (Kd.NU HO369.out)));go_ret;exact ⟨xe,xb⟩
    ·rw [if_neg c7] at H;exact absurd H (by simp)
def Cg.f (k:Nat) (a0:Int):Option (ByteArray):=if a0<0 then ((Br.f k (IntKind.u64.wrap ((IntKind.u64.wrap (wrap64 (-(wrap64 (a0+1)))))+1))).bind λt370=>(if 1+t370.size<=9223372036854775807 then (some ((⟨#[45]⟩:ByteArray)++t370)) else (none))) else ((Br.f k (IntKind.u64.wrap (a0))).bind λt371=>(some t371))
set_option maxHeartbeats 8000000 in
set_option maxRecDepth 100000 in
theorem Cg.calls (k:Nat) (a0:Int) (r:ByteArray) (w:World) (h:Cg.f k a0=some r):
 Calls Tryz.prog 100 #[.int .i64 a0] w λe w'=>e= .returned (.string r)/\Below w.heap.size w w':=by
 have HB:=AA.mk (Below.refl w.heap.size w);have H:(if a0<0 then ((Br.f k (IntKind.u64.wrap ((IntKind.u64.wrap (wrap64 (-(wrap64 (a0+1)))))+1))).bind λt370=>(if 1+t370.size<=9223372036854775807 then (some ((⟨#[45]⟩:ByteArray)++t370)) else (none))) else ((Br.f k (IntKind.u64.wrap (a0))).bind λt371=>(some t371)))=some r:=h;clear h;by_cases c2:a0<0
 ·rw [if_pos c2] at H;have c2b0:decide (a0<0)=true:=decide_eq_true c2;clear c2;replace H:=Option.bind_eq_some_iff.mp H;obtain ⟨t370,A30,H⟩:=H;replace H:(if 1+t370.size<=9223372036854775807 then (some ((⟨#[45]⟩:ByteArray)++t370)) else (none))=some r:=H;have A3:=AA.mk A30;clear A30;by_cases c4:1+t370.size<=9223372036854775807
  ·rw [if_pos c4] at H;have c4b0:=eq_true c4;have c4b1:decide (1+t370.size<=9223372036854775807)=true:=decide_eq_true c4;try have c4b2:(9223372036854775807<1+t370.size)=False:=eq_false (Nat.not_lt.2 c4)
   obtain rfl:=Option.some.inj H;go_enter Tryz.func100,Tryz.ntmps100;go_wp2_with (first|((with_reducible refine AQ (f:=107) rfl ?_);refine XJ (some 10) rfl rfl Tryz.func107 (by kernel_rfl) rfl #[.int .u64 (IntKind.u64.wrap ((IntKind.u64.wrap (wrap64 (-(wrap64 (a0+1)))))+1))] rfl xg ?_;(with_reducible refine (Br.calls k (IntKind.u64.wrap ((IntKind.u64.wrap (wrap64 (-(wrap64 (a0+1)))))+1)) t370 _ A3.out).mono ?_);rintro e w5 ⟨rfl,hb⟩;refine ⟨_,rfl,?_⟩;replace HB:=AA.mk (AL xb hb);(try clear hb)));go_ret;exact ⟨xe,xb⟩
  ·rw [if_neg c4] at H;exact absurd H (by simp)
 ·rw [if_neg c2] at H;have c2b0:decide (a0<0)=false:=decide_eq_false c2;clear c2;replace H:=Option.bind_eq_some_iff.mp H;obtain ⟨t371,A60,H⟩:=H;replace H:(some t371)=some r:=H;have A6:=AA.mk A60;clear A60;obtain rfl:=Option.some.inj H;go_enter Tryz.func100,Tryz.ntmps100;go_wp2_with (first|((with_reducible refine AQ (f:=107) rfl ?_);refine XJ (some 14) rfl rfl Tryz.func107 (by kernel_rfl) rfl #[.int .u64 (IntKind.u64.wrap (a0))] rfl xg ?_;(with_reducible refine (Br.calls k (IntKind.u64.wrap (a0)) t371 _ A6.out).mono ?_);rintro e w7 ⟨rfl,hb⟩;refine ⟨_,rfl,?_⟩;replace HB:=AA.mk (AL xb hb);(try clear hb)));go_ret;exact ⟨xe,xb⟩
end Go.Proofs.YtohjohhcjcljoaaGreatDoor.Print
