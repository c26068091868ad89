/- Printed by a program of this claim's session (xprint.py): the machine's side: each Go function as a Lean function, and that a call of it comes to what that tells; the row of a statement. No condition. -/
import Derived.Test.YtccmackhhppbdaaGreatDoorPrint0
namespace Go.Proofs.YtccmackhhppbdaaGreatDoor.Print
open RowKit Af BI BM
attribute [local go_sem] Ck Cm DC DD CW CX Cn Co
set_option linter.unusedVariables false
set_option linter.unusedSimpArgs false
mutual
def AZ.j0:Nat->ByteArray->Bool->Option (Bool)
 |0,_,_=>none
 |k+1,x0,x24=>if x24=true then (some false) else (AZ.l0 k x0 0)
def AZ.l0:Nat->ByteArray->Int->Option (Bool)
 |0,_,_=>none
 |k+1,x0,x3=>if x3<(x0.size:Int) then (if 0<=x3 then (if (bt x0 x3)>=97 then (if ((bt x0 x3)<=122) then (AZ.l0 k x0 (wrap64 (x3+1))) else (if (bt x0 x3)>=48 then (if ((bt x0 x3)<=57) then (AZ.l0 k x0 (wrap64 (x3+1))) else (if (bt x0 x3)=45 then (AZ.l0 k x0 (wrap64 (x3+1))) else (some false))) else (if (bt x0 x3)=45 then (AZ.l0 k x0 (wrap64 (x3+1))) else (some false)))) else (if (bt x0 x3)>=48 then (if ((bt x0 x3)<=57) then (AZ.l0 k x0 (wrap64 (x3+1))) else (if (bt x0 x3)=45 then (AZ.l0 k x0 (wrap64 (x3+1))) else (some false))) else (if (bt x0 x3)=45 then (AZ.l0 k x0 (wrap64 (x3+1))) else (some false)))) else (none)) else (some true)
end
def AZ.f (k:Nat) (a0:ByteArray):Option (Bool):=if (a0.size:Int)<1 then (AZ.j0 k a0 true) else (if (a0.size:Int)>63 then (AZ.j0 k a0 true) else (if 0<(a0.size:Int) then (if (bt a0 0)=45 then (AZ.j0 k a0 true) else (if 0<=(wrap64 ((a0.size:Int) - 1)) then (if (wrap64 ((a0.size:Int) - 1))<(a0.size:Int) then (AZ.j0 k a0 ((bt a0 (wrap64 ((a0.size:Int) - 1)))==45)) else (none)) else (none))) else (none)))
set_option maxHeartbeats 8000000 in
set_option maxRecDepth 100000 in
theorem AZ.calls (k:Nat) (a0:ByteArray) (r:Bool) (w:World) (h:AZ.f k a0=some r):
 Calls Tryz.prog 63 #[.string a0] w λe w'=>e= .returned (.bool r)/\BA w w':=by
 have H:(if (a0.size:Int)<1 then (AZ.j0 k a0 true) else (if (a0.size:Int)>63 then (AZ.j0 k a0 true) else (if 0<(a0.size:Int) then (if (bt a0 0)=45 then (AZ.j0 k a0 true) else (if 0<=(wrap64 ((a0.size:Int) - 1)) then (if (wrap64 ((a0.size:Int) - 1))<(a0.size:Int) then (AZ.j0 k a0 ((bt a0 (wrap64 ((a0.size:Int) - 1)))==45)) else (none)) else (none))) else (none))))=some r:=h;clear h;have HC2:=AA.mk H;clear H;go_enter Tryz.func63,Tryz.ntmps63;go_upto_region 1 with (fail)
 go_cut [24] (λv24 wc=>∃ (kq:Nat) (x24_1:Bool),v24= .bool x24_1/\AA (AZ.j0 kq a0 x24_1=some r)/\AA (kq<=k)/\BA w wc);case first=>
  have H:=HC2.out;clear HC2;by_cases c3:(a0.size:Int)<1
  ·rw [if_pos c3] at H;have c3b0:decide ((a0.size:Int)<1)=true:=decide_eq_true c3;have c3b1:decide (a0.size<1)=true:=decide_eq_true (by omega);clear c3;(first|rw [c3b0]|(simp only [Cq,Cx];rw [c3b0])|skip);have H':=AA.mk H;clear H;go_wp2;go_meet;case rel=>exact ⟨_,(true),xq,H',⟨by first|omega|exact Nat.le_refl _⟩,xd⟩
  ·rw [if_neg c3] at H;have c3b0:decide ((a0.size:Int)<1)=false:=decide_eq_false c3;have c3b1:decide (a0.size<1)=false:=decide_eq_false (by omega);clear c3;(first|rw [c3b0]|(simp only [Cq,Cx];rw [c3b0])|skip);by_cases c4:(a0.size:Int)>63
   ·rw [if_pos c4] at H;have c4b0:decide (63<(a0.size:Int))=true:=decide_eq_true c4;have c4b1:decide (63<a0.size)=true:=decide_eq_true (by omega);clear c4;have H':=AA.mk H;clear H;go_wp2;go_meet;case rel=>exact ⟨_,(true),xq,H',⟨by first|omega|exact Nat.le_refl _⟩,xd⟩
   ·rw [if_neg c4] at H;have c4b0:decide (63<(a0.size:Int))=false:=decide_eq_false c4;have c4b1:decide (63<a0.size)=false:=decide_eq_false (by omega);clear c4;by_cases c5:0<(a0.size:Int)
    ·rw [if_pos c5] at H;have c5b0:decide (0<(a0.size:Int))=true:=decide_eq_true c5;have c5b1:decide (0<a0.size)=true:=decide_eq_true (by omega);clear c5;by_cases c7:(bt a0 0)=45
     ·rw [if_pos c7] at H;have c7b0:((bt a0 0)==45)=true:=beq_iff_eq.mpr c7;have c7b1:((bt a0 0) != 45)=false:=bne_eq_false_iff_eq.mpr c7;clear c7;have H':=AA.mk H;clear H;have p6:0<=(0:Int):=(by omega);have q6:0<a0.size:=(by have:(0:Int)<(a0.size:Int):=xa;omega);have hx6:∀ h:0<a0.size,((a0[0]'h).toNat:Int)=bt a0 0:=Bl a0 0;clear p6;have qi6:(0<(a0.size:Int))=True:=eq_true (xa);replace q6:=eq_true q6;go_wp2;go_meet;case rel=>exact ⟨_,(true),xq,H',⟨by first|omega|exact Nat.le_refl _⟩,xd⟩
     ·rw [if_neg c7] at H;have c7b0:((bt a0 0)==45)=false:=beq_eq_false_iff_ne.mpr c7;have c7b1:((bt a0 0) != 45)=true:=bne_iff_ne.mpr c7;obtain ⟨ji8,hji8⟩:∃ j_:Int,(wrap64 ((a0.size:Int) - 1))=j_:=⟨_,rfl⟩;replace H:(if 0<=(ji8) then (if (ji8)<(a0.size:Int) then (AZ.j0 k a0 ((bt a0 (ji8))==45)) else (none)) else (none))=some r:=by first|(rw [hji8] at H;exact H)|(simp only [hji8] at H⊢;exact H)
      have hji8w:(IntKind.i64.wrap ((a0.size:Int) - 1))=ji8:=(Cq _).trans hji8;by_cases c9:0<=(ji8)
      ·rw [if_pos c9] at H;have c9b0:decide (0<=(ji8))=true:=decide_eq_true c9;clear c9;by_cases c10:(ji8)<(a0.size:Int)
       ·rw [if_pos c10] at H;have c10b0:decide ((ji8)<(a0.size:Int))=true:=decide_eq_true c10;clear c10;have H':=AA.mk H;clear H;have p6:0<=(0:Int):=(by omega);have q6:0<a0.size:=(by have:(0:Int)<(a0.size:Int):=xa;omega);have hx6:∀ h:0<a0.size,((a0[0]'h).toNat:Int)=bt a0 0:=Bl a0 0;clear p6;have qi6:(0<(a0.size:Int))=True:=eq_true (xa);replace q6:=eq_true q6;have p11:0<=((ji8):Int):=xa;have q11:(ji8)<(a0.size:Int):=xa;have hx11:=Bl a0 (ji8);replace p11:=eq_true p11;replace q11:=eq_true q11;go_wp2;go_meet;case rel=>exact ⟨_,(((bt a0 (ji8))==45)),(by first|rfl|(simp;done)|(simp only [<-hji8]<;>(first|rfl|simp))|(simp [*];done)),H',⟨by first|omega|exact Nat.le_refl _⟩,xd⟩
       ·rw [if_neg c10] at H;exact absurd H (by simp)
      ·rw [if_neg c9] at H;exact absurd H (by simp)
    ·rw [if_neg c5] at H;exact absurd H (by simp)
 case rest=>
  clear HC2;try clear c1
  try clear p1
  try clear q1
  try clear hx1
  try clear p2
  try clear c3
  try clear c3b0
  try clear c3b1
  try clear c4
  try clear c4b0
  try clear c4b1
  try clear c5
  try clear c5b0
  try clear c5b1
  try clear c6
  try clear p6
  try clear q6
  try clear hx6
  try clear qi6
  try clear c7
  try clear c7b0
  try clear c7b1
  try clear c9
  try clear c9b0
  try clear c10
  try clear c10b0
  try clear p11
  try clear q11
  try clear hx11
  try clear p11
  try clear p6
  try clear q11
  try clear q6
  obtain ⟨kq,x24_1,rfl,HA,HJ1,⟨mc1,rfl⟩⟩:=hcut;cases kq with
  |zero=>exact absurd HA.out (by simp [AZ.j0])
  |succ kj1=>
   have H:=HA.out;clear HA;simp only [AZ.j0] at H;by_cases c12:x24_1=true
   ·subst c12;have H1:(some false)=some r:=by rw [if_pos rfl] at H;exact H
    clear H;have H:=H1;clear H1;obtain rfl:=Option.some.inj H;go_wp2;go_ret;exact ⟨xq,xd⟩
   ·replace c12:=Bool.eq_false_iff.mpr c12;subst c12;have H1:(AZ.l0 kj1 a0 0)=some r:=by rw [if_neg (show ¬(false=true) by decide)] at H;exact H
    clear H;have H:=H1;clear H1;have H':=AA.mk H;clear H;go_wp2;go_loopg [3] kj1 (λkq v3 w'=>∃ (x3_2:Int),v3= .int .i64 x3_2/\AA (AZ.l0 kq a0 x3_2=some r)/\AA (kq<=kj1)/\BA w w');case atStart=>exact ⟨(0),xq,H',⟨Nat.le_refl _⟩,xd⟩
    case round=>
     clear H';try clear c1
     try clear p1
     try clear q1
     try clear hx1
     try clear p2
     try clear c3
     try clear c3b0
     try clear c3b1
     try clear c4
     try clear c4b0
     try clear c4b1
     try clear c5
     try clear c5b0
     try clear c5b1
     try clear c6
     try clear p6
     try clear q6
     try clear hx6
     try clear qi6
     try clear c7
     try clear c7b0
     try clear c7b1
     try clear c9
     try clear c9b0
     try clear c10
     try clear c10b0
     try clear p11
     try clear q11
     try clear hx11
     try clear c12
     try clear p1
     try clear p11
     try clear p2
     try clear p6
     try clear q1
     try clear q11
     try clear q6
     obtain ⟨x3_2,rfl,HA,HK2,⟨m2,rfl⟩⟩:=hrel;cases gk with
     |zero=>exact absurd HA.out (by simp [AZ.l0])
     |succ k2=>
      have H:=HA.out;clear HA;simp only [AZ.l0] at H;by_cases c13:x3_2<(a0.size:Int)
      ·rw [if_pos c13] at H;have c13b0:decide (x3_2<(a0.size:Int))=true:=decide_eq_true c13;clear c13;by_cases c14:0<=x3_2
       ·rw [if_pos c14] at H;have c14b0:decide (0<=x3_2)=true:=decide_eq_true c14;clear c14;by_cases c16:(bt a0 x3_2)>=97
        ·rw [if_pos c16] at H;have c16b0:decide (97<=(bt a0 x3_2))=true:=decide_eq_true c16;clear c16;by_cases c18:((bt a0 x3_2)<=122)
         ·rw [if_pos c18] at H;have c18b0:decide ((bt a0 x3_2)<=122)=true:=decide_eq_true c18;clear c18;have H':=AA.mk H;clear H;have p15:0<=(x3_2:Int):=xa;have q15:x3_2<(a0.size:Int):=xa;have hx15:=Bl a0 x3_2;replace p15:=eq_true p15;replace q15:=eq_true q15;have p17:0<=(x3_2:Int):=xa;have q17:x3_2<(a0.size:Int):=xa;have hx17:=Bl a0 x3_2;replace p17:=eq_true p17;replace q17:=eq_true q17;go_wp2;go_roundg k2;case measure=>have:=HJ1.out;have:=HK2.out;omega
          case rel=>exact ⟨(wrap64 (x3_2+1)),xq,H',⟨by have:=HJ1.out;have:=HK2.out;omega⟩,xd⟩
         ·rw [if_neg c18] at H;have c18b0:decide ((bt a0 x3_2)<=122)=false:=decide_eq_false c18;clear c18;by_cases c20:(bt a0 x3_2)>=48
          ·rw [if_pos c20] at H;have c20b0:decide (48<=(bt a0 x3_2))=true:=decide_eq_true c20;clear c20;by_cases c22:((bt a0 x3_2)<=57)
           ·rw [if_pos c22] at H;have c22b0:decide ((bt a0 x3_2)<=57)=true:=decide_eq_true c22;clear c22;have H':=AA.mk H;clear H;have p15:0<=(x3_2:Int):=xa;have q15:x3_2<(a0.size:Int):=xa;have hx15:=Bl a0 x3_2;replace p15:=eq_true p15;replace q15:=eq_true q15;have p17:0<=(x3_2:Int):=xa;have q17:x3_2<(a0.size:Int):=xa;have hx17:=Bl a0 x3_2;replace p17:=eq_true p17;replace q17:=eq_true q17;have p19:0<=(x3_2:Int):=xa;have q19:x3_2<(a0.size:Int):=xa;have hx19:=Bl a0 x3_2;replace p19:=eq_true p19;replace q19:=eq_true q19;have p21:0<=(x3_2:Int):=xa;have q21:x3_2<(a0.size:Int):=xa;have hx21:=Bl a0 x3_2;replace p21:=eq_true p21;replace q21:=eq_true q21;go_wp2;go_roundg k2;case measure=>have:=HJ1.out;have:=HK2.out;omega
            case rel=>exact ⟨(wrap64 (x3_2+1)),xq,H',⟨by have:=HJ1.out;have:=HK2.out;omega⟩,xd⟩
           ·rw [if_neg c22] at H;have c22b0:decide ((bt a0 x3_2)<=57)=false:=decide_eq_false c22;clear c22;by_cases c24:(bt a0 x3_2)=45
            ·rw [if_pos c24] at H;have c24b0:((bt a0 x3_2)==45)=true:=beq_iff_eq.mpr c24;have c24b1:((bt a0 x3_2) != 45)=false:=bne_eq_false_iff_eq.mpr c24;clear c24;have H':=AA.mk H;clear H;have p15:0<=(x3_2:Int):=xa;have q15:x3_2<(a0.size:Int):=xa;have hx15:=Bl a0 x3_2;replace p15:=eq_true p15;replace q15:=eq_true q15;have p17:0<=(x3_2:Int):=xa;have q17:x3_2<(a0.size:Int):=xa;have hx17:=Bl a0 x3_2;replace p17:=eq_true p17;replace q17:=eq_true q17;have p19:0<=(x3_2:Int):=xa;have q19:x3_2<(a0.size:Int):=xa;have hx19:=Bl a0 x3_2;replace p19:=eq_true p19;replace q19:=eq_true q19;have p21:0<=(x3_2:Int):=xa;have q21:x3_2<(a0.size:Int):=xa;have hx21:=Bl a0 x3_2;replace p21:=eq_true p21;replace q21:=eq_true q21;have p23:0<=(x3_2:Int):=xa;have q23:x3_2<(a0.size:Int):=xa;have hx23:=Bl a0 x3_2;replace p23:=eq_true p23;replace q23:=eq_true q23;go_wp2;go_roundg k2;case measure=>have:=HJ1.out;have:=HK2.out;omega
             case rel=>exact ⟨(wrap64 (x3_2+1)),xq,H',⟨by have:=HJ1.out;have:=HK2.out;omega⟩,xd⟩
            ·rw [if_neg c24] at H;have c24b0:((bt a0 x3_2)==45)=false:=beq_eq_false_iff_ne.mpr c24;have c24b1:((bt a0 x3_2) != 45)=true:=bne_iff_ne.mpr c24;obtain rfl:=Option.some.inj H;have p15:0<=(x3_2:Int):=xa;have q15:x3_2<(a0.size:Int):=xa;have hx15:=Bl a0 x3_2;replace p15:=eq_true p15;replace q15:=eq_true q15;have p17:0<=(x3_2:Int):=xa;have q17:x3_2<(a0.size:Int):=xa;have hx17:=Bl a0 x3_2;replace p17:=eq_true p17;replace q17:=eq_true q17;have p19:0<=(x3_2:Int):=xa;have q19:x3_2<(a0.size:Int):=xa;have hx19:=Bl a0 x3_2;replace p19:=eq_true p19;replace q19:=eq_true q19;have p21:0<=(x3_2:Int):=xa;have q21:x3_2<(a0.size:Int):=xa;have hx21:=Bl a0 x3_2;replace p21:=eq_true p21;replace q21:=eq_true q21;have p23:0<=(x3_2:Int):=xa;have q23:x3_2<(a0.size:Int):=xa;have hx23:=Bl a0 x3_2;replace p23:=eq_true p23;replace q23:=eq_true q23;go_wp2;go_ret;exact ⟨xq,xd⟩
          ·rw [if_neg c20] at H;have c20b0:decide (48<=(bt a0 x3_2))=false:=decide_eq_false c20;clear c20;by_cases c26:(bt a0 x3_2)=45
           ·rw [if_pos c26] at H;have c26b0:((bt a0 x3_2)==45)=true:=beq_iff_eq.mpr c26;have c26b1:((bt a0 x3_2) != 45)=false:=bne_eq_false_iff_eq.mpr c26;clear c26;have H':=AA.mk H;clear H;have p15:0<=(x3_2:Int):=xa;have q15:x3_2<(a0.size:Int):=xa;have hx15:=Bl a0 x3_2;replace p15:=eq_true p15;replace q15:=eq_true q15;have p17:0<=(x3_2:Int):=xa;have q17:x3_2<(a0.size:Int):=xa;have hx17:=Bl a0 x3_2;replace p17:=eq_true p17;replace q17:=eq_true q17;have p19:0<=(x3_2:Int):=xa;have q19:x3_2<(a0.size:Int):=xa;have hx19:=Bl a0 x3_2;replace p19:=eq_true p19;replace q19:=eq_true q19;have p25:0<=(x3_2:Int):=xa;have q25:x3_2<(a0.size:Int):=xa;have hx25:=Bl a0 x3_2;replace p25:=eq_true p25;replace q25:=eq_true q25;go_wp2;go_roundg k2;case measure=>have:=HJ1.out;have:=HK2.out;omega
            case rel=>exact ⟨(wrap64 (x3_2+1)),xq,H',⟨by have:=HJ1.out;have:=HK2.out;omega⟩,xd⟩
           ·rw [if_neg c26] at H;have c26b0:((bt a0 x3_2)==45)=false:=beq_eq_false_iff_ne.mpr c26;have c26b1:((bt a0 x3_2) != 45)=true:=bne_iff_ne.mpr c26;obtain rfl:=Option.some.inj H;have p15:0<=(x3_2:Int):=xa;have q15:x3_2<(a0.size:Int):=xa;have hx15:=Bl a0 x3_2;replace p15:=eq_true p15;replace q15:=eq_true q15;have p17:0<=(x3_2:Int):=xa;have q17:x3_2<(a0.size:Int):=xa;have hx17:=Bl a0 x3_2;replace p17:=eq_true p17;replace q17:=eq_true q17;have p19:0<=(x3_2:Int):=xa;have q19:x3_2<(a0.size:Int):=xa;have hx19:=Bl a0 x3_2;replace p19:=eq_true p19;replace q19:=eq_true q19;have p25:0<=(x3_2:Int):=xa;have q25:x3_2<(a0.size:Int):=xa;have hx25:=Bl a0 x3_2;replace p25:=eq_true p25;replace q25:=eq_true q25;go_wp2;go_ret;exact ⟨xq,xd⟩
        ·rw [if_neg c16] at H;have c16b0:decide (97<=(bt a0 x3_2))=false:=decide_eq_false c16;clear c16;by_cases c28:(bt a0 x3_2)>=48
         ·rw [if_pos c28] at H;have c28b0:decide (48<=(bt a0 x3_2))=true:=decide_eq_true c28;clear c28;by_cases c30:((bt a0 x3_2)<=57)
          ·rw [if_pos c30] at H;have c30b0:decide ((bt a0 x3_2)<=57)=true:=decide_eq_true c30;clear c30;have H':=AA.mk H;clear H;have p15:0<=(x3_2:Int):=xa;have q15:x3_2<(a0.size:Int):=xa;have hx15:=Bl a0 x3_2;replace p15:=eq_true p15;replace q15:=eq_true q15;have p27:0<=(x3_2:Int):=xa;have q27:x3_2<(a0.size:Int):=xa;have hx27:=Bl a0 x3_2;replace p27:=eq_true p27;replace q27:=eq_true q27;have p29:0<=(x3_2:Int):=xa;have q29:x3_2<(a0.size:Int):=xa;have hx29:=Bl a0 x3_2;replace p29:=eq_true p29;replace q29:=eq_true q29;go_wp2;go_roundg k2;case measure=>have:=HJ1.out;have:=HK2.out;omega
           case rel=>exact ⟨(wrap64 (x3_2+1)),xq,H',⟨by have:=HJ1.out;have:=HK2.out;omega⟩,xd⟩
          ·rw [if_neg c30] at H;have c30b0:decide ((bt a0 x3_2)<=57)=false:=decide_eq_false c30;clear c30;by_cases c32:(bt a0 x3_2)=45
           ·rw [if_pos c32] at H;have c32b0:((bt a0 x3_2)==45)=true:=beq_iff_eq.mpr c32;have c32b1:((bt a0 x3_2) != 45)=false:=bne_eq_false_iff_eq.mpr c32;clear c32;have H':=AA.mk H;clear H;have p15:0<=(x3_2:Int):=xa;have q15:x3_2<(a0.size:Int):=xa;have hx15:=Bl a0 x3_2;replace p15:=eq_true p15;replace q15:=eq_true q15;have p27:0<=(x3_2:Int):=xa;have q27:x3_2<(a0.size:Int):=xa;have hx27:=Bl a0 x3_2;replace p27:=eq_true p27;replace q27:=eq_true q27;have p29:0<=(x3_2:Int):=xa;have q29:x3_2<(a0.size:Int):=xa;have hx29:=Bl a0 x3_2;replace p29:=eq_true p29;replace q29:=eq_true q29;have p31:0<=(x3_2:Int):=xa;have q31:x3_2<(a0.size:Int):=xa;have hx31:=Bl a0 x3_2;replace p31:=eq_true p31;replace q31:=eq_true q31;go_wp2;go_roundg k2;case measure=>have:=HJ1.out;have:=HK2.out;omega
            case rel=>exact ⟨(wrap64 (x3_2+1)),xq,H',⟨by have:=HJ1.out;have:=HK2.out;omega⟩,xd⟩
           ·rw [if_neg c32] at H;have c32b0:((bt a0 x3_2)==45)=false:=beq_eq_false_iff_ne.mpr c32;have c32b1:((bt a0 x3_2) != 45)=true:=bne_iff_ne.mpr c32;obtain rfl:=Option.some.inj H;have p15:0<=(x3_2:Int):=xa;have q15:x3_2<(a0.size:Int):=xa;have hx15:=Bl a0 x3_2;replace p15:=eq_true p15;replace q15:=eq_true q15;have p27:0<=(x3_2:Int):=xa;have q27:x3_2<(a0.size:Int):=xa;have hx27:=Bl a0 x3_2;replace p27:=eq_true p27;replace q27:=eq_true q27;have p29:0<=(x3_2:Int):=xa;have q29:x3_2<(a0.size:Int):=xa;have hx29:=Bl a0 x3_2;replace p29:=eq_true p29;replace q29:=eq_true q29;have p31:0<=(x3_2:Int):=xa;have q31:x3_2<(a0.size:Int):=xa;have hx31:=Bl a0 x3_2;replace p31:=eq_true p31;replace q31:=eq_true q31;go_wp2;go_ret;exact ⟨xq,xd⟩
         ·rw [if_neg c28] at H;have c28b0:decide (48<=(bt a0 x3_2))=false:=decide_eq_false c28;clear c28;by_cases c34:(bt a0 x3_2)=45
          ·rw [if_pos c34] at H;have c34b0:((bt a0 x3_2)==45)=true:=beq_iff_eq.mpr c34;have c34b1:((bt a0 x3_2) != 45)=false:=bne_eq_false_iff_eq.mpr c34;clear c34;have H':=AA.mk H;clear H;have p15:0<=(x3_2:Int):=xa;have q15:x3_2<(a0.size:Int):=xa;have hx15:=Bl a0 x3_2;replace p15:=eq_true p15;replace q15:=eq_true q15;have p27:0<=(x3_2:Int):=xa;have q27:x3_2<(a0.size:Int):=xa;have hx27:=Bl a0 x3_2;replace p27:=eq_true p27;replace q27:=eq_true q27;have p33:0<=(x3_2:Int):=xa;have q33:x3_2<(a0.size:Int):=xa;have hx33:=Bl a0 x3_2;replace p33:=eq_true p33;replace q33:=eq_true q33;go_wp2;go_roundg k2;case measure=>have:=HJ1.out;have:=HK2.out;omega
           case rel=>exact ⟨(wrap64 (x3_2+1)),xq,H',⟨by have:=HJ1.out;have:=HK2.out;omega⟩,xd⟩
          ·rw [if_neg c34] at H;have c34b0:((bt a0 x3_2)==45)=false:=beq_eq_false_iff_ne.mpr c34;have c34b1:((bt a0 x3_2) != 45)=true:=bne_iff_ne.mpr c34;obtain rfl:=Option.some.inj H;have p15:0<=(x3_2:Int):=xa;have q15:x3_2<(a0.size:Int):=xa;have hx15:=Bl a0 x3_2;replace p15:=eq_true p15;replace q15:=eq_true q15;have p27:0<=(x3_2:Int):=xa;have q27:x3_2<(a0.size:Int):=xa;have hx27:=Bl a0 x3_2;replace p27:=eq_true p27;replace q27:=eq_true q27;have p33:0<=(x3_2:Int):=xa;have q33:x3_2<(a0.size:Int):=xa;have hx33:=Bl a0 x3_2;replace p33:=eq_true p33;replace q33:=eq_true q33;go_wp2;go_ret;exact ⟨xq,xd⟩
       ·rw [if_neg c14] at H;exact absurd H (by simp)
      ·rw [if_neg c13] at H;have c13b0:decide (x3_2<(a0.size:Int))=false:=decide_eq_false c13;clear c13;obtain rfl:=Option.some.inj H;go_wp2;go_ret;exact ⟨xq,xd⟩
end Go.Proofs.YtccmackhhppbdaaGreatDoor.Print
