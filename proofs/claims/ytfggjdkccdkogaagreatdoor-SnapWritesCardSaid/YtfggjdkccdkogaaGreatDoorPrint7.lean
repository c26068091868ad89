/- Printed by a program of this claim's session (xprint.py): the machine's side: each Go function as a Lean function, and that a call of it comes to what that tells; the row of a statement. No condition. -/
import Derived.Test.YtfggjdkccdkogaaGreatDoorPrint0
namespace Go.Proofs.YtfggjdkccdkogaaGreatDoor.Print
open RowKit Ac Aq Aw
attribute [local go_sem] DC DD DX DY Co Cq DI DJ
set_option linter.unusedVariables false
set_option linter.unusedSimpArgs false
def GG.f (a0:Int) (a1:Bool):Option (Bool):=if a0>=97 then (if a0<=122 then (some true) else (if a0>=48 then (if a0<=57 then (some true) else (if a0=45 then (some (!a1)) else (some false))) else (if a0=45 then (some (!a1)) else (some false)))) else (if a0>=48 then (if a0<=57 then (some true) else (if a0=45 then (some (!a1)) else (some false))) else (if a0=45 then (some (!a1)) else (some false)))
set_option maxHeartbeats 8000000 in
set_option maxRecDepth 100000 in
theorem GG.calls (a0:Int) (a1:Bool) (r:Bool) (w:World) (h:GG.f a0 a1=some r):
 Calls Tryz.prog 121 #[.int .u8 a0, .bool a1] w λe w'=>e= .returned (.bool r)/\BP w w':=by
 have H:(if a0>=97 then (if a0<=122 then (some true) else (if a0>=48 then (if a0<=57 then (some true) else (if a0=45 then (some (!a1)) else (some false))) else (if a0=45 then (some (!a1)) else (some false)))) else (if a0>=48 then (if a0<=57 then (some true) else (if a0=45 then (some (!a1)) else (some false))) else (if a0=45 then (some (!a1)) else (some false))))=some r:=h;clear h;by_cases c3:a0>=97
 ·rw [if_pos c3] at H;have c3b0:decide (97<=a0)=true:=decide_eq_true c3;clear c3;by_cases c4:a0<=122
  ·rw [if_pos c4] at H;have c4b0:decide (a0<=122)=true:=decide_eq_true c4;clear c4;obtain rfl:=Option.some.inj H;go_enter Tryz.func121,Tryz.ntmps121;go_wp2;go_ret;exact ⟨xq,xd⟩
  ·rw [if_neg c4] at H;have c4b0:decide (a0<=122)=false:=decide_eq_false c4;clear c4;by_cases c5:a0>=48
   ·rw [if_pos c5] at H;have c5b0:decide (48<=a0)=true:=decide_eq_true c5;clear c5;by_cases c6:a0<=57
    ·rw [if_pos c6] at H;have c6b0:decide (a0<=57)=true:=decide_eq_true c6;clear c6;obtain rfl:=Option.some.inj H;go_enter Tryz.func121,Tryz.ntmps121;go_wp2;go_ret;exact ⟨xq,xd⟩
    ·rw [if_neg c6] at H;have c6b0:decide (a0<=57)=false:=decide_eq_false c6;clear c6;by_cases c7:a0=45
     ·rw [if_pos c7] at H;have c7b0:(a0==45)=true:=beq_iff_eq.mpr c7;have c7b1:(a0 != 45)=false:=bne_eq_false_iff_eq.mpr c7;clear c7;obtain rfl:=Option.some.inj H;go_enter Tryz.func121,Tryz.ntmps121;go_wp2;go_ret;exact ⟨xq,xd⟩
     ·rw [if_neg c7] at H;have c7b0:(a0==45)=false:=beq_eq_false_iff_ne.mpr c7;have c7b1:(a0 != 45)=true:=bne_iff_ne.mpr c7;obtain rfl:=Option.some.inj H;go_enter Tryz.func121,Tryz.ntmps121;go_wp2;go_ret;exact ⟨xq,xd⟩
   ·rw [if_neg c5] at H;have c5b0:decide (48<=a0)=false:=decide_eq_false c5;clear c5;by_cases c8:a0=45
    ·rw [if_pos c8] at H;have c8b0:(a0==45)=true:=beq_iff_eq.mpr c8;have c8b1:(a0 != 45)=false:=bne_eq_false_iff_eq.mpr c8;clear c8;obtain rfl:=Option.some.inj H;go_enter Tryz.func121,Tryz.ntmps121;go_wp2;go_ret;exact ⟨xq,xd⟩
    ·rw [if_neg c8] at H;have c8b0:(a0==45)=false:=beq_eq_false_iff_ne.mpr c8;have c8b1:(a0 != 45)=true:=bne_iff_ne.mpr c8;obtain rfl:=Option.some.inj H;go_enter Tryz.func121,Tryz.ntmps121;go_wp2;go_ret;exact ⟨xq,xd⟩
 ·rw [if_neg c3] at H;have c3b0:decide (97<=a0)=false:=decide_eq_false c3;clear c3;by_cases c9:a0>=48
  ·rw [if_pos c9] at H;have c9b0:decide (48<=a0)=true:=decide_eq_true c9;clear c9;by_cases c10:a0<=57
   ·rw [if_pos c10] at H;have c10b0:decide (a0<=57)=true:=decide_eq_true c10;clear c10;obtain rfl:=Option.some.inj H;go_enter Tryz.func121,Tryz.ntmps121;go_wp2;go_ret;exact ⟨xq,xd⟩
   ·rw [if_neg c10] at H;have c10b0:decide (a0<=57)=false:=decide_eq_false c10;clear c10;by_cases c11:a0=45
    ·rw [if_pos c11] at H;have c11b0:(a0==45)=true:=beq_iff_eq.mpr c11;have c11b1:(a0 != 45)=false:=bne_eq_false_iff_eq.mpr c11;clear c11;obtain rfl:=Option.some.inj H;go_enter Tryz.func121,Tryz.ntmps121;go_wp2;go_ret;exact ⟨xq,xd⟩
    ·rw [if_neg c11] at H;have c11b0:(a0==45)=false:=beq_eq_false_iff_ne.mpr c11;have c11b1:(a0 != 45)=true:=bne_iff_ne.mpr c11;obtain rfl:=Option.some.inj H;go_enter Tryz.func121,Tryz.ntmps121;go_wp2;go_ret;exact ⟨xq,xd⟩
  ·rw [if_neg c9] at H;have c9b0:decide (48<=a0)=false:=decide_eq_false c9;clear c9;by_cases c12:a0=45
   ·rw [if_pos c12] at H;have c12b0:(a0==45)=true:=beq_iff_eq.mpr c12;have c12b1:(a0 != 45)=false:=bne_eq_false_iff_eq.mpr c12;clear c12;obtain rfl:=Option.some.inj H;go_enter Tryz.func121,Tryz.ntmps121;go_wp2;go_ret;exact ⟨xq,xd⟩
   ·rw [if_neg c12] at H;have c12b0:(a0==45)=false:=beq_eq_false_iff_ne.mpr c12;have c12b1:(a0 != 45)=true:=bne_iff_ne.mpr c12;obtain rfl:=Option.some.inj H;go_enter Tryz.func121,Tryz.ntmps121;go_wp2;go_ret;exact ⟨xq,xd⟩
mutual
def BI.l0:Nat->List ByteArray->Int->Int->Option (Bool)
 |0,_,_,_=>none
 |k+1,x6,x7,x8=>if x8<x7 then (if 0<=x8 then (if x8<(x6.length:Int) then (if ((EH ByteArray.empty x6 x8).size:Int)<1 then (BI.j1 k (EH ByteArray.empty x6 x8) x6 x7 x8 true) else (BI.j1 k (EH ByteArray.empty x6 x8) x6 x7 x8 (decide (((EH ByteArray.empty x6 x8).size:Int)>63)))) else (none)) else (none)) else (some true)
def BI.j1:Nat->ByteArray->List ByteArray->Int->Int->Bool->Option (Bool)
 |0,_,_,_,_,_=>none
 |k+1,x4,x6,x7,x8,x19=>if x19=true then (some false) else (BI.l1 k x4 x6 x7 x8 (x4.size:Int) 0)
def BI.l1:Nat->ByteArray->List ByteArray->Int->Int->Int->Int->Option (Bool)
 |0,_,_,_,_,_,_=>none
 |k+1,x4,x6,x7,x8,x21,x22=>if x22<x21 then (if 0<=x22 then (if x22<(x4.size:Int) then (if x22=0 then ((GG.f (bt x4 x22) true).bind λt154=>(if t154=true then (BI.l1 k x4 x6 x7 x8 x21 (wrap64 (x22+1))) else (some false))) else ((GG.f (bt x4 x22) (x22==(wrap64 ((x4.size:Int) - 1)))).bind λt155=>(if t155=true then (BI.l1 k x4 x6 x7 x8 x21 (wrap64 (x22+1))) else (some false)))) else (none)) else (none)) else (BI.l0 k x6 x7 (wrap64 (x8+1)))
end
def BI.f (k:Nat) (l0:List ByteArray):Option (Bool):=BI.l0 k l0 (l0.length:Int) 0
theorem BI.Et:∀ k,(∀ y0 y1 y2,CZ (BI.l0 k y0 y1 y2) (BI.l0 (k+1) y0 y1 y2))/\(∀ y0 y1 y2 y3 y4,CZ (BI.j1 k y0 y1 y2 y3 y4) (BI.j1 (k+1) y0 y1 y2 y3 y4))/\(∀ y0 y1 y2 y3 y4 y5,CZ (BI.l1 k y0 y1 y2 y3 y4 y5) (BI.l1 (k+1) y0 y1 y2 y3 y4 y5))
 |0=>⟨λ_ _ _ r h=>by simp [BI.l0] at h,λ_ _ _ _ _ r h=>by simp [BI.j1] at h,λ_ _ _ _ _ _ r h=>by simp [BI.l1] at h⟩
 |k+1=>by
  obtain ⟨ih0,ih1,ih2⟩:=BI.Et k;refine ⟨?_,?_,?_⟩
  ·intro y0 y1 y2;unfold BI.l0
   repeat' first|(with_reducible first|exact ih0 _ _ _|exact ih1 _ _ _ _ _|exact ih2 _ _ _ _ _ _|exact CZ.refl _|exact CZ.none _|refine CZ.ite ?_ ?_|refine CZ.bind ?_ (λ_=>?_))|exact ih0 _ _ _|exact ih1 _ _ _ _ _|exact ih2 _ _ _ _ _ _|exact CZ.none _|refine CZ.ite ?_ ?_|refine CZ.bind ?_ (λ_=>?_)
  ·intro y0 y1 y2 y3 y4;unfold BI.j1
   repeat' first|(with_reducible first|exact ih0 _ _ _|exact ih1 _ _ _ _ _|exact ih2 _ _ _ _ _ _|exact CZ.refl _|exact CZ.none _|refine CZ.ite ?_ ?_|refine CZ.bind ?_ (λ_=>?_))|exact ih0 _ _ _|exact ih1 _ _ _ _ _|exact ih2 _ _ _ _ _ _|exact CZ.none _|refine CZ.ite ?_ ?_|refine CZ.bind ?_ (λ_=>?_)
  ·intro y0 y1 y2 y3 y4 y5;unfold BI.l1
   repeat' first|(with_reducible first|exact ih0 _ _ _|exact ih1 _ _ _ _ _|exact ih2 _ _ _ _ _ _|exact CZ.refl _|exact CZ.none _|refine CZ.ite ?_ ?_|refine CZ.bind ?_ (λ_=>?_))|exact ih0 _ _ _|exact ih1 _ _ _ _ _|exact ih2 _ _ _ _ _ _|exact CZ.none _|refine CZ.ite ?_ ?_|refine CZ.bind ?_ (λ_=>?_)
theorem BI.mono:∀ a0 k,CZ (BI.f k a0) (BI.f (k+1) a0):=by
 intro a0 k;obtain ⟨ih0,ih1,ih2⟩:=BI.Et k;unfold BI.f
 repeat' first|(with_reducible first|exact ih0 _ _ _|exact ih1 _ _ _ _ _|exact ih2 _ _ _ _ _ _|exact CZ.refl _|exact CZ.none _|refine CZ.ite ?_ ?_|refine CZ.bind ?_ (λ_=>?_))|exact ih0 _ _ _|exact ih1 _ _ _ _ _|exact ih2 _ _ _ _ _ _|exact CZ.none _|refine CZ.ite ?_ ?_|refine CZ.bind ?_ (λ_=>?_)
set_option maxHeartbeats 8000000 in
set_option maxRecDepth 100000 in
theorem BI.calls (k:Nat) (A0:Option Addr) (c0:Nat) (l0:List ByteArray) (r:Bool) (w:World) (hr0:Kd.C Kd.string w A0 l0.length l0) (hc0:l0.length<=c0) (h:BI.f k l0=some r):
 Calls Tryz.prog 100 #[.slice A0 l0.length c0] w λe w'=>e= .returned (.bool r)/\BP w w':=by
 have HR0:=AA.mk hr0;have HC0:=AA.mk hc0;clear hr0 hc0;have H:(BI.l0 k l0 (l0.length:Int) 0)=some r:=h;clear h;have H':=AA.mk H;clear H;go_enter Tryz.func100,Tryz.ntmps100;go_wp2;go_loopg [8] k (λkq v8 w'=>∃ (x8_1:Int),v8= .int .i64 x8_1/\AA (BI.l0 kq l0 (l0.length:Int) x8_1=some r)/\AA (kq<=k)/\BP w w');case atStart=>exact ⟨(0),xq,H',⟨Nat.le_refl _⟩,xd⟩
 case round=>
  clear H';try clear c1
  obtain ⟨x8_1,rfl,HA,HK1,⟨m1,rfl⟩⟩:=hrel;cases gk with
  |zero=>exact absurd HA.out (by simp [BI.l0])
  |succ k1=>
   have H:=HA.out;clear HA;simp only [BI.l0] at H;by_cases c2:x8_1<(l0.length:Int)
   ·rw [if_pos c2] at H;have c2b0:decide (x8_1<(l0.length:Int))=true:=decide_eq_true c2;clear c2;by_cases c3:0<=x8_1
    ·rw [if_pos c3] at H;have c3b0:decide (0<=x8_1)=true:=decide_eq_true c3;clear c3;by_cases c4:x8_1<(l0.length:Int)
     ·rw [if_pos c4] at H;have c4b0:decide (x8_1<(l0.length:Int))=true:=decide_eq_true c4;clear c4;have HC5:=AA.mk H;clear H;have p153:0<=(x8_1:Int):=xa;have q153:x8_1<(l0.length:Int):=xa;obtain ⟨ad153,e153,hx153_0⟩:=Kd.FR HR0.out x8_1 p153 q153;cases e153;replace p153:=eq_true p153;replace q153:=eq_true q153;go_upto_region 4 with (fail)
      go_cut [19] (λv19 wc=>∃ (kq:Nat) (x19_4:Bool),v19= .bool x19_4/\AA (BI.j1 kq (EH ByteArray.empty l0 x8_1) l0 (l0.length:Int) x8_1 x19_4=some r)/\AA (kq<=k1)/\BP w wc);case first=>
       have H:=HC5.out;clear HC5;by_cases c6:((EH ByteArray.empty l0 x8_1).size:Int)<1
       ·rw [if_pos c6] at H;have c6b0:decide (((EH ByteArray.empty l0 x8_1).size:Int)<1)=true:=decide_eq_true c6;have c6b1:decide ((EH ByteArray.empty l0 x8_1).size<1)=true:=decide_eq_true (by omega);clear c6;(first|rw [c6b0]|(simp only [CE,CU];rw [c6b0])|skip);have H':=AA.mk H;clear H;go_wp2;go_meet;case rel=>exact ⟨_,(true),xq,H',⟨by have:=HK1.out;first|omega|exact Nat.le_refl _⟩,xd⟩
       ·rw [if_neg c6] at H;have c6b0:decide (((EH ByteArray.empty l0 x8_1).size:Int)<1)=false:=decide_eq_false c6;have c6b1:decide ((EH ByteArray.empty l0 x8_1).size<1)=false:=decide_eq_false (by omega);clear c6;(first|rw [c6b0]|(simp only [CE,CU];rw [c6b0])|skip);have H':=AA.mk H;clear H;go_wp2;go_meet;case rel=>exact ⟨_,(decide (((EH ByteArray.empty l0 x8_1).size:Int)>63)),xq,H',⟨by have:=HK1.out;first|omega|exact Nat.le_refl _⟩,xd⟩
      case rest=>
       clear HC5;try clear c1
       try clear p1
       try clear q1
       try clear hx1
       try clear c2
       try clear c2b0
       try clear p2
       try clear c3
       try clear c3b0
       try clear c4
       try clear c4b0
       try clear c6
       try clear c6b0
       try clear c6b1
       try clear hx153_0
       try clear p153
       try clear q153
       obtain ⟨kq,x19_4,rfl,HA,HJ4,⟨mc4,rfl⟩⟩:=hcut;cases kq with
       |zero=>exact absurd HA.out (by simp [BI.j1])
       |succ kj4=>
        have H:=HA.out;clear HA;simp only [BI.j1] at H;by_cases c7:x19_4=true
        ·subst c7;have H1:(some false)=some r:=by rw [if_pos rfl] at H;exact H
         clear H;have H:=H1;clear H1;obtain rfl:=Option.some.inj H;go_wp2;go_ret;exact ⟨xq,xd⟩
        ·replace c7:=Bool.eq_false_iff.mpr c7;subst c7;have H1:(BI.l1 kj4 (EH ByteArray.empty l0 x8_1) l0 (l0.length:Int) x8_1 ((EH ByteArray.empty l0 x8_1).size:Int) 0)=some r:=by rw [if_neg (show ¬(false=true) by decide)] at H;exact H
         clear H;have H:=H1;clear H1;have H':=AA.mk H;clear H;go_wp2;go_loopg [22] kj4 (λkq v22 w'=>∃ (x22_3:Int),v22= .int .i64 x22_3/\AA (BI.l1 kq (EH ByteArray.empty l0 x8_1) l0 (l0.length:Int) x8_1 ((EH ByteArray.empty l0 x8_1).size:Int) x22_3=some r)/\AA (kq<=kj4)/\BP w w');case atStart=>exact ⟨(0),xq,H',⟨Nat.le_refl _⟩,xd⟩
         case round=>
          clear H';try clear c1
          try clear p1
          try clear q1
          try clear hx1
          try clear c2
          try clear c2b0
          try clear p2
          try clear c3
          try clear c3b0
          try clear c4
          try clear c4b0
          try clear c6
          try clear c6b0
          try clear c6b1
          try clear c7
          try clear hx153_0
          try clear p1
          try clear p153
          try clear p2
          try clear q1
          try clear q153
          obtain ⟨x22_3,rfl,HA,HK3,⟨m3,rfl⟩⟩:=hrel;cases gk with
          |zero=>exact absurd HA.out (by simp [BI.l1])
          |succ k3=>
           have H:=HA.out;clear HA;simp only [BI.l1] at H;by_cases c8:x22_3<((EH ByteArray.empty l0 x8_1).size:Int)
           ·rw [if_pos c8] at H;have c8b0:decide (x22_3<((EH ByteArray.empty l0 x8_1).size:Int))=true:=decide_eq_true c8;clear c8;by_cases c9:0<=x22_3
            ·rw [if_pos c9] at H;have c9b0:decide (0<=x22_3)=true:=decide_eq_true c9;clear c9;by_cases c10:x22_3<((EH ByteArray.empty l0 x8_1).size:Int)
             ·rw [if_pos c10] at H;have c10b0:decide (x22_3<((EH ByteArray.empty l0 x8_1).size:Int))=true:=decide_eq_true c10;clear c10;by_cases c12:x22_3=0
              ·rw [if_pos c12] at H;have c12b0:(x22_3==0)=true:=beq_iff_eq.mpr c12;have c12b1:(x22_3 != 0)=false:=bne_eq_false_iff_eq.mpr c12;clear c12;replace H:=Option.bind_eq_some_iff.mp H;obtain ⟨t154,A130,H⟩:=H;replace H:(if t154=true then (BI.l1 k3 (EH ByteArray.empty l0 x8_1) l0 (l0.length:Int) x8_1 ((EH ByteArray.empty l0 x8_1).size:Int) (wrap64 (x22_3+1))) else (some false))=some r:=H;have A13:=AA.mk A130;clear A130;by_cases c14:t154=true
               ·subst c14;rw [if_pos rfl] at H;have H':=AA.mk H;clear H;have p11:0<=(x22_3:Int):=xa;have q11:x22_3<((EH ByteArray.empty l0 x8_1).size:Int):=xa;have hx11:=CV (EH ByteArray.empty l0 x8_1) x22_3;replace p11:=eq_true p11;replace q11:=eq_true q11;go_wp2_with (first|((with_reducible refine AQ (f:=121) rfl ?_);refine Ag (some 37) rfl rfl Tryz.func121 (by kernel_rfl) rfl #[.int .u8 (bt (EH ByteArray.empty l0 x8_1) x22_3), .bool true] rfl xg ?_;(with_reducible refine (GG.calls (bt (EH ByteArray.empty l0 x8_1) x22_3) true true _ A13.out).mono ?_);rintro e w' ⟨rfl,⟨nd,rfl⟩⟩;refine ⟨_,rfl,?_⟩));go_roundg k3;case measure=>have:=HK1.out;have:=HJ4.out;have:=HK3.out;omega
                case rel=>exact ⟨(wrap64 (x22_3+1)),xq,H',⟨by have:=HK1.out;have:=HJ4.out;have:=HK3.out;omega⟩,xd⟩
               ·replace c14:=Bool.eq_false_iff.mpr c14;subst c14;have H1:(some false)=some r:=by rw [if_neg (show ¬(false=true) by decide)] at H;exact H
                clear H;have H:=H1;clear H1;obtain rfl:=Option.some.inj H;have p11:0<=(x22_3:Int):=xa;have q11:x22_3<((EH ByteArray.empty l0 x8_1).size:Int):=xa;have hx11:=CV (EH ByteArray.empty l0 x8_1) x22_3;replace p11:=eq_true p11;replace q11:=eq_true q11;go_wp2_with (first|((with_reducible refine AQ (f:=121) rfl ?_);refine Ag (some 37) rfl rfl Tryz.func121 (by kernel_rfl) rfl #[.int .u8 (bt (EH ByteArray.empty l0 x8_1) x22_3), .bool true] rfl xg ?_;(with_reducible refine (GG.calls (bt (EH ByteArray.empty l0 x8_1) x22_3) true false _ A13.out).mono ?_);rintro e w' ⟨rfl,⟨nd,rfl⟩⟩;refine ⟨_,rfl,?_⟩));go_ret;exact ⟨xq,xd⟩
              ·rw [if_neg c12] at H;have c12b0:(x22_3==0)=false:=beq_eq_false_iff_ne.mpr c12;have c12b1:(x22_3 != 0)=true:=bne_iff_ne.mpr c12;replace H:=Option.bind_eq_some_iff.mp H;obtain ⟨t155,A150,H⟩:=H;replace H:(if t155=true then (BI.l1 k3 (EH ByteArray.empty l0 x8_1) l0 (l0.length:Int) x8_1 ((EH ByteArray.empty l0 x8_1).size:Int) (wrap64 (x22_3+1))) else (some false))=some r:=H;have A15:=AA.mk A150;clear A150;by_cases c16:t155=true
               ·subst c16;rw [if_pos rfl] at H;have H':=AA.mk H;clear H;have p11:0<=(x22_3:Int):=xa;have q11:x22_3<((EH ByteArray.empty l0 x8_1).size:Int):=xa;have hx11:=CV (EH ByteArray.empty l0 x8_1) x22_3;replace p11:=eq_true p11;replace q11:=eq_true q11;go_wp2_with (first|((with_reducible refine AQ (f:=121) rfl ?_);refine Ag (some 37) rfl rfl Tryz.func121 (by kernel_rfl) rfl #[.int .u8 (bt (EH ByteArray.empty l0 x8_1) x22_3), .bool (x22_3==(wrap64 (((EH ByteArray.empty l0 x8_1).size:Int) - 1)))] rfl xg ?_;(with_reducible refine (GG.calls (bt (EH ByteArray.empty l0 x8_1) x22_3) (x22_3==(wrap64 (((EH ByteArray.empty l0 x8_1).size:Int) - 1))) true _ A15.out).mono ?_);rintro e w' ⟨rfl,⟨nd,rfl⟩⟩;refine ⟨_,rfl,?_⟩));go_roundg k3;case measure=>have:=HK1.out;have:=HJ4.out;have:=HK3.out;omega
                case rel=>exact ⟨(wrap64 (x22_3+1)),xq,H',⟨by have:=HK1.out;have:=HJ4.out;have:=HK3.out;omega⟩,xd⟩
               ·replace c16:=Bool.eq_false_iff.mpr c16;subst c16;have H1:(some false)=some r:=by rw [if_neg (show ¬(false=true) by decide)] at H;exact H
                clear H;have H:=H1;clear H1;obtain rfl:=Option.some.inj H;have p11:0<=(x22_3:Int):=xa;have q11:x22_3<((EH ByteArray.empty l0 x8_1).size:Int):=xa;have hx11:=CV (EH ByteArray.empty l0 x8_1) x22_3;replace p11:=eq_true p11;replace q11:=eq_true q11;go_wp2_with (first|((with_reducible refine AQ (f:=121) rfl ?_);refine Ag (some 37) rfl rfl Tryz.func121 (by kernel_rfl) rfl #[.int .u8 (bt (EH ByteArray.empty l0 x8_1) x22_3), .bool (x22_3==(wrap64 (((EH ByteArray.empty l0 x8_1).size:Int) - 1)))] rfl xg ?_;(with_reducible refine (GG.calls (bt (EH ByteArray.empty l0 x8_1) x22_3) (x22_3==(wrap64 (((EH ByteArray.empty l0 x8_1).size:Int) - 1))) false _ A15.out).mono ?_);rintro e w' ⟨rfl,⟨nd,rfl⟩⟩;refine ⟨_,rfl,?_⟩));go_ret;exact ⟨xq,xd⟩
             ·rw [if_neg c10] at H;exact absurd H (by simp)
            ·rw [if_neg c9] at H;exact absurd H (by simp)
           ·rw [if_neg c8] at H;have c8b0:decide (x22_3<((EH ByteArray.empty l0 x8_1).size:Int))=false:=decide_eq_false c8;clear c8;have H':=AA.mk H;clear H;go_wp2;go_roundg k3;case measure=>have:=HK1.out;have:=HJ4.out;have:=HK3.out;omega
            case rel=>exact ⟨(wrap64 (x8_1+1)),xq,H',⟨by have:=HK1.out;have:=HJ4.out;have:=HK3.out;omega⟩,xd⟩
     ·rw [if_neg c4] at H;exact absurd H (by simp)
    ·rw [if_neg c3] at H;exact absurd H (by simp)
   ·rw [if_neg c2] at H;have c2b0:decide (x8_1<(l0.length:Int))=false:=decide_eq_false c2;clear c2;obtain rfl:=Option.some.inj H;go_wp2;go_ret;exact ⟨xq,xd⟩
def EO.f (k:Nat) (a0:ByteArray):Option (ByteArray×Bool):=if (a0.size:Int)>64 then (some ((⟨#[]⟩:ByteArray),false)) else ((FU.f a0).bind λt156=>((strings_Split.f t156 (⟨#[46]⟩:ByteArray)).bind λt157=>((BI.f k t157).bind λt160=>(if t160=true then (some (t156,true)) else (some ((⟨#[]⟩:ByteArray),false))))))
theorem EO.mono:∀ a0 k,CZ (EO.f k a0) (EO.f (k+1) a0):=by
 intro a0 k;unfold EO.f
 repeat' first|(with_reducible first|exact BI.mono _ _|exact CZ.refl _|exact CZ.none _|refine CZ.ite ?_ ?_|refine CZ.bind ?_ (λ_=>?_))|exact BI.mono _ _|exact CZ.none _|refine CZ.ite ?_ ?_|refine CZ.bind ?_ (λ_=>?_)
set_option maxHeartbeats 8000000 in
set_option maxRecDepth 100000 in
theorem EO.calls (k:Nat) (a0:ByteArray) (r1:ByteArray) (r2:Bool) (w:World) (hG:AA (D8 w)) (h:EO.f k a0=some (r1,r2)):
 Calls Tryz.prog 76 #[.string a0] w λe w'=>e= .returned (.tuple #[.string r1, .bool r2])/\Below w.heap.size w w':=by
 have HB:=AA.mk (Below.refl w.heap.size w);have H:(if (a0.size:Int)>64 then (some ((⟨#[]⟩:ByteArray),false)) else ((FU.f a0).bind λt156=>((strings_Split.f t156 (⟨#[46]⟩:ByteArray)).bind λt157=>((BI.f k t157).bind λt160=>(if t160=true then (some (t156,true)) else (some ((⟨#[]⟩:ByteArray),false)))))))=some (r1,r2):=h;clear h;by_cases c2:(a0.size:Int)>64
 ·rw [if_pos c2] at H;have c2b0:decide (64<(a0.size:Int))=true:=decide_eq_true c2;have c2b1:decide (64<a0.size)=true:=decide_eq_true (by omega);clear c2;simp only [Option.some.injEq,Prod.mk.injEq] at H;obtain ⟨rfl,rfl⟩:=H;go_enter Tryz.func76,Tryz.ntmps76;go_wp2;go_ret2;exact ⟨xe,xb⟩
 ·rw [if_neg c2] at H;have c2b0:decide (64<(a0.size:Int))=false:=decide_eq_false c2;have c2b1:decide (64<a0.size)=false:=decide_eq_false (by omega);clear c2;replace H:=Option.bind_eq_some_iff.mp H;obtain ⟨t156,A30,H⟩:=H;replace H:((strings_Split.f t156 (⟨#[46]⟩:ByteArray)).bind λt157=>((BI.f k t157).bind λt160=>(if t160=true then (some (t156,true)) else (some ((⟨#[]⟩:ByteArray),false)))))=some (r1,r2):=H;have A3:=AA.mk A30;clear A30;replace H:=Option.bind_eq_some_iff.mp H;obtain ⟨t157,A40,H⟩:=H;try dsimp only at H
  have A4:=AA.mk A40;clear A40;replace H:=Option.bind_eq_some_iff.mp H;obtain ⟨t160,A50,H⟩:=H;try dsimp only at H
  have A5:=AA.mk A50;clear A50;by_cases c6:t160=true
  ·subst c6;rw [if_pos rfl] at H;simp only [Option.some.injEq,Prod.mk.injEq] at H;obtain ⟨rfl,rfl⟩:=H;go_enter Tryz.func76,Tryz.ntmps76;go_wp2_with (first|((with_reducible refine AQ (f:=99) rfl ?_);refine Ag (some 8) rfl rfl Tryz.func99 (by kernel_rfl) rfl #[.string a0] rfl xg ?_;(with_reducible refine (FU.calls a0 t156 _ A3.out).mono ?_);rintro e w7 ⟨rfl,hb⟩;refine ⟨_,rfl,?_⟩;replace HB:=AA.mk (AO xb hb);(try clear hb))|((with_reducible refine AQ (f:=101) rfl ?_);refine Ag (some 10) rfl rfl Tryz.func101 (by kernel_rfl) rfl #[.string t156, .string (⟨#[46]⟩:ByteArray)] rfl xg ?_;(with_reducible refine (strings_Split.calls t156 (⟨#[46]⟩:ByteArray) t157 _ xl A4.out).mono ?_);rintro e w8 ⟨v158,rfl,ho0,hb⟩;refine ⟨_,rfl,?_⟩;have HO159:=AA.mk (Kd.CJ ho0 (Ai xb));replace HB:=AA.mk (AO xb hb);(try clear hb);(try clear ho0);obtain ⟨Ao9,co9,eo9⟩:=Kd.Cg HO159.out;subst eo9)|((with_reducible refine AQ (f:=100) rfl ?_);refine Ag (some 11) rfl rfl Tryz.func100 (by kernel_rfl) rfl #[.slice Ao9 t157.length co9] rfl xg ?_;(with_reducible refine (BI.calls k _ _ t157 true _ ?side1 ?side2 A5.out).mono ?_);(case side1=>repeat (first|exact (Kd.BN HO159.out).2.2|(with_reducible refine Kd.Cy ?_ _)|(with_reducible refine Kd.C8 ?_ _)|(with_reducible refine Kd.Da ?_)));(case side2=>exact (Kd.BN HO159.out).2.1);rintro e w' ⟨rfl,⟨nd,rfl⟩⟩;refine ⟨_,rfl,?_⟩));go_ret2;exact ⟨xe,xb⟩
  ·replace c6:=Bool.eq_false_iff.mpr c6;subst c6;have H1:(some ((⟨#[]⟩:ByteArray),false))=some (r1,r2):=by rw [if_neg (show ¬(false=true) by decide)] at H;exact H
   clear H;have H:=H1;clear H1;simp only [Option.some.injEq,Prod.mk.injEq] at H;obtain ⟨rfl,rfl⟩:=H;go_enter Tryz.func76,Tryz.ntmps76;go_wp2_with (first|((with_reducible refine AQ (f:=99) rfl ?_);refine Ag (some 8) rfl rfl Tryz.func99 (by kernel_rfl) rfl #[.string a0] rfl xg ?_;(with_reducible refine (FU.calls a0 t156 _ A3.out).mono ?_);rintro e w10 ⟨rfl,hb⟩;refine ⟨_,rfl,?_⟩;replace HB:=AA.mk (AO xb hb);(try clear hb))|((with_reducible refine AQ (f:=101) rfl ?_);refine Ag (some 10) rfl rfl Tryz.func101 (by kernel_rfl) rfl #[.string t156, .string (⟨#[46]⟩:ByteArray)] rfl xg ?_;(with_reducible refine (strings_Split.calls t156 (⟨#[46]⟩:ByteArray) t157 _ xl A4.out).mono ?_);rintro e w11 ⟨v158,rfl,ho0,hb⟩;refine ⟨_,rfl,?_⟩;have HO159:=AA.mk (Kd.CJ ho0 (Ai xb));replace HB:=AA.mk (AO xb hb);(try clear hb);(try clear ho0);obtain ⟨Ao12,co12,eo12⟩:=Kd.Cg HO159.out;subst eo12)|((with_reducible refine AQ (f:=100) rfl ?_);refine Ag (some 11) rfl rfl Tryz.func100 (by kernel_rfl) rfl #[.slice Ao12 t157.length co12] rfl xg ?_;(with_reducible refine (BI.calls k _ _ t157 false _ ?side1 ?side2 A5.out).mono ?_);(case side1=>repeat (first|exact (Kd.BN HO159.out).2.2|(with_reducible refine Kd.Cy ?_ _)|(with_reducible refine Kd.C8 ?_ _)|(with_reducible refine Kd.Da ?_)));(case side2=>exact (Kd.BN HO159.out).2.1);rintro e w' ⟨rfl,⟨nd,rfl⟩⟩;refine ⟨_,rfl,?_⟩));go_ret2;exact ⟨xe,xb⟩
def Dn.l0:Nat->List ByteArray->List ByteArray->Int->Int->Option (Bool)
 |0,_,_,_,_=>none
 |k+1,x3,x10,x11,x12=>if x12<x11 then (if 0<=x12 then (if x12<(x10.length:Int) then ((IL.f (EH ByteArray.empty x10 x12)).bind λbt165=>(if bt165.2=true then (if bt165.1<0 then (some false) else (if bt165.1>255 then (some false) else (Dn.l0 k x3 x10 x11 (wrap64 (x12+1))))) else (some false))) else (none)) else (none)) else (some ((x3.length:Int)==4))
def Dn.f (k:Nat) (a0:ByteArray):Option (Bool):=(strings_Split.f a0 (⟨#[46]⟩:ByteArray)).bind λt161=>(Dn.l0 k t161 t161 (t161.length:Int) 0)
theorem Dn.Et:∀ k,(∀ y0 y1 y2 y3,CZ (Dn.l0 k y0 y1 y2 y3) (Dn.l0 (k+1) y0 y1 y2 y3))
 |0=>λ_ _ _ _ r h=>by simp [Dn.l0] at h
 |k+1=>by
  have ih0:=Dn.Et k
  ·intro y0 y1 y2 y3;unfold Dn.l0
   repeat' first|(with_reducible first|exact ih0 _ _ _ _|exact CZ.refl _|exact CZ.none _|refine CZ.ite ?_ ?_|refine CZ.bind ?_ (λ_=>?_))|exact ih0 _ _ _ _|exact CZ.none _|refine CZ.ite ?_ ?_|refine CZ.bind ?_ (λ_=>?_)
theorem Dn.mono:∀ a0 k,CZ (Dn.f k a0) (Dn.f (k+1) a0):=by
 intro a0 k;have ih0:=Dn.Et k;unfold Dn.f
 repeat' first|(with_reducible first|exact ih0 _ _ _ _|exact CZ.refl _|exact CZ.none _|refine CZ.ite ?_ ?_|refine CZ.bind ?_ (λ_=>?_))|exact ih0 _ _ _ _|exact CZ.none _|refine CZ.ite ?_ ?_|refine CZ.bind ?_ (λ_=>?_)
set_option maxHeartbeats 8000000 in
set_option maxRecDepth 100000 in
theorem Dn.calls (k:Nat) (a0:ByteArray) (r:Bool) (w:World) (hG:AA (D8 w)) (h:Dn.f k a0=some r):
 Calls Tryz.prog 77 #[.string a0] w λe w'=>e= .returned (.bool r)/\Below w.heap.size w w':=by
 have HB:=AA.mk (Below.refl w.heap.size w);have H:((strings_Split.f a0 (⟨#[46]⟩:ByteArray)).bind λt161=>(Dn.l0 k t161 t161 (t161.length:Int) 0))=some r:=h;clear h;replace H:=Option.bind_eq_some_iff.mp H;obtain ⟨t161,A20,H⟩:=H;try dsimp only at H
 have A2:=AA.mk A20;clear A20;have H':=AA.mk H;clear H;go_enter Tryz.func77,Tryz.ntmps77;go_wp2_with (first|((with_reducible refine AQ (f:=101) rfl ?_);refine Ag (some 9) rfl rfl Tryz.func101 (by kernel_rfl) rfl #[.string a0, .string (⟨#[46]⟩:ByteArray)] rfl xg ?_;(with_reducible refine (strings_Split.calls a0 (⟨#[46]⟩:ByteArray) t161 _ xl A2.out).mono ?_);rintro e w3 ⟨v162,rfl,ho0,hb⟩;refine ⟨_,rfl,?_⟩;have HO163:=AA.mk (Kd.CJ ho0 (Ai xb));replace HB:=AA.mk (AO xb hb);(try clear hb);(try clear ho0);obtain ⟨Ao4,co4,eo4⟩:=Kd.Cg HO163.out;subst eo4));go_loopg [12] k (λkq v12 w'=>∃ (x12_1:Int),v12= .int .i64 x12_1/\AA (Dn.l0 kq t161 t161 (t161.length:Int) x12_1=some r)/\AA (kq<=k)/\AA (Kd.R Kd.string 9 w' w.heap.size (λ_=>True) (.slice Ao4 t161.length co4) t161)/\AA (Kd.R Kd.string 9 w' w.heap.size (λ_=>True) (.slice Ao4 t161.length co4) t161)/\AA (Below w.heap.size w w'));case atStart=>exact ⟨(0),xq,H',⟨Nat.le_refl _⟩,⟨by (with_reducible repeat (first|apply Kd.BX|apply Kd.BZ|apply Kd.Bc));exact HO163.out⟩,⟨by (with_reducible repeat (first|apply Kd.BX|apply Kd.BZ|apply Kd.Bc));exact HO163.out⟩,⟨xb⟩⟩
 case round=>
  clear H';try clear c1
  try clear p2
  try clear p3
  obtain ⟨x12_1,rfl,HA,HK1,HO_3,HO_10,HB⟩:=hrel;cases gk with
  |zero=>exact absurd HA.out (by simp [Dn.l0])
  |succ k1=>
   have H:=HA.out;clear HA;simp only [Dn.l0] at H;by_cases c5:x12_1<(t161.length:Int)
   ·rw [if_pos c5] at H;have c5b0:decide (x12_1<(t161.length:Int))=true:=decide_eq_true c5;clear c5;by_cases c6:0<=x12_1
    ·rw [if_pos c6] at H;have c6b0:decide (0<=x12_1)=true:=decide_eq_true c6;clear c6;by_cases c7:x12_1<(t161.length:Int)
     ·rw [if_pos c7] at H;have c7b0:decide (x12_1<(t161.length:Int))=true:=decide_eq_true c7;clear c7;replace H:=Option.bind_eq_some_iff.mp H;obtain ⟨⟨t165,t166⟩,A80,H⟩:=H;replace H:(if t166=true then (if t165<0 then (some false) else (if t165>255 then (some false) else (Dn.l0 k1 t161 t161 (t161.length:Int) (wrap64 (x12_1+1))))) else (some false))=some r:=H;have A8:=AA.mk A80;clear A80;by_cases c9:t166=true
      ·subst c9;rw [if_pos rfl] at H;by_cases c10:t165<0
       ·rw [if_pos c10] at H;have c10b0:decide (t165<0)=true:=decide_eq_true c10;clear c10;obtain rfl:=Option.some.inj H;have p164:0<=(x12_1:Int):=xa;have q164:x12_1<(t161.length:Int):=xa;obtain ⟨ad164,e164,hx164_0⟩:=Kd.FR (Kd.BN HO_10.out).2.2 x12_1 p164 q164;cases e164;replace p164:=eq_true p164;replace q164:=eq_true q164;go_wp2_with (first|((with_reducible refine AQ (f:=102) rfl ?_);refine Ag (some 18) rfl rfl Tryz.func102 (by kernel_rfl) rfl #[.string (EH ByteArray.empty t161 x12_1)] rfl xg ?_;(with_reducible refine (IL.calls (EH ByteArray.empty t161 x12_1) t165 true _ xl A8.out).mono ?_);rintro e w11 ⟨rfl,hb⟩;refine ⟨_,rfl,?_⟩;replace HO_3:=AA.mk (Kd.Af (xR HO_3) hb);replace HO_10:=AA.mk (Kd.Af (xR HO_10) hb);replace HB:=AA.mk (AO xb hb);(try clear hb)));go_ret;exact ⟨xe,xb⟩
       ·rw [if_neg c10] at H;have c10b0:decide (t165<0)=false:=decide_eq_false c10;clear c10;by_cases c12:t165>255
        ·rw [if_pos c12] at H;have c12b0:decide (255<t165)=true:=decide_eq_true c12;clear c12;obtain rfl:=Option.some.inj H;have p164:0<=(x12_1:Int):=xa;have q164:x12_1<(t161.length:Int):=xa;obtain ⟨ad164,e164,hx164_0⟩:=Kd.FR (Kd.BN HO_10.out).2.2 x12_1 p164 q164;cases e164;replace p164:=eq_true p164;replace q164:=eq_true q164;go_wp2_with (first|((with_reducible refine AQ (f:=102) rfl ?_);refine Ag (some 18) rfl rfl Tryz.func102 (by kernel_rfl) rfl #[.string (EH ByteArray.empty t161 x12_1)] rfl xg ?_;(with_reducible refine (IL.calls (EH ByteArray.empty t161 x12_1) t165 true _ xl A8.out).mono ?_);rintro e w13 ⟨rfl,hb⟩;refine ⟨_,rfl,?_⟩;replace HO_3:=AA.mk (Kd.Af (xR HO_3) hb);replace HO_10:=AA.mk (Kd.Af (xR HO_10) hb);replace HB:=AA.mk (AO xb hb);(try clear hb)));go_ret;exact ⟨xe,xb⟩
        ·rw [if_neg c12] at H;have c12b0:decide (255<t165)=false:=decide_eq_false c12;clear c12;have H':=AA.mk H;clear H;have p164:0<=(x12_1:Int):=xa;have q164:x12_1<(t161.length:Int):=xa;obtain ⟨ad164,e164,hx164_0⟩:=Kd.FR (Kd.BN HO_10.out).2.2 x12_1 p164 q164;cases e164;replace p164:=eq_true p164;replace q164:=eq_true q164;go_wp2_with (first|((with_reducible refine AQ (f:=102) rfl ?_);refine Ag (some 18) rfl rfl Tryz.func102 (by kernel_rfl) rfl #[.string (EH ByteArray.empty t161 x12_1)] rfl xg ?_;(with_reducible refine (IL.calls (EH ByteArray.empty t161 x12_1) t165 true _ xl A8.out).mono ?_);rintro e w14 ⟨rfl,hb⟩;refine ⟨_,rfl,?_⟩;replace HO_3:=AA.mk (Kd.Af (xR HO_3) hb);replace HO_10:=AA.mk (Kd.Af (xR HO_10) hb);replace HB:=AA.mk (AO xb hb);(try clear hb)));go_roundg k1;case measure=>have:=HK1.out;omega
         case rel=>exact ⟨(wrap64 (x12_1+1)),xq,H',⟨by have:=HK1.out;omega⟩,⟨by (with_reducible repeat (first|apply Kd.BX|apply Kd.BZ|apply Kd.Bc));exact HO_3.out⟩,⟨by (with_reducible repeat (first|apply Kd.BX|apply Kd.BZ|apply Kd.Bc));exact HO_10.out⟩,⟨xb⟩⟩
      ·replace c9:=Bool.eq_false_iff.mpr c9;subst c9;have H1:(some false)=some r:=by rw [if_neg (show ¬(false=true) by decide)] at H;exact H
       clear H;have H:=H1;clear H1;obtain rfl:=Option.some.inj H;have p164:0<=(x12_1:Int):=xa;have q164:x12_1<(t161.length:Int):=xa;obtain ⟨ad164,e164,hx164_0⟩:=Kd.FR (Kd.BN HO_10.out).2.2 x12_1 p164 q164;cases e164;replace p164:=eq_true p164;replace q164:=eq_true q164;go_wp2_with (first|((with_reducible refine AQ (f:=102) rfl ?_);refine Ag (some 18) rfl rfl Tryz.func102 (by kernel_rfl) rfl #[.string (EH ByteArray.empty t161 x12_1)] rfl xg ?_;(with_reducible refine (IL.calls (EH ByteArray.empty t161 x12_1) t165 false _ xl A8.out).mono ?_);rintro e w15 ⟨rfl,hb⟩;refine ⟨_,rfl,?_⟩;replace HO_3:=AA.mk (Kd.Af (xR HO_3) hb);replace HO_10:=AA.mk (Kd.Af (xR HO_10) hb);replace HB:=AA.mk (AO xb hb);(try clear hb)));go_ret;exact ⟨xe,xb⟩
     ·rw [if_neg c7] at H;exact absurd H (by simp)
    ·rw [if_neg c6] at H;exact absurd H (by simp)
   ·rw [if_neg c5] at H;have c5b0:decide (x12_1<(t161.length:Int))=false:=decide_eq_false c5;clear c5;obtain rfl:=Option.some.inj H;go_wp2;go_ret;exact ⟨xe,xb⟩
end Go.Proofs.YtfggjdkccdkogaaGreatDoor.Print
