/- Printed by a program of this claim's session (xprint.py): the machine's side: each Go function as a Lean function, and that a call of it comes to what that tells; the row of a statement. No condition. -/
import Derived.Test.YtccmackhhppbdaaGreatDoorPrint0
namespace Go.Proofs.YtccmackhhppbdaaGreatDoor.Print
open RowKit Af BI BM
attribute [local go_sem] Ck Cm DC DD CW CX Cn Co
set_option linter.unusedVariables false
set_option linter.unusedSimpArgs false
def D9.f (a0:Int) (a1:Bool):Option (Bool):=if a0>=97 then (if a0<=122 then (some true) else (if a0>=48 then (if a0<=57 then (some true) else (if a0=45 then (some (!a1)) else (some false))) else (if a0=45 then (some (!a1)) else (some false)))) else (if a0>=48 then (if a0<=57 then (some true) else (if a0=45 then (some (!a1)) else (some false))) else (if a0=45 then (some (!a1)) else (some false)))
set_option maxHeartbeats 8000000 in
set_option maxRecDepth 100000 in
theorem D9.calls (a0:Int) (a1:Bool) (r:Bool) (w:World) (h:D9.f a0 a1=some r):
 Calls Tryz.prog 69 #[.int .u8 a0, .bool a1] w λe w'=>e= .returned (.bool r)/\BA w w':=by
 have H:(if a0>=97 then (if a0<=122 then (some true) else (if a0>=48 then (if a0<=57 then (some true) else (if a0=45 then (some (!a1)) else (some false))) else (if a0=45 then (some (!a1)) else (some false)))) else (if a0>=48 then (if a0<=57 then (some true) else (if a0=45 then (some (!a1)) else (some false))) else (if a0=45 then (some (!a1)) else (some false))))=some r:=h;clear h;by_cases c3:a0>=97
 ·rw [if_pos c3] at H;have c3b0:decide (97<=a0)=true:=decide_eq_true c3;clear c3;by_cases c4:a0<=122
  ·rw [if_pos c4] at H;have c4b0:decide (a0<=122)=true:=decide_eq_true c4;clear c4;obtain rfl:=Option.some.inj H;go_enter Tryz.func69,Tryz.ntmps69;go_wp2;go_ret;exact ⟨xq,xd⟩
  ·rw [if_neg c4] at H;have c4b0:decide (a0<=122)=false:=decide_eq_false c4;clear c4;by_cases c5:a0>=48
   ·rw [if_pos c5] at H;have c5b0:decide (48<=a0)=true:=decide_eq_true c5;clear c5;by_cases c6:a0<=57
    ·rw [if_pos c6] at H;have c6b0:decide (a0<=57)=true:=decide_eq_true c6;clear c6;obtain rfl:=Option.some.inj H;go_enter Tryz.func69,Tryz.ntmps69;go_wp2;go_ret;exact ⟨xq,xd⟩
    ·rw [if_neg c6] at H;have c6b0:decide (a0<=57)=false:=decide_eq_false c6;clear c6;by_cases c7:a0=45
     ·rw [if_pos c7] at H;have c7b0:(a0==45)=true:=beq_iff_eq.mpr c7;have c7b1:(a0 != 45)=false:=bne_eq_false_iff_eq.mpr c7;clear c7;obtain rfl:=Option.some.inj H;go_enter Tryz.func69,Tryz.ntmps69;go_wp2;go_ret;exact ⟨xq,xd⟩
     ·rw [if_neg c7] at H;have c7b0:(a0==45)=false:=beq_eq_false_iff_ne.mpr c7;have c7b1:(a0 != 45)=true:=bne_iff_ne.mpr c7;obtain rfl:=Option.some.inj H;go_enter Tryz.func69,Tryz.ntmps69;go_wp2;go_ret;exact ⟨xq,xd⟩
   ·rw [if_neg c5] at H;have c5b0:decide (48<=a0)=false:=decide_eq_false c5;clear c5;by_cases c8:a0=45
    ·rw [if_pos c8] at H;have c8b0:(a0==45)=true:=beq_iff_eq.mpr c8;have c8b1:(a0 != 45)=false:=bne_eq_false_iff_eq.mpr c8;clear c8;obtain rfl:=Option.some.inj H;go_enter Tryz.func69,Tryz.ntmps69;go_wp2;go_ret;exact ⟨xq,xd⟩
    ·rw [if_neg c8] at H;have c8b0:(a0==45)=false:=beq_eq_false_iff_ne.mpr c8;have c8b1:(a0 != 45)=true:=bne_iff_ne.mpr c8;obtain rfl:=Option.some.inj H;go_enter Tryz.func69,Tryz.ntmps69;go_wp2;go_ret;exact ⟨xq,xd⟩
 ·rw [if_neg c3] at H;have c3b0:decide (97<=a0)=false:=decide_eq_false c3;clear c3;by_cases c9:a0>=48
  ·rw [if_pos c9] at H;have c9b0:decide (48<=a0)=true:=decide_eq_true c9;clear c9;by_cases c10:a0<=57
   ·rw [if_pos c10] at H;have c10b0:decide (a0<=57)=true:=decide_eq_true c10;clear c10;obtain rfl:=Option.some.inj H;go_enter Tryz.func69,Tryz.ntmps69;go_wp2;go_ret;exact ⟨xq,xd⟩
   ·rw [if_neg c10] at H;have c10b0:decide (a0<=57)=false:=decide_eq_false c10;clear c10;by_cases c11:a0=45
    ·rw [if_pos c11] at H;have c11b0:(a0==45)=true:=beq_iff_eq.mpr c11;have c11b1:(a0 != 45)=false:=bne_eq_false_iff_eq.mpr c11;clear c11;obtain rfl:=Option.some.inj H;go_enter Tryz.func69,Tryz.ntmps69;go_wp2;go_ret;exact ⟨xq,xd⟩
    ·rw [if_neg c11] at H;have c11b0:(a0==45)=false:=beq_eq_false_iff_ne.mpr c11;have c11b1:(a0 != 45)=true:=bne_iff_ne.mpr c11;obtain rfl:=Option.some.inj H;go_enter Tryz.func69,Tryz.ntmps69;go_wp2;go_ret;exact ⟨xq,xd⟩
  ·rw [if_neg c9] at H;have c9b0:decide (48<=a0)=false:=decide_eq_false c9;clear c9;by_cases c12:a0=45
   ·rw [if_pos c12] at H;have c12b0:(a0==45)=true:=beq_iff_eq.mpr c12;have c12b1:(a0 != 45)=false:=bne_eq_false_iff_eq.mpr c12;clear c12;obtain rfl:=Option.some.inj H;go_enter Tryz.func69,Tryz.ntmps69;go_wp2;go_ret;exact ⟨xq,xd⟩
   ·rw [if_neg c12] at H;have c12b0:(a0==45)=false:=beq_eq_false_iff_ne.mpr c12;have c12b1:(a0 != 45)=true:=bne_iff_ne.mpr c12;obtain rfl:=Option.some.inj H;go_enter Tryz.func69,Tryz.ntmps69;go_wp2;go_ret;exact ⟨xq,xd⟩
mutual
def Am.l0:Nat->List ByteArray->Int->Int->Option (Bool)
 |0,_,_,_=>none
 |k+1,x6,x7,x8=>if x8<x7 then (if 0<=x8 then (if x8<(x6.length:Int) then (if ((CY ByteArray.empty x6 x8).size:Int)<1 then (Am.j1 k (CY ByteArray.empty x6 x8) x6 x7 x8 true) else (Am.j1 k (CY ByteArray.empty x6 x8) x6 x7 x8 (decide (((CY ByteArray.empty x6 x8).size:Int)>63)))) else (none)) else (none)) else (some true)
def Am.j1:Nat->ByteArray->List ByteArray->Int->Int->Bool->Option (Bool)
 |0,_,_,_,_,_=>none
 |k+1,x4,x6,x7,x8,x19=>if x19=true then (some false) else (Am.l1 k x4 x6 x7 x8 (x4.size:Int) 0)
def Am.l1:Nat->ByteArray->List ByteArray->Int->Int->Int->Int->Option (Bool)
 |0,_,_,_,_,_,_=>none
 |k+1,x4,x6,x7,x8,x21,x22=>if x22<x21 then (if 0<=x22 then (if x22<(x4.size:Int) then (if x22=0 then ((D9.f (bt x4 x22) true).bind λt102=>(if t102=true then (Am.l1 k x4 x6 x7 x8 x21 (wrap64 (x22+1))) else (some false))) else ((D9.f (bt x4 x22) (x22==(wrap64 ((x4.size:Int) - 1)))).bind λt103=>(if t103=true then (Am.l1 k x4 x6 x7 x8 x21 (wrap64 (x22+1))) else (some false)))) else (none)) else (none)) else (Am.l0 k x6 x7 (wrap64 (x8+1)))
end
def Am.f (k:Nat) (l0:List ByteArray):Option (Bool):=Am.l0 k l0 (l0.length:Int) 0
theorem Am.Da:∀ k,(∀ y0 y1 y2,Bu (Am.l0 k y0 y1 y2) (Am.l0 (k+1) y0 y1 y2))/\(∀ y0 y1 y2 y3 y4,Bu (Am.j1 k y0 y1 y2 y3 y4) (Am.j1 (k+1) y0 y1 y2 y3 y4))/\(∀ y0 y1 y2 y3 y4 y5,Bu (Am.l1 k y0 y1 y2 y3 y4 y5) (Am.l1 (k+1) y0 y1 y2 y3 y4 y5))
 |0=>⟨λ_ _ _ r h=>by simp [Am.l0] at h,λ_ _ _ _ _ r h=>by simp [Am.j1] at h,λ_ _ _ _ _ _ r h=>by simp [Am.l1] at h⟩
 |k+1=>by
  obtain ⟨ih0,ih1,ih2⟩:=Am.Da k;refine ⟨?_,?_,?_⟩
  ·intro y0 y1 y2;unfold Am.l0;repeat' first|(with_reducible first|exact ih0 _ _ _|exact ih1 _ _ _ _ _|exact ih2 _ _ _ _ _ _|exact Bu.refl _|exact Bu.none _|refine Bu.ite ?_ ?_|refine Bu.bind ?_ (λ_=>?_))|exact ih0 _ _ _|exact ih1 _ _ _ _ _|exact ih2 _ _ _ _ _ _|exact Bu.none _|refine Bu.ite ?_ ?_|refine Bu.bind ?_ (λ_=>?_)
  ·intro y0 y1 y2 y3 y4;unfold Am.j1;repeat' first|(with_reducible first|exact ih0 _ _ _|exact ih1 _ _ _ _ _|exact ih2 _ _ _ _ _ _|exact Bu.refl _|exact Bu.none _|refine Bu.ite ?_ ?_|refine Bu.bind ?_ (λ_=>?_))|exact ih0 _ _ _|exact ih1 _ _ _ _ _|exact ih2 _ _ _ _ _ _|exact Bu.none _|refine Bu.ite ?_ ?_|refine Bu.bind ?_ (λ_=>?_)
  ·intro y0 y1 y2 y3 y4 y5;unfold Am.l1;repeat' first|(with_reducible first|exact ih0 _ _ _|exact ih1 _ _ _ _ _|exact ih2 _ _ _ _ _ _|exact Bu.refl _|exact Bu.none _|refine Bu.ite ?_ ?_|refine Bu.bind ?_ (λ_=>?_))|exact ih0 _ _ _|exact ih1 _ _ _ _ _|exact ih2 _ _ _ _ _ _|exact Bu.none _|refine Bu.ite ?_ ?_|refine Bu.bind ?_ (λ_=>?_)
theorem Am.mono:∀ a0 k,Bu (Am.f k a0) (Am.f (k+1) a0):=by
 intro a0 k;obtain ⟨ih0,ih1,ih2⟩:=Am.Da k;unfold Am.f;repeat' first|(with_reducible first|exact ih0 _ _ _|exact ih1 _ _ _ _ _|exact ih2 _ _ _ _ _ _|exact Bu.refl _|exact Bu.none _|refine Bu.ite ?_ ?_|refine Bu.bind ?_ (λ_=>?_))|exact ih0 _ _ _|exact ih1 _ _ _ _ _|exact ih2 _ _ _ _ _ _|exact Bu.none _|refine Bu.ite ?_ ?_|refine Bu.bind ?_ (λ_=>?_)
set_option maxHeartbeats 8000000 in
set_option maxRecDepth 100000 in
theorem Am.calls (k:Nat) (A0:Option Addr) (c0:Nat) (l0:List ByteArray) (r:Bool) (w:World) (hr0:Kd.C Kd.string w A0 l0.length l0) (hc0:l0.length<=c0) (h:Am.f k l0=some r):
 Calls Tryz.prog 50 #[.slice A0 l0.length c0] w λe w'=>e= .returned (.bool r)/\BA w w':=by
 have HR0:=AA.mk hr0;have HC0:=AA.mk hc0;clear hr0 hc0;have H:(Am.l0 k l0 (l0.length:Int) 0)=some r:=h;clear h;have H':=AA.mk H;clear H;go_enter Tryz.func50,Tryz.ntmps50;go_wp2;go_loopg [8] k (λkq v8 w'=>∃ (x8_1:Int),v8= .int .i64 x8_1/\AA (Am.l0 kq l0 (l0.length:Int) x8_1=some r)/\AA (kq<=k)/\BA w w');case atStart=>exact ⟨(0),xq,H',⟨Nat.le_refl _⟩,xd⟩
 case round=>
  clear H';obtain ⟨x8_1,rfl,HA,HK1,⟨m1,rfl⟩⟩:=hrel;cases gk with
  |zero=>exact absurd HA.out (by simp [Am.l0])
  |succ k1=>
   have H:=HA.out;clear HA;simp only [Am.l0] at H;by_cases c2:x8_1<(l0.length:Int)
   ·rw [if_pos c2] at H;have c2b0:decide (x8_1<(l0.length:Int))=true:=decide_eq_true c2;clear c2;by_cases c3:0<=x8_1
    ·rw [if_pos c3] at H;have c3b0:decide (0<=x8_1)=true:=decide_eq_true c3;clear c3;by_cases c4:x8_1<(l0.length:Int)
     ·rw [if_pos c4] at H;have c4b0:decide (x8_1<(l0.length:Int))=true:=decide_eq_true c4;clear c4;have HC5:=AA.mk H;clear H;have p101:0<=(x8_1:Int):=xa;have q101:x8_1<(l0.length:Int):=xa;obtain ⟨ad101,e101,hx101_0⟩:=Kd.DU HR0.out x8_1 p101 q101;cases e101;replace p101:=eq_true p101;replace q101:=eq_true q101;go_upto_region 4 with (fail)
      go_cut [19] (λv19 wc=>∃ (kq:Nat) (x19_4:Bool),v19= .bool x19_4/\AA (Am.j1 kq (CY ByteArray.empty l0 x8_1) l0 (l0.length:Int) x8_1 x19_4=some r)/\AA (kq<=k1)/\BA w wc);case first=>
       have H:=HC5.out;clear HC5;by_cases c6:((CY ByteArray.empty l0 x8_1).size:Int)<1
       ·rw [if_pos c6] at H;have c6b0:decide (((CY ByteArray.empty l0 x8_1).size:Int)<1)=true:=decide_eq_true c6;have c6b1:decide ((CY ByteArray.empty l0 x8_1).size<1)=true:=decide_eq_true (by omega);clear c6;(first|rw [c6b0]|(simp only [Cq,Cx];rw [c6b0])|skip);have H':=AA.mk H;clear H;go_wp2;go_meet;case rel=>exact ⟨_,(true),xq,H',⟨by have:=HK1.out;first|omega|exact Nat.le_refl _⟩,xd⟩
       ·rw [if_neg c6] at H;have c6b0:decide (((CY ByteArray.empty l0 x8_1).size:Int)<1)=false:=decide_eq_false c6;have c6b1:decide ((CY ByteArray.empty l0 x8_1).size<1)=false:=decide_eq_false (by omega);clear c6;(first|rw [c6b0]|(simp only [Cq,Cx];rw [c6b0])|skip);have H':=AA.mk H;clear H;go_wp2;go_meet;case rel=>exact ⟨_,(decide (((CY ByteArray.empty l0 x8_1).size:Int)>63)),xq,H',⟨by have:=HK1.out;first|omega|exact Nat.le_refl _⟩,xd⟩
      case rest=>
       clear HC5;try clear p1
       try clear q1
       try clear hx1
       try clear c2
       try clear c2b0
       try clear p2
       try clear c3
       try clear c3b0
       try clear c4
       try clear c4b0
       try clear c5
       try clear c6
       try clear c6b0
       try clear c6b1
       try clear hx101_0
       try clear p101
       try clear q101
       obtain ⟨kq,x19_4,rfl,HA,HJ4,⟨mc4,rfl⟩⟩:=hcut;cases kq with
       |zero=>exact absurd HA.out (by simp [Am.j1])
       |succ kj4=>
        have H:=HA.out;clear HA;simp only [Am.j1] at H;by_cases c7:x19_4=true
        ·subst c7;have H1:(some false)=some r:=by rw [if_pos rfl] at H;exact H
         clear H;have H:=H1;clear H1;obtain rfl:=Option.some.inj H;go_wp2;go_ret;exact ⟨xq,xd⟩
        ·replace c7:=Bool.eq_false_iff.mpr c7;subst c7;have H1:(Am.l1 kj4 (CY ByteArray.empty l0 x8_1) l0 (l0.length:Int) x8_1 ((CY ByteArray.empty l0 x8_1).size:Int) 0)=some r:=by rw [if_neg (show ¬(false=true) by decide)] at H;exact H
         clear H;have H:=H1;clear H1;have H':=AA.mk H;clear H;go_wp2;go_loopg [22] kj4 (λkq v22 w'=>∃ (x22_3:Int),v22= .int .i64 x22_3/\AA (Am.l1 kq (CY ByteArray.empty l0 x8_1) l0 (l0.length:Int) x8_1 ((CY ByteArray.empty l0 x8_1).size:Int) x22_3=some r)/\AA (kq<=kj4)/\BA w w');case atStart=>exact ⟨(0),xq,H',⟨Nat.le_refl _⟩,xd⟩
         case round=>
          clear H';try clear p1
          try clear q1
          try clear hx1
          try clear c2
          try clear c2b0
          try clear p2
          try clear c3
          try clear c3b0
          try clear c4
          try clear c4b0
          try clear c5
          try clear c6
          try clear c6b0
          try clear c6b1
          try clear c7
          try clear hx101_0
          try clear p1
          try clear p101
          try clear p2
          try clear q1
          try clear q101
          obtain ⟨x22_3,rfl,HA,HK3,⟨m3,rfl⟩⟩:=hrel;cases gk with
          |zero=>exact absurd HA.out (by simp [Am.l1])
          |succ k3=>
           have H:=HA.out;clear HA;simp only [Am.l1] at H;by_cases c8:x22_3<((CY ByteArray.empty l0 x8_1).size:Int)
           ·rw [if_pos c8] at H;have c8b0:decide (x22_3<((CY ByteArray.empty l0 x8_1).size:Int))=true:=decide_eq_true c8;clear c8;by_cases c9:0<=x22_3
            ·rw [if_pos c9] at H;have c9b0:decide (0<=x22_3)=true:=decide_eq_true c9;clear c9;by_cases c10:x22_3<((CY ByteArray.empty l0 x8_1).size:Int)
             ·rw [if_pos c10] at H;have c10b0:decide (x22_3<((CY ByteArray.empty l0 x8_1).size:Int))=true:=decide_eq_true c10;clear c10;by_cases c12:x22_3=0
              ·rw [if_pos c12] at H;have c12b0:(x22_3==0)=true:=beq_iff_eq.mpr c12;have c12b1:(x22_3 != 0)=false:=bne_eq_false_iff_eq.mpr c12;clear c12;replace H:=Option.bind_eq_some_iff.mp H;obtain ⟨t102,A130,H⟩:=H;replace H:(if t102=true then (Am.l1 k3 (CY ByteArray.empty l0 x8_1) l0 (l0.length:Int) x8_1 ((CY ByteArray.empty l0 x8_1).size:Int) (wrap64 (x22_3+1))) else (some false))=some r:=H;have A13:=AA.mk A130;clear A130;by_cases c14:t102=true
               ·subst c14;rw [if_pos rfl] at H;have H':=AA.mk H;clear H;have p11:0<=(x22_3:Int):=xa;have q11:x22_3<((CY ByteArray.empty l0 x8_1).size:Int):=xa;have hx11:=Bl (CY ByteArray.empty l0 x8_1) x22_3;replace p11:=eq_true p11;replace q11:=eq_true q11;go_wp2_with (first|((with_reducible refine AP (f:=69) rfl ?_);refine Aj (some 37) rfl rfl Tryz.func69 (by kernel_rfl) rfl #[.int .u8 (bt (CY ByteArray.empty l0 x8_1) x22_3), .bool true] rfl xg ?_;(with_reducible refine (D9.calls (bt (CY ByteArray.empty l0 x8_1) x22_3) true true _ A13.out).mono ?_);rintro e w' ⟨rfl,⟨nd,rfl⟩⟩;refine ⟨_,rfl,?_⟩));go_roundg k3;case measure=>have:=HK1.out;have:=HJ4.out;have:=HK3.out;omega
                case rel=>exact ⟨(wrap64 (x22_3+1)),xq,H',⟨by have:=HK1.out;have:=HJ4.out;have:=HK3.out;omega⟩,xd⟩
               ·replace c14:=Bool.eq_false_iff.mpr c14;subst c14;have H1:(some false)=some r:=by rw [if_neg (show ¬(false=true) by decide)] at H;exact H
                clear H;have H:=H1;clear H1;obtain rfl:=Option.some.inj H;have p11:0<=(x22_3:Int):=xa;have q11:x22_3<((CY ByteArray.empty l0 x8_1).size:Int):=xa;have hx11:=Bl (CY ByteArray.empty l0 x8_1) x22_3;replace p11:=eq_true p11;replace q11:=eq_true q11;go_wp2_with (first|((with_reducible refine AP (f:=69) rfl ?_);refine Aj (some 37) rfl rfl Tryz.func69 (by kernel_rfl) rfl #[.int .u8 (bt (CY ByteArray.empty l0 x8_1) x22_3), .bool true] rfl xg ?_;(with_reducible refine (D9.calls (bt (CY ByteArray.empty l0 x8_1) x22_3) true false _ A13.out).mono ?_);rintro e w' ⟨rfl,⟨nd,rfl⟩⟩;refine ⟨_,rfl,?_⟩));go_ret;exact ⟨xq,xd⟩
              ·rw [if_neg c12] at H;have c12b0:(x22_3==0)=false:=beq_eq_false_iff_ne.mpr c12;have c12b1:(x22_3 != 0)=true:=bne_iff_ne.mpr c12;replace H:=Option.bind_eq_some_iff.mp H;obtain ⟨t103,A150,H⟩:=H;replace H:(if t103=true then (Am.l1 k3 (CY ByteArray.empty l0 x8_1) l0 (l0.length:Int) x8_1 ((CY ByteArray.empty l0 x8_1).size:Int) (wrap64 (x22_3+1))) else (some false))=some r:=H;have A15:=AA.mk A150;clear A150;by_cases c16:t103=true
               ·subst c16;rw [if_pos rfl] at H;have H':=AA.mk H;clear H;have p11:0<=(x22_3:Int):=xa;have q11:x22_3<((CY ByteArray.empty l0 x8_1).size:Int):=xa;have hx11:=Bl (CY ByteArray.empty l0 x8_1) x22_3;replace p11:=eq_true p11;replace q11:=eq_true q11;go_wp2_with (first|((with_reducible refine AP (f:=69) rfl ?_);refine Aj (some 37) rfl rfl Tryz.func69 (by kernel_rfl) rfl #[.int .u8 (bt (CY ByteArray.empty l0 x8_1) x22_3), .bool (x22_3==(wrap64 (((CY ByteArray.empty l0 x8_1).size:Int) - 1)))] rfl xg ?_;(with_reducible refine (D9.calls (bt (CY ByteArray.empty l0 x8_1) x22_3) (x22_3==(wrap64 (((CY ByteArray.empty l0 x8_1).size:Int) - 1))) true _ A15.out).mono ?_);rintro e w' ⟨rfl,⟨nd,rfl⟩⟩;refine ⟨_,rfl,?_⟩));go_roundg k3;case measure=>have:=HK1.out;have:=HJ4.out;have:=HK3.out;omega
                case rel=>exact ⟨(wrap64 (x22_3+1)),xq,H',⟨by have:=HK1.out;have:=HJ4.out;have:=HK3.out;omega⟩,xd⟩
               ·replace c16:=Bool.eq_false_iff.mpr c16;subst c16;have H1:(some false)=some r:=by rw [if_neg (show ¬(false=true) by decide)] at H;exact H
                clear H;have H:=H1;clear H1;obtain rfl:=Option.some.inj H;have p11:0<=(x22_3:Int):=xa;have q11:x22_3<((CY ByteArray.empty l0 x8_1).size:Int):=xa;have hx11:=Bl (CY ByteArray.empty l0 x8_1) x22_3;replace p11:=eq_true p11;replace q11:=eq_true q11;go_wp2_with (first|((with_reducible refine AP (f:=69) rfl ?_);refine Aj (some 37) rfl rfl Tryz.func69 (by kernel_rfl) rfl #[.int .u8 (bt (CY ByteArray.empty l0 x8_1) x22_3), .bool (x22_3==(wrap64 (((CY ByteArray.empty l0 x8_1).size:Int) - 1)))] rfl xg ?_;(with_reducible refine (D9.calls (bt (CY ByteArray.empty l0 x8_1) x22_3) (x22_3==(wrap64 (((CY ByteArray.empty l0 x8_1).size:Int) - 1))) false _ A15.out).mono ?_);rintro e w' ⟨rfl,⟨nd,rfl⟩⟩;refine ⟨_,rfl,?_⟩));go_ret;exact ⟨xq,xd⟩
             ·rw [if_neg c10] at H;exact absurd H (by simp)
            ·rw [if_neg c9] at H;exact absurd H (by simp)
           ·rw [if_neg c8] at H;have c8b0:decide (x22_3<((CY ByteArray.empty l0 x8_1).size:Int))=false:=decide_eq_false c8;clear c8;have H':=AA.mk H;clear H;go_wp2;go_roundg k3;case measure=>have:=HK1.out;have:=HJ4.out;have:=HK3.out;omega
            case rel=>exact ⟨(wrap64 (x8_1+1)),xq,H',⟨by have:=HK1.out;have:=HJ4.out;have:=HK3.out;omega⟩,xd⟩
     ·rw [if_neg c4] at H;exact absurd H (by simp)
    ·rw [if_neg c3] at H;exact absurd H (by simp)
   ·rw [if_neg c2] at H;have c2b0:decide (x8_1<(l0.length:Int))=false:=decide_eq_false c2;clear c2;obtain rfl:=Option.some.inj H;go_wp2;go_ret;exact ⟨xq,xd⟩
def Cj.f (k:Nat) (a0:ByteArray):Option (ByteArray×Bool):=if (a0.size:Int)>64 then (some ((⟨#[]⟩:ByteArray),false)) else ((Dh.f a0).bind λt104=>((strings_Split.f t104 (⟨#[46]⟩:ByteArray)).bind λt105=>((Am.f k t105).bind λt108=>(if t108=true then (some (t104,true)) else (some ((⟨#[]⟩:ByteArray),false))))))
theorem Cj.mono:∀ a0 k,Bu (Cj.f k a0) (Cj.f (k+1) a0):=by
 intro a0 k;unfold Cj.f;repeat' first|(with_reducible first|exact Am.mono _ _|exact Bu.refl _|exact Bu.none _|refine Bu.ite ?_ ?_|refine Bu.bind ?_ (λ_=>?_))|exact Am.mono _ _|exact Bu.none _|refine Bu.ite ?_ ?_|refine Bu.bind ?_ (λ_=>?_)
set_option maxHeartbeats 8000000 in
set_option maxRecDepth 100000 in
theorem Cj.calls (k:Nat) (a0:ByteArray) (r1:ByteArray) (r2:Bool) (w:World) (hG:AA (DT w)) (h:Cj.f k a0=some (r1,r2)):
 Calls Tryz.prog 32 #[.string a0] w λe w'=>e= .returned (.tuple #[.string r1, .bool r2])/\Below w.heap.size w w':=by
 have HB:=AA.mk (Below.refl w.heap.size w);have H:(if (a0.size:Int)>64 then (some ((⟨#[]⟩:ByteArray),false)) else ((Dh.f a0).bind λt104=>((strings_Split.f t104 (⟨#[46]⟩:ByteArray)).bind λt105=>((Am.f k t105).bind λt108=>(if t108=true then (some (t104,true)) else (some ((⟨#[]⟩:ByteArray),false)))))))=some (r1,r2):=h;clear h;by_cases c2:(a0.size:Int)>64
 ·rw [if_pos c2] at H;have c2b0:decide (64<(a0.size:Int))=true:=decide_eq_true c2;have c2b1:decide (64<a0.size)=true:=decide_eq_true (by omega);clear c2;simp only [Option.some.injEq,Prod.mk.injEq] at H;obtain ⟨rfl,rfl⟩:=H;go_enter Tryz.func32,Tryz.ntmps32;go_wp2;go_ret2;exact ⟨xe,xb⟩
 ·rw [if_neg c2] at H;have c2b0:decide (64<(a0.size:Int))=false:=decide_eq_false c2;have c2b1:decide (64<a0.size)=false:=decide_eq_false (by omega);clear c2;replace H:=Option.bind_eq_some_iff.mp H;obtain ⟨t104,A30,H⟩:=H;replace H:((strings_Split.f t104 (⟨#[46]⟩:ByteArray)).bind λt105=>((Am.f k t105).bind λt108=>(if t108=true then (some (t104,true)) else (some ((⟨#[]⟩:ByteArray),false)))))=some (r1,r2):=H;have A3:=AA.mk A30;clear A30;replace H:=Option.bind_eq_some_iff.mp H;obtain ⟨t105,A40,H⟩:=H;try dsimp only at H
  have A4:=AA.mk A40;clear A40;replace H:=Option.bind_eq_some_iff.mp H;obtain ⟨t108,A50,H⟩:=H;try dsimp only at H
  have A5:=AA.mk A50;clear A50;by_cases c6:t108=true
  ·subst c6;rw [if_pos rfl] at H;simp only [Option.some.injEq,Prod.mk.injEq] at H;obtain ⟨rfl,rfl⟩:=H;go_enter Tryz.func32,Tryz.ntmps32;go_wp2_with (first|((with_reducible refine AP (f:=49) rfl ?_);refine Aj (some 8) rfl rfl Tryz.func49 (by kernel_rfl) rfl #[.string a0] rfl xg ?_;(with_reducible refine (Dh.calls a0 t104 _ A3.out).mono ?_);rintro e w7 ⟨rfl,hb⟩;refine ⟨_,rfl,?_⟩;replace HB:=AA.mk (AL xb hb);(try clear hb))|((with_reducible refine AP (f:=51) rfl ?_);refine Aj (some 10) rfl rfl Tryz.func51 (by kernel_rfl) rfl #[.string t104, .string (⟨#[46]⟩:ByteArray)] rfl xg ?_;(with_reducible refine (strings_Split.calls t104 (⟨#[46]⟩:ByteArray) t105 _ xl A4.out).mono ?_);rintro e w8 ⟨v106,rfl,ho0,hb⟩;refine ⟨_,rfl,?_⟩;have HO107:=AA.mk (Kd.Bv ho0 (Av xb));replace HB:=AA.mk (AL xb hb);(try clear hb);(try clear ho0);obtain ⟨Ao9,co9,eo9⟩:=Kd.Bf HO107.out;subst eo9)|((with_reducible refine AP (f:=50) rfl ?_);refine Aj (some 11) rfl rfl Tryz.func50 (by kernel_rfl) rfl #[.slice Ao9 t105.length co9] rfl xg ?_;(with_reducible refine (Am.calls k _ _ t105 true _ ?side1 ?side2 A5.out).mono ?_);(case side1=>repeat (first|exact (Kd.Ap HO107.out).2.2|(with_reducible refine Kd.Bo ?_ _)|(with_reducible refine Kd.Bp ?_ _)|(with_reducible refine Kd.CO ?_)));(case side2=>exact (Kd.Ap HO107.out).2.1);rintro e w' ⟨rfl,⟨nd,rfl⟩⟩;refine ⟨_,rfl,?_⟩));go_ret2;exact ⟨xe,xb⟩
  ·replace c6:=Bool.eq_false_iff.mpr c6;subst c6;have H1:(some ((⟨#[]⟩:ByteArray),false))=some (r1,r2):=by rw [if_neg (show ¬(false=true) by decide)] at H;exact H
   clear H;have H:=H1;clear H1;simp only [Option.some.injEq,Prod.mk.injEq] at H;obtain ⟨rfl,rfl⟩:=H;go_enter Tryz.func32,Tryz.ntmps32;go_wp2_with (first|((with_reducible refine AP (f:=49) rfl ?_);refine Aj (some 8) rfl rfl Tryz.func49 (by kernel_rfl) rfl #[.string a0] rfl xg ?_;(with_reducible refine (Dh.calls a0 t104 _ A3.out).mono ?_);rintro e w10 ⟨rfl,hb⟩;refine ⟨_,rfl,?_⟩;replace HB:=AA.mk (AL xb hb);(try clear hb))|((with_reducible refine AP (f:=51) rfl ?_);refine Aj (some 10) rfl rfl Tryz.func51 (by kernel_rfl) rfl #[.string t104, .string (⟨#[46]⟩:ByteArray)] rfl xg ?_;(with_reducible refine (strings_Split.calls t104 (⟨#[46]⟩:ByteArray) t105 _ xl A4.out).mono ?_);rintro e w11 ⟨v106,rfl,ho0,hb⟩;refine ⟨_,rfl,?_⟩;have HO107:=AA.mk (Kd.Bv ho0 (Av xb));replace HB:=AA.mk (AL xb hb);(try clear hb);(try clear ho0);obtain ⟨Ao12,co12,eo12⟩:=Kd.Bf HO107.out;subst eo12)|((with_reducible refine AP (f:=50) rfl ?_);refine Aj (some 11) rfl rfl Tryz.func50 (by kernel_rfl) rfl #[.slice Ao12 t105.length co12] rfl xg ?_;(with_reducible refine (Am.calls k _ _ t105 false _ ?side1 ?side2 A5.out).mono ?_);(case side1=>repeat (first|exact (Kd.Ap HO107.out).2.2|(with_reducible refine Kd.Bo ?_ _)|(with_reducible refine Kd.Bp ?_ _)|(with_reducible refine Kd.CO ?_)));(case side2=>exact (Kd.Ap HO107.out).2.1);rintro e w' ⟨rfl,⟨nd,rfl⟩⟩;refine ⟨_,rfl,?_⟩));go_ret2;exact ⟨xe,xb⟩
def CL.l0:Nat->List ByteArray->List ByteArray->Int->Int->Option (Bool)
 |0,_,_,_,_=>none
 |k+1,x3,x10,x11,x12=>if x12<x11 then (if 0<=x12 then (if x12<(x10.length:Int) then ((FM.f (CY ByteArray.empty x10 x12)).bind λbt113=>(if bt113.2=true then (if bt113.1<0 then (some false) else (if bt113.1>255 then (some false) else (CL.l0 k x3 x10 x11 (wrap64 (x12+1))))) else (some false))) else (none)) else (none)) else (some ((x3.length:Int)==4))
def CL.f (k:Nat) (a0:ByteArray):Option (Bool):=(strings_Split.f a0 (⟨#[46]⟩:ByteArray)).bind λt109=>(CL.l0 k t109 t109 (t109.length:Int) 0)
theorem CL.Da:∀ k,(∀ y0 y1 y2 y3,Bu (CL.l0 k y0 y1 y2 y3) (CL.l0 (k+1) y0 y1 y2 y3))
 |0=>λ_ _ _ _ r h=>by simp [CL.l0] at h
 |k+1=>by
  have ih0:=CL.Da k
  ·intro y0 y1 y2 y3;unfold CL.l0;repeat' first|(with_reducible first|exact ih0 _ _ _ _|exact Bu.refl _|exact Bu.none _|refine Bu.ite ?_ ?_|refine Bu.bind ?_ (λ_=>?_))|exact ih0 _ _ _ _|exact Bu.none _|refine Bu.ite ?_ ?_|refine Bu.bind ?_ (λ_=>?_)
theorem CL.mono:∀ a0 k,Bu (CL.f k a0) (CL.f (k+1) a0):=by
 intro a0 k;have ih0:=CL.Da k;unfold CL.f;repeat' first|(with_reducible first|exact ih0 _ _ _ _|exact Bu.refl _|exact Bu.none _|refine Bu.ite ?_ ?_|refine Bu.bind ?_ (λ_=>?_))|exact ih0 _ _ _ _|exact Bu.none _|refine Bu.ite ?_ ?_|refine Bu.bind ?_ (λ_=>?_)
set_option maxHeartbeats 8000000 in
set_option maxRecDepth 100000 in
theorem CL.calls (k:Nat) (a0:ByteArray) (r:Bool) (w:World) (hG:AA (DT w)) (h:CL.f k a0=some r):
 Calls Tryz.prog 33 #[.string a0] w λe w'=>e= .returned (.bool r)/\Below w.heap.size w w':=by
 have HB:=AA.mk (Below.refl w.heap.size w);have H:((strings_Split.f a0 (⟨#[46]⟩:ByteArray)).bind λt109=>(CL.l0 k t109 t109 (t109.length:Int) 0))=some r:=h;clear h;replace H:=Option.bind_eq_some_iff.mp H;obtain ⟨t109,A20,H⟩:=H;try dsimp only at H
 have A2:=AA.mk A20;clear A20;have H':=AA.mk H;clear H;go_enter Tryz.func33,Tryz.ntmps33;go_wp2_with (first|((with_reducible refine AP (f:=51) rfl ?_);refine Aj (some 9) rfl rfl Tryz.func51 (by kernel_rfl) rfl #[.string a0, .string (⟨#[46]⟩:ByteArray)] rfl xg ?_;(with_reducible refine (strings_Split.calls a0 (⟨#[46]⟩:ByteArray) t109 _ xl A2.out).mono ?_);rintro e w3 ⟨v110,rfl,ho0,hb⟩;refine ⟨_,rfl,?_⟩;have HO111:=AA.mk (Kd.Bv ho0 (Av xb));replace HB:=AA.mk (AL xb hb);(try clear hb);(try clear ho0);obtain ⟨Ao4,co4,eo4⟩:=Kd.Bf HO111.out;subst eo4));go_loopg [12] k (λkq v12 w'=>∃ (x12_1:Int),v12= .int .i64 x12_1/\AA (CL.l0 kq t109 t109 (t109.length:Int) x12_1=some r)/\AA (kq<=k)/\AA (Kd.R Kd.string 9 w' w.heap.size (λ_=>True) (.slice Ao4 t109.length co4) t109)/\AA (Kd.R Kd.string 9 w' w.heap.size (λ_=>True) (.slice Ao4 t109.length co4) t109)/\AA (Below w.heap.size w w'));case atStart=>exact ⟨(0),xq,H',⟨Nat.le_refl _⟩,⟨by (with_reducible repeat (first|apply Kd.Ar|apply Kd.Au|apply Kd.BB));exact HO111.out⟩,⟨by (with_reducible repeat (first|apply Kd.Ar|apply Kd.Au|apply Kd.BB));exact HO111.out⟩,⟨xb⟩⟩
 case round=>
  clear H';try clear p2
  try clear c3
  try clear p3
  obtain ⟨x12_1,rfl,HA,HK1,HO_3,HO_10,HB⟩:=hrel;cases gk with
  |zero=>exact absurd HA.out (by simp [CL.l0])
  |succ k1=>
   have H:=HA.out;clear HA;simp only [CL.l0] at H;by_cases c5:x12_1<(t109.length:Int)
   ·rw [if_pos c5] at H;have c5b0:decide (x12_1<(t109.length:Int))=true:=decide_eq_true c5;clear c5;by_cases c6:0<=x12_1
    ·rw [if_pos c6] at H;have c6b0:decide (0<=x12_1)=true:=decide_eq_true c6;clear c6;by_cases c7:x12_1<(t109.length:Int)
     ·rw [if_pos c7] at H;have c7b0:decide (x12_1<(t109.length:Int))=true:=decide_eq_true c7;clear c7;replace H:=Option.bind_eq_some_iff.mp H;obtain ⟨⟨t113,t114⟩,A80,H⟩:=H;replace H:(if t114=true then (if t113<0 then (some false) else (if t113>255 then (some false) else (CL.l0 k1 t109 t109 (t109.length:Int) (wrap64 (x12_1+1))))) else (some false))=some r:=H;have A8:=AA.mk A80;clear A80;by_cases c9:t114=true
      ·subst c9;rw [if_pos rfl] at H;by_cases c10:t113<0
       ·rw [if_pos c10] at H;have c10b0:decide (t113<0)=true:=decide_eq_true c10;clear c10;obtain rfl:=Option.some.inj H;have p112:0<=(x12_1:Int):=xa;have q112:x12_1<(t109.length:Int):=xa;obtain ⟨ad112,e112,hx112_0⟩:=Kd.DU (Kd.Ap HO_10.out).2.2 x12_1 p112 q112;cases e112;replace p112:=eq_true p112;replace q112:=eq_true q112;go_wp2_with (first|((with_reducible refine AP (f:=52) rfl ?_);refine Aj (some 18) rfl rfl Tryz.func52 (by kernel_rfl) rfl #[.string (CY ByteArray.empty t109 x12_1)] rfl xg ?_;(with_reducible refine (FM.calls (CY ByteArray.empty t109 x12_1) t113 true _ xl A8.out).mono ?_);rintro e w11 ⟨rfl,hb⟩;refine ⟨_,rfl,?_⟩;replace HO_3:=AA.mk (Kd.Aa (xR HO_3) hb);replace HO_10:=AA.mk (Kd.Aa (xR HO_10) hb);replace HB:=AA.mk (AL xb hb);(try clear hb)));go_ret;exact ⟨xe,xb⟩
       ·rw [if_neg c10] at H;have c10b0:decide (t113<0)=false:=decide_eq_false c10;clear c10;by_cases c12:t113>255
        ·rw [if_pos c12] at H;have c12b0:decide (255<t113)=true:=decide_eq_true c12;clear c12;obtain rfl:=Option.some.inj H;have p112:0<=(x12_1:Int):=xa;have q112:x12_1<(t109.length:Int):=xa;obtain ⟨ad112,e112,hx112_0⟩:=Kd.DU (Kd.Ap HO_10.out).2.2 x12_1 p112 q112;cases e112;replace p112:=eq_true p112;replace q112:=eq_true q112;go_wp2_with (first|((with_reducible refine AP (f:=52) rfl ?_);refine Aj (some 18) rfl rfl Tryz.func52 (by kernel_rfl) rfl #[.string (CY ByteArray.empty t109 x12_1)] rfl xg ?_;(with_reducible refine (FM.calls (CY ByteArray.empty t109 x12_1) t113 true _ xl A8.out).mono ?_);rintro e w13 ⟨rfl,hb⟩;refine ⟨_,rfl,?_⟩;replace HO_3:=AA.mk (Kd.Aa (xR HO_3) hb);replace HO_10:=AA.mk (Kd.Aa (xR HO_10) hb);replace HB:=AA.mk (AL xb hb);(try clear hb)));go_ret;exact ⟨xe,xb⟩
        ·rw [if_neg c12] at H;have c12b0:decide (255<t113)=false:=decide_eq_false c12;clear c12;have H':=AA.mk H;clear H;have p112:0<=(x12_1:Int):=xa;have q112:x12_1<(t109.length:Int):=xa;obtain ⟨ad112,e112,hx112_0⟩:=Kd.DU (Kd.Ap HO_10.out).2.2 x12_1 p112 q112;cases e112;replace p112:=eq_true p112;replace q112:=eq_true q112;go_wp2_with (first|((with_reducible refine AP (f:=52) rfl ?_);refine Aj (some 18) rfl rfl Tryz.func52 (by kernel_rfl) rfl #[.string (CY ByteArray.empty t109 x12_1)] rfl xg ?_;(with_reducible refine (FM.calls (CY ByteArray.empty t109 x12_1) t113 true _ xl A8.out).mono ?_);rintro e w14 ⟨rfl,hb⟩;refine ⟨_,rfl,?_⟩;replace HO_3:=AA.mk (Kd.Aa (xR HO_3) hb);replace HO_10:=AA.mk (Kd.Aa (xR HO_10) hb);replace HB:=AA.mk (AL xb hb);(try clear hb)));go_roundg k1;case measure=>have:=HK1.out;omega
         case rel=>exact ⟨(wrap64 (x12_1+1)),xq,H',⟨by have:=HK1.out;omega⟩,⟨by (with_reducible repeat (first|apply Kd.Ar|apply Kd.Au|apply Kd.BB));exact HO_3.out⟩,⟨by (with_reducible repeat (first|apply Kd.Ar|apply Kd.Au|apply Kd.BB));exact HO_10.out⟩,⟨xb⟩⟩
      ·replace c9:=Bool.eq_false_iff.mpr c9;subst c9;have H1:(some false)=some r:=by rw [if_neg (show ¬(false=true) by decide)] at H;exact H
       clear H;have H:=H1;clear H1;obtain rfl:=Option.some.inj H;have p112:0<=(x12_1:Int):=xa;have q112:x12_1<(t109.length:Int):=xa;obtain ⟨ad112,e112,hx112_0⟩:=Kd.DU (Kd.Ap HO_10.out).2.2 x12_1 p112 q112;cases e112;replace p112:=eq_true p112;replace q112:=eq_true q112;go_wp2_with (first|((with_reducible refine AP (f:=52) rfl ?_);refine Aj (some 18) rfl rfl Tryz.func52 (by kernel_rfl) rfl #[.string (CY ByteArray.empty t109 x12_1)] rfl xg ?_;(with_reducible refine (FM.calls (CY ByteArray.empty t109 x12_1) t113 false _ xl A8.out).mono ?_);rintro e w15 ⟨rfl,hb⟩;refine ⟨_,rfl,?_⟩;replace HO_3:=AA.mk (Kd.Aa (xR HO_3) hb);replace HO_10:=AA.mk (Kd.Aa (xR HO_10) hb);replace HB:=AA.mk (AL xb hb);(try clear hb)));go_ret;exact ⟨xe,xb⟩
     ·rw [if_neg c7] at H;exact absurd H (by simp)
    ·rw [if_neg c6] at H;exact absurd H (by simp)
   ·rw [if_neg c5] at H;have c5b0:decide (x12_1<(t109.length:Int))=false:=decide_eq_false c5;clear c5;obtain rfl:=Option.some.inj H;go_wp2;go_ret;exact ⟨xe,xb⟩
end Go.Proofs.YtccmackhhppbdaaGreatDoor.Print
