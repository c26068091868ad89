/- Several parts of the claim's proof in one text, said short by a program of this session. No condition. -/
import Derived.Test.YtikggnalmidlhaaGreatDoorM11
import Derived.Test.YtikggnalmidlhaaGreatDoorM9
section
namespace Go.Proofs.YtikggnalmidlhaaGreatDoor.Print
open RowKit AR Aa Ad
attribute [local go_sem] BM BN Bo Bp BC BD BO BP
set_option linter.unusedVariables false
set_option linter.unusedSimpArgs false
mutual
def Aj.l0:Nat->List ByteArray->Int->Int->Option (Bool)
 |0,_,_,_=>none
 |k+1,x6,x7,x8=>if x8<x7 then (if 0<=x8 then (if x8<(x6.length:Int) then (if ((Cf ByteArray.empty x6 x8).size:Int)<1 then (Aj.j1 k (Cf ByteArray.empty x6 x8) x6 x7 x8 true) else (Aj.j1 k (Cf ByteArray.empty x6 x8) x6 x7 x8 (decide (((Cf ByteArray.empty x6 x8).size:Int)>63)))) else (none)) else (none)) else (some true)
def Aj.j1:Nat->ByteArray->List ByteArray->Int->Int->Bool->Option (Bool)
 |0,_,_,_,_,_=>none
 |k+1,x4,x6,x7,x8,x19=>if x19=true then (some false) else (Aj.l1 k x4 x6 x7 x8 (x4.size:Int) 0)
def Aj.l1:Nat->ByteArray->List ByteArray->Int->Int->Int->Int->Option (Bool)
 |0,_,_,_,_,_,_=>none
 |k+1,x4,x6,x7,x8,x21,x22=>if x22<x21 then (if 0<=x22 then (if x22<(x4.size:Int) then (if x22=0 then ((EF.f (bt x4 x22) true).bind λt102=>(if t102=true then (Aj.l1 k x4 x6 x7 x8 x21 (wrap64 (x22+1))) else (some false))) else ((EF.f (bt x4 x22) (x22==(wrap64 ((x4.size:Int) - 1)))).bind λt103=>(if t103=true then (Aj.l1 k x4 x6 x7 x8 x21 (wrap64 (x22+1))) else (some false)))) else (none)) else (none)) else (Aj.l0 k x6 x7 (wrap64 (x8+1)))
end
def Aj.f (k:Nat) (l0:List ByteArray):Option (Bool):=Aj.l0 k l0 (l0.length:Int) 0
theorem Aj.Dt:∀ k,(∀ y0 y1 y2,Bz (Aj.l0 k y0 y1 y2) (Aj.l0 (k+1) y0 y1 y2))/\(∀ y0 y1 y2 y3 y4,Bz (Aj.j1 k y0 y1 y2 y3 y4) (Aj.j1 (k+1) y0 y1 y2 y3 y4))/\(∀ y0 y1 y2 y3 y4 y5,Bz (Aj.l1 k y0 y1 y2 y3 y4 y5) (Aj.l1 (k+1) y0 y1 y2 y3 y4 y5))
 |0=>⟨λ_ _ _ r h=>by simp [Aj.l0] at h,λ_ _ _ _ _ r h=>by simp [Aj.j1] at h,λ_ _ _ _ _ _ r h=>by simp [Aj.l1] at h⟩
 |k+1=>by
  obtain ⟨ih0,ih1,ih2⟩:=Aj.Dt k;refine ⟨?_,?_,?_⟩
  ·intro y0 y1 y2;unfold Aj.l0
   repeat' first|(with_reducible first|exact ih0 _ _ _|exact ih1 _ _ _ _ _|exact ih2 _ _ _ _ _ _|exact Bz.refl _|exact Bz.none _|refine Bz.ite ?_ ?_|refine Bz.bind ?_ (λ_=>?_))|exact ih0 _ _ _|exact ih1 _ _ _ _ _|exact ih2 _ _ _ _ _ _|exact Bz.none _|refine Bz.ite ?_ ?_|refine Bz.bind ?_ (λ_=>?_)
  ·intro y0 y1 y2 y3 y4;unfold Aj.j1
   repeat' first|(with_reducible first|exact ih0 _ _ _|exact ih1 _ _ _ _ _|exact ih2 _ _ _ _ _ _|exact Bz.refl _|exact Bz.none _|refine Bz.ite ?_ ?_|refine Bz.bind ?_ (λ_=>?_))|exact ih0 _ _ _|exact ih1 _ _ _ _ _|exact ih2 _ _ _ _ _ _|exact Bz.none _|refine Bz.ite ?_ ?_|refine Bz.bind ?_ (λ_=>?_)
  ·intro y0 y1 y2 y3 y4 y5;unfold Aj.l1
   repeat' first|(with_reducible first|exact ih0 _ _ _|exact ih1 _ _ _ _ _|exact ih2 _ _ _ _ _ _|exact Bz.refl _|exact Bz.none _|refine Bz.ite ?_ ?_|refine Bz.bind ?_ (λ_=>?_))|exact ih0 _ _ _|exact ih1 _ _ _ _ _|exact ih2 _ _ _ _ _ _|exact Bz.none _|refine Bz.ite ?_ ?_|refine Bz.bind ?_ (λ_=>?_)
theorem Aj.mono:∀ a0 k,Bz (Aj.f k a0) (Aj.f (k+1) a0):=by
 intro a0 k;obtain ⟨ih0,ih1,ih2⟩:=Aj.Dt k;unfold Aj.f
 repeat' first|(with_reducible first|exact ih0 _ _ _|exact ih1 _ _ _ _ _|exact ih2 _ _ _ _ _ _|exact Bz.refl _|exact Bz.none _|refine Bz.ite ?_ ?_|refine Bz.bind ?_ (λ_=>?_))|exact ih0 _ _ _|exact ih1 _ _ _ _ _|exact ih2 _ _ _ _ _ _|exact Bz.none _|refine Bz.ite ?_ ?_|refine Bz.bind ?_ (λ_=>?_)
set_option maxHeartbeats 8000000 in
set_option maxRecDepth 100000 in
theorem Aj.calls (k:Nat) (A0:Option Addr) (c0:Nat) (l0:List ByteArray) (r:Bool) (w:World) (hr0:Kd.C Kd.string w A0 l0.length l0) (hc0:l0.length<=c0) (h:Aj.f k l0=some r):
 Calls Tryz.prog 87 #[.slice A0 l0.length c0] w λe w'=>e= .returned (.bool r)/\Ap w w':=by
 have HR0:=AA.mk hr0;have HC0:=AA.mk hc0;clear hr0 hc0;have H:(Aj.l0 k l0 (l0.length:Int) 0)=some r:=h;clear h;have H':=AA.mk H;clear H;go_enter Tryz.func87,Tryz.ntmps87;go_wp2;go_loopg [8] k (λkq v8 w'=>∃ (x8_1:Int),v8= .int .i64 x8_1/\AA (Aj.l0 kq l0 (l0.length:Int) x8_1=some r)/\AA (kq<=k)/\Ap w w');case atStart=>exact ⟨(0),xq,H',⟨Nat.le_refl _⟩,xd⟩
 case round=>
  clear H';obtain ⟨x8_1,rfl,HA,HK1,⟨m1,rfl⟩⟩:=hrel;cases gk with
  |zero=>exact absurd HA.out (by simp [Aj.l0])
  |succ k1=>
   have H:=HA.out;clear HA;simp only [Aj.l0] at H;by_cases c2:x8_1<(l0.length:Int)
   ·rw [if_pos c2] at H;have c2b0:decide (x8_1<(l0.length:Int))=true:=decide_eq_true c2;clear c2;by_cases c3:0<=x8_1
    ·rw [if_pos c3] at H;have c3b0:decide (0<=x8_1)=true:=decide_eq_true c3;clear c3;by_cases c4:x8_1<(l0.length:Int)
     ·rw [if_pos c4] at H;have c4b0:decide (x8_1<(l0.length:Int))=true:=decide_eq_true c4;clear c4;have HC5:=AA.mk H;clear H;have p101:0<=(x8_1:Int):=xa;have q101:x8_1<(l0.length:Int):=xa;obtain ⟨ad101,e101,hx101_0⟩:=Kd.DF HR0.out x8_1 p101 q101;cases e101;replace p101:=eq_true p101;replace q101:=eq_true q101;go_upto_region 4 with (fail)
      go_cut [19] (λv19 wc=>∃ (kq:Nat) (x19_4:Bool),v19= .bool x19_4/\AA (Aj.j1 kq (Cf ByteArray.empty l0 x8_1) l0 (l0.length:Int) x8_1 x19_4=some r)/\AA (kq<=k1)/\Ap w wc);case first=>
       have H:=HC5.out;clear HC5;by_cases c6:((Cf ByteArray.empty l0 x8_1).size:Int)<1
       ·rw [if_pos c6] at H;have c6b0:decide (((Cf ByteArray.empty l0 x8_1).size:Int)<1)=true:=decide_eq_true c6;have c6b1:decide ((Cf ByteArray.empty l0 x8_1).size<1)=true:=decide_eq_true (by omega);clear c6;(first|rw [c6b0]|(simp only [DL,DU];rw [c6b0])|skip);have H':=AA.mk H;clear H;go_wp2;go_meet;case rel=>exact ⟨_,(true),xq,H',⟨by have:=HK1.out;first|omega|exact Nat.le_refl _⟩,xd⟩
       ·rw [if_neg c6] at H;have c6b0:decide (((Cf ByteArray.empty l0 x8_1).size:Int)<1)=false:=decide_eq_false c6;have c6b1:decide ((Cf ByteArray.empty l0 x8_1).size<1)=false:=decide_eq_false (by omega);clear c6;(first|rw [c6b0]|(simp only [DL,DU];rw [c6b0])|skip);have H':=AA.mk H;clear H;go_wp2;go_meet;case rel=>exact ⟨_,(decide (((Cf ByteArray.empty l0 x8_1).size:Int)>63)),xq,H',⟨by have:=HK1.out;first|omega|exact Nat.le_refl _⟩,xd⟩
      case rest=>
       clear HC5;try clear p1
       try clear q1
       try clear hx1
       try clear c2
       try clear c2b0
       try clear p2
       try clear c3
       try clear c3b0
       try clear c4
       try clear c4b0
       try clear c6
       try clear c6b0
       try clear c6b1
       try clear hx101_0
       try clear p101
       try clear q101
       obtain ⟨kq,x19_4,rfl,HA,HJ4,⟨mc4,rfl⟩⟩:=hcut;cases kq with
       |zero=>exact absurd HA.out (by simp [Aj.j1])
       |succ kj4=>
        have H:=HA.out;clear HA;simp only [Aj.j1] at H;by_cases c7:x19_4=true
        ·subst c7;have H1:(some false)=some r:=by rw [if_pos rfl] at H;exact H
         clear H;have H:=H1;clear H1;obtain rfl:=Option.some.inj H;go_wp2;go_ret;exact ⟨xq,xd⟩
        ·replace c7:=Bool.eq_false_iff.mpr c7;subst c7;have H1:(Aj.l1 kj4 (Cf ByteArray.empty l0 x8_1) l0 (l0.length:Int) x8_1 ((Cf ByteArray.empty l0 x8_1).size:Int) 0)=some r:=by rw [if_neg (show ¬(false=true) by decide)] at H;exact H
         clear H;have H:=H1;clear H1;have H':=AA.mk H;clear H;go_wp2;go_loopg [22] kj4 (λkq v22 w'=>∃ (x22_3:Int),v22= .int .i64 x22_3/\AA (Aj.l1 kq (Cf ByteArray.empty l0 x8_1) l0 (l0.length:Int) x8_1 ((Cf ByteArray.empty l0 x8_1).size:Int) x22_3=some r)/\AA (kq<=kj4)/\Ap w w');case atStart=>exact ⟨(0),xq,H',⟨Nat.le_refl _⟩,xd⟩
         case round=>
          clear H';try clear p1
          try clear q1
          try clear hx1
          try clear c2
          try clear c2b0
          try clear p2
          try clear c3
          try clear c3b0
          try clear c4
          try clear c4b0
          try clear c6
          try clear c6b0
          try clear c6b1
          try clear c7
          try clear hx101_0
          try clear p1
          try clear p101
          try clear p2
          try clear q1
          try clear q101
          obtain ⟨x22_3,rfl,HA,HK3,⟨m3,rfl⟩⟩:=hrel;cases gk with
          |zero=>exact absurd HA.out (by simp [Aj.l1])
          |succ k3=>
           have H:=HA.out;clear HA;simp only [Aj.l1] at H;by_cases c8:x22_3<((Cf ByteArray.empty l0 x8_1).size:Int)
           ·rw [if_pos c8] at H;have c8b0:decide (x22_3<((Cf ByteArray.empty l0 x8_1).size:Int))=true:=decide_eq_true c8;clear c8;by_cases c9:0<=x22_3
            ·rw [if_pos c9] at H;have c9b0:decide (0<=x22_3)=true:=decide_eq_true c9;clear c9;by_cases c10:x22_3<((Cf ByteArray.empty l0 x8_1).size:Int)
             ·rw [if_pos c10] at H;have c10b0:decide (x22_3<((Cf ByteArray.empty l0 x8_1).size:Int))=true:=decide_eq_true c10;clear c10;by_cases c12:x22_3=0
              ·rw [if_pos c12] at H;have c12b0:(x22_3==0)=true:=beq_iff_eq.mpr c12;have c12b1:(x22_3 != 0)=false:=bne_eq_false_iff_eq.mpr c12;clear c12;replace H:=Option.bind_eq_some_iff.mp H;obtain ⟨t102,A130,H⟩:=H;replace H:(if t102=true then (Aj.l1 k3 (Cf ByteArray.empty l0 x8_1) l0 (l0.length:Int) x8_1 ((Cf ByteArray.empty l0 x8_1).size:Int) (wrap64 (x22_3+1))) else (some false))=some r:=H;have A13:=AA.mk A130;clear A130;by_cases c14:t102=true
               ·subst c14;rw [if_pos rfl] at H;have H':=AA.mk H;clear H;have p11:0<=(x22_3:Int):=xa;have q11:x22_3<((Cf ByteArray.empty l0 x8_1).size:Int):=xa;have hx11:=Br (Cf ByteArray.empty l0 x8_1) x22_3;replace p11:=eq_true p11;replace q11:=eq_true q11;go_wp2_with (first|((with_reducible refine AO (f:=117) rfl ?_);refine Ak (some 37) rfl rfl Tryz.func117 (by kernel_rfl) rfl #[.int .u8 (bt (Cf ByteArray.empty l0 x8_1) x22_3), .bool true] rfl xg ?_;(with_reducible refine (EF.calls (bt (Cf ByteArray.empty l0 x8_1) x22_3) true true _ A13.out).mono ?_);rintro e w' ⟨rfl,⟨nd,rfl⟩⟩;refine ⟨_,rfl,?_⟩));go_roundg k3;case measure=>have:=HK1.out;have:=HJ4.out;have:=HK3.out;omega
                case rel=>exact ⟨(wrap64 (x22_3+1)),xq,H',⟨by have:=HK1.out;have:=HJ4.out;have:=HK3.out;omega⟩,xd⟩
               ·replace c14:=Bool.eq_false_iff.mpr c14;subst c14;have H1:(some false)=some r:=by rw [if_neg (show ¬(false=true) by decide)] at H;exact H
                clear H;have H:=H1;clear H1;obtain rfl:=Option.some.inj H;have p11:0<=(x22_3:Int):=xa;have q11:x22_3<((Cf ByteArray.empty l0 x8_1).size:Int):=xa;have hx11:=Br (Cf ByteArray.empty l0 x8_1) x22_3;replace p11:=eq_true p11;replace q11:=eq_true q11;go_wp2_with (first|((with_reducible refine AO (f:=117) rfl ?_);refine Ak (some 37) rfl rfl Tryz.func117 (by kernel_rfl) rfl #[.int .u8 (bt (Cf ByteArray.empty l0 x8_1) x22_3), .bool true] rfl xg ?_;(with_reducible refine (EF.calls (bt (Cf ByteArray.empty l0 x8_1) x22_3) true false _ A13.out).mono ?_);rintro e w' ⟨rfl,⟨nd,rfl⟩⟩;refine ⟨_,rfl,?_⟩));go_ret;exact ⟨xq,xd⟩
              ·rw [if_neg c12] at H;have c12b0:(x22_3==0)=false:=beq_eq_false_iff_ne.mpr c12;have c12b1:(x22_3 != 0)=true:=bne_iff_ne.mpr c12;replace H:=Option.bind_eq_some_iff.mp H;obtain ⟨t103,A150,H⟩:=H;replace H:(if t103=true then (Aj.l1 k3 (Cf ByteArray.empty l0 x8_1) l0 (l0.length:Int) x8_1 ((Cf ByteArray.empty l0 x8_1).size:Int) (wrap64 (x22_3+1))) else (some false))=some r:=H;have A15:=AA.mk A150;clear A150;by_cases c16:t103=true
               ·subst c16;rw [if_pos rfl] at H;have H':=AA.mk H;clear H;have p11:0<=(x22_3:Int):=xa;have q11:x22_3<((Cf ByteArray.empty l0 x8_1).size:Int):=xa;have hx11:=Br (Cf ByteArray.empty l0 x8_1) x22_3;replace p11:=eq_true p11;replace q11:=eq_true q11;go_wp2_with (first|((with_reducible refine AO (f:=117) rfl ?_);refine Ak (some 37) rfl rfl Tryz.func117 (by kernel_rfl) rfl #[.int .u8 (bt (Cf ByteArray.empty l0 x8_1) x22_3), .bool (x22_3==(wrap64 (((Cf ByteArray.empty l0 x8_1).size:Int) - 1)))] rfl xg ?_;(with_reducible refine (EF.calls (bt (Cf ByteArray.empty l0 x8_1) x22_3) (x22_3==(wrap64 (((Cf ByteArray.empty l0 x8_1).size:Int) - 1))) true _ A15.out).mono ?_);rintro e w' ⟨rfl,⟨nd,rfl⟩⟩;refine ⟨_,rfl,?_⟩));go_roundg k3;case measure=>have:=HK1.out;have:=HJ4.out;have:=HK3.out;omega
                case rel=>exact ⟨(wrap64 (x22_3+1)),xq,H',⟨by have:=HK1.out;have:=HJ4.out;have:=HK3.out;omega⟩,xd⟩
               ·replace c16:=Bool.eq_false_iff.mpr c16;subst c16;have H1:(some false)=some r:=by rw [if_neg (show ¬(false=true) by decide)] at H;exact H
                clear H;have H:=H1;clear H1;obtain rfl:=Option.some.inj H;have p11:0<=(x22_3:Int):=xa;have q11:x22_3<((Cf ByteArray.empty l0 x8_1).size:Int):=xa;have hx11:=Br (Cf ByteArray.empty l0 x8_1) x22_3;replace p11:=eq_true p11;replace q11:=eq_true q11;go_wp2_with (first|((with_reducible refine AO (f:=117) rfl ?_);refine Ak (some 37) rfl rfl Tryz.func117 (by kernel_rfl) rfl #[.int .u8 (bt (Cf ByteArray.empty l0 x8_1) x22_3), .bool (x22_3==(wrap64 (((Cf ByteArray.empty l0 x8_1).size:Int) - 1)))] rfl xg ?_;(with_reducible refine (EF.calls (bt (Cf ByteArray.empty l0 x8_1) x22_3) (x22_3==(wrap64 (((Cf ByteArray.empty l0 x8_1).size:Int) - 1))) false _ A15.out).mono ?_);rintro e w' ⟨rfl,⟨nd,rfl⟩⟩;refine ⟨_,rfl,?_⟩));go_ret;exact ⟨xq,xd⟩
             ·rw [if_neg c10] at H;exact absurd H (by simp)
            ·rw [if_neg c9] at H;exact absurd H (by simp)
           ·rw [if_neg c8] at H;have c8b0:decide (x22_3<((Cf ByteArray.empty l0 x8_1).size:Int))=false:=decide_eq_false c8;clear c8;have H':=AA.mk H;clear H;go_wp2;go_roundg k3;case measure=>have:=HK1.out;have:=HJ4.out;have:=HK3.out;omega
            case rel=>exact ⟨(wrap64 (x8_1+1)),xq,H',⟨by have:=HK1.out;have:=HJ4.out;have:=HK3.out;omega⟩,xd⟩
     ·rw [if_neg c4] at H;exact absurd H (by simp)
    ·rw [if_neg c3] at H;exact absurd H (by simp)
   ·rw [if_neg c2] at H;have c2b0:decide (x8_1<(l0.length:Int))=false:=decide_eq_false c2;clear c2;obtain rfl:=Option.some.inj H;go_wp2;go_ret;exact ⟨xq,xd⟩
end Go.Proofs.YtikggnalmidlhaaGreatDoor.Print
end
section
namespace Go.Proofs.YtikggnalmidlhaaGreatDoor.Print
open RowKit AR Aa Ad
attribute [local go_sem] BM BN Bo Bp BC BD BO BP
set_option linter.unusedVariables false
set_option linter.unusedSimpArgs false
def Bg.l0:Nat->List (CU)->Int->Option (Bool)
 |0,_,_=>none
 |k+1,x0,x3=>if x3<(x0.length:Int) then (if 0<=x3 then ((BU.f k x0 ((AB x0 x3).f0)).bind λt351=>(if t351>12 then (some true) else (Bg.l0 k x0 (wrap64 (x3+1))))) else (none)) else (some (decide ((x0.length:Int)>60)))
def Bg.f (k:Nat) (l0:List (CU)):Option (Bool):=Bg.l0 k l0 0
set_option maxHeartbeats 8000000 in
set_option maxRecDepth 100000 in
theorem Bg.calls (k:Nat) (A0:Option Addr) (c0:Nat) (l0:List (CU)) (r:Bool) (w:World) (hr0:Kd.C Fu w A0 l0.length l0) (hc0:l0.length<=c0) (h:Bg.f k l0=some r):
 Calls Tryz.prog 64 #[.slice A0 l0.length c0] w λe w'=>e= .returned (.bool r)/\Ap w w':=by
 have HR0:=AA.mk hr0;have HC0:=AA.mk hc0;clear hr0 hc0;have H:(Bg.l0 k l0 0)=some r:=h;clear h;have H':=AA.mk H;clear H;go_enter Tryz.func64,Tryz.ntmps64;go_wp2;go_loopg [3] k (λkq v3 w'=>∃ (x3_1:Int),v3= .int .i64 x3_1/\AA (Bg.l0 kq l0 x3_1=some r)/\AA (kq<=k)/\Ap w w');case atStart=>exact ⟨(0),xq,H',⟨Nat.le_refl _⟩,xd⟩
 case round=>
  clear H';obtain ⟨x3_1,rfl,HA,HK1,⟨m1,rfl⟩⟩:=hrel;cases gk with
  |zero=>exact absurd HA.out (by simp [Bg.l0])
  |succ k1=>
   have H:=HA.out;clear HA;simp only [Bg.l0] at H;by_cases c2:x3_1<(l0.length:Int)
   ·rw [if_pos c2] at H;have c2b0:decide (x3_1<(l0.length:Int))=true:=decide_eq_true c2;clear c2;by_cases c3:0<=x3_1
    ·rw [if_pos c3] at H;have c3b0:decide (0<=x3_1)=true:=decide_eq_true c3;clear c3;replace H:=Option.bind_eq_some_iff.mp H;obtain ⟨t351,A40,H⟩:=H;replace H:(if t351>12 then (some true) else (Bg.l0 k1 l0 (wrap64 (x3_1+1))))=some r:=H;have A4:=AA.mk A40;clear A40;by_cases c5:t351>12
     ·rw [if_pos c5] at H;have c5b0:decide (12<t351)=true:=decide_eq_true c5;clear c5;obtain rfl:=Option.some.inj H;have p350:0<=(x3_1:Int):=xa;have q350:x3_1<(l0.length:Int):=xa;obtain ⟨ad350,e350,hx350_0,hx350_1,hx350_2,hx350_3,hx350_4,hx350_5,hx350_6,hx350_7,hx350_8,hx350_9,hx350_10⟩:=Ce HR0.out x3_1 p350 q350;cases e350;replace p350:=eq_true p350;replace q350:=eq_true q350;go_wp2_with (first|((with_reducible refine AO (f:=100) rfl ?_);refine Ak (some 16) rfl rfl Tryz.func100 (by kernel_rfl) rfl #[.slice (some ad350) l0.length c0, .string ((AB l0 x3_1).f0)] rfl xg ?_;(with_reducible refine (BU.calls k1 _ _ l0 ((AB l0 x3_1).f0) t351 _ ?side1 ?side2 A4.out).mono ?_);(case side1=>repeat (first|exact HR0.out|(with_reducible refine Kd.CZ ?_ _)|(with_reducible refine Kd.Cb ?_ _)|(with_reducible refine Kd.Cs ?_)));(case side2=>exact HC0.out);rintro e w' ⟨rfl,⟨nd,rfl⟩⟩;refine ⟨_,rfl,?_⟩));go_ret;exact ⟨xq,xd⟩
     ·rw [if_neg c5] at H;have c5b0:decide (12<t351)=false:=decide_eq_false c5;clear c5;have H':=AA.mk H;clear H;have p350:0<=(x3_1:Int):=xa;have q350:x3_1<(l0.length:Int):=xa;obtain ⟨ad350,e350,hx350_0,hx350_1,hx350_2,hx350_3,hx350_4,hx350_5,hx350_6,hx350_7,hx350_8,hx350_9,hx350_10⟩:=Ce HR0.out x3_1 p350 q350;cases e350;replace p350:=eq_true p350;replace q350:=eq_true q350;go_wp2_with (first|((with_reducible refine AO (f:=100) rfl ?_);refine Ak (some 16) rfl rfl Tryz.func100 (by kernel_rfl) rfl #[.slice (some ad350) l0.length c0, .string ((AB l0 x3_1).f0)] rfl xg ?_;(with_reducible refine (BU.calls k1 _ _ l0 ((AB l0 x3_1).f0) t351 _ ?side1 ?side2 A4.out).mono ?_);(case side1=>repeat (first|exact HR0.out|(with_reducible refine Kd.CZ ?_ _)|(with_reducible refine Kd.Cb ?_ _)|(with_reducible refine Kd.Cs ?_)));(case side2=>exact HC0.out);rintro e w' ⟨rfl,⟨nd,rfl⟩⟩;refine ⟨_,rfl,?_⟩));go_roundg k1;case measure=>have:=HK1.out;omega
      case rel=>exact ⟨(wrap64 (x3_1+1)),xq,H',⟨by have:=HK1.out;omega⟩,xd⟩
    ·rw [if_neg c3] at H;exact absurd H (by simp)
   ·rw [if_neg c2] at H;have c2b0:decide (x3_1<(l0.length:Int))=false:=decide_eq_false c2;clear c2;obtain rfl:=Option.some.inj H;go_wp2;go_ret;exact ⟨xq,xd⟩
end Go.Proofs.YtikggnalmidlhaaGreatDoor.Print
end
section
namespace Go.Proofs.YtikggnalmidlhaaGreatDoor.Print
open RowKit AR Aa Ad
attribute [local go_sem] BM BN Bo Bp BC BD BO BP
set_option linter.unusedVariables false
set_option linter.unusedSimpArgs false
def YF.l0:Nat->List ByteArray->ByteArray->Int->Option (ByteArray×Bool)
 |0,_,_,_=>none
 |k+1,x0,x4,x5=>if x5<(x0.length:Int) then (if 0<=x5 then ((YE.f k (Cf ByteArray.empty x0 x5) 10).bind λt398=>(if t398=true then (some ((⟨#[]⟩:ByteArray),false)) else (if ((Cf ByteArray.empty x0 x5).size:Int)>0 then (if 0<=(wrap64 (((Cf ByteArray.empty x0 x5).size:Int) - 1)) then (if (wrap64 (((Cf ByteArray.empty x0 x5).size:Int) - 1))<((Cf ByteArray.empty x0 x5).size:Int) then (if (bt (Cf ByteArray.empty x0 x5) (wrap64 (((Cf ByteArray.empty x0 x5).size:Int) - 1)))=13 then (some ((⟨#[]⟩:ByteArray),false)) else (if x4.size+(Cf ByteArray.empty x0 x5).size<=9223372036854775807 then (if (x4++(Cf ByteArray.empty x0 x5)).size+1<=9223372036854775807 then (YF.l0 k x0 ((x4++(Cf ByteArray.empty x0 x5))++(⟨#[10]⟩:ByteArray)) (wrap64 (x5+1))) else (none)) else (none))) else (none)) else (none)) else (if x4.size+(Cf ByteArray.empty x0 x5).size<=9223372036854775807 then (if (x4++(Cf ByteArray.empty x0 x5)).size+1<=9223372036854775807 then (YF.l0 k x0 ((x4++(Cf ByteArray.empty x0 x5))++(⟨#[10]⟩:ByteArray)) (wrap64 (x5+1))) else (none)) else (none))))) else (none)) else (some (x4,true))
def YF.f (k:Nat) (l0:List ByteArray):Option (ByteArray×Bool):=YF.l0 k l0 (⟨#[]⟩:ByteArray) 0
set_option maxHeartbeats 8000000 in
set_option maxRecDepth 100000 in
theorem YF.calls (k:Nat) (A0:Option Addr) (c0:Nat) (l0:List ByteArray) (r1:ByteArray) (r2:Bool) (w:World) (hr0:Kd.C Kd.string w A0 l0.length l0) (hc0:l0.length<=c0) (h:YF.f k l0=some (r1,r2)):
 Calls Tryz.prog 19 #[.slice A0 l0.length c0] w λe w'=>e= .returned (.tuple #[.string r1, .bool r2])/\Ap w w':=by
 have HR0:=AA.mk hr0;have HC0:=AA.mk hc0;clear hr0 hc0;have H:(YF.l0 k l0 (⟨#[]⟩:ByteArray) 0)=some (r1,r2):=h;clear h;have H':=AA.mk H;clear H;go_enter Tryz.func19,Tryz.ntmps19;go_wp2;repeat (go_quiet (fail);try go_wp2)
 go_loopg [4,5] k (λkq v4 v5 w'=>∃ (x4_1:ByteArray) (x5_1:Int),v4= .string x4_1/\v5= .int .i64 x5_1/\AA (YF.l0 kq l0 x4_1 x5_1=some (r1,r2))/\AA (kq<=k)/\Ap w w');case atStart=>exact ⟨((⟨#[]⟩:ByteArray)),(0),xq,xq,H',⟨Nat.le_refl _⟩,xd⟩
 case round=>
  clear H';try clear c1
  obtain ⟨x4_1,x5_1,rfl,rfl,HA,HK1,⟨m1,rfl⟩⟩:=hrel;cases gk with
  |zero=>exact absurd HA.out (by simp [YF.l0])
  |succ k1=>
   have H:=HA.out;clear HA;simp only [YF.l0] at H;by_cases c2:x5_1<(l0.length:Int)
   ·rw [if_pos c2] at H;have c2b0:decide (x5_1<(l0.length:Int))=true:=decide_eq_true c2;clear c2;by_cases c3:0<=x5_1
    ·rw [if_pos c3] at H;have c3b0:decide (0<=x5_1)=true:=decide_eq_true c3;clear c3;replace H:=Option.bind_eq_some_iff.mp H;obtain ⟨t398,A40,H⟩:=H;replace H:(if t398=true then (some ((⟨#[]⟩:ByteArray),false)) else (if ((Cf ByteArray.empty l0 x5_1).size:Int)>0 then (if 0<=(wrap64 (((Cf ByteArray.empty l0 x5_1).size:Int) - 1)) then (if (wrap64 (((Cf ByteArray.empty l0 x5_1).size:Int) - 1))<((Cf ByteArray.empty l0 x5_1).size:Int) then (if (bt (Cf ByteArray.empty l0 x5_1) (wrap64 (((Cf ByteArray.empty l0 x5_1).size:Int) - 1)))=13 then (some ((⟨#[]⟩:ByteArray),false)) else (if x4_1.size+(Cf ByteArray.empty l0 x5_1).size<=9223372036854775807 then (if (x4_1++(Cf ByteArray.empty l0 x5_1)).size+1<=9223372036854775807 then (YF.l0 k1 l0 ((x4_1++(Cf ByteArray.empty l0 x5_1))++(⟨#[10]⟩:ByteArray)) (wrap64 (x5_1+1))) else (none)) else (none))) else (none)) else (none)) else (if x4_1.size+(Cf ByteArray.empty l0 x5_1).size<=9223372036854775807 then (if (x4_1++(Cf ByteArray.empty l0 x5_1)).size+1<=9223372036854775807 then (YF.l0 k1 l0 ((x4_1++(Cf ByteArray.empty l0 x5_1))++(⟨#[10]⟩:ByteArray)) (wrap64 (x5_1+1))) else (none)) else (none))))=some (r1,r2):=H;have A4:=AA.mk A40;clear A40;by_cases c5:t398=true
     ·subst c5;rw [if_pos rfl] at H;simp only [Option.some.injEq,Prod.mk.injEq] at H;obtain ⟨rfl,rfl⟩:=H;have p397:0<=(x5_1:Int):=xa;have q397:x5_1<(l0.length:Int):=xa;obtain ⟨ad397,e397,hx397_0⟩:=Kd.DF HR0.out x5_1 p397 q397;cases e397;replace p397:=eq_true p397;replace q397:=eq_true q397;go_wp2_with (first|(go_at_call 33;(with_reducible refine (YE.calls k1 (Cf ByteArray.empty l0 x5_1) 10 true _ A4.out).mono ?_);rintro e w' ⟨rfl,⟨nd,rfl⟩⟩;(try first|exact ⟨rfl,_,World.drewN_drewN _ _ _⟩|exact ⟨rfl,_,Eq.trans (World.drewN_drewN _ _ _) (congrArg (World.drewN _) (Nat.add_assoc _ _ _))⟩)));repeat (go_quiet (first|(go_at_call 33;(with_reducible refine (YE.calls k1 (Cf ByteArray.empty l0 x5_1) 10 true _ A4.out).mono ?_);rintro e w' ⟨rfl,⟨nd,rfl⟩⟩;(try first|exact ⟨rfl,_,World.drewN_drewN _ _ _⟩|exact ⟨rfl,_,Eq.trans (World.drewN_drewN _ _ _) (congrArg (World.drewN _) (Nat.add_assoc _ _ _))⟩)));try go_wp2_with (first|(go_at_call 33;(with_reducible refine (YE.calls k1 (Cf ByteArray.empty l0 x5_1) 10 true _ A4.out).mono ?_);rintro e w' ⟨rfl,⟨nd,rfl⟩⟩;(try first|exact ⟨rfl,_,World.drewN_drewN _ _ _⟩|exact ⟨rfl,_,Eq.trans (World.drewN_drewN _ _ _) (congrArg (World.drewN _) (Nat.add_assoc _ _ _))⟩))))
      go_ret2;exact ⟨xq,xd⟩
     ·replace c5:=Bool.eq_false_iff.mpr c5;subst c5;have H1:(if ((Cf ByteArray.empty l0 x5_1).size:Int)>0 then (if 0<=(wrap64 (((Cf ByteArray.empty l0 x5_1).size:Int) - 1)) then (if (wrap64 (((Cf ByteArray.empty l0 x5_1).size:Int) - 1))<((Cf ByteArray.empty l0 x5_1).size:Int) then (if (bt (Cf ByteArray.empty l0 x5_1) (wrap64 (((Cf ByteArray.empty l0 x5_1).size:Int) - 1)))=13 then (some ((⟨#[]⟩:ByteArray),false)) else (if x4_1.size+(Cf ByteArray.empty l0 x5_1).size<=9223372036854775807 then (if (x4_1++(Cf ByteArray.empty l0 x5_1)).size+1<=9223372036854775807 then (YF.l0 k1 l0 ((x4_1++(Cf ByteArray.empty l0 x5_1))++(⟨#[10]⟩:ByteArray)) (wrap64 (x5_1+1))) else (none)) else (none))) else (none)) else (none)) else (if x4_1.size+(Cf ByteArray.empty l0 x5_1).size<=9223372036854775807 then (if (x4_1++(Cf ByteArray.empty l0 x5_1)).size+1<=9223372036854775807 then (YF.l0 k1 l0 ((x4_1++(Cf ByteArray.empty l0 x5_1))++(⟨#[10]⟩:ByteArray)) (wrap64 (x5_1+1))) else (none)) else (none)))=some (r1,r2):=by rw [if_neg (show ¬(false=true) by decide)] at H;exact H
      clear H;have H:=H1;clear H1;by_cases c6:((Cf ByteArray.empty l0 x5_1).size:Int)>0
      ·rw [if_pos c6] at H;have c6b0:decide (0<((Cf ByteArray.empty l0 x5_1).size:Int))=true:=decide_eq_true c6;have c6b1:decide (0<(Cf ByteArray.empty l0 x5_1).size)=true:=decide_eq_true (by omega);clear c6;obtain ⟨ji7,hji7⟩:∃ j_:Int,(wrap64 (((Cf ByteArray.empty l0 x5_1).size:Int) - 1))=j_:=⟨_,rfl⟩;replace H:(if 0<=(ji7) then (if (ji7)<((Cf ByteArray.empty l0 x5_1).size:Int) then (if (bt (Cf ByteArray.empty l0 x5_1) (ji7))=13 then (some ((⟨#[]⟩:ByteArray),false)) else (if x4_1.size+(Cf ByteArray.empty l0 x5_1).size<=9223372036854775807 then (if (x4_1++(Cf ByteArray.empty l0 x5_1)).size+1<=9223372036854775807 then (YF.l0 k1 l0 ((x4_1++(Cf ByteArray.empty l0 x5_1))++(⟨#[10]⟩:ByteArray)) (wrap64 (x5_1+1))) else (none)) else (none))) else (none)) else (none))=some (r1,r2):=by first|(rw [hji7] at H;exact H)|(simp only [hji7] at H⊢;exact H)
       (try rw [hji7] at A4);have hji7w:(IntKind.i64.wrap (((Cf ByteArray.empty l0 x5_1).size:Int) - 1))=ji7:=(DL _).trans hji7;by_cases c8:0<=(ji7)
       ·rw [if_pos c8] at H;have c8b0:decide (0<=(ji7))=true:=decide_eq_true c8;clear c8;by_cases c9:(ji7)<((Cf ByteArray.empty l0 x5_1).size:Int)
        ·rw [if_pos c9] at H;have c9b0:decide ((ji7)<((Cf ByteArray.empty l0 x5_1).size:Int))=true:=decide_eq_true c9;clear c9;by_cases c11:(bt (Cf ByteArray.empty l0 x5_1) (ji7))=13
         ·rw [if_pos c11] at H;have c11b0:((bt (Cf ByteArray.empty l0 x5_1) (ji7))==13)=true:=beq_iff_eq.mpr c11;have c11b1:((bt (Cf ByteArray.empty l0 x5_1) (ji7)) != 13)=false:=bne_eq_false_iff_eq.mpr c11;clear c11;simp only [Option.some.injEq,Prod.mk.injEq] at H;obtain ⟨rfl,rfl⟩:=H;have p397:0<=(x5_1:Int):=xa;have q397:x5_1<(l0.length:Int):=xa;obtain ⟨ad397,e397,hx397_0⟩:=Kd.DF HR0.out x5_1 p397 q397;cases e397;replace p397:=eq_true p397;replace q397:=eq_true q397;go_wp2_with (first|(go_at_call 33;(with_reducible refine (YE.calls k1 (Cf ByteArray.empty l0 x5_1) 10 false _ A4.out).mono ?_);rintro e w' ⟨rfl,⟨nd,rfl⟩⟩;(try first|exact ⟨rfl,_,World.drewN_drewN _ _ _⟩|exact ⟨rfl,_,Eq.trans (World.drewN_drewN _ _ _) (congrArg (World.drewN _) (Nat.add_assoc _ _ _))⟩);have p399:0<=(x5_1:Int):=xa;have q399:x5_1<(l0.length:Int):=xa;obtain ⟨ad399,e399,hx399_0⟩:=Kd.DF HR0.out x5_1 p399 q399;obtain rfl:ad397=ad399:=(by injection e399);replace p399:=eq_true p399;replace q399:=eq_true q399;have p400:0<=(x5_1:Int):=xa;have q400:x5_1<(l0.length:Int):=xa;obtain ⟨ad400,e400,hx400_0⟩:=Kd.DF HR0.out x5_1 p400 q400;obtain rfl:ad397=ad400:=(by injection e400);replace p400:=eq_true p400;replace q400:=eq_true q400;have p401:0<=(x5_1:Int):=xa;have q401:x5_1<(l0.length:Int):=xa;obtain ⟨ad401,e401,hx401_0⟩:=Kd.DF HR0.out x5_1 p401 q401;obtain rfl:ad397=ad401:=(by injection e401);replace p401:=eq_true p401;replace q401:=eq_true q401;have p10:0<=((ji7):Int):=xa;have q10:(ji7)<((Cf ByteArray.empty l0 x5_1).size:Int):=xa;have hx10:=Br (Cf ByteArray.empty l0 x5_1) (ji7);replace p10:=eq_true p10;replace q10:=eq_true q10));repeat (go_quiet (first|(go_at_call 33;(with_reducible refine (YE.calls k1 (Cf ByteArray.empty l0 x5_1) 10 false _ A4.out).mono ?_);rintro e w' ⟨rfl,⟨nd,rfl⟩⟩;(try first|exact ⟨rfl,_,World.drewN_drewN _ _ _⟩|exact ⟨rfl,_,Eq.trans (World.drewN_drewN _ _ _) (congrArg (World.drewN _) (Nat.add_assoc _ _ _))⟩);have p399:0<=(x5_1:Int):=xa;have q399:x5_1<(l0.length:Int):=xa;obtain ⟨ad399,e399,hx399_0⟩:=Kd.DF HR0.out x5_1 p399 q399;obtain rfl:ad397=ad399:=(by injection e399);replace p399:=eq_true p399;replace q399:=eq_true q399;have p400:0<=(x5_1:Int):=xa;have q400:x5_1<(l0.length:Int):=xa;obtain ⟨ad400,e400,hx400_0⟩:=Kd.DF HR0.out x5_1 p400 q400;obtain rfl:ad397=ad400:=(by injection e400);replace p400:=eq_true p400;replace q400:=eq_true q400;have p401:0<=(x5_1:Int):=xa;have q401:x5_1<(l0.length:Int):=xa;obtain ⟨ad401,e401,hx401_0⟩:=Kd.DF HR0.out x5_1 p401 q401;obtain rfl:ad397=ad401:=(by injection e401);replace p401:=eq_true p401;replace q401:=eq_true q401;have p10:0<=((ji7):Int):=xa;have q10:(ji7)<((Cf ByteArray.empty l0 x5_1).size:Int):=xa;have hx10:=Br (Cf ByteArray.empty l0 x5_1) (ji7);replace p10:=eq_true p10;replace q10:=eq_true q10));try go_wp2_with (first|(go_at_call 33;(with_reducible refine (YE.calls k1 (Cf ByteArray.empty l0 x5_1) 10 false _ A4.out).mono ?_);rintro e w' ⟨rfl,⟨nd,rfl⟩⟩;(try first|exact ⟨rfl,_,World.drewN_drewN _ _ _⟩|exact ⟨rfl,_,Eq.trans (World.drewN_drewN _ _ _) (congrArg (World.drewN _) (Nat.add_assoc _ _ _))⟩);have p399:0<=(x5_1:Int):=xa;have q399:x5_1<(l0.length:Int):=xa;obtain ⟨ad399,e399,hx399_0⟩:=Kd.DF HR0.out x5_1 p399 q399;obtain rfl:ad397=ad399:=(by injection e399);replace p399:=eq_true p399;replace q399:=eq_true q399;have p400:0<=(x5_1:Int):=xa;have q400:x5_1<(l0.length:Int):=xa;obtain ⟨ad400,e400,hx400_0⟩:=Kd.DF HR0.out x5_1 p400 q400;obtain rfl:ad397=ad400:=(by injection e400);replace p400:=eq_true p400;replace q400:=eq_true q400;have p401:0<=(x5_1:Int):=xa;have q401:x5_1<(l0.length:Int):=xa;obtain ⟨ad401,e401,hx401_0⟩:=Kd.DF HR0.out x5_1 p401 q401;obtain rfl:ad397=ad401:=(by injection e401);replace p401:=eq_true p401;replace q401:=eq_true q401;have p10:0<=((ji7):Int):=xa;have q10:(ji7)<((Cf ByteArray.empty l0 x5_1).size:Int):=xa;have hx10:=Br (Cf ByteArray.empty l0 x5_1) (ji7);replace p10:=eq_true p10;replace q10:=eq_true q10)))
          go_ret2;exact ⟨by first|rfl|(simp;done)|(simp only [<-hji7]<;>(first|rfl|simp))|(simp [*];done),xd⟩
         ·rw [if_neg c11] at H;have c11b0:((bt (Cf ByteArray.empty l0 x5_1) (ji7))==13)=false:=beq_eq_false_iff_ne.mpr c11;have c11b1:((bt (Cf ByteArray.empty l0 x5_1) (ji7)) != 13)=true:=bne_iff_ne.mpr c11;by_cases c12:x4_1.size+(Cf ByteArray.empty l0 x5_1).size<=9223372036854775807
          ·rw [if_pos c12] at H;have c12b0:=eq_true c12;have c12b1:decide (x4_1.size+(Cf ByteArray.empty l0 x5_1).size<=9223372036854775807)=true:=decide_eq_true c12;try have c12b2:(9223372036854775807<x4_1.size+(Cf ByteArray.empty l0 x5_1).size)=False:=eq_false (Nat.not_lt.2 c12)
           by_cases c13:(x4_1++(Cf ByteArray.empty l0 x5_1)).size+1<=9223372036854775807
           ·rw [if_pos c13] at H;have c13b0:=eq_true c13;have c13b1:decide ((x4_1++(Cf ByteArray.empty l0 x5_1)).size+1<=9223372036854775807)=true:=decide_eq_true c13;try have c13b2:(9223372036854775807<(x4_1++(Cf ByteArray.empty l0 x5_1)).size+1)=False:=eq_false (Nat.not_lt.2 c13)
            try (have c13b3:=c13b2;simp only [ByteArray.size_append,JG,List.size_toArray,List.length_cons,List.length_nil,Nat.reduceAdd] at c13b3)
            have H':=AA.mk H;clear H;have p397:0<=(x5_1:Int):=xa;have q397:x5_1<(l0.length:Int):=xa;obtain ⟨ad397,e397,hx397_0⟩:=Kd.DF HR0.out x5_1 p397 q397;cases e397;replace p397:=eq_true p397;replace q397:=eq_true q397;go_wp2_with (first|(go_at_call 33;(with_reducible refine (YE.calls k1 (Cf ByteArray.empty l0 x5_1) 10 false _ A4.out).mono ?_);rintro e w' ⟨rfl,⟨nd,rfl⟩⟩;(try first|exact ⟨rfl,_,World.drewN_drewN _ _ _⟩|exact ⟨rfl,_,Eq.trans (World.drewN_drewN _ _ _) (congrArg (World.drewN _) (Nat.add_assoc _ _ _))⟩);have p399:0<=(x5_1:Int):=xa;have q399:x5_1<(l0.length:Int):=xa;obtain ⟨ad399,e399,hx399_0⟩:=Kd.DF HR0.out x5_1 p399 q399;obtain rfl:ad397=ad399:=(by injection e399);replace p399:=eq_true p399;replace q399:=eq_true q399;have p400:0<=(x5_1:Int):=xa;have q400:x5_1<(l0.length:Int):=xa;obtain ⟨ad400,e400,hx400_0⟩:=Kd.DF HR0.out x5_1 p400 q400;obtain rfl:ad397=ad400:=(by injection e400);replace p400:=eq_true p400;replace q400:=eq_true q400;have p401:0<=(x5_1:Int):=xa;have q401:x5_1<(l0.length:Int):=xa;obtain ⟨ad401,e401,hx401_0⟩:=Kd.DF HR0.out x5_1 p401 q401;obtain rfl:ad397=ad401:=(by injection e401);replace p401:=eq_true p401;replace q401:=eq_true q401;have p10:0<=((ji7):Int):=xa;have q10:(ji7)<((Cf ByteArray.empty l0 x5_1).size:Int):=xa;have hx10:=Br (Cf ByteArray.empty l0 x5_1) (ji7);replace p10:=eq_true p10;replace q10:=eq_true q10;have p402:0<=(x5_1:Int):=xa;have q402:x5_1<(l0.length:Int):=xa;obtain ⟨ad402,e402,hx402_0⟩:=Kd.DF HR0.out x5_1 p402 q402;obtain rfl:ad397=ad402:=(by injection e402);replace p402:=eq_true p402;replace q402:=eq_true q402));repeat (go_quiet (first|(go_at_call 33;(with_reducible refine (YE.calls k1 (Cf ByteArray.empty l0 x5_1) 10 false _ A4.out).mono ?_);rintro e w' ⟨rfl,⟨nd,rfl⟩⟩;(try first|exact ⟨rfl,_,World.drewN_drewN _ _ _⟩|exact ⟨rfl,_,Eq.trans (World.drewN_drewN _ _ _) (congrArg (World.drewN _) (Nat.add_assoc _ _ _))⟩);have p399:0<=(x5_1:Int):=xa;have q399:x5_1<(l0.length:Int):=xa;obtain ⟨ad399,e399,hx399_0⟩:=Kd.DF HR0.out x5_1 p399 q399;obtain rfl:ad397=ad399:=(by injection e399);replace p399:=eq_true p399;replace q399:=eq_true q399;have p400:0<=(x5_1:Int):=xa;have q400:x5_1<(l0.length:Int):=xa;obtain ⟨ad400,e400,hx400_0⟩:=Kd.DF HR0.out x5_1 p400 q400;obtain rfl:ad397=ad400:=(by injection e400);replace p400:=eq_true p400;replace q400:=eq_true q400;have p401:0<=(x5_1:Int):=xa;have q401:x5_1<(l0.length:Int):=xa;obtain ⟨ad401,e401,hx401_0⟩:=Kd.DF HR0.out x5_1 p401 q401;obtain rfl:ad397=ad401:=(by injection e401);replace p401:=eq_true p401;replace q401:=eq_true q401;have p10:0<=((ji7):Int):=xa;have q10:(ji7)<((Cf ByteArray.empty l0 x5_1).size:Int):=xa;have hx10:=Br (Cf ByteArray.empty l0 x5_1) (ji7);replace p10:=eq_true p10;replace q10:=eq_true q10;have p402:0<=(x5_1:Int):=xa;have q402:x5_1<(l0.length:Int):=xa;obtain ⟨ad402,e402,hx402_0⟩:=Kd.DF HR0.out x5_1 p402 q402;obtain rfl:ad397=ad402:=(by injection e402);replace p402:=eq_true p402;replace q402:=eq_true q402));try go_wp2_with (first|(go_at_call 33;(with_reducible refine (YE.calls k1 (Cf ByteArray.empty l0 x5_1) 10 false _ A4.out).mono ?_);rintro e w' ⟨rfl,⟨nd,rfl⟩⟩;(try first|exact ⟨rfl,_,World.drewN_drewN _ _ _⟩|exact ⟨rfl,_,Eq.trans (World.drewN_drewN _ _ _) (congrArg (World.drewN _) (Nat.add_assoc _ _ _))⟩);have p399:0<=(x5_1:Int):=xa;have q399:x5_1<(l0.length:Int):=xa;obtain ⟨ad399,e399,hx399_0⟩:=Kd.DF HR0.out x5_1 p399 q399;obtain rfl:ad397=ad399:=(by injection e399);replace p399:=eq_true p399;replace q399:=eq_true q399;have p400:0<=(x5_1:Int):=xa;have q400:x5_1<(l0.length:Int):=xa;obtain ⟨ad400,e400,hx400_0⟩:=Kd.DF HR0.out x5_1 p400 q400;obtain rfl:ad397=ad400:=(by injection e400);replace p400:=eq_true p400;replace q400:=eq_true q400;have p401:0<=(x5_1:Int):=xa;have q401:x5_1<(l0.length:Int):=xa;obtain ⟨ad401,e401,hx401_0⟩:=Kd.DF HR0.out x5_1 p401 q401;obtain rfl:ad397=ad401:=(by injection e401);replace p401:=eq_true p401;replace q401:=eq_true q401;have p10:0<=((ji7):Int):=xa;have q10:(ji7)<((Cf ByteArray.empty l0 x5_1).size:Int):=xa;have hx10:=Br (Cf ByteArray.empty l0 x5_1) (ji7);replace p10:=eq_true p10;replace q10:=eq_true q10;have p402:0<=(x5_1:Int):=xa;have q402:x5_1<(l0.length:Int):=xa;obtain ⟨ad402,e402,hx402_0⟩:=Kd.DF HR0.out x5_1 p402 q402;obtain rfl:ad397=ad402:=(by injection e402);replace p402:=eq_true p402;replace q402:=eq_true q402)))
            go_roundg k1;case measure=>have:=HK1.out;omega
            case rel=>exact ⟨((x4_1++(Cf ByteArray.empty l0 x5_1))++(⟨#[10]⟩:ByteArray)),(wrap64 (x5_1+1)),xq,xq,H',⟨by have:=HK1.out;omega⟩,xd⟩
           ·rw [if_neg c13] at H;exact absurd H (by simp)
          ·rw [if_neg c12] at H;exact absurd H (by simp)
        ·rw [if_neg c9] at H;exact absurd H (by simp)
       ·rw [if_neg c8] at H;exact absurd H (by simp)
      ·rw [if_neg c6] at H;have c6b0:decide (0<((Cf ByteArray.empty l0 x5_1).size:Int))=false:=decide_eq_false c6;have c6b1:decide (0<(Cf ByteArray.empty l0 x5_1).size)=false:=decide_eq_false (by omega);clear c6;by_cases c14:x4_1.size+(Cf ByteArray.empty l0 x5_1).size<=9223372036854775807
       ·rw [if_pos c14] at H;have c14b0:=eq_true c14;have c14b1:decide (x4_1.size+(Cf ByteArray.empty l0 x5_1).size<=9223372036854775807)=true:=decide_eq_true c14;try have c14b2:(9223372036854775807<x4_1.size+(Cf ByteArray.empty l0 x5_1).size)=False:=eq_false (Nat.not_lt.2 c14)
        by_cases c15:(x4_1++(Cf ByteArray.empty l0 x5_1)).size+1<=9223372036854775807
        ·rw [if_pos c15] at H;have c15b0:=eq_true c15;have c15b1:decide ((x4_1++(Cf ByteArray.empty l0 x5_1)).size+1<=9223372036854775807)=true:=decide_eq_true c15;try have c15b2:(9223372036854775807<(x4_1++(Cf ByteArray.empty l0 x5_1)).size+1)=False:=eq_false (Nat.not_lt.2 c15)
         try (have c15b3:=c15b2;simp only [ByteArray.size_append,JG,List.size_toArray,List.length_cons,List.length_nil,Nat.reduceAdd] at c15b3)
         have H':=AA.mk H;clear H;have p397:0<=(x5_1:Int):=xa;have q397:x5_1<(l0.length:Int):=xa;obtain ⟨ad397,e397,hx397_0⟩:=Kd.DF HR0.out x5_1 p397 q397;cases e397;replace p397:=eq_true p397;replace q397:=eq_true q397;go_wp2_with (first|(go_at_call 33;(with_reducible refine (YE.calls k1 (Cf ByteArray.empty l0 x5_1) 10 false _ A4.out).mono ?_);rintro e w' ⟨rfl,⟨nd,rfl⟩⟩;(try first|exact ⟨rfl,_,World.drewN_drewN _ _ _⟩|exact ⟨rfl,_,Eq.trans (World.drewN_drewN _ _ _) (congrArg (World.drewN _) (Nat.add_assoc _ _ _))⟩)));repeat (go_quiet (first|(go_at_call 33;(with_reducible refine (YE.calls k1 (Cf ByteArray.empty l0 x5_1) 10 false _ A4.out).mono ?_);rintro e w' ⟨rfl,⟨nd,rfl⟩⟩;(try first|exact ⟨rfl,_,World.drewN_drewN _ _ _⟩|exact ⟨rfl,_,Eq.trans (World.drewN_drewN _ _ _) (congrArg (World.drewN _) (Nat.add_assoc _ _ _))⟩)));try go_wp2)
         go_roundg k1;case measure=>have:=HK1.out;omega
         case rel=>exact ⟨((x4_1++(Cf ByteArray.empty l0 x5_1))++(⟨#[10]⟩:ByteArray)),(wrap64 (x5_1+1)),xq,xq,H',⟨by have:=HK1.out;omega⟩,xd⟩
        ·rw [if_neg c15] at H;exact absurd H (by simp)
       ·rw [if_neg c14] at H;exact absurd H (by simp)
    ·rw [if_neg c3] at H;exact absurd H (by simp)
   ·rw [if_neg c2] at H;have c2b0:decide (x5_1<(l0.length:Int))=false:=decide_eq_false c2;clear c2;simp only [Option.some.injEq,Prod.mk.injEq] at H;obtain ⟨rfl,rfl⟩:=H;go_wp2;repeat (go_quiet (fail);try go_wp2)
    go_ret2;exact ⟨xq,xd⟩
end Go.Proofs.YtikggnalmidlhaaGreatDoor.Print
end
