/- Several parts of the claim's proof in one text, said short by a program of this session. No condition. -/
import Derived.Test.YtikggnalmidlhaaGreatDoorM2
section
namespace Go.Proofs.YtikggnalmidlhaaGreatDoor.Ct
open RowKit AR Aa Ad
attribute [local go_sem] BM BN Bo Bp BC BD BO BP
set_option linter.unusedVariables false
set_option linter.unusedSimpArgs false
def Ao.f (a0:Int) (a1:Int) (a2:Int):Option (Bool):=if a0>=a1 then (some (decide (a0<=a2))) else (some false)
set_option maxHeartbeats 8000000 in
set_option maxRecDepth 100000 in
theorem Ao.calls (a0:Int) (a1:Int) (a2:Int) (r:Bool) (w:World) (h:Ao.f a0 a1 a2=some r):
 Calls Tryz.prog 104 #[.int .u8 a0, .int .u8 a1, .int .u8 a2] w λe w'=>e= .returned (.bool r)/\Ap w w':=by
 have H:(if a0>=a1 then (some (decide (a0<=a2))) else (some false))=some r:=h;clear h;by_cases c4:a0>=a1
 ·rw [if_pos c4] at H;have c4b0:decide (a1<=a0)=true:=decide_eq_true c4;clear c4;obtain rfl:=Option.some.inj H;go_enter Tryz.func104,Tryz.ntmps104;go_wp2;go_ret;exact ⟨xq,xd⟩
 ·rw [if_neg c4] at H;have c4b0:decide (a1<=a0)=false:=decide_eq_false c4;clear c4;obtain rfl:=Option.some.inj H;go_enter Tryz.func104,Tryz.ntmps104;go_wp2;go_ret;exact ⟨xq,xd⟩
def Ci.l0:Nat->Int->List Int->Int->Int->Option (Int)
 |0,_,_,_,_=>none
 |k+1,x3,x6,x7,x8=>if x8<x7 then (if 0<=x8 then (if x8<(x6.length:Int) then (if (rd x6 x8)=x3 then (Ci.l0 k x3 x6 x7 (wrap64 (x8+1))) else (some (rd x6 x8))) else (none)) else (none)) else (some x3)
def Ci.f (k:Nat) (l0:List Int):Option (Int):=Ci.l0 k 0 l0 (l0.length:Int) 0
set_option maxHeartbeats 8000000 in
set_option maxRecDepth 100000 in
theorem Ci.calls (k:Nat) (A0:Option Addr) (c0:Nat) (l0:List Int) (r:Int) (w:World) (hr0:Kd.C (Kd.int .i64) w A0 l0.length l0) (hc0:l0.length<=c0) (h:Ci.f k l0=some r):
 Calls Tryz.prog 179 #[.slice A0 l0.length c0] w λe w'=>e= .returned (.int .i64 r)/\Ap w w':=by
 have HR0:=AA.mk hr0;have HC0:=AA.mk hc0;clear hr0 hc0;have H:(Ci.l0 k 0 l0 (l0.length:Int) 0)=some r:=h;clear h;have H':=AA.mk H;clear H;go_enter Tryz.func179,Tryz.ntmps179;go_wp2;go_loopg [8] k (λkq v8 w'=>∃ (x8_1:Int),v8= .int .i64 x8_1/\AA (Ci.l0 kq 0 l0 (l0.length:Int) x8_1=some r)/\AA (kq<=k)/\Ap w w');case atStart=>exact ⟨(0),xq,H',⟨Nat.le_refl _⟩,xd⟩
 case round=>
  clear H';try clear c1
  obtain ⟨x8_1,rfl,HA,HK1,⟨m1,rfl⟩⟩:=hrel;cases gk with
  |zero=>exact absurd HA.out (by simp [Ci.l0])
  |succ k1=>
   have H:=HA.out;clear HA;simp only [Ci.l0] at H;by_cases c2:x8_1<(l0.length:Int)
   ·rw [if_pos c2] at H;have c2b0:decide (x8_1<(l0.length:Int))=true:=decide_eq_true c2;clear c2;by_cases c3:0<=x8_1
    ·rw [if_pos c3] at H;have c3b0:decide (0<=x8_1)=true:=decide_eq_true c3;clear c3;by_cases c4:x8_1<(l0.length:Int)
     ·rw [if_pos c4] at H;have c4b0:decide (x8_1<(l0.length:Int))=true:=decide_eq_true c4;clear c4;by_cases c5:(rd l0 x8_1)=0
      ·rw [if_pos c5] at H;have c5b0:((rd l0 x8_1)==0)=true:=beq_iff_eq.mpr c5;have c5b1:((rd l0 x8_1) != 0)=false:=bne_eq_false_iff_eq.mpr c5;clear c5;have H':=AA.mk H;clear H;have p101:0<=(x8_1:Int):=xa;have q101:x8_1<(l0.length:Int):=xa;obtain ⟨ad101,e101,hx101_0⟩:=Kd.QS HR0.out x8_1 p101 q101;cases e101;replace p101:=eq_true p101;replace q101:=eq_true q101;go_wp2;go_roundg k1;case measure=>have:=HK1.out;omega
       case rel=>exact ⟨(wrap64 (x8_1+1)),xq,H',⟨by have:=HK1.out;omega⟩,xd⟩
      ·rw [if_neg c5] at H;have c5b0:((rd l0 x8_1)==0)=false:=beq_eq_false_iff_ne.mpr c5;have c5b1:((rd l0 x8_1) != 0)=true:=bne_iff_ne.mpr c5;obtain rfl:=Option.some.inj H;have p101:0<=(x8_1:Int):=xa;have q101:x8_1<(l0.length:Int):=xa;obtain ⟨ad101,e101,hx101_0⟩:=Kd.QS HR0.out x8_1 p101 q101;cases e101;replace p101:=eq_true p101;replace q101:=eq_true q101;go_wp2;go_ret;exact ⟨xq,xd⟩
     ·rw [if_neg c4] at H;exact absurd H (by simp)
    ·rw [if_neg c3] at H;exact absurd H (by simp)
   ·rw [if_neg c2] at H;have c2b0:decide (x8_1<(l0.length:Int))=false:=decide_eq_false c2;clear c2;obtain rfl:=Option.some.inj H;go_wp2;go_ret;exact ⟨xq,xd⟩
def cmp_isNaN_string.f (a0:ByteArray):Option (Bool):=some (a0.toList != a0.toList)
set_option maxHeartbeats 8000000 in
set_option maxRecDepth 100000 in
theorem cmp_isNaN_string.calls (a0:ByteArray) (r:Bool) (w:World) (h:cmp_isNaN_string.f a0=some r):
 Calls Tryz.prog 181 #[.string a0] w λe w'=>e= .returned (.bool r)/\Ap w w':=by
 have H:(some (a0.toList != a0.toList))=some r:=h;clear h;obtain rfl:=Option.some.inj H;go_enter Tryz.func181,Tryz.ntmps181;go_wp2;go_ret;exact ⟨xq,xd⟩
def CB.f (a0:ByteArray) (a1:ByteArray):Option (Int):=(cmp_isNaN_string.f a0).bind λt102=>((cmp_isNaN_string.f a1).bind λt103=>(if t102=true then (if t103=true then (some 0) else (some (-1))) else (if t103=true then (some 1) else (if (Op.bytesLess a0.toList a1.toList)=true then (some (-1)) else (if (Op.bytesLess a1.toList a0.toList)=true then (some 1) else (some 0))))))
set_option maxHeartbeats 8000000 in
set_option maxRecDepth 100000 in
theorem CB.calls (a0:ByteArray) (a1:ByteArray) (r:Int) (w:World) (h:CB.f a0 a1=some r):
 Calls Tryz.prog 180 #[.string a0, .string a1] w λe w'=>e= .returned (.int .i64 r)/\Ap w w':=by
 have hsgtr9:∀ (x y:ByteArray) (W:World),(binOp .gtr 9 (.string x) (.string y)).run Tryz.prog W= .ok (.bool (Op.bytesLess y.toList x.toList)) W:=λ_ _ _=>QE _ _ _ _
 have H:((cmp_isNaN_string.f a0).bind λt102=>((cmp_isNaN_string.f a1).bind λt103=>(if t102=true then (if t103=true then (some 0) else (some (-1))) else (if t103=true then (some 1) else (if (Op.bytesLess a0.toList a1.toList)=true then (some (-1)) else (if (Op.bytesLess a1.toList a0.toList)=true then (some 1) else (some 0)))))))=some r:=h;clear h;replace H:=Option.bind_eq_some_iff.mp H;obtain ⟨t102,A30,H⟩:=H;try dsimp only at H
 have A3:=AA.mk A30;clear A30;replace H:=Option.bind_eq_some_iff.mp H;obtain ⟨t103,A40,H⟩:=H;try dsimp only at H
 have A4:=AA.mk A40;clear A40;by_cases c5:t102=true
 ·subst c5;rw [if_pos rfl] at H;by_cases c6:t103=true
  ·subst c6;rw [if_pos rfl] at H;obtain rfl:=Option.some.inj H;go_enter Tryz.func180,Tryz.ntmps180;go_wp2_with (first|((with_reducible refine AO (f:=181) rfl ?_);refine Ak (some 8) rfl rfl Tryz.func181 (by kernel_rfl) rfl #[.string a0] rfl xg ?_;(with_reducible refine (cmp_isNaN_string.calls a0 true _ A3.out).mono ?_);rintro e w' ⟨rfl,⟨nd,rfl⟩⟩;refine ⟨_,rfl,?_⟩)|((with_reducible refine AO (f:=181) rfl ?_);refine Ak (some 10) rfl rfl Tryz.func181 (by kernel_rfl) rfl #[.string a1] rfl xg ?_;(with_reducible refine (cmp_isNaN_string.calls a1 true _ A4.out).mono ?_);rintro e w' ⟨rfl,⟨nd,rfl⟩⟩;refine ⟨_,rfl,?_⟩));go_ret;exact ⟨xq,xd⟩
  ·replace c6:=Bool.eq_false_iff.mpr c6;subst c6;have H1:(some (-1))=some r:=by rw [if_neg (show ¬(false=true) by decide)] at H;exact H
   clear H;have H:=H1;clear H1;obtain rfl:=Option.some.inj H;go_enter Tryz.func180,Tryz.ntmps180;go_wp2_with (first|((with_reducible refine AO (f:=181) rfl ?_);refine Ak (some 8) rfl rfl Tryz.func181 (by kernel_rfl) rfl #[.string a0] rfl xg ?_;(with_reducible refine (cmp_isNaN_string.calls a0 true _ A3.out).mono ?_);rintro e w' ⟨rfl,⟨nd,rfl⟩⟩;refine ⟨_,rfl,?_⟩)|((with_reducible refine AO (f:=181) rfl ?_);refine Ak (some 10) rfl rfl Tryz.func181 (by kernel_rfl) rfl #[.string a1] rfl xg ?_;(with_reducible refine (cmp_isNaN_string.calls a1 false _ A4.out).mono ?_);rintro e w' ⟨rfl,⟨nd,rfl⟩⟩;refine ⟨_,rfl,?_⟩));go_ret;exact ⟨xq,xd⟩
 ·replace c5:=Bool.eq_false_iff.mpr c5;subst c5;have H1:(if t103=true then (some 1) else (if (Op.bytesLess a0.toList a1.toList)=true then (some (-1)) else (if (Op.bytesLess a1.toList a0.toList)=true then (some 1) else (some 0))))=some r:=by rw [if_neg (show ¬(false=true) by decide)] at H;exact H
  clear H;have H:=H1;clear H1;by_cases c7:t103=true
  ·subst c7;have H1:(some 1)=some r:=by rw [if_pos rfl] at H;exact H
   clear H;have H:=H1;clear H1;obtain rfl:=Option.some.inj H;go_enter Tryz.func180,Tryz.ntmps180;go_wp2_with (first|((with_reducible refine AO (f:=181) rfl ?_);refine Ak (some 8) rfl rfl Tryz.func181 (by kernel_rfl) rfl #[.string a0] rfl xg ?_;(with_reducible refine (cmp_isNaN_string.calls a0 false _ A3.out).mono ?_);rintro e w' ⟨rfl,⟨nd,rfl⟩⟩;refine ⟨_,rfl,?_⟩)|((with_reducible refine AO (f:=181) rfl ?_);refine Ak (some 10) rfl rfl Tryz.func181 (by kernel_rfl) rfl #[.string a1] rfl xg ?_;(with_reducible refine (cmp_isNaN_string.calls a1 true _ A4.out).mono ?_);rintro e w' ⟨rfl,⟨nd,rfl⟩⟩;refine ⟨_,rfl,?_⟩));go_ret;exact ⟨xq,xd⟩
  ·replace c7:=Bool.eq_false_iff.mpr c7;subst c7;have H1:(if (Op.bytesLess a0.toList a1.toList)=true then (some (-1)) else (if (Op.bytesLess a1.toList a0.toList)=true then (some 1) else (some 0)))=some r:=by rw [if_neg (show ¬(false=true) by decide)] at H;exact H
   clear H;have H:=H1;clear H1;by_cases c8:(Op.bytesLess a0.toList a1.toList)=true
   ·rw [if_pos c8] at H;have c8b0:(Op.bytesLess a0.toList a1.toList)=true:=c8;clear c8;obtain rfl:=Option.some.inj H;go_enter Tryz.func180,Tryz.ntmps180;go_wp2_with (first|((with_reducible refine AO (f:=181) rfl ?_);refine Ak (some 8) rfl rfl Tryz.func181 (by kernel_rfl) rfl #[.string a0] rfl xg ?_;(with_reducible refine (cmp_isNaN_string.calls a0 false _ A3.out).mono ?_);rintro e w' ⟨rfl,⟨nd,rfl⟩⟩;refine ⟨_,rfl,?_⟩)|((with_reducible refine AO (f:=181) rfl ?_);refine Ak (some 10) rfl rfl Tryz.func181 (by kernel_rfl) rfl #[.string a1] rfl xg ?_;(with_reducible refine (cmp_isNaN_string.calls a1 false _ A4.out).mono ?_);rintro e w' ⟨rfl,⟨nd,rfl⟩⟩;refine ⟨_,rfl,?_⟩));go_ret;exact ⟨xq,xd⟩
   ·rw [if_neg c8] at H;have c8b0:(Op.bytesLess a0.toList a1.toList)=false:=by simpa using c8
    clear c8;by_cases c9:(Op.bytesLess a1.toList a0.toList)=true
    ·rw [if_pos c9] at H;have c9b0:(Op.bytesLess a1.toList a0.toList)=true:=c9;clear c9;obtain rfl:=Option.some.inj H;go_enter Tryz.func180,Tryz.ntmps180;go_wp2_with (first|((with_reducible refine AO (f:=181) rfl ?_);refine Ak (some 8) rfl rfl Tryz.func181 (by kernel_rfl) rfl #[.string a0] rfl xg ?_;(with_reducible refine (cmp_isNaN_string.calls a0 false _ A3.out).mono ?_);rintro e w' ⟨rfl,⟨nd,rfl⟩⟩;refine ⟨_,rfl,?_⟩)|((with_reducible refine AO (f:=181) rfl ?_);refine Ak (some 10) rfl rfl Tryz.func181 (by kernel_rfl) rfl #[.string a1] rfl xg ?_;(with_reducible refine (cmp_isNaN_string.calls a1 false _ A4.out).mono ?_);rintro e w' ⟨rfl,⟨nd,rfl⟩⟩;refine ⟨_,rfl,?_⟩));go_ret;exact ⟨xq,xd⟩
    ·rw [if_neg c9] at H;have c9b0:(Op.bytesLess a1.toList a0.toList)=false:=by simpa using c9
     clear c9;obtain rfl:=Option.some.inj H;go_enter Tryz.func180,Tryz.ntmps180;go_wp2_with (first|((with_reducible refine AO (f:=181) rfl ?_);refine Ak (some 8) rfl rfl Tryz.func181 (by kernel_rfl) rfl #[.string a0] rfl xg ?_;(with_reducible refine (cmp_isNaN_string.calls a0 false _ A3.out).mono ?_);rintro e w' ⟨rfl,⟨nd,rfl⟩⟩;refine ⟨_,rfl,?_⟩)|((with_reducible refine AO (f:=181) rfl ?_);refine Ak (some 10) rfl rfl Tryz.func181 (by kernel_rfl) rfl #[.string a1] rfl xg ?_;(with_reducible refine (cmp_isNaN_string.calls a1 false _ A4.out).mono ?_);rintro e w' ⟨rfl,⟨nd,rfl⟩⟩;refine ⟨_,rfl,?_⟩));go_ret;exact ⟨xq,xd⟩
def Bh.j0:Nat->Int->Bool->Option (Bool)
 |0,_,_=>none
 |k+1,x0,x3=>if x3=true then (some true) else (if x0=33 then (some true) else ((Ao.f x0 35 39).bind λt107=>(if t107=true then (some true) else (if x0=42 then (some true) else (if x0=43 then (some true) else (if x0=45 then (some true) else (if x0=46 then (some true) else ((Ao.f x0 94 96).bind λt108=>(if t108=true then (some true) else (if x0=124 then (some true) else (some (x0==126))))))))))))
def Bh.f (k:Nat) (a0:Int):Option (Bool):=(Ao.f a0 97 122).bind λt104=>(if t104=true then (Bh.j0 k a0 t104) else ((Ao.f a0 65 90).bind λt105=>(if t105=true then (Bh.j0 k a0 t105) else ((Ao.f a0 48 57).bind λt106=>(Bh.j0 k a0 t106)))))
set_option maxHeartbeats 8000000 in
set_option maxRecDepth 100000 in
theorem Bh.calls (k:Nat) (a0:Int) (r:Bool) (w:World) (h:Bh.f k a0=some r):
 Calls Tryz.prog 103 #[.int .u8 a0] w λe w'=>e= .returned (.bool r)/\Ap w w':=by
 have H:((Ao.f a0 97 122).bind λt104=>(if t104=true then (Bh.j0 k a0 t104) else ((Ao.f a0 65 90).bind λt105=>(if t105=true then (Bh.j0 k a0 t105) else ((Ao.f a0 48 57).bind λt106=>(Bh.j0 k a0 t106))))))=some r:=h;clear h;replace H:=Option.bind_eq_some_iff.mp H;obtain ⟨t104,A20,H⟩:=H;try dsimp only at H
 have A2:=AA.mk A20;clear A20;have HC3:=AA.mk H;clear H;go_enter Tryz.func103,Tryz.ntmps103;go_upto_if 3 with (first|((with_reducible refine AO (f:=104) rfl ?_);refine Ak (some 5) rfl rfl Tryz.func104 (by kernel_rfl) rfl #[.int .u8 a0, .int .u8 97, .int .u8 122] rfl xg ?_;(with_reducible refine (Ao.calls a0 97 122 t104 _ A2.out).mono ?_);rintro e w' ⟨rfl,⟨nd,rfl⟩⟩;refine ⟨_,rfl,?_⟩))
 (try simp only [Act.put,List.setIfInBounds_toArray,List.set_cons_zero,List.set_cons_succ]);go_cut [3] (λv3 wc=>∃ (kq:Nat) (x3_2:Bool),v3= .bool x3_2/\AA (Bh.j0 kq a0 x3_2=some r)/\AA (kq<=k)/\Ap w wc);case first=>
  have H:=HC3.out;clear HC3;by_cases c4:t104=true
  ·subst c4;have H1:(Bh.j0 k a0 true)=some r:=by rw [if_pos rfl] at H;exact H
   clear H;have H:=H1;clear H1;have H':=AA.mk H;clear H;go_wp2;go_meet;case rel=>exact ⟨_,(true),xq,H',⟨by first|omega|exact Nat.le_refl _⟩,xd⟩
  ·replace c4:=Bool.eq_false_iff.mpr c4;subst c4;have H1:((Ao.f a0 65 90).bind λt105=>(if t105=true then (Bh.j0 k a0 t105) else ((Ao.f a0 48 57).bind λt106=>(Bh.j0 k a0 t106))))=some r:=by rw [if_neg (show ¬(false=true) by decide)] at H;exact H
   clear H;have H:=H1;clear H1;replace H:=Option.bind_eq_some_iff.mp H;obtain ⟨t105,A50,H⟩:=H;replace H:(if t105=true then (Bh.j0 k a0 t105) else ((Ao.f a0 48 57).bind λt106=>(Bh.j0 k a0 t106)))=some r:=H;have A5:=AA.mk A50;clear A50;by_cases c6:t105=true
   ·subst c6;have H1:(Bh.j0 k a0 true)=some r:=by rw [if_pos rfl] at H;exact H
    clear H;have H:=H1;clear H1;have H':=AA.mk H;clear H;go_wp2_with (first|((with_reducible refine AO (f:=104) rfl ?_);refine Ak (some 7) rfl rfl Tryz.func104 (by kernel_rfl) rfl #[.int .u8 a0, .int .u8 65, .int .u8 90] rfl xg ?_;(with_reducible refine (Ao.calls a0 65 90 true _ A5.out).mono ?_);rintro e w' ⟨rfl,⟨nd,rfl⟩⟩;refine ⟨_,rfl,?_⟩));go_meet;case rel=>exact ⟨_,(true),xq,H',⟨by first|omega|exact Nat.le_refl _⟩,xd⟩
   ·replace c6:=Bool.eq_false_iff.mpr c6;subst c6;have H1:((Ao.f a0 48 57).bind λt106=>(Bh.j0 k a0 t106))=some r:=by rw [if_neg (show ¬(false=true) by decide)] at H;exact H
    clear H;have H:=H1;clear H1;replace H:=Option.bind_eq_some_iff.mp H;obtain ⟨t106,A70,H⟩:=H;replace H:(Bh.j0 k a0 t106)=some r:=H;have A7:=AA.mk A70;clear A70;have H':=AA.mk H;clear H;go_wp2_with (first|((with_reducible refine AO (f:=104) rfl ?_);refine Ak (some 7) rfl rfl Tryz.func104 (by kernel_rfl) rfl #[.int .u8 a0, .int .u8 65, .int .u8 90] rfl xg ?_;(with_reducible refine (Ao.calls a0 65 90 false _ A5.out).mono ?_);rintro e w' ⟨rfl,⟨nd,rfl⟩⟩;refine ⟨_,rfl,?_⟩)|((with_reducible refine AO (f:=104) rfl ?_);refine Ak (some 9) rfl rfl Tryz.func104 (by kernel_rfl) rfl #[.int .u8 a0, .int .u8 48, .int .u8 57] rfl xg ?_;(with_reducible refine (Ao.calls a0 48 57 t106 _ A7.out).mono ?_);rintro e w' ⟨rfl,⟨nd,rfl⟩⟩;refine ⟨_,rfl,?_⟩));go_meet;case rel=>exact ⟨_,(t106),xq,H',⟨by first|omega|exact Nat.le_refl _⟩,xd⟩
 case rest=>
  clear HC3;try clear c1
  try clear p2
  try clear p3
  try clear c4
  try clear c6
  try clear p6
  obtain ⟨kq,x3_2,rfl,HA,HJ2,⟨mc2,rfl⟩⟩:=hcut;cases kq with
  |zero=>exact absurd HA.out (by simp [Bh.j0])
  |succ kj2=>
   have H:=HA.out;clear HA;simp only [Bh.j0] at H;by_cases c8:x3_2=true
   ·subst c8;have H1:(some true)=some r:=by rw [if_pos rfl] at H;exact H
    clear H;have H:=H1;clear H1;obtain rfl:=Option.some.inj H;go_wp2;go_ret;exact ⟨xq,xd⟩
   ·replace c8:=Bool.eq_false_iff.mpr c8;subst c8;have H1:(if a0=33 then (some true) else ((Ao.f a0 35 39).bind λt107=>(if t107=true then (some true) else (if a0=42 then (some true) else (if a0=43 then (some true) else (if a0=45 then (some true) else (if a0=46 then (some true) else ((Ao.f a0 94 96).bind λt108=>(if t108=true then (some true) else (if a0=124 then (some true) else (some (a0==126))))))))))))=some r:=by rw [if_neg (show ¬(false=true) by decide)] at H;exact H
    clear H;have H:=H1;clear H1;by_cases c9:a0=33
    ·rw [if_pos c9] at H;have c9b0:(a0==33)=true:=beq_iff_eq.mpr c9;have c9b1:(a0 != 33)=false:=bne_eq_false_iff_eq.mpr c9;clear c9;obtain rfl:=Option.some.inj H;go_wp2;go_ret;exact ⟨xq,xd⟩
    ·rw [if_neg c9] at H;have c9b0:(a0==33)=false:=beq_eq_false_iff_ne.mpr c9;have c9b1:(a0 != 33)=true:=bne_iff_ne.mpr c9;replace H:=Option.bind_eq_some_iff.mp H;obtain ⟨t107,A100,H⟩:=H;replace H:(if t107=true then (some true) else (if a0=42 then (some true) else (if a0=43 then (some true) else (if a0=45 then (some true) else (if a0=46 then (some true) else ((Ao.f a0 94 96).bind λt108=>(if t108=true then (some true) else (if a0=124 then (some true) else (some (a0==126))))))))))=some r:=H;have A10:=AA.mk A100;clear A100;by_cases c11:t107=true
     ·subst c11;rw [if_pos rfl] at H;obtain rfl:=Option.some.inj H;go_wp2_with (first|(go_at_call 104;(with_reducible refine (Ao.calls a0 35 39 true _ A10.out).mono ?_);rintro e w' ⟨rfl,⟨nd,rfl⟩⟩));go_ret;exact ⟨xq,xd⟩
     ·replace c11:=Bool.eq_false_iff.mpr c11;subst c11;have H1:(if a0=42 then (some true) else (if a0=43 then (some true) else (if a0=45 then (some true) else (if a0=46 then (some true) else ((Ao.f a0 94 96).bind λt108=>(if t108=true then (some true) else (if a0=124 then (some true) else (some (a0==126)))))))))=some r:=by rw [if_neg (show ¬(false=true) by decide)] at H;exact H
      clear H;have H:=H1;clear H1;by_cases c12:a0=42
      ·rw [if_pos c12] at H;have c12b0:(a0==42)=true:=beq_iff_eq.mpr c12;have c12b1:(a0 != 42)=false:=bne_eq_false_iff_eq.mpr c12;clear c12;obtain rfl:=Option.some.inj H;go_wp2_with (first|(go_at_call 104;(with_reducible refine (Ao.calls a0 35 39 false _ A10.out).mono ?_);rintro e w' ⟨rfl,⟨nd,rfl⟩⟩));go_ret;exact ⟨xq,xd⟩
      ·rw [if_neg c12] at H;have c12b0:(a0==42)=false:=beq_eq_false_iff_ne.mpr c12;have c12b1:(a0 != 42)=true:=bne_iff_ne.mpr c12;by_cases c13:a0=43
       ·rw [if_pos c13] at H;have c13b0:(a0==43)=true:=beq_iff_eq.mpr c13;have c13b1:(a0 != 43)=false:=bne_eq_false_iff_eq.mpr c13;clear c13;obtain rfl:=Option.some.inj H;go_wp2_with (first|(go_at_call 104;(with_reducible refine (Ao.calls a0 35 39 false _ A10.out).mono ?_);rintro e w' ⟨rfl,⟨nd,rfl⟩⟩));go_ret;exact ⟨xq,xd⟩
       ·rw [if_neg c13] at H;have c13b0:(a0==43)=false:=beq_eq_false_iff_ne.mpr c13;have c13b1:(a0 != 43)=true:=bne_iff_ne.mpr c13;by_cases c14:a0=45
        ·rw [if_pos c14] at H;have c14b0:(a0==45)=true:=beq_iff_eq.mpr c14;have c14b1:(a0 != 45)=false:=bne_eq_false_iff_eq.mpr c14;clear c14;obtain rfl:=Option.some.inj H;go_wp2_with (first|(go_at_call 104;(with_reducible refine (Ao.calls a0 35 39 false _ A10.out).mono ?_);rintro e w' ⟨rfl,⟨nd,rfl⟩⟩));go_ret;exact ⟨xq,xd⟩
        ·rw [if_neg c14] at H;have c14b0:(a0==45)=false:=beq_eq_false_iff_ne.mpr c14;have c14b1:(a0 != 45)=true:=bne_iff_ne.mpr c14;by_cases c15:a0=46
         ·rw [if_pos c15] at H;have c15b0:(a0==46)=true:=beq_iff_eq.mpr c15;have c15b1:(a0 != 46)=false:=bne_eq_false_iff_eq.mpr c15;clear c15;obtain rfl:=Option.some.inj H;go_wp2_with (first|(go_at_call 104;(with_reducible refine (Ao.calls a0 35 39 false _ A10.out).mono ?_);rintro e w' ⟨rfl,⟨nd,rfl⟩⟩));go_ret;exact ⟨xq,xd⟩
         ·rw [if_neg c15] at H;have c15b0:(a0==46)=false:=beq_eq_false_iff_ne.mpr c15;have c15b1:(a0 != 46)=true:=bne_iff_ne.mpr c15;replace H:=Option.bind_eq_some_iff.mp H;obtain ⟨t108,A160,H⟩:=H;replace H:(if t108=true then (some true) else (if a0=124 then (some true) else (some (a0==126))))=some r:=H;have A16:=AA.mk A160;clear A160;by_cases c17:t108=true
          ·subst c17;rw [if_pos rfl] at H;obtain rfl:=Option.some.inj H;go_wp2_with (first|(go_at_call 104;(with_reducible refine (Ao.calls a0 35 39 false _ A10.out).mono ?_);rintro e w' ⟨rfl,⟨nd,rfl⟩⟩)|(go_at_call 104;(with_reducible refine (Ao.calls a0 94 96 true _ A16.out).mono ?_);rintro e w' ⟨rfl,⟨nd,rfl⟩⟩));go_ret;exact ⟨xq,xd⟩
          ·replace c17:=Bool.eq_false_iff.mpr c17;subst c17;have H1:(if a0=124 then (some true) else (some (a0==126)))=some r:=by rw [if_neg (show ¬(false=true) by decide)] at H;exact H
           clear H;have H:=H1;clear H1;by_cases c18:a0=124
           ·rw [if_pos c18] at H;have c18b0:(a0==124)=true:=beq_iff_eq.mpr c18;have c18b1:(a0 != 124)=false:=bne_eq_false_iff_eq.mpr c18;clear c18;obtain rfl:=Option.some.inj H;go_wp2_with (first|(go_at_call 104;(with_reducible refine (Ao.calls a0 35 39 false _ A10.out).mono ?_);rintro e w' ⟨rfl,⟨nd,rfl⟩⟩)|(go_at_call 104;(with_reducible refine (Ao.calls a0 94 96 false _ A16.out).mono ?_);rintro e w' ⟨rfl,⟨nd,rfl⟩⟩));go_ret;exact ⟨xq,xd⟩
           ·rw [if_neg c18] at H;have c18b0:(a0==124)=false:=beq_eq_false_iff_ne.mpr c18;have c18b1:(a0 != 124)=true:=bne_iff_ne.mpr c18;obtain rfl:=Option.some.inj H;go_wp2_with (first|(go_at_call 104;(with_reducible refine (Ao.calls a0 35 39 false _ A10.out).mono ?_);rintro e w' ⟨rfl,⟨nd,rfl⟩⟩)|(go_at_call 104;(with_reducible refine (Ao.calls a0 94 96 false _ A16.out).mono ?_);rintro e w' ⟨rfl,⟨nd,rfl⟩⟩));go_ret;exact ⟨xq,xd⟩
def Du.f (a0:Int):Option (Bool):=(Ao.f a0 33 126).bind λt109=>(if t109=true then (if a0=34 then (some false) else (if a0=44 then (some false) else (if a0=59 then (some false) else (some (a0 != 92))))) else (some false))
set_option maxHeartbeats 8000000 in
set_option maxRecDepth 100000 in
theorem Du.calls (a0:Int) (r:Bool) (w:World) (h:Du.f a0=some r):
 Calls Tryz.prog 105 #[.int .u8 a0] w λe w'=>e= .returned (.bool r)/\Ap w w':=by
 have H:((Ao.f a0 33 126).bind λt109=>(if t109=true then (if a0=34 then (some false) else (if a0=44 then (some false) else (if a0=59 then (some false) else (some (a0 != 92))))) else (some false)))=some r:=h;clear h;replace H:=Option.bind_eq_some_iff.mp H;obtain ⟨t109,A20,H⟩:=H;try dsimp only at H
 have A2:=AA.mk A20;clear A20;by_cases c3:t109=true
 ·subst c3;rw [if_pos rfl] at H;by_cases c4:a0=34
  ·rw [if_pos c4] at H;have c4b0:(a0==34)=true:=beq_iff_eq.mpr c4;have c4b1:(a0 != 34)=false:=bne_eq_false_iff_eq.mpr c4;clear c4;obtain rfl:=Option.some.inj H;go_enter Tryz.func105,Tryz.ntmps105;go_wp2_with (first|((with_reducible refine AO (f:=104) rfl ?_);refine Ak (some 4) rfl rfl Tryz.func104 (by kernel_rfl) rfl #[.int .u8 a0, .int .u8 33, .int .u8 126] rfl xg ?_;(with_reducible refine (Ao.calls a0 33 126 true _ A2.out).mono ?_);rintro e w' ⟨rfl,⟨nd,rfl⟩⟩;refine ⟨_,rfl,?_⟩));go_ret;exact ⟨xq,xd⟩
  ·rw [if_neg c4] at H;have c4b0:(a0==34)=false:=beq_eq_false_iff_ne.mpr c4;have c4b1:(a0 != 34)=true:=bne_iff_ne.mpr c4;by_cases c5:a0=44
   ·rw [if_pos c5] at H;have c5b0:(a0==44)=true:=beq_iff_eq.mpr c5;have c5b1:(a0 != 44)=false:=bne_eq_false_iff_eq.mpr c5;clear c5;obtain rfl:=Option.some.inj H;go_enter Tryz.func105,Tryz.ntmps105;go_wp2_with (first|((with_reducible refine AO (f:=104) rfl ?_);refine Ak (some 4) rfl rfl Tryz.func104 (by kernel_rfl) rfl #[.int .u8 a0, .int .u8 33, .int .u8 126] rfl xg ?_;(with_reducible refine (Ao.calls a0 33 126 true _ A2.out).mono ?_);rintro e w' ⟨rfl,⟨nd,rfl⟩⟩;refine ⟨_,rfl,?_⟩));go_ret;exact ⟨xq,xd⟩
   ·rw [if_neg c5] at H;have c5b0:(a0==44)=false:=beq_eq_false_iff_ne.mpr c5;have c5b1:(a0 != 44)=true:=bne_iff_ne.mpr c5;by_cases c6:a0=59
    ·rw [if_pos c6] at H;have c6b0:(a0==59)=true:=beq_iff_eq.mpr c6;have c6b1:(a0 != 59)=false:=bne_eq_false_iff_eq.mpr c6;clear c6;obtain rfl:=Option.some.inj H;go_enter Tryz.func105,Tryz.ntmps105;go_wp2_with (first|((with_reducible refine AO (f:=104) rfl ?_);refine Ak (some 4) rfl rfl Tryz.func104 (by kernel_rfl) rfl #[.int .u8 a0, .int .u8 33, .int .u8 126] rfl xg ?_;(with_reducible refine (Ao.calls a0 33 126 true _ A2.out).mono ?_);rintro e w' ⟨rfl,⟨nd,rfl⟩⟩;refine ⟨_,rfl,?_⟩));go_ret;exact ⟨xq,xd⟩
    ·rw [if_neg c6] at H;have c6b0:(a0==59)=false:=beq_eq_false_iff_ne.mpr c6;have c6b1:(a0 != 59)=true:=bne_iff_ne.mpr c6;obtain rfl:=Option.some.inj H;go_enter Tryz.func105,Tryz.ntmps105;go_wp2_with (first|((with_reducible refine AO (f:=104) rfl ?_);refine Ak (some 4) rfl rfl Tryz.func104 (by kernel_rfl) rfl #[.int .u8 a0, .int .u8 33, .int .u8 126] rfl xg ?_;(with_reducible refine (Ao.calls a0 33 126 true _ A2.out).mono ?_);rintro e w' ⟨rfl,⟨nd,rfl⟩⟩;refine ⟨_,rfl,?_⟩));go_ret;exact ⟨xq,xd⟩
 ·replace c3:=Bool.eq_false_iff.mpr c3;subst c3;have H1:(some false)=some r:=by rw [if_neg (show ¬(false=true) by decide)] at H;exact H
  clear H;have H:=H1;clear H1;obtain rfl:=Option.some.inj H;go_enter Tryz.func105,Tryz.ntmps105;go_wp2_with (first|((with_reducible refine AO (f:=104) rfl ?_);refine Ak (some 4) rfl rfl Tryz.func104 (by kernel_rfl) rfl #[.int .u8 a0, .int .u8 33, .int .u8 126] rfl xg ?_;(with_reducible refine (Ao.calls a0 33 126 false _ A2.out).mono ?_);rintro e w' ⟨rfl,⟨nd,rfl⟩⟩;refine ⟨_,rfl,?_⟩));go_ret;exact ⟨xq,xd⟩
def EB.f (a0:Int):Option (Bool):=(Ao.f a0 33 126).bind λt110=>(if t110=true then (some (a0 != 59)) else (some false))
set_option maxHeartbeats 8000000 in
set_option maxRecDepth 100000 in
theorem EB.calls (a0:Int) (r:Bool) (w:World) (h:EB.f a0=some r):
 Calls Tryz.prog 124 #[.int .u8 a0] w λe w'=>e= .returned (.bool r)/\Ap w w':=by
 have H:((Ao.f a0 33 126).bind λt110=>(if t110=true then (some (a0 != 59)) else (some false)))=some r:=h;clear h;replace H:=Option.bind_eq_some_iff.mp H;obtain ⟨t110,A20,H⟩:=H;try dsimp only at H
 have A2:=AA.mk A20;clear A20;by_cases c3:t110=true
 ·subst c3;rw [if_pos rfl] at H;obtain rfl:=Option.some.inj H;go_enter Tryz.func124,Tryz.ntmps124;go_wp2_with (first|((with_reducible refine AO (f:=104) rfl ?_);refine Ak (some 4) rfl rfl Tryz.func104 (by kernel_rfl) rfl #[.int .u8 a0, .int .u8 33, .int .u8 126] rfl xg ?_;(with_reducible refine (Ao.calls a0 33 126 true _ A2.out).mono ?_);rintro e w' ⟨rfl,⟨nd,rfl⟩⟩;refine ⟨_,rfl,?_⟩));go_ret;exact ⟨xq,xd⟩
 ·replace c3:=Bool.eq_false_iff.mpr c3;subst c3;have H1:(some false)=some r:=by rw [if_neg (show ¬(false=true) by decide)] at H;exact H
  clear H;have H:=H1;clear H1;obtain rfl:=Option.some.inj H;go_enter Tryz.func124,Tryz.ntmps124;go_wp2_with (first|((with_reducible refine AO (f:=104) rfl ?_);refine Ak (some 4) rfl rfl Tryz.func104 (by kernel_rfl) rfl #[.int .u8 a0, .int .u8 33, .int .u8 126] rfl xg ?_;(with_reducible refine (Ao.calls a0 33 126 false _ A2.out).mono ?_);rintro e w' ⟨rfl,⟨nd,rfl⟩⟩;refine ⟨_,rfl,?_⟩));go_ret;exact ⟨xq,xd⟩
def FL.f (a0_0:ByteArray) (a0_1:ByteArray) (a0_2:ByteArray) (a0_3:ByteArray) (a0_4:Int) (a0_5:Int) (a0_6:Int) (a0_7:Bool) (a0_8:Bool) (a0_9:Bool) (a0_10:Int):Option (ByteArray×ByteArray×ByteArray):=some (a0_0,a0_1,a0_2)
set_option maxHeartbeats 8000000 in
set_option maxRecDepth 100000 in
theorem FL.calls (a0_0:ByteArray) (a0_1:ByteArray) (a0_2:ByteArray) (a0_3:ByteArray) (a0_4:Int) (a0_5:Int) (a0_6:Int) (a0_7:Bool) (a0_8:Bool) (a0_9:Bool) (a0_10:Int) (r1:ByteArray) (r2:ByteArray) (r3:ByteArray) (w:World) (h:FL.f a0_0 a0_1 a0_2 a0_3 a0_4 a0_5 a0_6 a0_7 a0_8 a0_9 a0_10=some (r1,r2,r3)):
 Calls Tryz.prog 37 #[.agg #[.string a0_0, .string a0_1, .string a0_2, .string a0_3, .int .i64 a0_4, .int .i64 a0_5, .int .i64 a0_6, .bool a0_7, .bool a0_8, .bool a0_9, .int .i64 a0_10]] w λe w'=>e= .returned (.agg #[.string r1, .string r2, .string r3])/\Below w.heap.size w w':=by
 have hu53:=Tryz.underlying53;have hu69:=Tryz.underlying69;have HB:=AA.mk (Below.refl w.heap.size w);have H:(some (a0_0,a0_1,a0_2))=some (r1,r2,r3):=h;clear h;simp only [Option.some.injEq,Prod.mk.injEq] at H;obtain ⟨rfl,rfl,rfl⟩:=H;go_enter Tryz.func37,Tryz.ntmps37;go_wp2_with (first|(refine Dk (N:=1) (cs:=#[.string a0_0, .string a0_1, .string a0_2, .string a0_3, .int .i64 a0_4, .int .i64 a0_5, .int .i64 a0_6, .bool a0_7, .bool a0_8, .bool a0_9, .int .i64 a0_10]) (t:=53) (λgb111 hg w2 hbox hb=>?_);have BK111:=AA.mk (hbox);have GW111:AA (w.heap.size<=gb111):=Dp hg xb;have GE111:AA (w.heap.size<=gb111):=Dp hg xb;replace HB:=AA.mk (AP xb hb);clear hb hbox hg)|(refine Dk (N:=2) (cs:=#[.string (⟨#[]⟩:ByteArray), .string (⟨#[]⟩:ByteArray), .string (⟨#[]⟩:ByteArray)]) (t:=69) (λgb112 hg w3 hbox hb=>?_);have BK112:=AA.mk (hbox);have GW112:AA (w.heap.size<=gb112):=Dp hg xb;have GE112:AA (w.heap.size<=gb112):=Dp hg xb;replace HB:=AA.mk (AP xb hb);have NB111_112:=G9 hg (Cz BK111);have NB112_111:=HZ hg (Cz BK111);replace BK111:=Bt BK111 hb;clear hb hbox hg;have hnb4:=NB111_112.out;have hnc4:=NB112_111.out;obtain ⟨hcz5_0,hcz5_1,hcz5_2,hcz5_3,hcz5_4,hcz5_5,hcz5_6,hcz5_7,hcz5_8,hcz5_9,hcz5_10⟩:=Bv BK111.out;have hfz5_0:=AX BK111.out;obtain ⟨hcz6_0,hcz6_1,hcz6_2⟩:=cells3 BK112.out;have hfz6_0:=AX BK112.out));refine bodyPost_ret (results_cell_row rfl _ _ gb112 69 #[.string a0_0, .string a0_1, .string a0_2] (0,0) _ rfl xk Tryz.underlying69 rfl (by kernel_rfl)) rfl ?_;exact ⟨xe,xb⟩
def CP.f (k:Nat) (a0_0:ByteArray) (a0_1:ByteArray) (a0_2:ByteArray) (a1_0:ByteArray) (a1_1:ByteArray) (a1_2:ByteArray):Option (Int):=(CB.f a0_0 a1_0).bind λt115=>((CB.f a0_1 a1_1).bind λt116=>((CB.f a0_2 a1_2).bind λt117=>((Ci.f k (([t115,t116,t117]:List Int))).bind λt121=>(some t121))))
def CP.T1:Bool×List (List Nat×List Nat):=(true,[([],[]),([0],[0]),([],[]),([2],[2]),([1,3],[1,3]),([],[]),([5],[5]),([],[]),([7],[7]),([6,8,4],[6,8]),([],[]),([10],[10]),([],[]),([12],[12]),([11,13,9],[11,13]),([4,9,14],[4,9,14]),([15,14],[15]),([16,16,0,1,2,3,4,5,6,7,8,9,10,11,12,13,14,15,16],[16])])
def CP.B1:List Nat:=[0,1,0,4,15,0,32,0,128,511,0,1024,0,4096,16383,32767,65535,131071]
theorem CP.VF:E8 .any (opsOf Tryz.f178 1)=CP.T1:=by kernel_rfl
theorem CP.Ul:FE CP.T1.2 CP.B1=true:=by kernel_rfl
set_option maxHeartbeats 8000000 in
set_option maxRecDepth 100000 in
theorem CP.calls (k:Nat) (a0_0:ByteArray) (a0_1:ByteArray) (a0_2:ByteArray) (a1_0:ByteArray) (a1_1:ByteArray) (a1_2:ByteArray) (r:Int) (w:World) (h:CP.f k a0_0 a0_1 a0_2 a1_0 a1_1 a1_2=some r):
 Calls Tryz.prog 178 #[.agg #[.string a0_0, .string a0_1, .string a0_2], .agg #[.string a1_0, .string a1_1, .string a1_2]] w λe w'=>e= .returned (.int .i64 r)/\Below w.heap.size w w':=by
 have hu69:=Tryz.underlying69;have HB:=AA.mk (Below.refl w.heap.size w);have H:((CB.f a0_0 a1_0).bind λt115=>((CB.f a0_1 a1_1).bind λt116=>((CB.f a0_2 a1_2).bind λt117=>((Ci.f k (([t115,t116,t117]:List Int))).bind λt121=>(some t121)))))=some r:=h;clear h;replace H:=Option.bind_eq_some_iff.mp H;obtain ⟨t115,A30,H⟩:=H;try dsimp only at H
 have A3:=AA.mk A30;clear A30;replace H:=Option.bind_eq_some_iff.mp H;obtain ⟨t116,A40,H⟩:=H;try dsimp only at H
 have A4:=AA.mk A40;clear A40;replace H:=Option.bind_eq_some_iff.mp H;obtain ⟨t117,A50,H⟩:=H;try dsimp only at H
 have A5:=AA.mk A50;clear A50;obtain ⟨y118,hy118⟩:∃ y_:List Int,y_=(([t115,t116,t117]:List Int)):=⟨_,rfl⟩;replace H:((Ci.f k y118).bind λt121=>(some t121))=some r:=by first|(rw [hy118];with_reducible exact H)|(have H2_:=(Option.bind_some _ _).symm.trans H;rw [hy118];with_reducible exact H2_)|(have H2_:=(Option.bind_some _ _).symm.trans H;with_reducible exact H2_)|with_reducible exact H|(rw [hy118];exact H)|exact H
 have Ny118:=AA.mk hy118;clear hy118;replace H:=Option.bind_eq_some_iff.mp H;obtain ⟨t121,A60,H⟩:=H;try dsimp only at H
 have A6:=AA.mk A60;clear A60;obtain rfl:=Option.some.inj H;go_enter Tryz.func178,Tryz.ntmps178;try go_wp2_with (first|(refine Dk (N:=2) (cs:=#[.string a0_0, .string a0_1, .string a0_2]) (t:=69) (λgb113 hg w7 hbox hb=>?_);have BK113:=AA.mk (hbox);have GW113:AA (w.heap.size<=gb113):=Dp hg xb;have GE113:AA (w.heap.size<=gb113):=Dp hg xb;replace HB:=AA.mk (AP xb hb);clear hb hbox hg)|(refine Dk (N:=3) (cs:=#[.string a1_0, .string a1_1, .string a1_2]) (t:=69) (λgb114 hg w8 hbox hb=>?_);have BK114:=AA.mk (hbox);have GW114:AA (w.heap.size<=gb114):=Dp hg xb;have GE114:AA (w.heap.size<=gb114):=Dp hg xb;replace HB:=AA.mk (AP xb hb);have NB113_114:=G9 hg (Cz BK113);have NB114_113:=HZ hg (Cz BK113);replace BK113:=Bt BK113 hb;clear hb hbox hg))
 replace BK113:=AA.mk (CX BK113.out);replace BK114:=AA.mk (CX BK114.out);replace HB:=AA.mk (CK HB.out);refine Eg (n:=18) (S:=λw'=>w'.cell? ⟨gb113,0,none⟩=some (.string a0_0)/\w'.cell? ⟨gb113,1,none⟩=some (.string a0_1)/\w'.cell? ⟨gb113,2,none⟩=some (.string a0_2)/\w'.cell? ⟨gb114,0,none⟩=some (.string a1_0)/\w'.cell? ⟨gb114,1,none⟩=some (.string a1_1)/\w'.cell? ⟨gb114,2,none⟩=some (.string a1_2)) (ds:=[]) (bm 18 0) (by kernel_rfl) rfl rfl ⟨(AL BK113.out 0).trans rfl,(AL BK113.out 1).trans rfl,(AL BK113.out 2).trans rfl,(AL BK114.out 0).trans rfl,(AL BK114.out 1).trans rfl,(AL BK114.out 2).trans rfl⟩ (λhHeld=>?_);refine EH CP.VF CP.Ul (λHT_ HW_=>?_);generalize w8.drew=w9 at BK113 BK114 HB hHeld⊢
 refine Ay (i:=0) (N:=some 5) (bm 18 1) rfl rfl (Ar HT_.out (by kernel_rfl)) (Or.inl ⟨by rfl,by intro w';go_simp;with_reducible rfl⟩) ?_;refine Ay (i:=2) (N:=some 7) (bm 18 5) rfl rfl (Ar HT_.out (by kernel_rfl)) (Or.inl ⟨by rfl,by intro w';go_simp;with_reducible rfl⟩) ?_;refine Ay (i:=5) (N:=some 10) (bm 18 37) rfl rfl (Ar HT_.out (by kernel_rfl)) (Or.inl ⟨by rfl,by intro w';go_simp;with_reducible rfl⟩) ?_;refine Ay (i:=7) (N:=some 12) (bm 18 165) rfl rfl (Ar HT_.out (by kernel_rfl)) (Or.inl ⟨by rfl,by intro w';go_simp;with_reducible rfl⟩) ?_;refine Ay (i:=10) (N:=some 15) (bm 18 1189) rfl rfl (Ar HT_.out (by kernel_rfl)) (Or.inl ⟨by rfl,by intro w';go_simp;with_reducible rfl⟩) ?_;refine Ay (i:=12) (N:=some 17) (bm 18 5285) rfl rfl (Ar HT_.out (by kernel_rfl)) (Or.inl ⟨by rfl,by intro w';go_simp;with_reducible rfl⟩) ?_;refine Cn (i:=1) (N:=some 6) (bm 18 5287) rfl rfl (CJ HT_.out HW_.out (by kernel_rfl)) (Or.inl ⟨by rfl,by rintro w' ⟨s0,s1,s2,s3,s4,s5⟩;go_simp;with_reducible rfl⟩) hHeld ?_;refine Cn (i:=3) (N:=some 8) (bm 18 5295) rfl rfl (CJ HT_.out HW_.out (by kernel_rfl)) (Or.inl ⟨by rfl,by rintro w' ⟨s0,s1,s2,s3,s4,s5⟩;go_simp;with_reducible rfl⟩) hHeld ?_;refine Cn (i:=6) (N:=some 11) (bm 18 5359) rfl rfl (CJ HT_.out HW_.out (by kernel_rfl)) (Or.inl ⟨by rfl,by rintro w' ⟨s0,s1,s2,s3,s4,s5⟩;go_simp;with_reducible rfl⟩) hHeld ?_;refine Cn (i:=8) (N:=some 13) (bm 18 5615) rfl rfl (CJ HT_.out HW_.out (by kernel_rfl)) (Or.inl ⟨by rfl,by rintro w' ⟨s0,s1,s2,s3,s4,s5⟩;go_simp;with_reducible rfl⟩) hHeld ?_;refine Cn (i:=11) (N:=some 16) (bm 18 7663) rfl rfl (CJ HT_.out HW_.out (by kernel_rfl)) (Or.inl ⟨by rfl,by rintro w' ⟨s0,s1,s2,s3,s4,s5⟩;go_simp;with_reducible rfl⟩) hHeld ?_;refine Cn (i:=13) (N:=some 18) (bm 18 15855) rfl rfl (CJ HT_.out HW_.out (by kernel_rfl)) (Or.inl ⟨by rfl,by rintro w' ⟨s0,s1,s2,s3,s4,s5⟩;go_simp;with_reducible rfl⟩) hHeld ?_;refine D8 (i:=4) (N:=some 9) (bm 18 15871) rfl rfl (C9 HT_.out (by kernel_rfl)) (by decide) (λK hK=>?_);refine Dy Tryz.func180 (by kernel_rfl) rfl #[.string a0_0, .string a1_0] (by rfl) rfl rfl xg ?_;with_reducible refine (CB.calls a0_0 a1_0 t115 _ A3.out).mono ?_
 rintro e w' ⟨rfl,⟨nd,rfl⟩⟩;refine ⟨_,rfl,?_⟩;refine hK.out _ _ xc (λhHeld=>?_);clear hK K;refine DK (some 9) rfl ?_;refine D8 (i:=9) (N:=some 14) (bm 18 16383) rfl rfl (C9 HT_.out (by kernel_rfl)) (by decide) (λK hK=>?_);refine Dy Tryz.func180 (by kernel_rfl) rfl #[.string a0_1, .string a1_1] (by rfl) rfl rfl xg ?_;with_reducible refine (CB.calls a0_1 a1_1 t116 _ A4.out).mono ?_
 rintro e w' ⟨rfl,⟨nd,rfl⟩⟩;refine ⟨_,rfl,?_⟩;refine hK.out _ _ xc (λhHeld=>?_);clear hK K;refine DK (some 14) rfl ?_;refine D8 (i:=14) (N:=some 19) (bm 18 32767) rfl rfl (C9 HT_.out (by kernel_rfl)) (by decide) (λK hK=>?_);refine Dy Tryz.func180 (by kernel_rfl) rfl #[.string a0_2, .string a1_2] (by rfl) rfl rfl xg ?_;with_reducible refine (CB.calls a0_2 a1_2 t117 _ A5.out).mono ?_
 rintro e w' ⟨rfl,⟨nd,rfl⟩⟩;refine ⟨_,rfl,?_⟩;refine hK.out _ _ xc (λhHeld=>?_);clear hK K;refine DK (some 19) rfl ?_;refine D8 (i:=15) (N:=some 20) (bm 18 65535) rfl rfl (C9 HT_.out (by kernel_rfl)) (by decide) (λK hK=>?_);refine Kd.FW (Kd.int .i64) _ 3 ?hg (N:=20) ?hd (xs:=([t115,t116,t117]:List Int)) (inner:=[.int .i64 t115, .int .i64 t116, .int .i64 t117]) (ok:=λ_=>True) (okp:=λ_=>True) ?hr ?hp (λ_ hk=>hk) trivial (Below.refl _ _) (Nat.le_refl _) (by simp) ?_;(case hd=>rfl);(case hg=>rfl);(case hr=>first|(go_simp;done)|(go_simp;rfl));(case hp=>exact (CG.one (show Kd.M (Kd.int .i64) _ _ _ t115 [.int .i64 t115] from rfl) (CG.one (show Kd.M (Kd.int .i64) _ _ _ t116 [.int .i64 t116] from rfl) (CG.one (show Kd.M (Kd.int .i64) _ _ _ t117 [.int .i64 t117] from rfl) (CG.none _ _)))));intro v119 w10 ho11 hb hg_ hnew_;clear hg_ hnew_;(first|rw [<-Ny118.out] at ho11|(simp only [Int.reduceToNat] at ho11;rw [<-Ny118.out] at ho11));have HO120:=AA.mk (Kd.Cm ho11 (BF xb));replace BK113:=Bt BK113 hb;replace BK114:=Bt BK114 hb;replace HB:=AA.mk (AP xb hb);clear hb ho11;obtain ⟨Ao12,co12,eo12⟩:=Kd.CE HO120.out;(first|subst eo12|(injection eo12 with f1_ f2_ f3_;have f4_:=f1_.symm;have f5_:=f3_.symm;clear f1_ f2_ f3_;subst f4_;subst f5_));refine hK.out _ _ xc (λhHeld=>?_);clear hK K;refine DK (some 20) rfl ?_;refine D8 (i:=16) (N:=some 21) (bm 18 131071) rfl rfl (C9 HT_.out (by kernel_rfl)) (by decide) (λK hK=>?_);refine Dy Tryz.func179 (by kernel_rfl) rfl #[.slice Ao12 y118.length co12] (by rfl) rfl rfl xg ?_;with_reducible refine (Ci.calls k _ _ y118 t121 _ ?side1 ?side2 A6.out).mono ?_
 (case side1=>repeat (first|exact (Kd.BH HO120.out).2.2|(with_reducible refine Kd.CZ ?_ _)|(with_reducible refine Kd.Cb ?_ _)|(with_reducible refine Kd.Cs ?_)))
 (case side2=>exact (Kd.BH HO120.out).2.1)
 rintro e w' ⟨rfl,⟨nd,rfl⟩⟩;refine ⟨_,rfl,?_⟩;refine hK.out _ _ xc (λhHeld=>?_);clear hK K;refine DK (some 21) rfl ?_;refine Ay (i:=17) (N:=some 4) (bm 18 262143) rfl rfl (Ar HT_.out (by kernel_rfl)) (Or.inl ⟨by rfl,by intro w';go_simp;with_reducible rfl⟩) ?_;refine Fe (FD HT_.out (by kernel_rfl)) ?_;try go_wp2
 go_ret;exact ⟨xe,xb⟩
end Go.Proofs.YtikggnalmidlhaaGreatDoor.Ct
end
section
namespace Go.Proofs.YtikggnalmidlhaaGreatDoor.Print
open RowKit AR Aa Ad
set_option linter.unusedVariables false
set_option linter.unusedSimpArgs false
def Cg.f (a0:ByteArray):Option ByteArray:=if a0.size<=9223372036854775806 then some (FQ a0) else none
set_option maxHeartbeats 4000000 in
set_option maxRecDepth 100000 in
theorem Cg.calls (a0:ByteArray) (r:ByteArray) (w:World) (h:Cg.f a0=some r):
 Calls Tryz.prog 89 #[.string a0] w λe w'=>e= .returned (.string r)/\Below w.heap.size w w':=by
 unfold Cg.f at h;by_cases hs:a0.size<=9223372036854775806
 ·rw [if_pos hs] at h;obtain rfl:=Option.some.inj h;clear h;obtain ⟨wB,g,cap,hconv,HR⟩:∃ wB g cap,(convert 9 76 (.string a0)).run Tryz.prog w= .ok (.slice (some ⟨g,0,none⟩) a0.size cap) wB/\AA (Et w wB g a0.size (λj=>(bytesOf a0).getD j 0)):=
   ⟨_,_,_,Lib.run_convert_string_bytes w _ _ _ a0 Tryz.underlying9 Tryz.underlying76 Tryz.underlying5,⟨MB w _ a0⟩⟩
  go_enter Tryz.func89,Tryz.ntmps89;go_wp2;go_loopw [4] (λv4 wr=>∃ k:Nat,k<=a0.size/\v4= .int .i64 k/\AA (Et w wr g a0.size (λj=>if j<k then Gc ((bytesOf a0).getD j 0) else (bytesOf a0).getD j 0))) (λv4 _=>a0.size - (intOf v4).toNat);case atStart=>exact ⟨0,Nat.zero_le _,rfl,⟨HR.out.congr λj _=>by simp⟩⟩
  case round=>
   obtain ⟨k,hk,rfl,HK⟩:=hrel;by_cases hlt:k<a0.size
   ·obtain ⟨c,hc⟩:∃ c:Int,c=(bytesOf a0).getD k 0:=⟨_,rfl⟩;have hcell:wr.cell? ⟨g,k,none⟩=some (.int .u8 c):=by rw [HK.out.cell k hlt,if_neg (Nat.lt_irrefl _),hc]
    have hfr:=HK.out.frz k hlt;have HC:=AA.mk hc;clear hc;by_cases h0:65<=c
    ·by_cases h1:c<=90
     ·go_wp2;go_roundw;case rel=>exact ⟨k+1,by omega,by go_num,⟨MC HK.out hlt HC.out (by assumption) (by assumption) (by omega)⟩⟩
      case measure=>simp [intOf];omega
     ·go_wp2;go_roundw;case rel=>exact ⟨k+1,by omega,by go_num,⟨Hu HK.out hlt HC.out (by omega)⟩⟩
      case measure=>simp [intOf];omega
    ·go_wp2;go_roundw;case rel=>exact ⟨k+1,by omega,by go_num,⟨Hu HK.out hlt HC.out (by omega)⟩⟩
     case measure=>simp [intOf];omega
   ·have hback:=ME (cap:=cap) hs HK.out (by omega);go_wp2;go_ret;exact ⟨rfl,HK.out.below⟩
 ·rw [if_neg hs] at h;exact absurd h (by simp)
end Go.Proofs.YtikggnalmidlhaaGreatDoor.Print
end
section
namespace Go.Proofs.YtikggnalmidlhaaGreatDoor.Ct
open RowKit AR Aa Ad
attribute [local go_sem] BM BN Bo Bp BC BD BO BP
set_option linter.unusedVariables false
set_option linter.unusedSimpArgs false
end Go.Proofs.YtikggnalmidlhaaGreatDoor.Ct
end
