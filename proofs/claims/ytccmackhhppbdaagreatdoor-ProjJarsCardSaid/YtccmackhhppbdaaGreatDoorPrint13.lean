/- Printed by a program of this claim's session (xprint.py): the machine's side: each Go function as a Lean function, and that a call of it comes to what that tells; the row of a statement. No condition. -/
import Derived.Test.YtccmackhhppbdaaGreatDoorPrint12
namespace Go.Proofs.YtccmackhhppbdaaGreatDoor.Print
open RowKit Af BI BM
attribute [local go_sem] Ck Cm DC DD CW CX Cn Co
set_option linter.unusedVariables false
set_option linter.unusedSimpArgs false
def Bw.f (k:Nat) (a0:ByteArray):Option (Bool):=if (a0.size:Int)>=1 then (if (a0.size:Int)<=64 then (if 0<(a0.size:Int) then (if (bt a0 0)=47 then ((BS.f k a0).bind λt357=>(some t357)) else (some false)) else (none)) else (some false)) else (some false)
set_option maxHeartbeats 8000000 in
set_option maxRecDepth 100000 in
theorem Bw.calls (k:Nat) (a0:ByteArray) (r:Bool) (w:World) (h:Bw.f k a0=some r):
 Calls Tryz.prog 42 #[.string a0] w λe w'=>e= .returned (.bool r)/\BA w w':=by
 have H:(if (a0.size:Int)>=1 then (if (a0.size:Int)<=64 then (if 0<(a0.size:Int) then (if (bt a0 0)=47 then ((BS.f k a0).bind λt357=>(some t357)) else (some false)) else (none)) else (some false)) else (some false))=some r:=h;clear h;by_cases c2:(a0.size:Int)>=1
 ·rw [if_pos c2] at H;have c2b0:decide (1<=(a0.size:Int))=true:=decide_eq_true c2;have c2b1:decide (1<=a0.size)=true:=decide_eq_true (by omega);clear c2;by_cases c3:(a0.size:Int)<=64
  ·rw [if_pos c3] at H;have c3b0:decide ((a0.size:Int)<=64)=true:=decide_eq_true c3;have c3b1:decide (a0.size<=64)=true:=decide_eq_true (by omega);clear c3;by_cases c4:0<(a0.size:Int)
   ·rw [if_pos c4] at H;have c4b0:decide (0<(a0.size:Int))=true:=decide_eq_true c4;have c4b1:decide (0<a0.size)=true:=decide_eq_true (by omega);clear c4;by_cases c6:(bt a0 0)=47
    ·rw [if_pos c6] at H;have c6b0:((bt a0 0)==47)=true:=beq_iff_eq.mpr c6;have c6b1:((bt a0 0) != 47)=false:=bne_eq_false_iff_eq.mpr c6;clear c6;replace H:=Option.bind_eq_some_iff.mp H;obtain ⟨t357,A70,H⟩:=H;replace H:(some t357)=some r:=H;have A7:=AA.mk A70;clear A70;obtain rfl:=Option.some.inj H;have p5:0<=(0:Int):=(by omega);have q5:0<a0.size:=(by have:(0:Int)<(a0.size:Int):=xa;omega);have hx5:∀ h:0<a0.size,((a0[0]'h).toNat:Int)=bt a0 0:=Bl a0 0;clear p5;have qi5:(0<(a0.size:Int))=True:=eq_true (xa);replace q5:=eq_true q5;go_enter Tryz.func42,Tryz.ntmps42;go_wp2_with (first|(go_at_call 65;(with_reducible refine (BS.calls k a0 t357 _ A7.out).mono ?_);rintro e w' ⟨rfl,⟨nd,rfl⟩⟩));go_ret;exact ⟨xq,xd⟩
    ·rw [if_neg c6] at H;have c6b0:((bt a0 0)==47)=false:=beq_eq_false_iff_ne.mpr c6;have c6b1:((bt a0 0) != 47)=true:=bne_iff_ne.mpr c6;obtain rfl:=Option.some.inj H;have p5:0<=(0:Int):=(by omega);have q5:0<a0.size:=(by have:(0:Int)<(a0.size:Int):=xa;omega);have hx5:∀ h:0<a0.size,((a0[0]'h).toNat:Int)=bt a0 0:=Bl a0 0;clear p5;have qi5:(0<(a0.size:Int))=True:=eq_true (xa);replace q5:=eq_true q5;go_enter Tryz.func42,Tryz.ntmps42;go_wp2;go_ret;exact ⟨xq,xd⟩
   ·rw [if_neg c4] at H;exact absurd H (by simp)
  ·rw [if_neg c3] at H;have c3b0:decide ((a0.size:Int)<=64)=false:=decide_eq_false c3;have c3b1:decide (a0.size<=64)=false:=decide_eq_false (by omega);clear c3;obtain rfl:=Option.some.inj H;go_enter Tryz.func42,Tryz.ntmps42;go_wp2;go_ret;exact ⟨xq,xd⟩
 ·rw [if_neg c2] at H;have c2b0:decide (1<=(a0.size:Int))=false:=decide_eq_false c2;have c2b1:decide (1<=a0.size)=false:=decide_eq_false (by omega);clear c2;obtain rfl:=Option.some.inj H;go_enter Tryz.func42,Tryz.ntmps42;go_wp2;go_ret;exact ⟨xq,xd⟩
def BF.l0:Nat->ByteArray->Int->Option (Bool)
 |0,_,_=>none
 |k+1,x0,x3=>if x3<(x0.size:Int) then (if 0<=x3 then ((C9.f (bt x0 x3)).bind λt358=>(if t358=true then (BF.l0 k x0 (wrap64 (x3+1))) else (some false))) else (none)) else (some (decide ((x0.size:Int)>0)))
def BF.f (k:Nat) (a0:ByteArray):Option (Bool):=BF.l0 k a0 0
set_option maxHeartbeats 8000000 in
set_option maxRecDepth 100000 in
theorem BF.calls (k:Nat) (a0:ByteArray) (r:Bool) (w:World) (h:BF.f k a0=some r):
 Calls Tryz.prog 43 #[.string a0] w λe w'=>e= .returned (.bool r)/\BA w w':=by
 have H:(BF.l0 k a0 0)=some r:=h;clear h;have H':=AA.mk H;clear H;go_enter Tryz.func43,Tryz.ntmps43;go_wp2;go_loopg [3] k (λkq v3 w'=>∃ (x3_1:Int),v3= .int .i64 x3_1/\AA (BF.l0 kq a0 x3_1=some r)/\AA (kq<=k)/\BA w w');case atStart=>exact ⟨(0),xq,H',⟨Nat.le_refl _⟩,xd⟩
 case round=>
  clear H';obtain ⟨x3_1,rfl,HA,HK1,⟨m1,rfl⟩⟩:=hrel;cases gk with
  |zero=>exact absurd HA.out (by simp [BF.l0])
  |succ k1=>
   have H:=HA.out;clear HA;simp only [BF.l0] at H;by_cases c2:x3_1<(a0.size:Int)
   ·rw [if_pos c2] at H;have c2b0:decide (x3_1<(a0.size:Int))=true:=decide_eq_true c2;clear c2;by_cases c3:0<=x3_1
    ·rw [if_pos c3] at H;have c3b0:decide (0<=x3_1)=true:=decide_eq_true c3;clear c3;replace H:=Option.bind_eq_some_iff.mp H;obtain ⟨t358,A50,H⟩:=H;replace H:(if t358=true then (BF.l0 k1 a0 (wrap64 (x3_1+1))) else (some false))=some r:=H;have A5:=AA.mk A50;clear A50;by_cases c6:t358=true
     ·subst c6;rw [if_pos rfl] at H;have H':=AA.mk H;clear H;have p4:0<=(x3_1:Int):=xa;have q4:x3_1<(a0.size:Int):=xa;have hx4:=Bl a0 x3_1;replace p4:=eq_true p4;replace q4:=eq_true q4;go_wp2_with (first|((with_reducible refine AP (f:=66) rfl ?_);refine Aj (some 13) rfl rfl Tryz.func66 (by kernel_rfl) rfl #[.int .u8 (bt a0 x3_1)] rfl xg ?_;(with_reducible refine (C9.calls (bt a0 x3_1) true _ A5.out).mono ?_);rintro e w' ⟨rfl,⟨nd,rfl⟩⟩;refine ⟨_,rfl,?_⟩));go_roundg k1;case measure=>have:=HK1.out;omega
      case rel=>exact ⟨(wrap64 (x3_1+1)),xq,H',⟨by have:=HK1.out;omega⟩,xd⟩
     ·replace c6:=Bool.eq_false_iff.mpr c6;subst c6;have H1:(some false)=some r:=by rw [if_neg (show ¬(false=true) by decide)] at H;exact H
      clear H;have H:=H1;clear H1;obtain rfl:=Option.some.inj H;have p4:0<=(x3_1:Int):=xa;have q4:x3_1<(a0.size:Int):=xa;have hx4:=Bl a0 x3_1;replace p4:=eq_true p4;replace q4:=eq_true q4;go_wp2_with (first|((with_reducible refine AP (f:=66) rfl ?_);refine Aj (some 13) rfl rfl Tryz.func66 (by kernel_rfl) rfl #[.int .u8 (bt a0 x3_1)] rfl xg ?_;(with_reducible refine (C9.calls (bt a0 x3_1) false _ A5.out).mono ?_);rintro e w' ⟨rfl,⟨nd,rfl⟩⟩;refine ⟨_,rfl,?_⟩));go_ret;exact ⟨xq,xd⟩
    ·rw [if_neg c3] at H;exact absurd H (by simp)
   ·rw [if_neg c2] at H;have c2b0:decide (x3_1<(a0.size:Int))=false:=decide_eq_false c2;clear c2;obtain rfl:=Option.some.inj H;go_wp2;go_ret;exact ⟨xq,xd⟩
def BK.l0:Nat->ByteArray->Int->Option (Bool)
 |0,_,_=>none
 |k+1,x0,x3=>if x3<(x0.size:Int) then (if 0<=x3 then ((Cs.f (bt x0 x3)).bind λt359=>(if t359=true then (BK.l0 k x0 (wrap64 (x3+1))) else (some false))) else (none)) else (some true)
def BK.f (k:Nat) (a0:ByteArray):Option (Bool):=BK.l0 k a0 0
set_option maxHeartbeats 8000000 in
set_option maxRecDepth 100000 in
theorem BK.calls (k:Nat) (a0:ByteArray) (r:Bool) (w:World) (h:BK.f k a0=some r):
 Calls Tryz.prog 44 #[.string a0] w λe w'=>e= .returned (.bool r)/\BA w w':=by
 have H:(BK.l0 k a0 0)=some r:=h;clear h;have H':=AA.mk H;clear H;go_enter Tryz.func44,Tryz.ntmps44;go_wp2;go_loopg [3] k (λkq v3 w'=>∃ (x3_1:Int),v3= .int .i64 x3_1/\AA (BK.l0 kq a0 x3_1=some r)/\AA (kq<=k)/\BA w w');case atStart=>exact ⟨(0),xq,H',⟨Nat.le_refl _⟩,xd⟩
 case round=>
  clear H';obtain ⟨x3_1,rfl,HA,HK1,⟨m1,rfl⟩⟩:=hrel;cases gk with
  |zero=>exact absurd HA.out (by simp [BK.l0])
  |succ k1=>
   have H:=HA.out;clear HA;simp only [BK.l0] at H;by_cases c2:x3_1<(a0.size:Int)
   ·rw [if_pos c2] at H;have c2b0:decide (x3_1<(a0.size:Int))=true:=decide_eq_true c2;clear c2;by_cases c3:0<=x3_1
    ·rw [if_pos c3] at H;have c3b0:decide (0<=x3_1)=true:=decide_eq_true c3;clear c3;replace H:=Option.bind_eq_some_iff.mp H;obtain ⟨t359,A50,H⟩:=H;replace H:(if t359=true then (BK.l0 k1 a0 (wrap64 (x3_1+1))) else (some false))=some r:=H;have A5:=AA.mk A50;clear A50;by_cases c6:t359=true
     ·subst c6;rw [if_pos rfl] at H;have H':=AA.mk H;clear H;have p4:0<=(x3_1:Int):=xa;have q4:x3_1<(a0.size:Int):=xa;have hx4:=Bl a0 x3_1;replace p4:=eq_true p4;replace q4:=eq_true q4;go_wp2_with (first|((with_reducible refine AP (f:=67) rfl ?_);refine Aj (some 13) rfl rfl Tryz.func67 (by kernel_rfl) rfl #[.int .u8 (bt a0 x3_1)] rfl xg ?_;(with_reducible refine (Cs.calls (bt a0 x3_1) true _ A5.out).mono ?_);rintro e w' ⟨rfl,⟨nd,rfl⟩⟩;refine ⟨_,rfl,?_⟩));go_roundg k1;case measure=>have:=HK1.out;omega
      case rel=>exact ⟨(wrap64 (x3_1+1)),xq,H',⟨by have:=HK1.out;omega⟩,xd⟩
     ·replace c6:=Bool.eq_false_iff.mpr c6;subst c6;have H1:(some false)=some r:=by rw [if_neg (show ¬(false=true) by decide)] at H;exact H
      clear H;have H:=H1;clear H1;obtain rfl:=Option.some.inj H;have p4:0<=(x3_1:Int):=xa;have q4:x3_1<(a0.size:Int):=xa;have hx4:=Bl a0 x3_1;replace p4:=eq_true p4;replace q4:=eq_true q4;go_wp2_with (first|((with_reducible refine AP (f:=67) rfl ?_);refine Aj (some 13) rfl rfl Tryz.func67 (by kernel_rfl) rfl #[.int .u8 (bt a0 x3_1)] rfl xg ?_;(with_reducible refine (Cs.calls (bt a0 x3_1) false _ A5.out).mono ?_);rintro e w' ⟨rfl,⟨nd,rfl⟩⟩;refine ⟨_,rfl,?_⟩));go_ret;exact ⟨xq,xd⟩
    ·rw [if_neg c3] at H;exact absurd H (by simp)
   ·rw [if_neg c2] at H;have c2b0:decide (x3_1<(a0.size:Int))=false:=decide_eq_false c2;clear c2;obtain rfl:=Option.some.inj H;go_wp2;go_ret;exact ⟨xq,xd⟩
end Go.Proofs.YtccmackhhppbdaaGreatDoor.Print
