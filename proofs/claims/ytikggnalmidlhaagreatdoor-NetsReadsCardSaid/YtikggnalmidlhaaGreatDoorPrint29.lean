/- Printed by a program of this claim's session (xprint.py): the machine's side: each Go function as a Lean function, and that a call of it comes to what that tells; the row of a statement. No condition. -/
import Derived.Test.YtikggnalmidlhaaGreatDoorM16
namespace Go.Proofs.YtikggnalmidlhaaGreatDoor.Print
open RowKit AR Aa Ad
attribute [local go_sem] BM BN Bo Bp BC BD BO BP
set_option linter.unusedVariables false
set_option linter.unusedSimpArgs false
def Bb.l0:Nat->List ByteArray->Int->Option (Bool)
 |0,_,_=>none
 |k+1,x3,x4=>if x4<(x3.length:Int) then (if 0<=x4 then ((Ac.f k (Cf ByteArray.empty x3 x4)).bind λbt287=>(if bt287.2=true then (if bt287.1<0 then (some false) else (if bt287.1>255 then (some false) else (Bb.l0 k x3 (wrap64 (x4+1))))) else (some false))) else (none)) else (some ((x3.length:Int)==4))
def Bb.f (k:Nat) (a0:ByteArray):Option (Bool):=(Av.f k a0).bind λt283=>(Bb.l0 k t283 0)
set_option maxHeartbeats 8000000 in
set_option maxRecDepth 100000 in
theorem Bb.calls (k:Nat) (a0:ByteArray) (r:Bool) (w:World) (h:Bb.f k a0=some r):
 Calls Tryz.prog 93 #[.string a0] w λe w'=>e= .returned (.bool r)/\Below w.heap.size w w':=by
 have HB:=AA.mk (Below.refl w.heap.size w);have H:((Av.f k a0).bind λt283=>(Bb.l0 k t283 0))=some r:=h;clear h;replace H:=Option.bind_eq_some_iff.mp H;obtain ⟨t283,A20,H⟩:=H;try dsimp only at H
 have A2:=AA.mk A20;clear A20;have H':=AA.mk H;clear H;go_enter Tryz.func93,Tryz.ntmps93;go_wp2_with (first|((with_reducible refine AO (f:=90) rfl ?_);refine Ak (some 8) rfl rfl Tryz.func90 (by kernel_rfl) rfl #[.string a0] rfl xg ?_;(with_reducible refine (Av.calls k a0 t283 _ A2.out).mono ?_);rintro e w3 ⟨v284,rfl,ho0,hb⟩;refine ⟨_,rfl,?_⟩;have HO285:=AA.mk (Kd.Cm ho0 (BF xb));replace HB:=AA.mk (AP xb hb);(try clear hb);(try clear ho0)));go_loopg [4] k (λkq v4 w'=>∃ (x4_1:Int),v4= .int .i64 x4_1/\AA (Bb.l0 kq t283 x4_1=some r)/\AA (kq<=k)/\AA (Kd.R Kd.string 9 w' w.heap.size (λ_=>True) v284 t283)/\AA (Below w.heap.size w w'));case atStart=>exact ⟨(0),xq,H',⟨Nat.le_refl _⟩,⟨by (with_reducible repeat (first|apply Kd.Bd|apply Kd.Be|apply Kd.Bl));exact HO285.out⟩,⟨xb⟩⟩
 case round=>
  clear H';try clear p2
  try clear p3
  obtain ⟨x4_1,rfl,HA,HK1,HO_3,HB⟩:=hrel;cases gk with
  |zero=>exact absurd HA.out (by simp [Bb.l0])
  |succ k1=>
   have H:=HA.out;clear HA;simp only [Bb.l0] at H;by_cases c4:x4_1<(t283.length:Int)
   ·rw [if_pos c4] at H;have c4b0:decide (x4_1<(t283.length:Int))=true:=decide_eq_true c4;clear c4;by_cases c5:0<=x4_1
    ·rw [if_pos c5] at H;have c5b0:decide (0<=x4_1)=true:=decide_eq_true c5;clear c5;replace H:=Option.bind_eq_some_iff.mp H;obtain ⟨⟨t287,t288⟩,A60,H⟩:=H;replace H:(if t288=true then (if t287<0 then (some false) else (if t287>255 then (some false) else (Bb.l0 k1 t283 (wrap64 (x4_1+1))))) else (some false))=some r:=H;have A6:=AA.mk A60;clear A60;by_cases c7:t288=true
     ·subst c7;rw [if_pos rfl] at H;by_cases c8:t287<0
      ·rw [if_pos c8] at H;have c8b0:decide (t287<0)=true:=decide_eq_true c8;clear c8;obtain rfl:=Option.some.inj H;obtain ⟨Ao9,co9,eo9⟩:=Kd.CE HO_3.out;subst eo9;have p286:0<=(x4_1:Int):=xa;have q286:x4_1<(t283.length:Int):=xa;obtain ⟨ad286,e286,hx286_0⟩:=Kd.DF (Kd.BH HO_3.out).2.2 x4_1 p286 q286;cases e286;replace p286:=eq_true p286;replace q286:=eq_true q286;go_wp2_with (first|((with_reducible refine AO (f:=61) rfl ?_);refine Ak (some 20) rfl rfl Tryz.func61 (by kernel_rfl) rfl #[.string (Cf ByteArray.empty t283 x4_1)] rfl xg ?_;(with_reducible refine (Ac.calls k1 (Cf ByteArray.empty t283 x4_1) t287 true _ A6.out).mono ?_);rintro e w10 ⟨rfl,hb⟩;refine ⟨_,rfl,?_⟩;replace HO_3:=AA.mk (Kd.BX (xR HO_3) hb);replace HB:=AA.mk (AP xb hb);(try clear hb)));go_ret;exact ⟨xe,xb⟩
      ·rw [if_neg c8] at H;have c8b0:decide (t287<0)=false:=decide_eq_false c8;clear c8;by_cases c11:t287>255
       ·rw [if_pos c11] at H;have c11b0:decide (255<t287)=true:=decide_eq_true c11;clear c11;obtain rfl:=Option.some.inj H;obtain ⟨Ao12,co12,eo12⟩:=Kd.CE HO_3.out;subst eo12;have p286:0<=(x4_1:Int):=xa;have q286:x4_1<(t283.length:Int):=xa;obtain ⟨ad286,e286,hx286_0⟩:=Kd.DF (Kd.BH HO_3.out).2.2 x4_1 p286 q286;cases e286;replace p286:=eq_true p286;replace q286:=eq_true q286;go_wp2_with (first|((with_reducible refine AO (f:=61) rfl ?_);refine Ak (some 20) rfl rfl Tryz.func61 (by kernel_rfl) rfl #[.string (Cf ByteArray.empty t283 x4_1)] rfl xg ?_;(with_reducible refine (Ac.calls k1 (Cf ByteArray.empty t283 x4_1) t287 true _ A6.out).mono ?_);rintro e w13 ⟨rfl,hb⟩;refine ⟨_,rfl,?_⟩;replace HO_3:=AA.mk (Kd.BX (xR HO_3) hb);replace HB:=AA.mk (AP xb hb);(try clear hb)));go_ret;exact ⟨xe,xb⟩
       ·rw [if_neg c11] at H;have c11b0:decide (255<t287)=false:=decide_eq_false c11;clear c11;have H':=AA.mk H;clear H;obtain ⟨Ao14,co14,eo14⟩:=Kd.CE HO_3.out;subst eo14;have p286:0<=(x4_1:Int):=xa;have q286:x4_1<(t283.length:Int):=xa;obtain ⟨ad286,e286,hx286_0⟩:=Kd.DF (Kd.BH HO_3.out).2.2 x4_1 p286 q286;cases e286;replace p286:=eq_true p286;replace q286:=eq_true q286;go_wp2_with (first|((with_reducible refine AO (f:=61) rfl ?_);refine Ak (some 20) rfl rfl Tryz.func61 (by kernel_rfl) rfl #[.string (Cf ByteArray.empty t283 x4_1)] rfl xg ?_;(with_reducible refine (Ac.calls k1 (Cf ByteArray.empty t283 x4_1) t287 true _ A6.out).mono ?_);rintro e w15 ⟨rfl,hb⟩;refine ⟨_,rfl,?_⟩;replace HO_3:=AA.mk (Kd.BX (xR HO_3) hb);replace HB:=AA.mk (AP xb hb);(try clear hb)));go_roundg k1;case measure=>have:=HK1.out;omega
        case rel=>exact ⟨(wrap64 (x4_1+1)),xq,H',⟨by have:=HK1.out;omega⟩,⟨by (with_reducible repeat (first|apply Kd.Bd|apply Kd.Be|apply Kd.Bl));exact HO_3.out⟩,⟨xb⟩⟩
     ·replace c7:=Bool.eq_false_iff.mpr c7;subst c7;have H1:(some false)=some r:=by rw [if_neg (show ¬(false=true) by decide)] at H;exact H
      clear H;have H:=H1;clear H1;obtain rfl:=Option.some.inj H;obtain ⟨Ao16,co16,eo16⟩:=Kd.CE HO_3.out;subst eo16;have p286:0<=(x4_1:Int):=xa;have q286:x4_1<(t283.length:Int):=xa;obtain ⟨ad286,e286,hx286_0⟩:=Kd.DF (Kd.BH HO_3.out).2.2 x4_1 p286 q286;cases e286;replace p286:=eq_true p286;replace q286:=eq_true q286;go_wp2_with (first|((with_reducible refine AO (f:=61) rfl ?_);refine Ak (some 20) rfl rfl Tryz.func61 (by kernel_rfl) rfl #[.string (Cf ByteArray.empty t283 x4_1)] rfl xg ?_;(with_reducible refine (Ac.calls k1 (Cf ByteArray.empty t283 x4_1) t287 false _ A6.out).mono ?_);rintro e w17 ⟨rfl,hb⟩;refine ⟨_,rfl,?_⟩;replace HO_3:=AA.mk (Kd.BX (xR HO_3) hb);replace HB:=AA.mk (AP xb hb);(try clear hb)));go_ret;exact ⟨xe,xb⟩
    ·rw [if_neg c5] at H;exact absurd H (by simp)
   ·rw [if_neg c4] at H;have c4b0:decide (x4_1<(t283.length:Int))=false:=decide_eq_false c4;clear c4;obtain rfl:=Option.some.inj H;obtain ⟨Ao18,co18,eo18⟩:=Kd.CE HO_3.out;subst eo18;go_wp2;go_ret;exact ⟨xe,xb⟩
end Go.Proofs.YtikggnalmidlhaaGreatDoor.Print
