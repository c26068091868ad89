/- Printed by a program of this claim's session (xprint.py): the machine's side: each Go function as a Lean function, and that a call of it comes to what that tells; the row of a statement. No condition. -/
import Derived.Test.YtccmackhhppbdaaGreatDoorPrint11
namespace Go.Proofs.YtccmackhhppbdaaGreatDoor.Print
open RowKit Af BI BM
attribute [local go_sem] Ck Cm DC DD CW CX Cn Co
set_option linter.unusedVariables false
set_option linter.unusedSimpArgs false
mutual
def Ac.j0:Nat->ByteArray->Bool->Option (Int×Bool)
 |0,_,_=>none
 |k+1,x0,x16=>if x16=true then (if 1<=(x0.size:Int) then ((Ag.f k (x0.extract 1 x0.size) 19).bind λbt345=>(if bt345.2=true then (if bt345.1=0 then (Ac.j1 k x0 bt345.1 true) else (Ac.j1 k x0 bt345.1 (decide (bt345.1>9223372036854775808)))) else (Ac.j1 k x0 bt345.1 true))) else (none)) else ((Ag.f k x0 19).bind λbt348=>(if bt348.2=true then (if bt348.1>9223372036854775807 then (some (0,false)) else ((Bg.f k (wrap64 (bt348.1))).bind λt350=>(if t350.toList=x0.toList then (some (wrap64 (bt348.1),true)) else (some (0,false))))) else (some (0,false))))
def Ac.j1:Nat->ByteArray->Int->Bool->Option (Int×Bool)
 |0,_,_,_=>none
 |k+1,x0,x4,x32=>if x32=true then (some (0,false)) else ((Bg.f k (wrap64 ((wrap64 (-(wrap64 (IntKind.u64.wrap (x4 - 1))))) - 1))).bind λt347=>(if t347.toList=x0.toList then (some (wrap64 ((wrap64 (-(wrap64 (IntKind.u64.wrap (x4 - 1))))) - 1),true)) else (some (0,false))))
end
def Ac.f (k:Nat) (a0:ByteArray):Option (Int×Bool):=if (a0.size:Int)>0 then (if 0<(a0.size:Int) then (Ac.j0 k a0 ((bt a0 0)==45)) else (none)) else (Ac.j0 k a0 false)
set_option maxHeartbeats 8000000 in
set_option maxRecDepth 100000 in
theorem Ac.calls (k:Nat) (a0:ByteArray) (r1:Int) (r2:Bool) (w:World) (h:Ac.f k a0=some (r1,r2)):
 Calls Tryz.prog 64 #[.string a0] w λe w'=>e= .returned (.tuple #[.int .i64 r1, .bool r2])/\Below w.heap.size w w':=by
 have HB:=AA.mk (Below.refl w.heap.size w);have H:(if (a0.size:Int)>0 then (if 0<(a0.size:Int) then (Ac.j0 k a0 ((bt a0 0)==45)) else (none)) else (Ac.j0 k a0 false))=some (r1,r2):=h;clear h;have HC2:=AA.mk H;clear H;go_enter Tryz.func64,Tryz.ntmps64;go_upto_region 1 with (fail)
 go_cut [16] (λv16 wc=>∃ (kq:Nat) (x16_1:Bool),v16= .bool x16_1/\AA (Ac.j0 kq a0 x16_1=some (r1,r2))/\AA (kq<=k)/\AA (Below w.heap.size w wc));case first=>
  have H:=HC2.out;clear HC2;by_cases c3:(a0.size:Int)>0
  ·rw [if_pos c3] at H;have c3b0:decide (0<(a0.size:Int))=true:=decide_eq_true c3;have c3b1:decide (0<a0.size)=true:=decide_eq_true (by omega);clear c3;(first|rw [c3b0]|(simp only [Cq,Cx];rw [c3b0])|skip);by_cases c4:0<(a0.size:Int)
   ·rw [if_pos c4] at H;have c4b0:decide (0<(a0.size:Int))=true:=decide_eq_true c4;have c4b1:decide (0<a0.size)=true:=decide_eq_true (by omega);clear c4;have H':=AA.mk H;clear H;have p5:0<=(0:Int):=(by omega);have q5:0<a0.size:=(by have:(0:Int)<(a0.size:Int):=xa;omega);have hx5:∀ h:0<a0.size,((a0[0]'h).toNat:Int)=bt a0 0:=Bl a0 0;clear p5;have qi5:(0<(a0.size:Int))=True:=eq_true (xa);replace q5:=eq_true q5;go_wp2;go_meet;case rel=>exact ⟨_,(((bt a0 0)==45)),xq,H',⟨by first|omega|exact Nat.le_refl _⟩,⟨xb⟩⟩
   ·rw [if_neg c4] at H;exact absurd H (by simp)
  ·rw [if_neg c3] at H;have c3b0:decide (0<(a0.size:Int))=false:=decide_eq_false c3;have c3b1:decide (0<a0.size)=false:=decide_eq_false (by omega);clear c3;(first|rw [c3b0]|(simp only [Cq,Cx];rw [c3b0])|skip);have H':=AA.mk H;clear H;go_wp2;go_meet;case rel=>exact ⟨_,(false),xq,H',⟨by first|omega|exact Nat.le_refl _⟩,⟨xb⟩⟩
 case rest=>
  clear HC2;try clear p2
  try clear c3
  try clear c3b0
  try clear c3b1
  try clear c4
  try clear c4b0
  try clear c4b1
  try clear p5
  try clear q5
  try clear hx5
  try clear qi5
  try clear p5
  try clear q5
  obtain ⟨kq,x16_1,rfl,HA,HJ1,HB⟩:=hcut;cases kq with
  |zero=>exact absurd HA.out (by simp [Ac.j0])
  |succ kj1=>
   have H:=HA.out;clear HA;simp only [Ac.j0] at H;by_cases c6:x16_1=true
   ·subst c6;have H1:(if 1<=(a0.size:Int) then ((Ag.f kj1 (a0.extract 1 a0.size) 19).bind λbt345=>(if bt345.2=true then (if bt345.1=0 then (Ac.j1 kj1 a0 bt345.1 true) else (Ac.j1 kj1 a0 bt345.1 (decide (bt345.1>9223372036854775808)))) else (Ac.j1 kj1 a0 bt345.1 true))) else (none))=some (r1,r2):=by rw [if_pos rfl] at H;exact H
    clear H;have H:=H1;clear H1;by_cases c7:1<=(a0.size:Int)
    ·rw [if_pos c7] at H;have c7b0:=eq_true c7;have c7b1:decide (1<=(a0.size:Int))=true:=decide_eq_true c7;clear c7;replace H:=Option.bind_eq_some_iff.mp H;obtain ⟨⟨t345,t346⟩,A80,H⟩:=H;replace H:(if t346=true then (if t345=0 then (Ac.j1 kj1 a0 t345 true) else (Ac.j1 kj1 a0 t345 (decide (t345>9223372036854775808)))) else (Ac.j1 kj1 a0 t345 true))=some (r1,r2):=H;have A8:=AA.mk A80;clear A80;have HC9:=AA.mk H;clear H;go_upto_region 3 with (first|((with_reducible refine AP (f:=74) rfl ?_);refine Aj (some 20) rfl rfl Tryz.func74 (by kernel_rfl) rfl #[.string (a0.extract 1 a0.size), .int .i64 19] rfl xg ?_;(with_reducible refine (Ag.calls kj1 (a0.extract 1 a0.size) 19 t345 t346 _ A8.out).mono ?_);rintro e w' ⟨rfl,⟨nd,rfl⟩⟩;refine ⟨_,rfl,?_⟩))
     (try simp only [Act.put,List.setIfInBounds_toArray,List.set_cons_zero,List.set_cons_succ]);go_cut [32] (λv32 wc=>∃ (kq:Nat) (x32_8:Bool),v32= .bool x32_8/\AA (Ac.j1 kq a0 t345 x32_8=some (r1,r2))/\AA (kq<=kj1)/\AA (Below w.heap.size w wc));case first=>
      have H:=HC9.out;clear HC9;by_cases c10:t346=true
      ·subst c10;have H1:(if t345=0 then (Ac.j1 kj1 a0 t345 true) else (Ac.j1 kj1 a0 t345 (decide (t345>9223372036854775808))))=some (r1,r2):=by rw [if_pos rfl] at H;exact H
       clear H;have H:=H1;clear H1;by_cases c11:t345=0
       ·rw [if_pos c11] at H;have c11b0:(t345==0)=true:=beq_iff_eq.mpr c11;have c11b1:(t345 != 0)=false:=bne_eq_false_iff_eq.mpr c11;clear c11;(first|rw [c11b0]|(simp only [Cq,Cx];rw [c11b0])|skip);have H':=AA.mk H;clear H;go_wp2;go_meet;case rel=>exact ⟨_,(true),xq,H',⟨by have:=HJ1.out;first|omega|exact Nat.le_refl _⟩,⟨xb⟩⟩
       ·rw [if_neg c11] at H;have c11b0:(t345==0)=false:=beq_eq_false_iff_ne.mpr c11;have c11b1:(t345 != 0)=true:=bne_iff_ne.mpr c11;(first|rw [c11b0]|(simp only [Cq,Cx];rw [c11b0])|skip);have H':=AA.mk H;clear H;go_wp2;go_meet;case rel=>exact ⟨_,(decide (t345>9223372036854775808)),xq,H',⟨by have:=HJ1.out;first|omega|exact Nat.le_refl _⟩,⟨xb⟩⟩
      ·replace c10:=Bool.eq_false_iff.mpr c10;subst c10;have H1:(Ac.j1 kj1 a0 t345 true)=some (r1,r2):=by rw [if_neg (show ¬(false=true) by decide)] at H;exact H
       clear H;have H:=H1;clear H1;have H':=AA.mk H;clear H;go_wp2;go_meet;case rel=>exact ⟨_,(true),xq,H',⟨by have:=HJ1.out;first|omega|exact Nat.le_refl _⟩,⟨xb⟩⟩
     case rest=>
      clear HC9;try clear c1
      try clear p2
      try clear c3
      try clear c3b0
      try clear c3b1
      try clear p3
      try clear c4
      try clear c4b0
      try clear c4b1
      try clear p5
      try clear q5
      try clear hx5
      try clear qi5
      try clear c6
      try clear p6
      try clear c7
      try clear c7b0
      try clear c7b1
      try clear c10
      try clear c11
      try clear c11b0
      try clear c11b1
      try clear p2
      try clear p5
      try clear q5
      obtain ⟨kq,x32_8,rfl,HA,HJ8,HB⟩:=hcut;cases kq with
      |zero=>exact absurd HA.out (by simp [Ac.j1])
      |succ kj8=>
       have H:=HA.out;clear HA;simp only [Ac.j1] at H;by_cases c12:x32_8=true
       ·subst c12;have H1:(some (0,false))=some (r1,r2):=by rw [if_pos rfl] at H;exact H
        clear H;have H:=H1;clear H1;simp only [Option.some.injEq,Prod.mk.injEq] at H;obtain ⟨rfl,rfl⟩:=H;go_wp2;go_ret2;exact ⟨xe,xb⟩
       ·replace c12:=Bool.eq_false_iff.mpr c12;subst c12;have H1:((Bg.f kj8 (wrap64 ((wrap64 (-(wrap64 (IntKind.u64.wrap (t345 - 1))))) - 1))).bind λt347=>(if t347.toList=a0.toList then (some (wrap64 ((wrap64 (-(wrap64 (IntKind.u64.wrap (t345 - 1))))) - 1),true)) else (some (0,false))))=some (r1,r2):=by rw [if_neg (show ¬(false=true) by decide)] at H;exact H
        clear H;have H:=H1;clear H1;replace H:=Option.bind_eq_some_iff.mp H;obtain ⟨t347,A130,H⟩:=H;replace H:(if t347.toList=a0.toList then (some (wrap64 ((wrap64 (-(wrap64 (IntKind.u64.wrap (t345 - 1))))) - 1),true)) else (some (0,false)))=some (r1,r2):=H;have A13:=AA.mk A130;clear A130;by_cases c14:t347.toList=a0.toList
        ·rw [if_pos c14] at H;have c14b0:(t347.toList==a0.toList)=true:=beq_iff_eq.mpr c14;have c14b1:(t347.toList != a0.toList)=false:=bne_eq_false_iff_eq.mpr c14;clear c14;simp only [Option.some.injEq,Prod.mk.injEq] at H;obtain ⟨rfl,rfl⟩:=H;go_wp2_with (first|((with_reducible refine AP (f:=75) rfl ?_);refine Aj (some 39) rfl rfl Tryz.func75 (by kernel_rfl) rfl #[.int .i64 (wrap64 ((wrap64 (-(wrap64 (IntKind.u64.wrap (t345 - 1))))) - 1))] rfl xg ?_;(with_reducible refine (Bg.calls kj8 (wrap64 ((wrap64 (-(wrap64 (IntKind.u64.wrap (t345 - 1))))) - 1)) t347 _ A13.out).mono ?_);rintro e w15 ⟨rfl,hb⟩;refine ⟨_,rfl,?_⟩;replace HB:=AA.mk (AL xb hb);(try clear hb)));go_ret2;exact ⟨xe,xb⟩
        ·rw [if_neg c14] at H;have c14b0:(t347.toList==a0.toList)=false:=beq_eq_false_iff_ne.mpr c14;have c14b1:(t347.toList != a0.toList)=true:=bne_iff_ne.mpr c14;simp only [Option.some.injEq,Prod.mk.injEq] at H;obtain ⟨rfl,rfl⟩:=H;go_wp2_with (first|((with_reducible refine AP (f:=75) rfl ?_);refine Aj (some 39) rfl rfl Tryz.func75 (by kernel_rfl) rfl #[.int .i64 (wrap64 ((wrap64 (-(wrap64 (IntKind.u64.wrap (t345 - 1))))) - 1))] rfl xg ?_;(with_reducible refine (Bg.calls kj8 (wrap64 ((wrap64 (-(wrap64 (IntKind.u64.wrap (t345 - 1))))) - 1)) t347 _ A13.out).mono ?_);rintro e w16 ⟨rfl,hb⟩;refine ⟨_,rfl,?_⟩;replace HB:=AA.mk (AL xb hb);(try clear hb)));go_ret2;exact ⟨xe,xb⟩
    ·rw [if_neg c7] at H;exact absurd H (by simp)
   ·replace c6:=Bool.eq_false_iff.mpr c6;subst c6;have H1:((Ag.f kj1 a0 19).bind λbt348=>(if bt348.2=true then (if bt348.1>9223372036854775807 then (some (0,false)) else ((Bg.f kj1 (wrap64 (bt348.1))).bind λt350=>(if t350.toList=a0.toList then (some (wrap64 (bt348.1),true)) else (some (0,false))))) else (some (0,false))))=some (r1,r2):=by rw [if_neg (show ¬(false=true) by decide)] at H;exact H
    clear H;have H:=H1;clear H1;replace H:=Option.bind_eq_some_iff.mp H;obtain ⟨⟨t348,t349⟩,A170,H⟩:=H;replace H:(if t349=true then (if t348>9223372036854775807 then (some (0,false)) else ((Bg.f kj1 (wrap64 (t348))).bind λt350=>(if t350.toList=a0.toList then (some (wrap64 (t348),true)) else (some (0,false))))) else (some (0,false)))=some (r1,r2):=H;have A17:=AA.mk A170;clear A170;by_cases c18:t349=true
    ·subst c18;rw [if_pos rfl] at H;by_cases c19:t348>9223372036854775807
     ·rw [if_pos c19] at H;have c19b0:decide (9223372036854775807<t348)=true:=decide_eq_true c19;clear c19;simp only [Option.some.injEq,Prod.mk.injEq] at H;obtain ⟨rfl,rfl⟩:=H;go_wp2_with (first|((with_reducible refine AP (f:=74) rfl ?_);refine Aj (some 45) rfl rfl Tryz.func74 (by kernel_rfl) rfl #[.string a0, .int .i64 19] rfl xg ?_;(with_reducible refine (Ag.calls kj1 a0 19 t348 true _ A17.out).mono ?_);rintro e w' ⟨rfl,⟨nd,rfl⟩⟩;refine ⟨_,rfl,?_⟩));go_ret2;exact ⟨xe,xb⟩
     ·rw [if_neg c19] at H;have c19b0:decide (9223372036854775807<t348)=false:=decide_eq_false c19;clear c19;replace H:=Option.bind_eq_some_iff.mp H;obtain ⟨t350,A200,H⟩:=H;replace H:(if t350.toList=a0.toList then (some (wrap64 (t348),true)) else (some (0,false)))=some (r1,r2):=H;have A20:=AA.mk A200;clear A200;by_cases c21:t350.toList=a0.toList
      ·rw [if_pos c21] at H;have c21b0:(t350.toList==a0.toList)=true:=beq_iff_eq.mpr c21;have c21b1:(t350.toList != a0.toList)=false:=bne_eq_false_iff_eq.mpr c21;clear c21;simp only [Option.some.injEq,Prod.mk.injEq] at H;obtain ⟨rfl,rfl⟩:=H;go_wp2_with (first|((with_reducible refine AP (f:=74) rfl ?_);refine Aj (some 45) rfl rfl Tryz.func74 (by kernel_rfl) rfl #[.string a0, .int .i64 19] rfl xg ?_;(with_reducible refine (Ag.calls kj1 a0 19 t348 true _ A17.out).mono ?_);rintro e w' ⟨rfl,⟨nd,rfl⟩⟩;refine ⟨_,rfl,?_⟩)|(go_at_call 75;(with_reducible refine (Bg.calls kj1 (wrap64 (t348)) t350 _ A20.out).mono ?_);rintro e w22 ⟨rfl,hb⟩;replace HB:=AA.mk (AL xb hb);(try clear hb)));go_ret2;exact ⟨xe,xb⟩
      ·rw [if_neg c21] at H;have c21b0:(t350.toList==a0.toList)=false:=beq_eq_false_iff_ne.mpr c21;have c21b1:(t350.toList != a0.toList)=true:=bne_iff_ne.mpr c21;simp only [Option.some.injEq,Prod.mk.injEq] at H;obtain ⟨rfl,rfl⟩:=H;go_wp2_with (first|((with_reducible refine AP (f:=74) rfl ?_);refine Aj (some 45) rfl rfl Tryz.func74 (by kernel_rfl) rfl #[.string a0, .int .i64 19] rfl xg ?_;(with_reducible refine (Ag.calls kj1 a0 19 t348 true _ A17.out).mono ?_);rintro e w' ⟨rfl,⟨nd,rfl⟩⟩;refine ⟨_,rfl,?_⟩)|(go_at_call 75;(with_reducible refine (Bg.calls kj1 (wrap64 (t348)) t350 _ A20.out).mono ?_);rintro e w23 ⟨rfl,hb⟩;replace HB:=AA.mk (AL xb hb);(try clear hb)));go_ret2;exact ⟨xe,xb⟩
    ·replace c18:=Bool.eq_false_iff.mpr c18;subst c18;have H1:(some (0,false))=some (r1,r2):=by rw [if_neg (show ¬(false=true) by decide)] at H;exact H
     clear H;have H:=H1;clear H1;simp only [Option.some.injEq,Prod.mk.injEq] at H;obtain ⟨rfl,rfl⟩:=H;go_wp2_with (first|((with_reducible refine AP (f:=74) rfl ?_);refine Aj (some 45) rfl rfl Tryz.func74 (by kernel_rfl) rfl #[.string a0, .int .i64 19] rfl xg ?_;(with_reducible refine (Ag.calls kj1 a0 19 t348 false _ A17.out).mono ?_);rintro e w' ⟨rfl,⟨nd,rfl⟩⟩;refine ⟨_,rfl,?_⟩));go_ret2;exact ⟨xe,xb⟩
def Bb.l0:Nat->List ByteArray->Int->Option (Bool)
 |0,_,_=>none
 |k+1,x3,x4=>if x4<(x3.length:Int) then (if 0<=x4 then ((Ac.f k (CY ByteArray.empty x3 x4)).bind λbt355=>(if bt355.2=true then (if bt355.1<0 then (some false) else (if bt355.1>255 then (some false) else (Bb.l0 k x3 (wrap64 (x4+1))))) else (some false))) else (none)) else (some ((x3.length:Int)==4))
def Bb.f (k:Nat) (a0:ByteArray):Option (Bool):=(BG.f k a0).bind λt351=>(Bb.l0 k t351 0)
set_option maxHeartbeats 8000000 in
set_option maxRecDepth 100000 in
theorem Bb.calls (k:Nat) (a0:ByteArray) (r:Bool) (w:World) (h:Bb.f k a0=some r):
 Calls Tryz.prog 41 #[.string a0] w λe w'=>e= .returned (.bool r)/\Below w.heap.size w w':=by
 have HB:=AA.mk (Below.refl w.heap.size w);have H:((BG.f k a0).bind λt351=>(Bb.l0 k t351 0))=some r:=h;clear h;replace H:=Option.bind_eq_some_iff.mp H;obtain ⟨t351,A20,H⟩:=H;try dsimp only at H
 have A2:=AA.mk A20;clear A20;have H':=AA.mk H;clear H;go_enter Tryz.func41,Tryz.ntmps41;go_wp2_with (first|((with_reducible refine AP (f:=62) rfl ?_);refine Aj (some 8) rfl rfl Tryz.func62 (by kernel_rfl) rfl #[.string a0] rfl xg ?_;(with_reducible refine (BG.calls k a0 t351 _ A2.out).mono ?_);rintro e w3 ⟨v352,rfl,ho0,hb⟩;refine ⟨_,rfl,?_⟩;have HO353:=AA.mk (Kd.Bv ho0 (Av xb));replace HB:=AA.mk (AL xb hb);(try clear hb);(try clear ho0)));go_loopg [4] k (λkq v4 w'=>∃ (x4_1:Int),v4= .int .i64 x4_1/\AA (Bb.l0 kq t351 x4_1=some r)/\AA (kq<=k)/\AA (Kd.R Kd.string 9 w' w.heap.size (λ_=>True) v352 t351)/\AA (Below w.heap.size w w'));case atStart=>exact ⟨(0),xq,H',⟨Nat.le_refl _⟩,⟨by (with_reducible repeat (first|apply Kd.Ar|apply Kd.Au|apply Kd.BB));exact HO353.out⟩,⟨xb⟩⟩
 case round=>
  clear H';try clear p2
  try clear p3
  obtain ⟨x4_1,rfl,HA,HK1,HO_3,HB⟩:=hrel;cases gk with
  |zero=>exact absurd HA.out (by simp [Bb.l0])
  |succ k1=>
   have H:=HA.out;clear HA;simp only [Bb.l0] at H;by_cases c4:x4_1<(t351.length:Int)
   ·rw [if_pos c4] at H;have c4b0:decide (x4_1<(t351.length:Int))=true:=decide_eq_true c4;clear c4;by_cases c5:0<=x4_1
    ·rw [if_pos c5] at H;have c5b0:decide (0<=x4_1)=true:=decide_eq_true c5;clear c5;replace H:=Option.bind_eq_some_iff.mp H;obtain ⟨⟨t355,t356⟩,A60,H⟩:=H;replace H:(if t356=true then (if t355<0 then (some false) else (if t355>255 then (some false) else (Bb.l0 k1 t351 (wrap64 (x4_1+1))))) else (some false))=some r:=H;have A6:=AA.mk A60;clear A60;by_cases c7:t356=true
     ·subst c7;rw [if_pos rfl] at H;by_cases c8:t355<0
      ·rw [if_pos c8] at H;have c8b0:decide (t355<0)=true:=decide_eq_true c8;clear c8;obtain rfl:=Option.some.inj H;obtain ⟨Ao9,co9,eo9⟩:=Kd.Bf HO_3.out;subst eo9;have p354:0<=(x4_1:Int):=xa;have q354:x4_1<(t351.length:Int):=xa;obtain ⟨ad354,e354,hx354_0⟩:=Kd.DU (Kd.Ap HO_3.out).2.2 x4_1 p354 q354;cases e354;replace p354:=eq_true p354;replace q354:=eq_true q354;go_wp2_with (first|((with_reducible refine AP (f:=64) rfl ?_);refine Aj (some 20) rfl rfl Tryz.func64 (by kernel_rfl) rfl #[.string (CY ByteArray.empty t351 x4_1)] rfl xg ?_;(with_reducible refine (Ac.calls k1 (CY ByteArray.empty t351 x4_1) t355 true _ A6.out).mono ?_);rintro e w10 ⟨rfl,hb⟩;refine ⟨_,rfl,?_⟩;replace HO_3:=AA.mk (Kd.Aa (xR HO_3) hb);replace HB:=AA.mk (AL xb hb);(try clear hb)));go_ret;exact ⟨xe,xb⟩
      ·rw [if_neg c8] at H;have c8b0:decide (t355<0)=false:=decide_eq_false c8;clear c8;by_cases c11:t355>255
       ·rw [if_pos c11] at H;have c11b0:decide (255<t355)=true:=decide_eq_true c11;clear c11;obtain rfl:=Option.some.inj H;obtain ⟨Ao12,co12,eo12⟩:=Kd.Bf HO_3.out;subst eo12;have p354:0<=(x4_1:Int):=xa;have q354:x4_1<(t351.length:Int):=xa;obtain ⟨ad354,e354,hx354_0⟩:=Kd.DU (Kd.Ap HO_3.out).2.2 x4_1 p354 q354;cases e354;replace p354:=eq_true p354;replace q354:=eq_true q354;go_wp2_with (first|((with_reducible refine AP (f:=64) rfl ?_);refine Aj (some 20) rfl rfl Tryz.func64 (by kernel_rfl) rfl #[.string (CY ByteArray.empty t351 x4_1)] rfl xg ?_;(with_reducible refine (Ac.calls k1 (CY ByteArray.empty t351 x4_1) t355 true _ A6.out).mono ?_);rintro e w13 ⟨rfl,hb⟩;refine ⟨_,rfl,?_⟩;replace HO_3:=AA.mk (Kd.Aa (xR HO_3) hb);replace HB:=AA.mk (AL xb hb);(try clear hb)));go_ret;exact ⟨xe,xb⟩
       ·rw [if_neg c11] at H;have c11b0:decide (255<t355)=false:=decide_eq_false c11;clear c11;have H':=AA.mk H;clear H;obtain ⟨Ao14,co14,eo14⟩:=Kd.Bf HO_3.out;subst eo14;have p354:0<=(x4_1:Int):=xa;have q354:x4_1<(t351.length:Int):=xa;obtain ⟨ad354,e354,hx354_0⟩:=Kd.DU (Kd.Ap HO_3.out).2.2 x4_1 p354 q354;cases e354;replace p354:=eq_true p354;replace q354:=eq_true q354;go_wp2_with (first|((with_reducible refine AP (f:=64) rfl ?_);refine Aj (some 20) rfl rfl Tryz.func64 (by kernel_rfl) rfl #[.string (CY ByteArray.empty t351 x4_1)] rfl xg ?_;(with_reducible refine (Ac.calls k1 (CY ByteArray.empty t351 x4_1) t355 true _ A6.out).mono ?_);rintro e w15 ⟨rfl,hb⟩;refine ⟨_,rfl,?_⟩;replace HO_3:=AA.mk (Kd.Aa (xR HO_3) hb);replace HB:=AA.mk (AL xb hb);(try clear hb)));go_roundg k1;case measure=>have:=HK1.out;omega
        case rel=>exact ⟨(wrap64 (x4_1+1)),xq,H',⟨by have:=HK1.out;omega⟩,⟨by (with_reducible repeat (first|apply Kd.Ar|apply Kd.Au|apply Kd.BB));exact HO_3.out⟩,⟨xb⟩⟩
     ·replace c7:=Bool.eq_false_iff.mpr c7;subst c7;have H1:(some false)=some r:=by rw [if_neg (show ¬(false=true) by decide)] at H;exact H
      clear H;have H:=H1;clear H1;obtain rfl:=Option.some.inj H;obtain ⟨Ao16,co16,eo16⟩:=Kd.Bf HO_3.out;subst eo16;have p354:0<=(x4_1:Int):=xa;have q354:x4_1<(t351.length:Int):=xa;obtain ⟨ad354,e354,hx354_0⟩:=Kd.DU (Kd.Ap HO_3.out).2.2 x4_1 p354 q354;cases e354;replace p354:=eq_true p354;replace q354:=eq_true q354;go_wp2_with (first|((with_reducible refine AP (f:=64) rfl ?_);refine Aj (some 20) rfl rfl Tryz.func64 (by kernel_rfl) rfl #[.string (CY ByteArray.empty t351 x4_1)] rfl xg ?_;(with_reducible refine (Ac.calls k1 (CY ByteArray.empty t351 x4_1) t355 false _ A6.out).mono ?_);rintro e w17 ⟨rfl,hb⟩;refine ⟨_,rfl,?_⟩;replace HO_3:=AA.mk (Kd.Aa (xR HO_3) hb);replace HB:=AA.mk (AL xb hb);(try clear hb)));go_ret;exact ⟨xe,xb⟩
    ·rw [if_neg c5] at H;exact absurd H (by simp)
   ·rw [if_neg c4] at H;have c4b0:decide (x4_1<(t351.length:Int))=false:=decide_eq_false c4;clear c4;obtain rfl:=Option.some.inj H;obtain ⟨Ao18,co18,eo18⟩:=Kd.Bf HO_3.out;subst eo18;go_wp2;go_ret;exact ⟨xe,xb⟩
def BS.l0:Nat->ByteArray->Int->Option (Bool)
 |0,_,_=>none
 |k+1,x0,x3=>if x3<(x0.size:Int) then (if 0<=x3 then (if (bt x0 x3)<33 then (some false) else (if (bt x0 x3)>126 then (some false) else (if (bt x0 x3)=59 then (some false) else (BS.l0 k x0 (wrap64 (x3+1)))))) else (none)) else (some true)
def BS.f (k:Nat) (a0:ByteArray):Option (Bool):=BS.l0 k a0 0
set_option maxHeartbeats 8000000 in
set_option maxRecDepth 100000 in
theorem BS.calls (k:Nat) (a0:ByteArray) (r:Bool) (w:World) (h:BS.f k a0=some r):
 Calls Tryz.prog 65 #[.string a0] w λe w'=>e= .returned (.bool r)/\BA w w':=by
 have H:(BS.l0 k a0 0)=some r:=h;clear h;have H':=AA.mk H;clear H;go_enter Tryz.func65,Tryz.ntmps65;go_wp2;go_loopg [3] k (λkq v3 w'=>∃ (x3_1:Int),v3= .int .i64 x3_1/\AA (BS.l0 kq a0 x3_1=some r)/\AA (kq<=k)/\BA w w');case atStart=>exact ⟨(0),xq,H',⟨Nat.le_refl _⟩,xd⟩
 case round=>
  clear H';obtain ⟨x3_1,rfl,HA,HK1,⟨m1,rfl⟩⟩:=hrel;cases gk with
  |zero=>exact absurd HA.out (by simp [BS.l0])
  |succ k1=>
   have H:=HA.out;clear HA;simp only [BS.l0] at H;by_cases c2:x3_1<(a0.size:Int)
   ·rw [if_pos c2] at H;have c2b0:decide (x3_1<(a0.size:Int))=true:=decide_eq_true c2;clear c2;by_cases c3:0<=x3_1
    ·rw [if_pos c3] at H;have c3b0:decide (0<=x3_1)=true:=decide_eq_true c3;clear c3;by_cases c5:(bt a0 x3_1)<33
     ·rw [if_pos c5] at H;have c5b0:decide ((bt a0 x3_1)<33)=true:=decide_eq_true c5;clear c5;obtain rfl:=Option.some.inj H;have p4:0<=(x3_1:Int):=xa;have q4:x3_1<(a0.size:Int):=xa;have hx4:=Bl a0 x3_1;replace p4:=eq_true p4;replace q4:=eq_true q4;go_wp2;go_ret;exact ⟨xq,xd⟩
     ·rw [if_neg c5] at H;have c5b0:decide ((bt a0 x3_1)<33)=false:=decide_eq_false c5;clear c5;by_cases c7:(bt a0 x3_1)>126
      ·rw [if_pos c7] at H;have c7b0:decide (126<(bt a0 x3_1))=true:=decide_eq_true c7;clear c7;obtain rfl:=Option.some.inj H;have p4:0<=(x3_1:Int):=xa;have q4:x3_1<(a0.size:Int):=xa;have hx4:=Bl a0 x3_1;replace p4:=eq_true p4;replace q4:=eq_true q4;have p6:0<=(x3_1:Int):=xa;have q6:x3_1<(a0.size:Int):=xa;have hx6:=Bl a0 x3_1;replace p6:=eq_true p6;replace q6:=eq_true q6;go_wp2;go_ret;exact ⟨xq,xd⟩
      ·rw [if_neg c7] at H;have c7b0:decide (126<(bt a0 x3_1))=false:=decide_eq_false c7;clear c7;by_cases c9:(bt a0 x3_1)=59
       ·rw [if_pos c9] at H;have c9b0:((bt a0 x3_1)==59)=true:=beq_iff_eq.mpr c9;have c9b1:((bt a0 x3_1) != 59)=false:=bne_eq_false_iff_eq.mpr c9;clear c9;obtain rfl:=Option.some.inj H;have p4:0<=(x3_1:Int):=xa;have q4:x3_1<(a0.size:Int):=xa;have hx4:=Bl a0 x3_1;replace p4:=eq_true p4;replace q4:=eq_true q4;have p6:0<=(x3_1:Int):=xa;have q6:x3_1<(a0.size:Int):=xa;have hx6:=Bl a0 x3_1;replace p6:=eq_true p6;replace q6:=eq_true q6;have p8:0<=(x3_1:Int):=xa;have q8:x3_1<(a0.size:Int):=xa;have hx8:=Bl a0 x3_1;replace p8:=eq_true p8;replace q8:=eq_true q8;go_wp2;go_ret;exact ⟨xq,xd⟩
       ·rw [if_neg c9] at H;have c9b0:((bt a0 x3_1)==59)=false:=beq_eq_false_iff_ne.mpr c9;have c9b1:((bt a0 x3_1) != 59)=true:=bne_iff_ne.mpr c9;have H':=AA.mk H;clear H;have p4:0<=(x3_1:Int):=xa;have q4:x3_1<(a0.size:Int):=xa;have hx4:=Bl a0 x3_1;replace p4:=eq_true p4;replace q4:=eq_true q4;have p6:0<=(x3_1:Int):=xa;have q6:x3_1<(a0.size:Int):=xa;have hx6:=Bl a0 x3_1;replace p6:=eq_true p6;replace q6:=eq_true q6;have p8:0<=(x3_1:Int):=xa;have q8:x3_1<(a0.size:Int):=xa;have hx8:=Bl a0 x3_1;replace p8:=eq_true p8;replace q8:=eq_true q8;go_wp2;go_roundg k1;case measure=>have:=HK1.out;omega
        case rel=>exact ⟨(wrap64 (x3_1+1)),xq,H',⟨by have:=HK1.out;omega⟩,xd⟩
    ·rw [if_neg c3] at H;exact absurd H (by simp)
   ·rw [if_neg c2] at H;have c2b0:decide (x3_1<(a0.size:Int))=false:=decide_eq_false c2;clear c2;obtain rfl:=Option.some.inj H;go_wp2;go_ret;exact ⟨xq,xd⟩
end Go.Proofs.YtccmackhhppbdaaGreatDoor.Print
