/- Printed by a program of this claim's session (xprint.py): the machine's side: each Go function as a Lean function, and that a call of it comes to what that tells; the row of a statement. No condition. -/
import Derived.Test.YtohjohhcjcljoaaGreatDoorPD
namespace Go.Proofs.YtohjohhcjcljoaaGreatDoor.Print
open RowKit Ak BR BS
attribute [local go_sem] DT DU Df Dh Cy Cz DV DW
set_option linter.unusedVariables false
set_option linter.unusedSimpArgs false
mutual
def Ad.j0:Nat->Bool->ByteArray->ByteArray->ByteArray->ByteArray->Int->Int->Int->Bool->Bool->Bool->Int->Option (Bool)
 |0,_,_,_,_,_,_,_,_,_,_,_,_=>none
 |k+1,x28,x388000,x388001,x388002,x388003,x388004,x388005,x388006,x388007,x388008,x388009,x388010=>if x28=true then (some false) else ((DI.f k x388001).bind λt391=>(if t391=true then ((Bp.f k x388002).bind λt392=>(if t392=true then (if (x388002.size:Int)>64 then (Ad.j1 k true x388000 x388001 x388002 x388003 x388004 x388005 x388006 x388007 x388008 x388009 x388010) else ((Bt.f k x388003).bind λt393=>(if t393=true then (Ad.j1 k (decide ((x388003.size:Int)>128)) x388000 x388001 x388002 x388003 x388004 x388005 x388006 x388007 x388008 x388009 x388010) else (Ad.j1 k true x388000 x388001 x388002 x388003 x388004 x388005 x388006 x388007 x388008 x388009 x388010)))) else (Ad.j1 k true x388000 x388001 x388002 x388003 x388004 x388005 x388006 x388007 x388008 x388009 x388010))) else (Ad.j1 k true x388000 x388001 x388002 x388003 x388004 x388005 x388006 x388007 x388008 x388009 x388010)))
def Ad.j1:Nat->Bool->ByteArray->ByteArray->ByteArray->ByteArray->Int->Int->Int->Bool->Bool->Bool->Int->Option (Bool)
 |0,_,_,_,_,_,_,_,_,_,_,_,_=>none
 |k+1,x56,x388000,x388001,x388002,x388003,x388004,x388005,x388006,x388007,x388008,x388009,x388010=>if x56=true then (some false) else (if x388004<0 then (some false) else (if x388004>253402300799 then (some false) else (if x388005<0 then (some false) else (if x388005>253402300799 then (some false) else (if x388006<0 then (some false) else (if x388006>253402300799 then (some false) else (if x388010>=0 then (some (decide (x388010<=3))) else (some false))))))))
end
def Ad.f (k:Nat) (a0_0:ByteArray) (a0_1:ByteArray) (a0_2:ByteArray) (a0_3:ByteArray) (a0_4:Int) (a0_5:Int) (a0_6:Int) (a0_7:Bool) (a0_8:Bool) (a0_9:Bool) (a0_10:Int):Option (Bool):=(BM.f k a0_0).bind λbt388=>(if bt388.2=true then (if bt388.1.toList=a0_0.toList then ((CX.f k a0_0).bind λt390=>(if t390=true then (Ad.j0 k (!a0_7) a0_0 a0_1 a0_2 a0_3 a0_4 a0_5 a0_6 a0_7 a0_8 a0_9 a0_10) else (Ad.j0 k false a0_0 a0_1 a0_2 a0_3 a0_4 a0_5 a0_6 a0_7 a0_8 a0_9 a0_10))) else (Ad.j0 k true a0_0 a0_1 a0_2 a0_3 a0_4 a0_5 a0_6 a0_7 a0_8 a0_9 a0_10)) else (Ad.j0 k true a0_0 a0_1 a0_2 a0_3 a0_4 a0_5 a0_6 a0_7 a0_8 a0_9 a0_10))
set_option maxHeartbeats 8000000 in
set_option maxRecDepth 100000 in
theorem Ad.calls (k:Nat) (a0_0:ByteArray) (a0_1:ByteArray) (a0_2:ByteArray) (a0_3:ByteArray) (a0_4:Int) (a0_5:Int) (a0_6:Int) (a0_7:Bool) (a0_8:Bool) (a0_9:Bool) (a0_10:Int) (r:Bool) (w:World) (h:Ad.f k a0_0 a0_1 a0_2 a0_3 a0_4 a0_5 a0_6 a0_7 a0_8 a0_9 a0_10=some r):
 Calls Tryz.prog 38 #[.agg #[.string a0_0, .string a0_1, .string a0_2, .string a0_3, .int .i64 a0_4, .int .i64 a0_5, .int .i64 a0_6, .bool a0_7, .bool a0_8, .bool a0_9, .int .i64 a0_10]] w λe w'=>e= .returned (.bool r)/\Below w.heap.size w w':=by
 have hu43:=Tryz.underlying43;have HB:=AA.mk (Below.refl w.heap.size w);have H:((BM.f k a0_0).bind λbt388=>(if bt388.2=true then (if bt388.1.toList=a0_0.toList then ((CX.f k a0_0).bind λt390=>(if t390=true then (Ad.j0 k (!a0_7) a0_0 a0_1 a0_2 a0_3 a0_4 a0_5 a0_6 a0_7 a0_8 a0_9 a0_10) else (Ad.j0 k false a0_0 a0_1 a0_2 a0_3 a0_4 a0_5 a0_6 a0_7 a0_8 a0_9 a0_10))) else (Ad.j0 k true a0_0 a0_1 a0_2 a0_3 a0_4 a0_5 a0_6 a0_7 a0_8 a0_9 a0_10)) else (Ad.j0 k true a0_0 a0_1 a0_2 a0_3 a0_4 a0_5 a0_6 a0_7 a0_8 a0_9 a0_10)))=some r:=h;clear h;replace H:=Option.bind_eq_some_iff.mp H;obtain ⟨⟨t388,t389⟩,A20,H⟩:=H;try dsimp only at H
 have A2:=AA.mk A20;clear A20;have HC3:=AA.mk H;clear H;go_enter Tryz.func38,Tryz.ntmps38;go_upto_region 2 with (first|(refine Cx (N:=1) (cs:=#[.string a0_0, .string a0_1, .string a0_2, .string a0_3, .int .i64 a0_4, .int .i64 a0_5, .int .i64 a0_6, .bool a0_7, .bool a0_8, .bool a0_9, .int .i64 a0_10]) (t:=43) (λgb387 hg w4 hbox hb=>?_);have BK387:=AA.mk (hbox);have GW387:AA (w.heap.size<=gb387):=Cm hg xb;have GE387:AA (w.heap.size<=gb387):=Cm hg xb;replace HB:=AA.mk (AL xb hb);clear hb hbox hg;obtain ⟨hcz5_0,hcz5_1,hcz5_2,hcz5_3,hcz5_4,hcz5_5,hcz5_6,hcz5_7,hcz5_8,hcz5_9,hcz5_10⟩:=Bg BK387.out;have hfz5_0:=AR BK387.out)|((with_reducible refine AQ (f:=63) rfl ?_);refine XJ (some 8) rfl rfl Tryz.func63 (by kernel_rfl) rfl #[.string a0_0] rfl xg ?_;(with_reducible refine (BM.calls k a0_0 t388 t389 _ A2.out).mono ?_);rintro e w6 ⟨rfl,hb⟩;refine ⟨_,rfl,?_⟩;replace BK387:=Ac BK387 hb;replace HB:=AA.mk (AL xb hb);(try clear hb)))
 (try simp only [Act.put,List.setIfInBounds_toArray,List.set_cons_zero,List.set_cons_succ]);go_cut [28] (λv28 wc=>∃ (kq:Nat) (x28_2:Bool),v28= .bool x28_2/\AA (Ad.j0 kq x28_2 a0_0 a0_1 a0_2 a0_3 a0_4 a0_5 a0_6 a0_7 a0_8 a0_9 a0_10=some r)/\AA (kq<=k)/\AA (wc.heap[gb387]? =some (.cells #[.string a0_0, .string a0_1, .string a0_2, .string a0_3, .int .i64 a0_4, .int .i64 a0_5, .int .i64 a0_6, .bool a0_7, .bool a0_8, .bool a0_9, .int .i64 a0_10] 43 (0,0)))/\AA (Below w.heap.size w wc));case first=>
  have H:=HC3.out;clear HC3;by_cases c7:t389=true
  ·subst c7;have H1:(if t388.toList=a0_0.toList then ((CX.f k a0_0).bind λt390=>(if t390=true then (Ad.j0 k (!a0_7) a0_0 a0_1 a0_2 a0_3 a0_4 a0_5 a0_6 a0_7 a0_8 a0_9 a0_10) else (Ad.j0 k false a0_0 a0_1 a0_2 a0_3 a0_4 a0_5 a0_6 a0_7 a0_8 a0_9 a0_10))) else (Ad.j0 k true a0_0 a0_1 a0_2 a0_3 a0_4 a0_5 a0_6 a0_7 a0_8 a0_9 a0_10))=some r:=by rw [if_pos rfl] at H;exact H
   clear H;have H:=H1;clear H1;by_cases c8:t388.toList=a0_0.toList
   ·rw [if_pos c8] at H;have c8b0:(t388.toList==a0_0.toList)=true:=beq_iff_eq.mpr c8;have c8b1:(t388.toList != a0_0.toList)=false:=bne_eq_false_iff_eq.mpr c8;clear c8;(first|rw [c8b0]|(simp only [CW,CY];rw [c8b0])|skip);replace H:=Option.bind_eq_some_iff.mp H;obtain ⟨t390,A90,H⟩:=H;replace H:(if t390=true then (Ad.j0 k (!a0_7) a0_0 a0_1 a0_2 a0_3 a0_4 a0_5 a0_6 a0_7 a0_8 a0_9 a0_10) else (Ad.j0 k false a0_0 a0_1 a0_2 a0_3 a0_4 a0_5 a0_6 a0_7 a0_8 a0_9 a0_10))=some r:=H;have A9:=AA.mk A90;clear A90;by_cases c10:t390=true
    ·subst c10;rw [if_pos rfl] at H;have H':=AA.mk H;clear H;obtain ⟨hcz11_0,hcz11_1,hcz11_2,hcz11_3,hcz11_4,hcz11_5,hcz11_6,hcz11_7,hcz11_8,hcz11_9,hcz11_10⟩:=Bg BK387.out;have hfz11_0:=AR BK387.out;go_wp2_with (first|(go_at_call 64;(with_reducible refine (CX.calls k a0_0 true _ A9.out).mono ?_);rintro e w12 ⟨rfl,hb⟩;replace BK387:=Ac BK387 hb;replace HB:=AA.mk (AL xb hb);(try clear hb);obtain ⟨hcz13_0,hcz13_1,hcz13_2,hcz13_3,hcz13_4,hcz13_5,hcz13_6,hcz13_7,hcz13_8,hcz13_9,hcz13_10⟩:=Bg BK387.out;have hfz13_0:=AR BK387.out));go_meet;case rel=>exact ⟨_,(!a0_7),xq,H',⟨by first|omega|exact Nat.le_refl _⟩,⟨xk⟩,⟨xb⟩⟩
    ·replace c10:=Bool.eq_false_iff.mpr c10;subst c10;have H1:(Ad.j0 k false a0_0 a0_1 a0_2 a0_3 a0_4 a0_5 a0_6 a0_7 a0_8 a0_9 a0_10)=some r:=by rw [if_neg (show ¬(false=true) by decide)] at H;exact H
     clear H;have H:=H1;clear H1;have H':=AA.mk H;clear H;obtain ⟨hcz14_0,hcz14_1,hcz14_2,hcz14_3,hcz14_4,hcz14_5,hcz14_6,hcz14_7,hcz14_8,hcz14_9,hcz14_10⟩:=Bg BK387.out;have hfz14_0:=AR BK387.out;go_wp2_with (first|(go_at_call 64;(with_reducible refine (CX.calls k a0_0 false _ A9.out).mono ?_);rintro e w15 ⟨rfl,hb⟩;replace BK387:=Ac BK387 hb;replace HB:=AA.mk (AL xb hb);(try clear hb)));go_meet;case rel=>exact ⟨_,(false),xq,H',⟨by first|omega|exact Nat.le_refl _⟩,⟨xk⟩,⟨xb⟩⟩
   ·rw [if_neg c8] at H;have c8b0:(t388.toList==a0_0.toList)=false:=beq_eq_false_iff_ne.mpr c8;have c8b1:(t388.toList != a0_0.toList)=true:=bne_iff_ne.mpr c8;(first|rw [c8b0]|(simp only [CW,CY];rw [c8b0])|skip);have H':=AA.mk H;clear H;obtain ⟨hcz16_0,hcz16_1,hcz16_2,hcz16_3,hcz16_4,hcz16_5,hcz16_6,hcz16_7,hcz16_8,hcz16_9,hcz16_10⟩:=Bg BK387.out;have hfz16_0:=AR BK387.out;go_wp2;go_meet;case rel=>exact ⟨_,(true),xq,H',⟨by first|omega|exact Nat.le_refl _⟩,⟨xk⟩,⟨xb⟩⟩
  ·replace c7:=Bool.eq_false_iff.mpr c7;subst c7;have H1:(Ad.j0 k true a0_0 a0_1 a0_2 a0_3 a0_4 a0_5 a0_6 a0_7 a0_8 a0_9 a0_10)=some r:=by rw [if_neg (show ¬(false=true) by decide)] at H;exact H
   clear H;have H:=H1;clear H1;have H':=AA.mk H;clear H;go_wp2;go_meet;case rel=>exact ⟨_,(true),xq,H',⟨by first|omega|exact Nat.le_refl _⟩,⟨xk⟩,⟨xb⟩⟩
 case rest=>
  clear HC3;try clear c1
  try clear p2
  try clear c3
  try clear p3
  try clear c6
  try clear p6
  try clear c7
  try clear c8
  try clear c8b0
  try clear c8b1
  try clear c10
  try clear hcz11_0
  try clear hcz11_1
  try clear hcz11_10
  try clear hcz11_2
  try clear hcz11_3
  try clear hcz11_4
  try clear hcz11_5
  try clear hcz11_6
  try clear hcz11_7
  try clear hcz11_8
  try clear hcz11_9
  try clear hcz13_0
  try clear hcz13_1
  try clear hcz13_10
  try clear hcz13_2
  try clear hcz13_3
  try clear hcz13_4
  try clear hcz13_5
  try clear hcz13_6
  try clear hcz13_7
  try clear hcz13_8
  try clear hcz13_9
  try clear hcz14_0
  try clear hcz14_1
  try clear hcz14_10
  try clear hcz14_2
  try clear hcz14_3
  try clear hcz14_4
  try clear hcz14_5
  try clear hcz14_6
  try clear hcz14_7
  try clear hcz14_8
  try clear hcz14_9
  try clear hcz16_0
  try clear hcz16_1
  try clear hcz16_10
  try clear hcz16_2
  try clear hcz16_3
  try clear hcz16_4
  try clear hcz16_5
  try clear hcz16_6
  try clear hcz16_7
  try clear hcz16_8
  try clear hcz16_9
  try clear hcz5_0
  try clear hcz5_1
  try clear hcz5_10
  try clear hcz5_2
  try clear hcz5_3
  try clear hcz5_4
  try clear hcz5_5
  try clear hcz5_6
  try clear hcz5_7
  try clear hcz5_8
  try clear hcz5_9
  try clear hfz11_0
  try clear hfz13_0
  try clear hfz14_0
  try clear hfz16_0
  try clear hfz5_0
  obtain ⟨kq,x28_2,rfl,HA,HJ2,BK387,HB⟩:=hcut;cases kq with
  |zero=>exact absurd HA.out (by simp [Ad.j0])
  |succ kj2=>
   have H:=HA.out;clear HA;simp only [Ad.j0] at H;by_cases c17:x28_2=true
   ·subst c17;have H1:(some false)=some r:=by rw [if_pos rfl] at H;exact H
    clear H;have H:=H1;clear H1;obtain rfl:=Option.some.inj H;go_wp2;go_ret;exact ⟨xe,xb⟩
   ·replace c17:=Bool.eq_false_iff.mpr c17;subst c17;have H1:((DI.f kj2 a0_1).bind λt391=>(if t391=true then ((Bp.f kj2 a0_2).bind λt392=>(if t392=true then (if (a0_2.size:Int)>64 then (Ad.j1 kj2 true a0_0 a0_1 a0_2 a0_3 a0_4 a0_5 a0_6 a0_7 a0_8 a0_9 a0_10) else ((Bt.f kj2 a0_3).bind λt393=>(if t393=true then (Ad.j1 kj2 (decide ((a0_3.size:Int)>128)) a0_0 a0_1 a0_2 a0_3 a0_4 a0_5 a0_6 a0_7 a0_8 a0_9 a0_10) else (Ad.j1 kj2 true a0_0 a0_1 a0_2 a0_3 a0_4 a0_5 a0_6 a0_7 a0_8 a0_9 a0_10)))) else (Ad.j1 kj2 true a0_0 a0_1 a0_2 a0_3 a0_4 a0_5 a0_6 a0_7 a0_8 a0_9 a0_10))) else (Ad.j1 kj2 true a0_0 a0_1 a0_2 a0_3 a0_4 a0_5 a0_6 a0_7 a0_8 a0_9 a0_10)))=some r:=by rw [if_neg (show ¬(false=true) by decide)] at H;exact H
    clear H;have H:=H1;clear H1;have HC18:=AA.mk H;clear H;go_upto_region 4 with (fail)
    go_cut [56] (λv56 wc=>∃ (kq:Nat) (x56_17:Bool),v56= .bool x56_17/\AA (Ad.j1 kq x56_17 a0_0 a0_1 a0_2 a0_3 a0_4 a0_5 a0_6 a0_7 a0_8 a0_9 a0_10=some r)/\AA (kq<=kj2)/\AA (wc.heap[gb387]? =some (.cells #[.string a0_0, .string a0_1, .string a0_2, .string a0_3, .int .i64 a0_4, .int .i64 a0_5, .int .i64 a0_6, .bool a0_7, .bool a0_8, .bool a0_9, .int .i64 a0_10] 43 (0,0)))/\AA (Below w.heap.size w wc));case first=>
     have H:=HC18.out;clear HC18;replace H:=Option.bind_eq_some_iff.mp H;obtain ⟨t391,A190,H⟩:=H;replace H:(if t391=true then ((Bp.f kj2 a0_2).bind λt392=>(if t392=true then (if (a0_2.size:Int)>64 then (Ad.j1 kj2 true a0_0 a0_1 a0_2 a0_3 a0_4 a0_5 a0_6 a0_7 a0_8 a0_9 a0_10) else ((Bt.f kj2 a0_3).bind λt393=>(if t393=true then (Ad.j1 kj2 (decide ((a0_3.size:Int)>128)) a0_0 a0_1 a0_2 a0_3 a0_4 a0_5 a0_6 a0_7 a0_8 a0_9 a0_10) else (Ad.j1 kj2 true a0_0 a0_1 a0_2 a0_3 a0_4 a0_5 a0_6 a0_7 a0_8 a0_9 a0_10)))) else (Ad.j1 kj2 true a0_0 a0_1 a0_2 a0_3 a0_4 a0_5 a0_6 a0_7 a0_8 a0_9 a0_10))) else (Ad.j1 kj2 true a0_0 a0_1 a0_2 a0_3 a0_4 a0_5 a0_6 a0_7 a0_8 a0_9 a0_10))=some r:=H;have A19:=AA.mk A190;clear A190;by_cases c20:t391=true
     ·subst c20;rw [if_pos rfl] at H;replace H:=Option.bind_eq_some_iff.mp H;obtain ⟨t392,A210,H⟩:=H;try dsimp only at H
      have A21:=AA.mk A210;clear A210;by_cases c22:t392=true
      ·subst c22;rw [if_pos rfl] at H;by_cases c23:(a0_2.size:Int)>64
       ·rw [if_pos c23] at H;have c23b0:decide (64<(a0_2.size:Int))=true:=decide_eq_true c23;have c23b1:decide (64<a0_2.size)=true:=decide_eq_true (by omega);clear c23;(first|rw [c23b0]|(simp only [CW,CY];rw [c23b0])|skip);have H':=AA.mk H;clear H;obtain ⟨hcz24_0,hcz24_1,hcz24_2,hcz24_3,hcz24_4,hcz24_5,hcz24_6,hcz24_7,hcz24_8,hcz24_9,hcz24_10⟩:=Bg BK387.out;have hfz24_0:=AR BK387.out;go_wp2_with (first|((with_reducible refine AQ (f:=65) rfl ?_);refine XJ (some 31) rfl rfl Tryz.func65 (by kernel_rfl) rfl #[.string a0_1] rfl xg ?_;(with_reducible refine (DI.calls kj2 a0_1 true _ A19.out).mono ?_);rintro e w' ⟨rfl,⟨nd,rfl⟩⟩;refine ⟨_,rfl,?_⟩)|(go_at_call 66;(with_reducible refine (Bp.calls kj2 a0_2 true _ A21.out).mono ?_);rintro e w' ⟨rfl,⟨nd,rfl⟩⟩));go_meet;case rel=>exact ⟨_,(true),xq,H',⟨by have:=HJ2.out;first|omega|exact Nat.le_refl _⟩,⟨xk⟩,⟨xb⟩⟩
       ·rw [if_neg c23] at H;have c23b0:decide (64<(a0_2.size:Int))=false:=decide_eq_false c23;have c23b1:decide (64<a0_2.size)=false:=decide_eq_false (by omega);clear c23;(first|rw [c23b0]|(simp only [CW,CY];rw [c23b0])|skip);replace H:=Option.bind_eq_some_iff.mp H;obtain ⟨t393,A250,H⟩:=H;replace H:(if t393=true then (Ad.j1 kj2 (decide ((a0_3.size:Int)>128)) a0_0 a0_1 a0_2 a0_3 a0_4 a0_5 a0_6 a0_7 a0_8 a0_9 a0_10) else (Ad.j1 kj2 true a0_0 a0_1 a0_2 a0_3 a0_4 a0_5 a0_6 a0_7 a0_8 a0_9 a0_10))=some r:=H;have A25:=AA.mk A250;clear A250;by_cases c26:t393=true
        ·subst c26;rw [if_pos rfl] at H;have H':=AA.mk H;clear H;obtain ⟨hcz27_0,hcz27_1,hcz27_2,hcz27_3,hcz27_4,hcz27_5,hcz27_6,hcz27_7,hcz27_8,hcz27_9,hcz27_10⟩:=Bg BK387.out;have hfz27_0:=AR BK387.out;go_wp2_with (first|((with_reducible refine AQ (f:=65) rfl ?_);refine XJ (some 31) rfl rfl Tryz.func65 (by kernel_rfl) rfl #[.string a0_1] rfl xg ?_;(with_reducible refine (DI.calls kj2 a0_1 true _ A19.out).mono ?_);rintro e w' ⟨rfl,⟨nd,rfl⟩⟩;refine ⟨_,rfl,?_⟩)|(go_at_call 66;(with_reducible refine (Bp.calls kj2 a0_2 true _ A21.out).mono ?_);rintro e w' ⟨rfl,⟨nd,rfl⟩⟩)|(go_at_call 67;(with_reducible refine (Bt.calls kj2 a0_3 true _ A25.out).mono ?_);rintro e w' ⟨rfl,⟨nd,rfl⟩⟩));go_meet;case rel=>exact ⟨_,(decide ((a0_3.size:Int)>128)),xq,H',⟨by have:=HJ2.out;first|omega|exact Nat.le_refl _⟩,⟨xk⟩,⟨xb⟩⟩
        ·replace c26:=Bool.eq_false_iff.mpr c26;subst c26;have H1:(Ad.j1 kj2 true a0_0 a0_1 a0_2 a0_3 a0_4 a0_5 a0_6 a0_7 a0_8 a0_9 a0_10)=some r:=by rw [if_neg (show ¬(false=true) by decide)] at H;exact H
         clear H;have H:=H1;clear H1;have H':=AA.mk H;clear H;obtain ⟨hcz28_0,hcz28_1,hcz28_2,hcz28_3,hcz28_4,hcz28_5,hcz28_6,hcz28_7,hcz28_8,hcz28_9,hcz28_10⟩:=Bg BK387.out;have hfz28_0:=AR BK387.out;go_wp2_with (first|((with_reducible refine AQ (f:=65) rfl ?_);refine XJ (some 31) rfl rfl Tryz.func65 (by kernel_rfl) rfl #[.string a0_1] rfl xg ?_;(with_reducible refine (DI.calls kj2 a0_1 true _ A19.out).mono ?_);rintro e w' ⟨rfl,⟨nd,rfl⟩⟩;refine ⟨_,rfl,?_⟩)|(go_at_call 66;(with_reducible refine (Bp.calls kj2 a0_2 true _ A21.out).mono ?_);rintro e w' ⟨rfl,⟨nd,rfl⟩⟩)|(go_at_call 67;(with_reducible refine (Bt.calls kj2 a0_3 false _ A25.out).mono ?_);rintro e w' ⟨rfl,⟨nd,rfl⟩⟩));go_meet;case rel=>exact ⟨_,(true),xq,H',⟨by have:=HJ2.out;first|omega|exact Nat.le_refl _⟩,⟨xk⟩,⟨xb⟩⟩
      ·replace c22:=Bool.eq_false_iff.mpr c22;subst c22;have H1:(Ad.j1 kj2 true a0_0 a0_1 a0_2 a0_3 a0_4 a0_5 a0_6 a0_7 a0_8 a0_9 a0_10)=some r:=by rw [if_neg (show ¬(false=true) by decide)] at H;exact H
       clear H;have H:=H1;clear H1;have H':=AA.mk H;clear H;obtain ⟨hcz29_0,hcz29_1,hcz29_2,hcz29_3,hcz29_4,hcz29_5,hcz29_6,hcz29_7,hcz29_8,hcz29_9,hcz29_10⟩:=Bg BK387.out;have hfz29_0:=AR BK387.out;go_wp2_with (first|((with_reducible refine AQ (f:=65) rfl ?_);refine XJ (some 31) rfl rfl Tryz.func65 (by kernel_rfl) rfl #[.string a0_1] rfl xg ?_;(with_reducible refine (DI.calls kj2 a0_1 true _ A19.out).mono ?_);rintro e w' ⟨rfl,⟨nd,rfl⟩⟩;refine ⟨_,rfl,?_⟩)|(go_at_call 66;(with_reducible refine (Bp.calls kj2 a0_2 false _ A21.out).mono ?_);rintro e w' ⟨rfl,⟨nd,rfl⟩⟩));go_meet;case rel=>exact ⟨_,(true),xq,H',⟨by have:=HJ2.out;first|omega|exact Nat.le_refl _⟩,⟨xk⟩,⟨xb⟩⟩
     ·replace c20:=Bool.eq_false_iff.mpr c20;subst c20;have H1:(Ad.j1 kj2 true a0_0 a0_1 a0_2 a0_3 a0_4 a0_5 a0_6 a0_7 a0_8 a0_9 a0_10)=some r:=by rw [if_neg (show ¬(false=true) by decide)] at H;exact H
      clear H;have H:=H1;clear H1;have H':=AA.mk H;clear H;obtain ⟨hcz30_0,hcz30_1,hcz30_2,hcz30_3,hcz30_4,hcz30_5,hcz30_6,hcz30_7,hcz30_8,hcz30_9,hcz30_10⟩:=Bg BK387.out;have hfz30_0:=AR BK387.out;go_wp2_with (first|((with_reducible refine AQ (f:=65) rfl ?_);refine XJ (some 31) rfl rfl Tryz.func65 (by kernel_rfl) rfl #[.string a0_1] rfl xg ?_;(with_reducible refine (DI.calls kj2 a0_1 false _ A19.out).mono ?_);rintro e w' ⟨rfl,⟨nd,rfl⟩⟩;refine ⟨_,rfl,?_⟩));go_meet;case rel=>exact ⟨_,(true),xq,H',⟨by have:=HJ2.out;first|omega|exact Nat.le_refl _⟩,⟨xk⟩,⟨xb⟩⟩
    case rest=>
     clear HC18;try clear c1
     try clear c2
     try clear p2
     try clear c3
     try clear p3
     try clear c6
     try clear p6
     try clear c7
     try clear c8
     try clear c8b0
     try clear c8b1
     try clear c10
     try clear c17
     try clear c20
     try clear c22
     try clear c23
     try clear c23b0
     try clear c23b1
     try clear c26
     try clear hcz11_0
     try clear hcz11_1
     try clear hcz11_10
     try clear hcz11_2
     try clear hcz11_3
     try clear hcz11_4
     try clear hcz11_5
     try clear hcz11_6
     try clear hcz11_7
     try clear hcz11_8
     try clear hcz11_9
     try clear hcz13_0
     try clear hcz13_1
     try clear hcz13_10
     try clear hcz13_2
     try clear hcz13_3
     try clear hcz13_4
     try clear hcz13_5
     try clear hcz13_6
     try clear hcz13_7
     try clear hcz13_8
     try clear hcz13_9
     try clear hcz14_0
     try clear hcz14_1
     try clear hcz14_10
     try clear hcz14_2
     try clear hcz14_3
     try clear hcz14_4
     try clear hcz14_5
     try clear hcz14_6
     try clear hcz14_7
     try clear hcz14_8
     try clear hcz14_9
     try clear hcz16_0
     try clear hcz16_1
     try clear hcz16_10
     try clear hcz16_2
     try clear hcz16_3
     try clear hcz16_4
     try clear hcz16_5
     try clear hcz16_6
     try clear hcz16_7
     try clear hcz16_8
     try clear hcz16_9
     try clear hcz24_0
     try clear hcz24_1
     try clear hcz24_10
     try clear hcz24_2
     try clear hcz24_3
     try clear hcz24_4
     try clear hcz24_5
     try clear hcz24_6
     try clear hcz24_7
     try clear hcz24_8
     try clear hcz24_9
     try clear hcz27_0
     try clear hcz27_1
     try clear hcz27_10
     try clear hcz27_2
     try clear hcz27_3
     try clear hcz27_4
     try clear hcz27_5
     try clear hcz27_6
     try clear hcz27_7
     try clear hcz27_8
     try clear hcz27_9
     try clear hcz28_0
     try clear hcz28_1
     try clear hcz28_10
     try clear hcz28_2
     try clear hcz28_3
     try clear hcz28_4
     try clear hcz28_5
     try clear hcz28_6
     try clear hcz28_7
     try clear hcz28_8
     try clear hcz28_9
     try clear hcz29_0
     try clear hcz29_1
     try clear hcz29_10
     try clear hcz29_2
     try clear hcz29_3
     try clear hcz29_4
     try clear hcz29_5
     try clear hcz29_6
     try clear hcz29_7
     try clear hcz29_8
     try clear hcz29_9
     try clear hcz30_0
     try clear hcz30_1
     try clear hcz30_10
     try clear hcz30_2
     try clear hcz30_3
     try clear hcz30_4
     try clear hcz30_5
     try clear hcz30_6
     try clear hcz30_7
     try clear hcz30_8
     try clear hcz30_9
     try clear hcz5_0
     try clear hcz5_1
     try clear hcz5_10
     try clear hcz5_2
     try clear hcz5_3
     try clear hcz5_4
     try clear hcz5_5
     try clear hcz5_6
     try clear hcz5_7
     try clear hcz5_8
     try clear hcz5_9
     try clear hfz11_0
     try clear hfz13_0
     try clear hfz14_0
     try clear hfz16_0
     try clear hfz24_0
     try clear hfz27_0
     try clear hfz28_0
     try clear hfz29_0
     try clear hfz30_0
     try clear hfz5_0
     try clear p2
     try clear p3
     try clear p6
     obtain ⟨kq,x56_17,rfl,HA,HJ17,BK387,HB⟩:=hcut;cases kq with
     |zero=>exact absurd HA.out (by simp [Ad.j1])
     |succ kj17=>
      have H:=HA.out;clear HA;simp only [Ad.j1] at H;by_cases c31:x56_17=true
      ·subst c31;have H1:(some false)=some r:=by rw [if_pos rfl] at H;exact H
       clear H;have H:=H1;clear H1;obtain rfl:=Option.some.inj H;go_wp2;go_ret;exact ⟨xe,xb⟩
      ·replace c31:=Bool.eq_false_iff.mpr c31;subst c31;have H1:(if a0_4<0 then (some false) else (if a0_4>253402300799 then (some false) else (if a0_5<0 then (some false) else (if a0_5>253402300799 then (some false) else (if a0_6<0 then (some false) else (if a0_6>253402300799 then (some false) else (if a0_10>=0 then (some (decide (a0_10<=3))) else (some false))))))))=some r:=by rw [if_neg (show ¬(false=true) by decide)] at H;exact H
       clear H;have H:=H1;clear H1;by_cases c32:a0_4<0
       ·rw [if_pos c32] at H;have c32b0:decide (a0_4<0)=true:=decide_eq_true c32;clear c32;obtain rfl:=Option.some.inj H;obtain ⟨hcz33_0,hcz33_1,hcz33_2,hcz33_3,hcz33_4,hcz33_5,hcz33_6,hcz33_7,hcz33_8,hcz33_9,hcz33_10⟩:=Bg BK387.out;have hfz33_0:=AR BK387.out;go_wp2;go_ret;exact ⟨xe,xb⟩
       ·rw [if_neg c32] at H;have c32b0:decide (a0_4<0)=false:=decide_eq_false c32;clear c32;by_cases c34:a0_4>253402300799
        ·rw [if_pos c34] at H;have c34b0:decide (253402300799<a0_4)=true:=decide_eq_true c34;clear c34;obtain rfl:=Option.some.inj H;obtain ⟨hcz35_0,hcz35_1,hcz35_2,hcz35_3,hcz35_4,hcz35_5,hcz35_6,hcz35_7,hcz35_8,hcz35_9,hcz35_10⟩:=Bg BK387.out;have hfz35_0:=AR BK387.out;go_wp2;go_ret;exact ⟨xe,xb⟩
        ·rw [if_neg c34] at H;have c34b0:decide (253402300799<a0_4)=false:=decide_eq_false c34;clear c34;by_cases c36:a0_5<0
         ·rw [if_pos c36] at H;have c36b0:decide (a0_5<0)=true:=decide_eq_true c36;clear c36;obtain rfl:=Option.some.inj H;obtain ⟨hcz37_0,hcz37_1,hcz37_2,hcz37_3,hcz37_4,hcz37_5,hcz37_6,hcz37_7,hcz37_8,hcz37_9,hcz37_10⟩:=Bg BK387.out;have hfz37_0:=AR BK387.out;go_wp2;go_ret;exact ⟨xe,xb⟩
         ·rw [if_neg c36] at H;have c36b0:decide (a0_5<0)=false:=decide_eq_false c36;clear c36;by_cases c38:a0_5>253402300799
          ·rw [if_pos c38] at H;have c38b0:decide (253402300799<a0_5)=true:=decide_eq_true c38;clear c38;obtain rfl:=Option.some.inj H;obtain ⟨hcz39_0,hcz39_1,hcz39_2,hcz39_3,hcz39_4,hcz39_5,hcz39_6,hcz39_7,hcz39_8,hcz39_9,hcz39_10⟩:=Bg BK387.out;have hfz39_0:=AR BK387.out;go_wp2;go_ret;exact ⟨xe,xb⟩
          ·rw [if_neg c38] at H;have c38b0:decide (253402300799<a0_5)=false:=decide_eq_false c38;clear c38;by_cases c40:a0_6<0
           ·rw [if_pos c40] at H;have c40b0:decide (a0_6<0)=true:=decide_eq_true c40;clear c40;obtain rfl:=Option.some.inj H;obtain ⟨hcz41_0,hcz41_1,hcz41_2,hcz41_3,hcz41_4,hcz41_5,hcz41_6,hcz41_7,hcz41_8,hcz41_9,hcz41_10⟩:=Bg BK387.out;have hfz41_0:=AR BK387.out;go_wp2;go_ret;exact ⟨xe,xb⟩
           ·rw [if_neg c40] at H;have c40b0:decide (a0_6<0)=false:=decide_eq_false c40;clear c40;by_cases c42:a0_6>253402300799
            ·rw [if_pos c42] at H;have c42b0:decide (253402300799<a0_6)=true:=decide_eq_true c42;clear c42;obtain rfl:=Option.some.inj H;obtain ⟨hcz43_0,hcz43_1,hcz43_2,hcz43_3,hcz43_4,hcz43_5,hcz43_6,hcz43_7,hcz43_8,hcz43_9,hcz43_10⟩:=Bg BK387.out;have hfz43_0:=AR BK387.out;go_wp2;go_ret;exact ⟨xe,xb⟩
            ·rw [if_neg c42] at H;have c42b0:decide (253402300799<a0_6)=false:=decide_eq_false c42;clear c42;by_cases c44:a0_10>=0
             ·rw [if_pos c44] at H;have c44b0:decide (0<=a0_10)=true:=decide_eq_true c44;clear c44;obtain rfl:=Option.some.inj H;obtain ⟨hcz45_0,hcz45_1,hcz45_2,hcz45_3,hcz45_4,hcz45_5,hcz45_6,hcz45_7,hcz45_8,hcz45_9,hcz45_10⟩:=Bg BK387.out;have hfz45_0:=AR BK387.out;go_wp2;go_ret;exact ⟨xe,xb⟩
             ·rw [if_neg c44] at H;have c44b0:decide (0<=a0_10)=false:=decide_eq_false c44;clear c44;obtain rfl:=Option.some.inj H;obtain ⟨hcz46_0,hcz46_1,hcz46_2,hcz46_3,hcz46_4,hcz46_5,hcz46_6,hcz46_7,hcz46_8,hcz46_9,hcz46_10⟩:=Bg BK387.out;have hfz46_0:=AR BK387.out;go_wp2;go_ret;exact ⟨xe,xb⟩
def BP.f (a0_0:ByteArray) (a0_1:ByteArray) (a0_2:ByteArray) (a0_3:ByteArray) (a0_4:Int) (a0_5:Int) (a0_6:Int) (a0_7:Bool) (a0_8:Bool) (a0_9:Bool) (a0_10:Int):Option (ByteArray×ByteArray×ByteArray):=some (a0_0,a0_1,a0_2)
set_option maxHeartbeats 8000000 in
set_option maxRecDepth 100000 in
theorem BP.calls (a0_0:ByteArray) (a0_1:ByteArray) (a0_2:ByteArray) (a0_3:ByteArray) (a0_4:Int) (a0_5:Int) (a0_6:Int) (a0_7:Bool) (a0_8:Bool) (a0_9:Bool) (a0_10:Int) (r1:ByteArray) (r2:ByteArray) (r3:ByteArray) (w:World) (h:BP.f a0_0 a0_1 a0_2 a0_3 a0_4 a0_5 a0_6 a0_7 a0_8 a0_9 a0_10=some (r1,r2,r3)):
 Calls Tryz.prog 43 #[.agg #[.string a0_0, .string a0_1, .string a0_2, .string a0_3, .int .i64 a0_4, .int .i64 a0_5, .int .i64 a0_6, .bool a0_7, .bool a0_8, .bool a0_9, .int .i64 a0_10]] w λe w'=>e= .returned (.agg #[.string r1, .string r2, .string r3])/\Below w.heap.size w w':=by
 have hu43:=Tryz.underlying43;have hu41:=Tryz.underlying41;have HB:=AA.mk (Below.refl w.heap.size w);have H:(some (a0_0,a0_1,a0_2))=some (r1,r2,r3):=h;clear h;simp only [Option.some.injEq,Prod.mk.injEq] at H;obtain ⟨rfl,rfl,rfl⟩:=H;go_enter Tryz.func43,Tryz.ntmps43;go_wp2_with (first|(refine Cx (N:=1) (cs:=#[.string a0_0, .string a0_1, .string a0_2, .string a0_3, .int .i64 a0_4, .int .i64 a0_5, .int .i64 a0_6, .bool a0_7, .bool a0_8, .bool a0_9, .int .i64 a0_10]) (t:=43) (λgb394 hg w2 hbox hb=>?_);have BK394:=AA.mk (hbox);have GW394:AA (w.heap.size<=gb394):=Cm hg xb;have GE394:AA (w.heap.size<=gb394):=Cm hg xb;replace HB:=AA.mk (AL xb hb);clear hb hbox hg)|(refine Cx (N:=2) (cs:=#[.string (⟨#[]⟩:ByteArray), .string (⟨#[]⟩:ByteArray), .string (⟨#[]⟩:ByteArray)]) (t:=41) (λgb395 hg w3 hbox hb=>?_);have BK395:=AA.mk (hbox);have GW395:AA (w.heap.size<=gb395):=Cm hg xb;have GE395:AA (w.heap.size<=gb395):=Cm hg xb;replace HB:=AA.mk (AL xb hb);have NB394_395:=Dn hg (BF BK394);have NB395_394:=Dp hg (BF BK394);replace BK394:=Ac BK394 hb;clear hb hbox hg;have hnb4:=NB394_395.out;have hnc4:=NB395_394.out;obtain ⟨hcz5_0,hcz5_1,hcz5_2,hcz5_3,hcz5_4,hcz5_5,hcz5_6,hcz5_7,hcz5_8,hcz5_9,hcz5_10⟩:=Bg BK394.out;have hfz5_0:=AR BK394.out;obtain ⟨hcz6_0,hcz6_1,hcz6_2⟩:=cells3 BK395.out;have hfz6_0:=AR BK395.out));refine bodyPost_ret (results_cell_row rfl _ _ gb395 41 #[.string a0_0, .string a0_1, .string a0_2] (0,0) _ rfl xk Tryz.underlying41 rfl (by kernel_rfl)) rfl ?_;exact ⟨xe,xb⟩
end Go.Proofs.YtohjohhcjcljoaaGreatDoor.Print
