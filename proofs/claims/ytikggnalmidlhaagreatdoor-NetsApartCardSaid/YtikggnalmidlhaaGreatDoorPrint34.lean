/- Printed by a program of this claim's session (xprint.py): the machine's side: each Go function as a Lean function, and that a call of it comes to what that tells; the row of a statement. No condition. -/
import Derived.Test.YtikggnalmidlhaaGreatDoorPrint29
namespace Go.Proofs.YtikggnalmidlhaaGreatDoor.Print
open RowKit AR Aa Ad
attribute [local go_sem] BM BN Bo Bp BC BD BO BP
set_option linter.unusedVariables false
set_option linter.unusedSimpArgs false
mutual
def AQ.j0:Nat->Bool->ByteArray->ByteArray->ByteArray->ByteArray->Int->Int->Int->Bool->Bool->Bool->Int->Option (Bool)
 |0,_,_,_,_,_,_,_,_,_,_,_,_=>none
 |k+1,x28,x293000,x293001,x293002,x293003,x293004,x293005,x293006,x293007,x293008,x293009,x293010=>if x28=true then (some false) else ((CL.f k x293001).bind λt296=>(if t296=true then ((Aw.f k x293002).bind λt297=>(if t297=true then (if (x293002.size:Int)>64 then (AQ.j1 k true x293000 x293001 x293002 x293003 x293004 x293005 x293006 x293007 x293008 x293009 x293010) else ((BA.f k x293003).bind λt298=>(if t298=true then (AQ.j1 k (decide ((x293003.size:Int)>128)) x293000 x293001 x293002 x293003 x293004 x293005 x293006 x293007 x293008 x293009 x293010) else (AQ.j1 k true x293000 x293001 x293002 x293003 x293004 x293005 x293006 x293007 x293008 x293009 x293010)))) else (AQ.j1 k true x293000 x293001 x293002 x293003 x293004 x293005 x293006 x293007 x293008 x293009 x293010))) else (AQ.j1 k true x293000 x293001 x293002 x293003 x293004 x293005 x293006 x293007 x293008 x293009 x293010)))
def AQ.j1:Nat->Bool->ByteArray->ByteArray->ByteArray->ByteArray->Int->Int->Int->Bool->Bool->Bool->Int->Option (Bool)
 |0,_,_,_,_,_,_,_,_,_,_,_,_=>none
 |k+1,x56,x293000,x293001,x293002,x293003,x293004,x293005,x293006,x293007,x293008,x293009,x293010=>if x56=true then (some false) else (if x293004<0 then (some false) else (if x293004>253402300799 then (some false) else (if x293005<0 then (some false) else (if x293005>253402300799 then (some false) else (if x293006<0 then (some false) else (if x293006>253402300799 then (some false) else (if x293010>=0 then (some (decide (x293010<=3))) else (some false))))))))
end
def AQ.f (k:Nat) (a0_0:ByteArray) (a0_1:ByteArray) (a0_2:ByteArray) (a0_3:ByteArray) (a0_4:Int) (a0_5:Int) (a0_6:Int) (a0_7:Bool) (a0_8:Bool) (a0_9:Bool) (a0_10:Int):Option (Bool):=(Ai.f k a0_0).bind λbt293=>(if bt293.2=true then (if bt293.1.toList=a0_0.toList then ((Bb.f k a0_0).bind λt295=>(if t295=true then (AQ.j0 k (!a0_7) a0_0 a0_1 a0_2 a0_3 a0_4 a0_5 a0_6 a0_7 a0_8 a0_9 a0_10) else (AQ.j0 k false a0_0 a0_1 a0_2 a0_3 a0_4 a0_5 a0_6 a0_7 a0_8 a0_9 a0_10))) else (AQ.j0 k true a0_0 a0_1 a0_2 a0_3 a0_4 a0_5 a0_6 a0_7 a0_8 a0_9 a0_10)) else (AQ.j0 k true a0_0 a0_1 a0_2 a0_3 a0_4 a0_5 a0_6 a0_7 a0_8 a0_9 a0_10))
set_option maxHeartbeats 8000000 in
set_option maxRecDepth 100000 in
theorem AQ.calls (k:Nat) (a0_0:ByteArray) (a0_1:ByteArray) (a0_2:ByteArray) (a0_3:ByteArray) (a0_4:Int) (a0_5:Int) (a0_6:Int) (a0_7:Bool) (a0_8:Bool) (a0_9:Bool) (a0_10:Int) (r:Bool) (w:World) (h:AQ.f k a0_0 a0_1 a0_2 a0_3 a0_4 a0_5 a0_6 a0_7 a0_8 a0_9 a0_10=some r):
 Calls Tryz.prog 62 #[.agg #[.string a0_0, .string a0_1, .string a0_2, .string a0_3, .int .i64 a0_4, .int .i64 a0_5, .int .i64 a0_6, .bool a0_7, .bool a0_8, .bool a0_9, .int .i64 a0_10]] w λe w'=>e= .returned (.bool r)/\Below w.heap.size w w':=by
 have hu53:=Tryz.underlying53;have HB:=AA.mk (Below.refl w.heap.size w);have H:((Ai.f k a0_0).bind λbt293=>(if bt293.2=true then (if bt293.1.toList=a0_0.toList then ((Bb.f k a0_0).bind λt295=>(if t295=true then (AQ.j0 k (!a0_7) a0_0 a0_1 a0_2 a0_3 a0_4 a0_5 a0_6 a0_7 a0_8 a0_9 a0_10) else (AQ.j0 k false a0_0 a0_1 a0_2 a0_3 a0_4 a0_5 a0_6 a0_7 a0_8 a0_9 a0_10))) else (AQ.j0 k true a0_0 a0_1 a0_2 a0_3 a0_4 a0_5 a0_6 a0_7 a0_8 a0_9 a0_10)) else (AQ.j0 k true a0_0 a0_1 a0_2 a0_3 a0_4 a0_5 a0_6 a0_7 a0_8 a0_9 a0_10)))=some r:=h;clear h;replace H:=Option.bind_eq_some_iff.mp H;obtain ⟨⟨t293,t294⟩,A20,H⟩:=H;try dsimp only at H
 have A2:=AA.mk A20;clear A20;have HC3:=AA.mk H;clear H;go_enter Tryz.func62,Tryz.ntmps62;go_upto_region 2 with (first|((with_reducible refine F4 (N:=1) rfl ?_);(try (refine Hq (by rfl) ?_;dsimp only));refine Dk (N:=1) (cs:=#[.string a0_0, .string a0_1, .string a0_2, .string a0_3, .int .i64 a0_4, .int .i64 a0_5, .int .i64 a0_6, .bool a0_7, .bool a0_8, .bool a0_9, .int .i64 a0_10]) (t:=53) (λgb292 hg w4 hbox hb=>?_);have BK292:=AA.mk (hbox);have GW292:AA (w.heap.size<=gb292):=Dp hg xb;have GE292:AA (w.heap.size<=gb292):=Dp hg xb;replace HB:=AA.mk (AP xb hb);clear hb hbox hg;obtain ⟨hcz5_0,hcz5_1,hcz5_2,hcz5_3,hcz5_4,hcz5_5,hcz5_6,hcz5_7,hcz5_8,hcz5_9,hcz5_10⟩:=Bv BK292.out;have hfz5_0:=AX BK292.out)|((with_reducible refine AO (f:=60) rfl ?_);refine Ak (some 8) rfl rfl Tryz.func60 (by kernel_rfl) rfl #[.string a0_0] rfl xg ?_;(with_reducible refine (Ai.calls k a0_0 t293 t294 _ A2.out).mono ?_);rintro e w6 ⟨rfl,hb⟩;refine ⟨_,rfl,?_⟩;replace BK292:=Bt BK292 hb;replace HB:=AA.mk (AP xb hb);(try clear hb)))
 (try simp only [Act.put,List.setIfInBounds_toArray,List.set_cons_zero,List.set_cons_succ]);go_cut [28] (λv28 wc=>∃ (kq:Nat) (x28_2:Bool),v28= .bool x28_2/\AA (AQ.j0 kq x28_2 a0_0 a0_1 a0_2 a0_3 a0_4 a0_5 a0_6 a0_7 a0_8 a0_9 a0_10=some r)/\AA (kq<=k)/\AA (wc.heap[gb292]? =some (.cells #[.string a0_0, .string a0_1, .string a0_2, .string a0_3, .int .i64 a0_4, .int .i64 a0_5, .int .i64 a0_6, .bool a0_7, .bool a0_8, .bool a0_9, .int .i64 a0_10] 53 (0,0)))/\AA (Below w.heap.size w wc));case first=>
  have H:=HC3.out;clear HC3;by_cases c7:t294=true
  ·subst c7;have H1:(if t293.toList=a0_0.toList then ((Bb.f k a0_0).bind λt295=>(if t295=true then (AQ.j0 k (!a0_7) a0_0 a0_1 a0_2 a0_3 a0_4 a0_5 a0_6 a0_7 a0_8 a0_9 a0_10) else (AQ.j0 k false a0_0 a0_1 a0_2 a0_3 a0_4 a0_5 a0_6 a0_7 a0_8 a0_9 a0_10))) else (AQ.j0 k true a0_0 a0_1 a0_2 a0_3 a0_4 a0_5 a0_6 a0_7 a0_8 a0_9 a0_10))=some r:=by rw [if_pos rfl] at H;exact H
   clear H;have H:=H1;clear H1;by_cases c8:t293.toList=a0_0.toList
   ·rw [if_pos c8] at H;have c8b0:(t293.toList==a0_0.toList)=true:=beq_iff_eq.mpr c8;have c8b1:(t293.toList != a0_0.toList)=false:=bne_eq_false_iff_eq.mpr c8;clear c8;(first|rw [c8b0]|(simp only [DL,DU];rw [c8b0])|skip);replace H:=Option.bind_eq_some_iff.mp H;obtain ⟨t295,A90,H⟩:=H;replace H:(if t295=true then (AQ.j0 k (!a0_7) a0_0 a0_1 a0_2 a0_3 a0_4 a0_5 a0_6 a0_7 a0_8 a0_9 a0_10) else (AQ.j0 k false a0_0 a0_1 a0_2 a0_3 a0_4 a0_5 a0_6 a0_7 a0_8 a0_9 a0_10))=some r:=H;have A9:=AA.mk A90;clear A90;by_cases c10:t295=true
    ·subst c10;rw [if_pos rfl] at H;have H':=AA.mk H;clear H;obtain ⟨hcz11_0,hcz11_1,hcz11_2,hcz11_3,hcz11_4,hcz11_5,hcz11_6,hcz11_7,hcz11_8,hcz11_9,hcz11_10⟩:=Bv BK292.out;have hfz11_0:=AX BK292.out;go_wp2_with (first|(go_at_call 93;(with_reducible refine (Bb.calls k a0_0 true _ A9.out).mono ?_);rintro e w12 ⟨rfl,hb⟩;replace BK292:=Bt BK292 hb;replace HB:=AA.mk (AP xb hb);(try clear hb);obtain ⟨hcz13_0,hcz13_1,hcz13_2,hcz13_3,hcz13_4,hcz13_5,hcz13_6,hcz13_7,hcz13_8,hcz13_9,hcz13_10⟩:=Bv BK292.out;have hfz13_0:=AX BK292.out));go_meet;case rel=>exact ⟨_,(!a0_7),xq,H',⟨by first|omega|exact Nat.le_refl _⟩,⟨xk⟩,⟨xb⟩⟩
    ·replace c10:=Bool.eq_false_iff.mpr c10;subst c10;have H1:(AQ.j0 k false a0_0 a0_1 a0_2 a0_3 a0_4 a0_5 a0_6 a0_7 a0_8 a0_9 a0_10)=some r:=by rw [if_neg (show ¬(false=true) by decide)] at H;exact H
     clear H;have H:=H1;clear H1;have H':=AA.mk H;clear H;obtain ⟨hcz14_0,hcz14_1,hcz14_2,hcz14_3,hcz14_4,hcz14_5,hcz14_6,hcz14_7,hcz14_8,hcz14_9,hcz14_10⟩:=Bv BK292.out;have hfz14_0:=AX BK292.out;go_wp2_with (first|(go_at_call 93;(with_reducible refine (Bb.calls k a0_0 false _ A9.out).mono ?_);rintro e w15 ⟨rfl,hb⟩;replace BK292:=Bt BK292 hb;replace HB:=AA.mk (AP xb hb);(try clear hb)));go_meet;case rel=>exact ⟨_,(false),xq,H',⟨by first|omega|exact Nat.le_refl _⟩,⟨xk⟩,⟨xb⟩⟩
   ·rw [if_neg c8] at H;have c8b0:(t293.toList==a0_0.toList)=false:=beq_eq_false_iff_ne.mpr c8;have c8b1:(t293.toList != a0_0.toList)=true:=bne_iff_ne.mpr c8;(first|rw [c8b0]|(simp only [DL,DU];rw [c8b0])|skip);have H':=AA.mk H;clear H;obtain ⟨hcz16_0,hcz16_1,hcz16_2,hcz16_3,hcz16_4,hcz16_5,hcz16_6,hcz16_7,hcz16_8,hcz16_9,hcz16_10⟩:=Bv BK292.out;have hfz16_0:=AX BK292.out;go_wp2;go_meet;case rel=>exact ⟨_,(true),xq,H',⟨by first|omega|exact Nat.le_refl _⟩,⟨xk⟩,⟨xb⟩⟩
  ·replace c7:=Bool.eq_false_iff.mpr c7;subst c7;have H1:(AQ.j0 k true a0_0 a0_1 a0_2 a0_3 a0_4 a0_5 a0_6 a0_7 a0_8 a0_9 a0_10)=some r:=by rw [if_neg (show ¬(false=true) by decide)] at H;exact H
   clear H;have H:=H1;clear H1;have H':=AA.mk H;clear H;go_wp2;go_meet;case rel=>exact ⟨_,(true),xq,H',⟨by first|omega|exact Nat.le_refl _⟩,⟨xk⟩,⟨xb⟩⟩
 case rest=>
  clear HC3;try clear c1
  try clear p2
  try clear p3
  try clear c6
  try clear p6
  try clear c7
  try clear c8
  try clear c8b0
  try clear c8b1
  try clear c10
  try clear hcz11_0
  try clear hcz11_1
  try clear hcz11_10
  try clear hcz11_2
  try clear hcz11_3
  try clear hcz11_4
  try clear hcz11_5
  try clear hcz11_6
  try clear hcz11_7
  try clear hcz11_8
  try clear hcz11_9
  try clear hcz13_0
  try clear hcz13_1
  try clear hcz13_10
  try clear hcz13_2
  try clear hcz13_3
  try clear hcz13_4
  try clear hcz13_5
  try clear hcz13_6
  try clear hcz13_7
  try clear hcz13_8
  try clear hcz13_9
  try clear hcz14_0
  try clear hcz14_1
  try clear hcz14_10
  try clear hcz14_2
  try clear hcz14_3
  try clear hcz14_4
  try clear hcz14_5
  try clear hcz14_6
  try clear hcz14_7
  try clear hcz14_8
  try clear hcz14_9
  try clear hcz16_0
  try clear hcz16_1
  try clear hcz16_10
  try clear hcz16_2
  try clear hcz16_3
  try clear hcz16_4
  try clear hcz16_5
  try clear hcz16_6
  try clear hcz16_7
  try clear hcz16_8
  try clear hcz16_9
  try clear hcz5_0
  try clear hcz5_1
  try clear hcz5_10
  try clear hcz5_2
  try clear hcz5_3
  try clear hcz5_4
  try clear hcz5_5
  try clear hcz5_6
  try clear hcz5_7
  try clear hcz5_8
  try clear hcz5_9
  try clear hfz11_0
  try clear hfz13_0
  try clear hfz14_0
  try clear hfz16_0
  try clear hfz5_0
  obtain ⟨kq,x28_2,rfl,HA,HJ2,BK292,HB⟩:=hcut;cases kq with
  |zero=>exact absurd HA.out (by simp [AQ.j0])
  |succ kj2=>
   have H:=HA.out;clear HA;simp only [AQ.j0] at H;by_cases c17:x28_2=true
   ·subst c17;have H1:(some false)=some r:=by rw [if_pos rfl] at H;exact H
    clear H;have H:=H1;clear H1;obtain rfl:=Option.some.inj H;go_wp2;go_ret;exact ⟨xe,xb⟩
   ·replace c17:=Bool.eq_false_iff.mpr c17;subst c17;have H1:((CL.f kj2 a0_1).bind λt296=>(if t296=true then ((Aw.f kj2 a0_2).bind λt297=>(if t297=true then (if (a0_2.size:Int)>64 then (AQ.j1 kj2 true a0_0 a0_1 a0_2 a0_3 a0_4 a0_5 a0_6 a0_7 a0_8 a0_9 a0_10) else ((BA.f kj2 a0_3).bind λt298=>(if t298=true then (AQ.j1 kj2 (decide ((a0_3.size:Int)>128)) a0_0 a0_1 a0_2 a0_3 a0_4 a0_5 a0_6 a0_7 a0_8 a0_9 a0_10) else (AQ.j1 kj2 true a0_0 a0_1 a0_2 a0_3 a0_4 a0_5 a0_6 a0_7 a0_8 a0_9 a0_10)))) else (AQ.j1 kj2 true a0_0 a0_1 a0_2 a0_3 a0_4 a0_5 a0_6 a0_7 a0_8 a0_9 a0_10))) else (AQ.j1 kj2 true a0_0 a0_1 a0_2 a0_3 a0_4 a0_5 a0_6 a0_7 a0_8 a0_9 a0_10)))=some r:=by rw [if_neg (show ¬(false=true) by decide)] at H;exact H
    clear H;have H:=H1;clear H1;have HC18:=AA.mk H;clear H;go_upto_region 4 with (fail)
    go_cut [56] (λv56 wc=>∃ (kq:Nat) (x56_17:Bool),v56= .bool x56_17/\AA (AQ.j1 kq x56_17 a0_0 a0_1 a0_2 a0_3 a0_4 a0_5 a0_6 a0_7 a0_8 a0_9 a0_10=some r)/\AA (kq<=kj2)/\AA (wc.heap[gb292]? =some (.cells #[.string a0_0, .string a0_1, .string a0_2, .string a0_3, .int .i64 a0_4, .int .i64 a0_5, .int .i64 a0_6, .bool a0_7, .bool a0_8, .bool a0_9, .int .i64 a0_10] 53 (0,0)))/\AA (Below w.heap.size w wc));case first=>
     have H:=HC18.out;clear HC18;replace H:=Option.bind_eq_some_iff.mp H;obtain ⟨t296,A190,H⟩:=H;replace H:(if t296=true then ((Aw.f kj2 a0_2).bind λt297=>(if t297=true then (if (a0_2.size:Int)>64 then (AQ.j1 kj2 true a0_0 a0_1 a0_2 a0_3 a0_4 a0_5 a0_6 a0_7 a0_8 a0_9 a0_10) else ((BA.f kj2 a0_3).bind λt298=>(if t298=true then (AQ.j1 kj2 (decide ((a0_3.size:Int)>128)) a0_0 a0_1 a0_2 a0_3 a0_4 a0_5 a0_6 a0_7 a0_8 a0_9 a0_10) else (AQ.j1 kj2 true a0_0 a0_1 a0_2 a0_3 a0_4 a0_5 a0_6 a0_7 a0_8 a0_9 a0_10)))) else (AQ.j1 kj2 true a0_0 a0_1 a0_2 a0_3 a0_4 a0_5 a0_6 a0_7 a0_8 a0_9 a0_10))) else (AQ.j1 kj2 true a0_0 a0_1 a0_2 a0_3 a0_4 a0_5 a0_6 a0_7 a0_8 a0_9 a0_10))=some r:=H;have A19:=AA.mk A190;clear A190;by_cases c20:t296=true
     ·subst c20;rw [if_pos rfl] at H;replace H:=Option.bind_eq_some_iff.mp H;obtain ⟨t297,A210,H⟩:=H;try dsimp only at H
      have A21:=AA.mk A210;clear A210;by_cases c22:t297=true
      ·subst c22;rw [if_pos rfl] at H;by_cases c23:(a0_2.size:Int)>64
       ·rw [if_pos c23] at H;have c23b0:decide (64<(a0_2.size:Int))=true:=decide_eq_true c23;have c23b1:decide (64<a0_2.size)=true:=decide_eq_true (by omega);clear c23;(first|rw [c23b0]|(simp only [DL,DU];rw [c23b0])|skip);have H':=AA.mk H;clear H;obtain ⟨hcz24_0,hcz24_1,hcz24_2,hcz24_3,hcz24_4,hcz24_5,hcz24_6,hcz24_7,hcz24_8,hcz24_9,hcz24_10⟩:=Bv BK292.out;have hfz24_0:=AX BK292.out;go_wp2_with (first|((with_reducible refine AO (f:=94) rfl ?_);refine Ak (some 31) rfl rfl Tryz.func94 (by kernel_rfl) rfl #[.string a0_1] rfl xg ?_;(with_reducible refine (CL.calls kj2 a0_1 true _ A19.out).mono ?_);rintro e w' ⟨rfl,⟨nd,rfl⟩⟩;refine ⟨_,rfl,?_⟩)|(go_at_call 95;(with_reducible refine (Aw.calls kj2 a0_2 true _ A21.out).mono ?_);rintro e w' ⟨rfl,⟨nd,rfl⟩⟩));go_meet;case rel=>exact ⟨_,(true),xq,H',⟨by have:=HJ2.out;first|omega|exact Nat.le_refl _⟩,⟨xk⟩,⟨xb⟩⟩
       ·rw [if_neg c23] at H;have c23b0:decide (64<(a0_2.size:Int))=false:=decide_eq_false c23;have c23b1:decide (64<a0_2.size)=false:=decide_eq_false (by omega);clear c23;(first|rw [c23b0]|(simp only [DL,DU];rw [c23b0])|skip);replace H:=Option.bind_eq_some_iff.mp H;obtain ⟨t298,A250,H⟩:=H;replace H:(if t298=true then (AQ.j1 kj2 (decide ((a0_3.size:Int)>128)) a0_0 a0_1 a0_2 a0_3 a0_4 a0_5 a0_6 a0_7 a0_8 a0_9 a0_10) else (AQ.j1 kj2 true a0_0 a0_1 a0_2 a0_3 a0_4 a0_5 a0_6 a0_7 a0_8 a0_9 a0_10))=some r:=H;have A25:=AA.mk A250;clear A250;by_cases c26:t298=true
        ·subst c26;rw [if_pos rfl] at H;have H':=AA.mk H;clear H;obtain ⟨hcz27_0,hcz27_1,hcz27_2,hcz27_3,hcz27_4,hcz27_5,hcz27_6,hcz27_7,hcz27_8,hcz27_9,hcz27_10⟩:=Bv BK292.out;have hfz27_0:=AX BK292.out;go_wp2_with (first|((with_reducible refine AO (f:=94) rfl ?_);refine Ak (some 31) rfl rfl Tryz.func94 (by kernel_rfl) rfl #[.string a0_1] rfl xg ?_;(with_reducible refine (CL.calls kj2 a0_1 true _ A19.out).mono ?_);rintro e w' ⟨rfl,⟨nd,rfl⟩⟩;refine ⟨_,rfl,?_⟩)|(go_at_call 95;(with_reducible refine (Aw.calls kj2 a0_2 true _ A21.out).mono ?_);rintro e w' ⟨rfl,⟨nd,rfl⟩⟩)|(go_at_call 96;(with_reducible refine (BA.calls kj2 a0_3 true _ A25.out).mono ?_);rintro e w' ⟨rfl,⟨nd,rfl⟩⟩));go_meet;case rel=>exact ⟨_,(decide ((a0_3.size:Int)>128)),xq,H',⟨by have:=HJ2.out;first|omega|exact Nat.le_refl _⟩,⟨xk⟩,⟨xb⟩⟩
        ·replace c26:=Bool.eq_false_iff.mpr c26;subst c26;have H1:(AQ.j1 kj2 true a0_0 a0_1 a0_2 a0_3 a0_4 a0_5 a0_6 a0_7 a0_8 a0_9 a0_10)=some r:=by rw [if_neg (show ¬(false=true) by decide)] at H;exact H
         clear H;have H:=H1;clear H1;have H':=AA.mk H;clear H;obtain ⟨hcz28_0,hcz28_1,hcz28_2,hcz28_3,hcz28_4,hcz28_5,hcz28_6,hcz28_7,hcz28_8,hcz28_9,hcz28_10⟩:=Bv BK292.out;have hfz28_0:=AX BK292.out;go_wp2_with (first|((with_reducible refine AO (f:=94) rfl ?_);refine Ak (some 31) rfl rfl Tryz.func94 (by kernel_rfl) rfl #[.string a0_1] rfl xg ?_;(with_reducible refine (CL.calls kj2 a0_1 true _ A19.out).mono ?_);rintro e w' ⟨rfl,⟨nd,rfl⟩⟩;refine ⟨_,rfl,?_⟩)|(go_at_call 95;(with_reducible refine (Aw.calls kj2 a0_2 true _ A21.out).mono ?_);rintro e w' ⟨rfl,⟨nd,rfl⟩⟩)|(go_at_call 96;(with_reducible refine (BA.calls kj2 a0_3 false _ A25.out).mono ?_);rintro e w' ⟨rfl,⟨nd,rfl⟩⟩));go_meet;case rel=>exact ⟨_,(true),xq,H',⟨by have:=HJ2.out;first|omega|exact Nat.le_refl _⟩,⟨xk⟩,⟨xb⟩⟩
      ·replace c22:=Bool.eq_false_iff.mpr c22;subst c22;have H1:(AQ.j1 kj2 true a0_0 a0_1 a0_2 a0_3 a0_4 a0_5 a0_6 a0_7 a0_8 a0_9 a0_10)=some r:=by rw [if_neg (show ¬(false=true) by decide)] at H;exact H
       clear H;have H:=H1;clear H1;have H':=AA.mk H;clear H;obtain ⟨hcz29_0,hcz29_1,hcz29_2,hcz29_3,hcz29_4,hcz29_5,hcz29_6,hcz29_7,hcz29_8,hcz29_9,hcz29_10⟩:=Bv BK292.out;have hfz29_0:=AX BK292.out;go_wp2_with (first|((with_reducible refine AO (f:=94) rfl ?_);refine Ak (some 31) rfl rfl Tryz.func94 (by kernel_rfl) rfl #[.string a0_1] rfl xg ?_;(with_reducible refine (CL.calls kj2 a0_1 true _ A19.out).mono ?_);rintro e w' ⟨rfl,⟨nd,rfl⟩⟩;refine ⟨_,rfl,?_⟩)|(go_at_call 95;(with_reducible refine (Aw.calls kj2 a0_2 false _ A21.out).mono ?_);rintro e w' ⟨rfl,⟨nd,rfl⟩⟩));go_meet;case rel=>exact ⟨_,(true),xq,H',⟨by have:=HJ2.out;first|omega|exact Nat.le_refl _⟩,⟨xk⟩,⟨xb⟩⟩
     ·replace c20:=Bool.eq_false_iff.mpr c20;subst c20;have H1:(AQ.j1 kj2 true a0_0 a0_1 a0_2 a0_3 a0_4 a0_5 a0_6 a0_7 a0_8 a0_9 a0_10)=some r:=by rw [if_neg (show ¬(false=true) by decide)] at H;exact H
      clear H;have H:=H1;clear H1;have H':=AA.mk H;clear H;obtain ⟨hcz30_0,hcz30_1,hcz30_2,hcz30_3,hcz30_4,hcz30_5,hcz30_6,hcz30_7,hcz30_8,hcz30_9,hcz30_10⟩:=Bv BK292.out;have hfz30_0:=AX BK292.out;go_wp2_with (first|((with_reducible refine AO (f:=94) rfl ?_);refine Ak (some 31) rfl rfl Tryz.func94 (by kernel_rfl) rfl #[.string a0_1] rfl xg ?_;(with_reducible refine (CL.calls kj2 a0_1 false _ A19.out).mono ?_);rintro e w' ⟨rfl,⟨nd,rfl⟩⟩;refine ⟨_,rfl,?_⟩));go_meet;case rel=>exact ⟨_,(true),xq,H',⟨by have:=HJ2.out;first|omega|exact Nat.le_refl _⟩,⟨xk⟩,⟨xb⟩⟩
    case rest=>
     clear HC18;try clear c1
     try clear c2
     try clear p2
     try clear p3
     try clear c6
     try clear p6
     try clear c7
     try clear c8
     try clear c8b0
     try clear c8b1
     try clear c9
     try clear c10
     try clear c17
     try clear c20
     try clear c22
     try clear c23
     try clear c23b0
     try clear c23b1
     try clear c26
     try clear hcz11_0
     try clear hcz11_1
     try clear hcz11_10
     try clear hcz11_2
     try clear hcz11_3
     try clear hcz11_4
     try clear hcz11_5
     try clear hcz11_6
     try clear hcz11_7
     try clear hcz11_8
     try clear hcz11_9
     try clear hcz13_0
     try clear hcz13_1
     try clear hcz13_10
     try clear hcz13_2
     try clear hcz13_3
     try clear hcz13_4
     try clear hcz13_5
     try clear hcz13_6
     try clear hcz13_7
     try clear hcz13_8
     try clear hcz13_9
     try clear hcz14_0
     try clear hcz14_1
     try clear hcz14_10
     try clear hcz14_2
     try clear hcz14_3
     try clear hcz14_4
     try clear hcz14_5
     try clear hcz14_6
     try clear hcz14_7
     try clear hcz14_8
     try clear hcz14_9
     try clear hcz16_0
     try clear hcz16_1
     try clear hcz16_10
     try clear hcz16_2
     try clear hcz16_3
     try clear hcz16_4
     try clear hcz16_5
     try clear hcz16_6
     try clear hcz16_7
     try clear hcz16_8
     try clear hcz16_9
     try clear hcz24_0
     try clear hcz24_1
     try clear hcz24_10
     try clear hcz24_2
     try clear hcz24_3
     try clear hcz24_4
     try clear hcz24_5
     try clear hcz24_6
     try clear hcz24_7
     try clear hcz24_8
     try clear hcz24_9
     try clear hcz27_0
     try clear hcz27_1
     try clear hcz27_10
     try clear hcz27_2
     try clear hcz27_3
     try clear hcz27_4
     try clear hcz27_5
     try clear hcz27_6
     try clear hcz27_7
     try clear hcz27_8
     try clear hcz27_9
     try clear hcz28_0
     try clear hcz28_1
     try clear hcz28_10
     try clear hcz28_2
     try clear hcz28_3
     try clear hcz28_4
     try clear hcz28_5
     try clear hcz28_6
     try clear hcz28_7
     try clear hcz28_8
     try clear hcz28_9
     try clear hcz29_0
     try clear hcz29_1
     try clear hcz29_10
     try clear hcz29_2
     try clear hcz29_3
     try clear hcz29_4
     try clear hcz29_5
     try clear hcz29_6
     try clear hcz29_7
     try clear hcz29_8
     try clear hcz29_9
     try clear hcz30_0
     try clear hcz30_1
     try clear hcz30_10
     try clear hcz30_2
     try clear hcz30_3
     try clear hcz30_4
     try clear hcz30_5
     try clear hcz30_6
     try clear hcz30_7
     try clear hcz30_8
     try clear hcz30_9
     try clear hcz5_0
     try clear hcz5_1
     try clear hcz5_10
     try clear hcz5_2
     try clear hcz5_3
     try clear hcz5_4
     try clear hcz5_5
     try clear hcz5_6
     try clear hcz5_7
     try clear hcz5_8
     try clear hcz5_9
     try clear hfz11_0
     try clear hfz13_0
     try clear hfz14_0
     try clear hfz16_0
     try clear hfz24_0
     try clear hfz27_0
     try clear hfz28_0
     try clear hfz29_0
     try clear hfz30_0
     try clear hfz5_0
     try clear p2
     try clear p3
     try clear p6
     obtain ⟨kq,x56_17,rfl,HA,HJ17,BK292,HB⟩:=hcut;cases kq with
     |zero=>exact absurd HA.out (by simp [AQ.j1])
     |succ kj17=>
      have H:=HA.out;clear HA;simp only [AQ.j1] at H;by_cases c31:x56_17=true
      ·subst c31;have H1:(some false)=some r:=by rw [if_pos rfl] at H;exact H
       clear H;have H:=H1;clear H1;obtain rfl:=Option.some.inj H;go_wp2;go_ret;exact ⟨xe,xb⟩
      ·replace c31:=Bool.eq_false_iff.mpr c31;subst c31;have H1:(if a0_4<0 then (some false) else (if a0_4>253402300799 then (some false) else (if a0_5<0 then (some false) else (if a0_5>253402300799 then (some false) else (if a0_6<0 then (some false) else (if a0_6>253402300799 then (some false) else (if a0_10>=0 then (some (decide (a0_10<=3))) else (some false))))))))=some r:=by rw [if_neg (show ¬(false=true) by decide)] at H;exact H
       clear H;have H:=H1;clear H1;by_cases c32:a0_4<0
       ·rw [if_pos c32] at H;have c32b0:decide (a0_4<0)=true:=decide_eq_true c32;clear c32;obtain rfl:=Option.some.inj H;obtain ⟨hcz33_0,hcz33_1,hcz33_2,hcz33_3,hcz33_4,hcz33_5,hcz33_6,hcz33_7,hcz33_8,hcz33_9,hcz33_10⟩:=Bv BK292.out;have hfz33_0:=AX BK292.out;go_wp2;go_ret;exact ⟨xe,xb⟩
       ·rw [if_neg c32] at H;have c32b0:decide (a0_4<0)=false:=decide_eq_false c32;clear c32;by_cases c34:a0_4>253402300799
        ·rw [if_pos c34] at H;have c34b0:decide (253402300799<a0_4)=true:=decide_eq_true c34;clear c34;obtain rfl:=Option.some.inj H;obtain ⟨hcz35_0,hcz35_1,hcz35_2,hcz35_3,hcz35_4,hcz35_5,hcz35_6,hcz35_7,hcz35_8,hcz35_9,hcz35_10⟩:=Bv BK292.out;have hfz35_0:=AX BK292.out;go_wp2;go_ret;exact ⟨xe,xb⟩
        ·rw [if_neg c34] at H;have c34b0:decide (253402300799<a0_4)=false:=decide_eq_false c34;clear c34;by_cases c36:a0_5<0
         ·rw [if_pos c36] at H;have c36b0:decide (a0_5<0)=true:=decide_eq_true c36;clear c36;obtain rfl:=Option.some.inj H;obtain ⟨hcz37_0,hcz37_1,hcz37_2,hcz37_3,hcz37_4,hcz37_5,hcz37_6,hcz37_7,hcz37_8,hcz37_9,hcz37_10⟩:=Bv BK292.out;have hfz37_0:=AX BK292.out;go_wp2;go_ret;exact ⟨xe,xb⟩
         ·rw [if_neg c36] at H;have c36b0:decide (a0_5<0)=false:=decide_eq_false c36;clear c36;by_cases c38:a0_5>253402300799
          ·rw [if_pos c38] at H;have c38b0:decide (253402300799<a0_5)=true:=decide_eq_true c38;clear c38;obtain rfl:=Option.some.inj H;obtain ⟨hcz39_0,hcz39_1,hcz39_2,hcz39_3,hcz39_4,hcz39_5,hcz39_6,hcz39_7,hcz39_8,hcz39_9,hcz39_10⟩:=Bv BK292.out;have hfz39_0:=AX BK292.out;go_wp2;go_ret;exact ⟨xe,xb⟩
          ·rw [if_neg c38] at H;have c38b0:decide (253402300799<a0_5)=false:=decide_eq_false c38;clear c38;by_cases c40:a0_6<0
           ·rw [if_pos c40] at H;have c40b0:decide (a0_6<0)=true:=decide_eq_true c40;clear c40;obtain rfl:=Option.some.inj H;obtain ⟨hcz41_0,hcz41_1,hcz41_2,hcz41_3,hcz41_4,hcz41_5,hcz41_6,hcz41_7,hcz41_8,hcz41_9,hcz41_10⟩:=Bv BK292.out;have hfz41_0:=AX BK292.out;go_wp2;go_ret;exact ⟨xe,xb⟩
           ·rw [if_neg c40] at H;have c40b0:decide (a0_6<0)=false:=decide_eq_false c40;clear c40;by_cases c42:a0_6>253402300799
            ·rw [if_pos c42] at H;have c42b0:decide (253402300799<a0_6)=true:=decide_eq_true c42;clear c42;obtain rfl:=Option.some.inj H;obtain ⟨hcz43_0,hcz43_1,hcz43_2,hcz43_3,hcz43_4,hcz43_5,hcz43_6,hcz43_7,hcz43_8,hcz43_9,hcz43_10⟩:=Bv BK292.out;have hfz43_0:=AX BK292.out;go_wp2;go_ret;exact ⟨xe,xb⟩
            ·rw [if_neg c42] at H;have c42b0:decide (253402300799<a0_6)=false:=decide_eq_false c42;clear c42;by_cases c44:a0_10>=0
             ·rw [if_pos c44] at H;have c44b0:decide (0<=a0_10)=true:=decide_eq_true c44;clear c44;obtain rfl:=Option.some.inj H;obtain ⟨hcz45_0,hcz45_1,hcz45_2,hcz45_3,hcz45_4,hcz45_5,hcz45_6,hcz45_7,hcz45_8,hcz45_9,hcz45_10⟩:=Bv BK292.out;have hfz45_0:=AX BK292.out;go_wp2;go_ret;exact ⟨xe,xb⟩
             ·rw [if_neg c44] at H;have c44b0:decide (0<=a0_10)=false:=decide_eq_false c44;clear c44;obtain rfl:=Option.some.inj H;obtain ⟨hcz46_0,hcz46_1,hcz46_2,hcz46_3,hcz46_4,hcz46_5,hcz46_6,hcz46_7,hcz46_8,hcz46_9,hcz46_10⟩:=Bv BK292.out;have hfz46_0:=AX BK292.out;go_wp2;go_ret;exact ⟨xe,xb⟩
end Go.Proofs.YtikggnalmidlhaaGreatDoor.Print
