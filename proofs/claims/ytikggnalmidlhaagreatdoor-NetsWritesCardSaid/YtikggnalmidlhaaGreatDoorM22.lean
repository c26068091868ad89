/- nets.counted tells the lines that are of account. Walked by hand. -/
import Derived.Test.YtikggnalmidlhaaGreatDoorGnread
import Derived.Test.YtikggnalmidlhaaGreatDoorPrint29
section
namespace Go.Proofs.YtikggnalmidlhaaGreatDoor.Print
open RowKit AR Aa Ad
attribute [local go_sem] BM BN Bo Bp BC BD BO BP
set_option linter.unusedVariables false
set_option linter.unusedSimpArgs false
mutual
def AQ.j0:Nat->Bool->ByteArray->ByteArray->ByteArray->ByteArray->Int->Int->Int->Bool->Bool->Bool->Int->Option (Bool)
 |0,_,_,_,_,_,_,_,_,_,_,_,_=>none
 |k+1,x28,x293000,x293001,x293002,x293003,x293004,x293005,x293006,x293007,x293008,x293009,x293010=>if x28=true then (some false) else ((CL.f k x293001).bind λt296=>(if t296=true then ((Aw.f k x293002).bind λt297=>(if t297=true then (if (x293002.size:Int)>64 then (AQ.j1 k true x293000 x293001 x293002 x293003 x293004 x293005 x293006 x293007 x293008 x293009 x293010) else ((BA.f k x293003).bind λt298=>(if t298=true then (AQ.j1 k (decide ((x293003.size:Int)>128)) x293000 x293001 x293002 x293003 x293004 x293005 x293006 x293007 x293008 x293009 x293010) else (AQ.j1 k true x293000 x293001 x293002 x293003 x293004 x293005 x293006 x293007 x293008 x293009 x293010)))) else (AQ.j1 k true x293000 x293001 x293002 x293003 x293004 x293005 x293006 x293007 x293008 x293009 x293010))) else (AQ.j1 k true x293000 x293001 x293002 x293003 x293004 x293005 x293006 x293007 x293008 x293009 x293010)))
def AQ.j1:Nat->Bool->ByteArray->ByteArray->ByteArray->ByteArray->Int->Int->Int->Bool->Bool->Bool->Int->Option (Bool)
 |0,_,_,_,_,_,_,_,_,_,_,_,_=>none
 |k+1,x56,x293000,x293001,x293002,x293003,x293004,x293005,x293006,x293007,x293008,x293009,x293010=>if x56=true then (some false) else (if x293004<0 then (some false) else (if x293004>253402300799 then (some false) else (if x293005<0 then (some false) else (if x293005>253402300799 then (some false) else (if x293006<0 then (some false) else (if x293006>253402300799 then (some false) else (if x293010>=0 then (some (decide (x293010<=3))) else (some false))))))))
end
def AQ.f (k:Nat) (a0_0:ByteArray) (a0_1:ByteArray) (a0_2:ByteArray) (a0_3:ByteArray) (a0_4:Int) (a0_5:Int) (a0_6:Int) (a0_7:Bool) (a0_8:Bool) (a0_9:Bool) (a0_10:Int):Option (Bool):=(Ai.f k a0_0).bind λbt293=>(if bt293.2=true then (if bt293.1.toList=a0_0.toList then ((Bb.f k a0_0).bind λt295=>(if t295=true then (AQ.j0 k (!a0_7) a0_0 a0_1 a0_2 a0_3 a0_4 a0_5 a0_6 a0_7 a0_8 a0_9 a0_10) else (AQ.j0 k false a0_0 a0_1 a0_2 a0_3 a0_4 a0_5 a0_6 a0_7 a0_8 a0_9 a0_10))) else (AQ.j0 k true a0_0 a0_1 a0_2 a0_3 a0_4 a0_5 a0_6 a0_7 a0_8 a0_9 a0_10)) else (AQ.j0 k true a0_0 a0_1 a0_2 a0_3 a0_4 a0_5 a0_6 a0_7 a0_8 a0_9 a0_10))
set_option maxHeartbeats 8000000 in
set_option maxRecDepth 100000 in
theorem AQ.calls (k:Nat) (a0_0:ByteArray) (a0_1:ByteArray) (a0_2:ByteArray) (a0_3:ByteArray) (a0_4:Int) (a0_5:Int) (a0_6:Int) (a0_7:Bool) (a0_8:Bool) (a0_9:Bool) (a0_10:Int) (r:Bool) (w:World) (h:AQ.f k a0_0 a0_1 a0_2 a0_3 a0_4 a0_5 a0_6 a0_7 a0_8 a0_9 a0_10=some r):
 Calls Tryz.prog 62 #[.agg #[.string a0_0, .string a0_1, .string a0_2, .string a0_3, .int .i64 a0_4, .int .i64 a0_5, .int .i64 a0_6, .bool a0_7, .bool a0_8, .bool a0_9, .int .i64 a0_10]] w λe w'=>e= .returned (.bool r)/\Below w.heap.size w w':=by
 have hu53:=Tryz.underlying53;have HB:=AA.mk (Below.refl w.heap.size w);have H:((Ai.f k a0_0).bind λbt293=>(if bt293.2=true then (if bt293.1.toList=a0_0.toList then ((Bb.f k a0_0).bind λt295=>(if t295=true then (AQ.j0 k (!a0_7) a0_0 a0_1 a0_2 a0_3 a0_4 a0_5 a0_6 a0_7 a0_8 a0_9 a0_10) else (AQ.j0 k false a0_0 a0_1 a0_2 a0_3 a0_4 a0_5 a0_6 a0_7 a0_8 a0_9 a0_10))) else (AQ.j0 k true a0_0 a0_1 a0_2 a0_3 a0_4 a0_5 a0_6 a0_7 a0_8 a0_9 a0_10)) else (AQ.j0 k true a0_0 a0_1 a0_2 a0_3 a0_4 a0_5 a0_6 a0_7 a0_8 a0_9 a0_10)))=some r:=h;clear h;replace H:=Option.bind_eq_some_iff.mp H;obtain ⟨⟨t293,t294⟩,A20,H⟩:=H;try dsimp only at H
 have A2:=AA.mk A20;clear A20;have HC3:=AA.mk H;clear H;go_enter Tryz.func62,Tryz.ntmps62;go_upto_region 2 with (first|((with_reducible refine F4 (N:=1) rfl ?_);(try (refine Hq (by rfl) ?_;dsimp only));refine Dk (N:=1) (cs:=#[.string a0_0, .string a0_1, .string a0_2, .string a0_3, .int .i64 a0_4, .int .i64 a0_5, .int .i64 a0_6, .bool a0_7, .bool a0_8, .bool a0_9, .int .i64 a0_10]) (t:=53) (λgb292 hg w4 hbox hb=>?_);have BK292:=AA.mk (hbox);have GW292:AA (w.heap.size<=gb292):=Dp hg xb;have GE292:AA (w.heap.size<=gb292):=Dp hg xb;replace HB:=AA.mk (AP xb hb);clear hb hbox hg;obtain ⟨hcz5_0,hcz5_1,hcz5_2,hcz5_3,hcz5_4,hcz5_5,hcz5_6,hcz5_7,hcz5_8,hcz5_9,hcz5_10⟩:=Bv BK292.out;have hfz5_0:=AX BK292.out)|((with_reducible refine AO (f:=60) rfl ?_);refine Ak (some 8) rfl rfl Tryz.func60 (by kernel_rfl) rfl #[.string a0_0] rfl xg ?_;(with_reducible refine (Ai.calls k a0_0 t293 t294 _ A2.out).mono ?_);rintro e w6 ⟨rfl,hb⟩;refine ⟨_,rfl,?_⟩;replace BK292:=Bt BK292 hb;replace HB:=AA.mk (AP xb hb);(try clear hb)))
 (try simp only [Act.put,List.setIfInBounds_toArray,List.set_cons_zero,List.set_cons_succ]);go_cut [28] (λv28 wc=>∃ (kq:Nat) (x28_2:Bool),v28= .bool x28_2/\AA (AQ.j0 kq x28_2 a0_0 a0_1 a0_2 a0_3 a0_4 a0_5 a0_6 a0_7 a0_8 a0_9 a0_10=some r)/\AA (kq<=k)/\AA (wc.heap[gb292]? =some (.cells #[.string a0_0, .string a0_1, .string a0_2, .string a0_3, .int .i64 a0_4, .int .i64 a0_5, .int .i64 a0_6, .bool a0_7, .bool a0_8, .bool a0_9, .int .i64 a0_10] 53 (0,0)))/\AA (Below w.heap.size w wc));case first=>
  have H:=HC3.out;clear HC3;by_cases c7:t294=true
  ·subst c7;have H1:(if t293.toList=a0_0.toList then ((Bb.f k a0_0).bind λt295=>(if t295=true then (AQ.j0 k (!a0_7) a0_0 a0_1 a0_2 a0_3 a0_4 a0_5 a0_6 a0_7 a0_8 a0_9 a0_10) else (AQ.j0 k false a0_0 a0_1 a0_2 a0_3 a0_4 a0_5 a0_6 a0_7 a0_8 a0_9 a0_10))) else (AQ.j0 k true a0_0 a0_1 a0_2 a0_3 a0_4 a0_5 a0_6 a0_7 a0_8 a0_9 a0_10))=some r:=by rw [if_pos rfl] at H;exact H
   clear H;have H:=H1;clear H1;by_cases c8:t293.toList=a0_0.toList
   ·rw [if_pos c8] at H;have c8b0:(t293.toList==a0_0.toList)=true:=beq_iff_eq.mpr c8;have c8b1:(t293.toList != a0_0.toList)=false:=bne_eq_false_iff_eq.mpr c8;clear c8;(first|rw [c8b0]|(simp only [DL,DU];rw [c8b0])|skip);replace H:=Option.bind_eq_some_iff.mp H;obtain ⟨t295,A90,H⟩:=H;replace H:(if t295=true then (AQ.j0 k (!a0_7) a0_0 a0_1 a0_2 a0_3 a0_4 a0_5 a0_6 a0_7 a0_8 a0_9 a0_10) else (AQ.j0 k false a0_0 a0_1 a0_2 a0_3 a0_4 a0_5 a0_6 a0_7 a0_8 a0_9 a0_10))=some r:=H;have A9:=AA.mk A90;clear A90;by_cases c10:t295=true
    ·subst c10;rw [if_pos rfl] at H;have H':=AA.mk H;clear H;obtain ⟨hcz11_0,hcz11_1,hcz11_2,hcz11_3,hcz11_4,hcz11_5,hcz11_6,hcz11_7,hcz11_8,hcz11_9,hcz11_10⟩:=Bv BK292.out;have hfz11_0:=AX BK292.out;go_wp2_with (first|(go_at_call 93;(with_reducible refine (Bb.calls k a0_0 true _ A9.out).mono ?_);rintro e w12 ⟨rfl,hb⟩;replace BK292:=Bt BK292 hb;replace HB:=AA.mk (AP xb hb);(try clear hb);obtain ⟨hcz13_0,hcz13_1,hcz13_2,hcz13_3,hcz13_4,hcz13_5,hcz13_6,hcz13_7,hcz13_8,hcz13_9,hcz13_10⟩:=Bv BK292.out;have hfz13_0:=AX BK292.out));go_meet;case rel=>exact ⟨_,(!a0_7),xq,H',⟨by first|omega|exact Nat.le_refl _⟩,⟨xk⟩,⟨xb⟩⟩
    ·replace c10:=Bool.eq_false_iff.mpr c10;subst c10;have H1:(AQ.j0 k false a0_0 a0_1 a0_2 a0_3 a0_4 a0_5 a0_6 a0_7 a0_8 a0_9 a0_10)=some r:=by rw [if_neg (show ¬(false=true) by decide)] at H;exact H
     clear H;have H:=H1;clear H1;have H':=AA.mk H;clear H;obtain ⟨hcz14_0,hcz14_1,hcz14_2,hcz14_3,hcz14_4,hcz14_5,hcz14_6,hcz14_7,hcz14_8,hcz14_9,hcz14_10⟩:=Bv BK292.out;have hfz14_0:=AX BK292.out;go_wp2_with (first|(go_at_call 93;(with_reducible refine (Bb.calls k a0_0 false _ A9.out).mono ?_);rintro e w15 ⟨rfl,hb⟩;replace BK292:=Bt BK292 hb;replace HB:=AA.mk (AP xb hb);(try clear hb)));go_meet;case rel=>exact ⟨_,(false),xq,H',⟨by first|omega|exact Nat.le_refl _⟩,⟨xk⟩,⟨xb⟩⟩
   ·rw [if_neg c8] at H;have c8b0:(t293.toList==a0_0.toList)=false:=beq_eq_false_iff_ne.mpr c8;have c8b1:(t293.toList != a0_0.toList)=true:=bne_iff_ne.mpr c8;(first|rw [c8b0]|(simp only [DL,DU];rw [c8b0])|skip);have H':=AA.mk H;clear H;obtain ⟨hcz16_0,hcz16_1,hcz16_2,hcz16_3,hcz16_4,hcz16_5,hcz16_6,hcz16_7,hcz16_8,hcz16_9,hcz16_10⟩:=Bv BK292.out;have hfz16_0:=AX BK292.out;go_wp2;go_meet;case rel=>exact ⟨_,(true),xq,H',⟨by first|omega|exact Nat.le_refl _⟩,⟨xk⟩,⟨xb⟩⟩
  ·replace c7:=Bool.eq_false_iff.mpr c7;subst c7;have H1:(AQ.j0 k true a0_0 a0_1 a0_2 a0_3 a0_4 a0_5 a0_6 a0_7 a0_8 a0_9 a0_10)=some r:=by rw [if_neg (show ¬(false=true) by decide)] at H;exact H
   clear H;have H:=H1;clear H1;have H':=AA.mk H;clear H;go_wp2;go_meet;case rel=>exact ⟨_,(true),xq,H',⟨by first|omega|exact Nat.le_refl _⟩,⟨xk⟩,⟨xb⟩⟩
 case rest=>
  clear HC3;try clear c1
  try clear p2
  try clear p3
  try clear c6
  try clear p6
  try clear c7
  try clear c8
  try clear c8b0
  try clear c8b1
  try clear c10
  try clear hcz11_0
  try clear hcz11_1
  try clear hcz11_10
  try clear hcz11_2
  try clear hcz11_3
  try clear hcz11_4
  try clear hcz11_5
  try clear hcz11_6
  try clear hcz11_7
  try clear hcz11_8
  try clear hcz11_9
  try clear hcz13_0
  try clear hcz13_1
  try clear hcz13_10
  try clear hcz13_2
  try clear hcz13_3
  try clear hcz13_4
  try clear hcz13_5
  try clear hcz13_6
  try clear hcz13_7
  try clear hcz13_8
  try clear hcz13_9
  try clear hcz14_0
  try clear hcz14_1
  try clear hcz14_10
  try clear hcz14_2
  try clear hcz14_3
  try clear hcz14_4
  try clear hcz14_5
  try clear hcz14_6
  try clear hcz14_7
  try clear hcz14_8
  try clear hcz14_9
  try clear hcz16_0
  try clear hcz16_1
  try clear hcz16_10
  try clear hcz16_2
  try clear hcz16_3
  try clear hcz16_4
  try clear hcz16_5
  try clear hcz16_6
  try clear hcz16_7
  try clear hcz16_8
  try clear hcz16_9
  try clear hcz5_0
  try clear hcz5_1
  try clear hcz5_10
  try clear hcz5_2
  try clear hcz5_3
  try clear hcz5_4
  try clear hcz5_5
  try clear hcz5_6
  try clear hcz5_7
  try clear hcz5_8
  try clear hcz5_9
  try clear hfz11_0
  try clear hfz13_0
  try clear hfz14_0
  try clear hfz16_0
  try clear hfz5_0
  obtain ⟨kq,x28_2,rfl,HA,HJ2,BK292,HB⟩:=hcut;cases kq with
  |zero=>exact absurd HA.out (by simp [AQ.j0])
  |succ kj2=>
   have H:=HA.out;clear HA;simp only [AQ.j0] at H;by_cases c17:x28_2=true
   ·subst c17;have H1:(some false)=some r:=by rw [if_pos rfl] at H;exact H
    clear H;have H:=H1;clear H1;obtain rfl:=Option.some.inj H;go_wp2;go_ret;exact ⟨xe,xb⟩
   ·replace c17:=Bool.eq_false_iff.mpr c17;subst c17;have H1:((CL.f kj2 a0_1).bind λt296=>(if t296=true then ((Aw.f kj2 a0_2).bind λt297=>(if t297=true then (if (a0_2.size:Int)>64 then (AQ.j1 kj2 true a0_0 a0_1 a0_2 a0_3 a0_4 a0_5 a0_6 a0_7 a0_8 a0_9 a0_10) else ((BA.f kj2 a0_3).bind λt298=>(if t298=true then (AQ.j1 kj2 (decide ((a0_3.size:Int)>128)) a0_0 a0_1 a0_2 a0_3 a0_4 a0_5 a0_6 a0_7 a0_8 a0_9 a0_10) else (AQ.j1 kj2 true a0_0 a0_1 a0_2 a0_3 a0_4 a0_5 a0_6 a0_7 a0_8 a0_9 a0_10)))) else (AQ.j1 kj2 true a0_0 a0_1 a0_2 a0_3 a0_4 a0_5 a0_6 a0_7 a0_8 a0_9 a0_10))) else (AQ.j1 kj2 true a0_0 a0_1 a0_2 a0_3 a0_4 a0_5 a0_6 a0_7 a0_8 a0_9 a0_10)))=some r:=by rw [if_neg (show ¬(false=true) by decide)] at H;exact H
    clear H;have H:=H1;clear H1;have HC18:=AA.mk H;clear H;go_upto_region 4 with (fail)
    go_cut [56] (λv56 wc=>∃ (kq:Nat) (x56_17:Bool),v56= .bool x56_17/\AA (AQ.j1 kq x56_17 a0_0 a0_1 a0_2 a0_3 a0_4 a0_5 a0_6 a0_7 a0_8 a0_9 a0_10=some r)/\AA (kq<=kj2)/\AA (wc.heap[gb292]? =some (.cells #[.string a0_0, .string a0_1, .string a0_2, .string a0_3, .int .i64 a0_4, .int .i64 a0_5, .int .i64 a0_6, .bool a0_7, .bool a0_8, .bool a0_9, .int .i64 a0_10] 53 (0,0)))/\AA (Below w.heap.size w wc));case first=>
     have H:=HC18.out;clear HC18;replace H:=Option.bind_eq_some_iff.mp H;obtain ⟨t296,A190,H⟩:=H;replace H:(if t296=true then ((Aw.f kj2 a0_2).bind λt297=>(if t297=true then (if (a0_2.size:Int)>64 then (AQ.j1 kj2 true a0_0 a0_1 a0_2 a0_3 a0_4 a0_5 a0_6 a0_7 a0_8 a0_9 a0_10) else ((BA.f kj2 a0_3).bind λt298=>(if t298=true then (AQ.j1 kj2 (decide ((a0_3.size:Int)>128)) a0_0 a0_1 a0_2 a0_3 a0_4 a0_5 a0_6 a0_7 a0_8 a0_9 a0_10) else (AQ.j1 kj2 true a0_0 a0_1 a0_2 a0_3 a0_4 a0_5 a0_6 a0_7 a0_8 a0_9 a0_10)))) else (AQ.j1 kj2 true a0_0 a0_1 a0_2 a0_3 a0_4 a0_5 a0_6 a0_7 a0_8 a0_9 a0_10))) else (AQ.j1 kj2 true a0_0 a0_1 a0_2 a0_3 a0_4 a0_5 a0_6 a0_7 a0_8 a0_9 a0_10))=some r:=H;have A19:=AA.mk A190;clear A190;by_cases c20:t296=true
     ·subst c20;rw [if_pos rfl] at H;replace H:=Option.bind_eq_some_iff.mp H;obtain ⟨t297,A210,H⟩:=H;try dsimp only at H
      have A21:=AA.mk A210;clear A210;by_cases c22:t297=true
      ·subst c22;rw [if_pos rfl] at H;by_cases c23:(a0_2.size:Int)>64
       ·rw [if_pos c23] at H;have c23b0:decide (64<(a0_2.size:Int))=true:=decide_eq_true c23;have c23b1:decide (64<a0_2.size)=true:=decide_eq_true (by omega);clear c23;(first|rw [c23b0]|(simp only [DL,DU];rw [c23b0])|skip);have H':=AA.mk H;clear H;obtain ⟨hcz24_0,hcz24_1,hcz24_2,hcz24_3,hcz24_4,hcz24_5,hcz24_6,hcz24_7,hcz24_8,hcz24_9,hcz24_10⟩:=Bv BK292.out;have hfz24_0:=AX BK292.out;go_wp2_with (first|((with_reducible refine AO (f:=94) rfl ?_);refine Ak (some 31) rfl rfl Tryz.func94 (by kernel_rfl) rfl #[.string a0_1] rfl xg ?_;(with_reducible refine (CL.calls kj2 a0_1 true _ A19.out).mono ?_);rintro e w' ⟨rfl,⟨nd,rfl⟩⟩;refine ⟨_,rfl,?_⟩)|(go_at_call 95;(with_reducible refine (Aw.calls kj2 a0_2 true _ A21.out).mono ?_);rintro e w' ⟨rfl,⟨nd,rfl⟩⟩));go_meet;case rel=>exact ⟨_,(true),xq,H',⟨by have:=HJ2.out;first|omega|exact Nat.le_refl _⟩,⟨xk⟩,⟨xb⟩⟩
       ·rw [if_neg c23] at H;have c23b0:decide (64<(a0_2.size:Int))=false:=decide_eq_false c23;have c23b1:decide (64<a0_2.size)=false:=decide_eq_false (by omega);clear c23;(first|rw [c23b0]|(simp only [DL,DU];rw [c23b0])|skip);replace H:=Option.bind_eq_some_iff.mp H;obtain ⟨t298,A250,H⟩:=H;replace H:(if t298=true then (AQ.j1 kj2 (decide ((a0_3.size:Int)>128)) a0_0 a0_1 a0_2 a0_3 a0_4 a0_5 a0_6 a0_7 a0_8 a0_9 a0_10) else (AQ.j1 kj2 true a0_0 a0_1 a0_2 a0_3 a0_4 a0_5 a0_6 a0_7 a0_8 a0_9 a0_10))=some r:=H;have A25:=AA.mk A250;clear A250;by_cases c26:t298=true
        ·subst c26;rw [if_pos rfl] at H;have H':=AA.mk H;clear H;obtain ⟨hcz27_0,hcz27_1,hcz27_2,hcz27_3,hcz27_4,hcz27_5,hcz27_6,hcz27_7,hcz27_8,hcz27_9,hcz27_10⟩:=Bv BK292.out;have hfz27_0:=AX BK292.out;go_wp2_with (first|((with_reducible refine AO (f:=94) rfl ?_);refine Ak (some 31) rfl rfl Tryz.func94 (by kernel_rfl) rfl #[.string a0_1] rfl xg ?_;(with_reducible refine (CL.calls kj2 a0_1 true _ A19.out).mono ?_);rintro e w' ⟨rfl,⟨nd,rfl⟩⟩;refine ⟨_,rfl,?_⟩)|(go_at_call 95;(with_reducible refine (Aw.calls kj2 a0_2 true _ A21.out).mono ?_);rintro e w' ⟨rfl,⟨nd,rfl⟩⟩)|(go_at_call 96;(with_reducible refine (BA.calls kj2 a0_3 true _ A25.out).mono ?_);rintro e w' ⟨rfl,⟨nd,rfl⟩⟩));go_meet;case rel=>exact ⟨_,(decide ((a0_3.size:Int)>128)),xq,H',⟨by have:=HJ2.out;first|omega|exact Nat.le_refl _⟩,⟨xk⟩,⟨xb⟩⟩
        ·replace c26:=Bool.eq_false_iff.mpr c26;subst c26;have H1:(AQ.j1 kj2 true a0_0 a0_1 a0_2 a0_3 a0_4 a0_5 a0_6 a0_7 a0_8 a0_9 a0_10)=some r:=by rw [if_neg (show ¬(false=true) by decide)] at H;exact H
         clear H;have H:=H1;clear H1;have H':=AA.mk H;clear H;obtain ⟨hcz28_0,hcz28_1,hcz28_2,hcz28_3,hcz28_4,hcz28_5,hcz28_6,hcz28_7,hcz28_8,hcz28_9,hcz28_10⟩:=Bv BK292.out;have hfz28_0:=AX BK292.out;go_wp2_with (first|((with_reducible refine AO (f:=94) rfl ?_);refine Ak (some 31) rfl rfl Tryz.func94 (by kernel_rfl) rfl #[.string a0_1] rfl xg ?_;(with_reducible refine (CL.calls kj2 a0_1 true _ A19.out).mono ?_);rintro e w' ⟨rfl,⟨nd,rfl⟩⟩;refine ⟨_,rfl,?_⟩)|(go_at_call 95;(with_reducible refine (Aw.calls kj2 a0_2 true _ A21.out).mono ?_);rintro e w' ⟨rfl,⟨nd,rfl⟩⟩)|(go_at_call 96;(with_reducible refine (BA.calls kj2 a0_3 false _ A25.out).mono ?_);rintro e w' ⟨rfl,⟨nd,rfl⟩⟩));go_meet;case rel=>exact ⟨_,(true),xq,H',⟨by have:=HJ2.out;first|omega|exact Nat.le_refl _⟩,⟨xk⟩,⟨xb⟩⟩
      ·replace c22:=Bool.eq_false_iff.mpr c22;subst c22;have H1:(AQ.j1 kj2 true a0_0 a0_1 a0_2 a0_3 a0_4 a0_5 a0_6 a0_7 a0_8 a0_9 a0_10)=some r:=by rw [if_neg (show ¬(false=true) by decide)] at H;exact H
       clear H;have H:=H1;clear H1;have H':=AA.mk H;clear H;obtain ⟨hcz29_0,hcz29_1,hcz29_2,hcz29_3,hcz29_4,hcz29_5,hcz29_6,hcz29_7,hcz29_8,hcz29_9,hcz29_10⟩:=Bv BK292.out;have hfz29_0:=AX BK292.out;go_wp2_with (first|((with_reducible refine AO (f:=94) rfl ?_);refine Ak (some 31) rfl rfl Tryz.func94 (by kernel_rfl) rfl #[.string a0_1] rfl xg ?_;(with_reducible refine (CL.calls kj2 a0_1 true _ A19.out).mono ?_);rintro e w' ⟨rfl,⟨nd,rfl⟩⟩;refine ⟨_,rfl,?_⟩)|(go_at_call 95;(with_reducible refine (Aw.calls kj2 a0_2 false _ A21.out).mono ?_);rintro e w' ⟨rfl,⟨nd,rfl⟩⟩));go_meet;case rel=>exact ⟨_,(true),xq,H',⟨by have:=HJ2.out;first|omega|exact Nat.le_refl _⟩,⟨xk⟩,⟨xb⟩⟩
     ·replace c20:=Bool.eq_false_iff.mpr c20;subst c20;have H1:(AQ.j1 kj2 true a0_0 a0_1 a0_2 a0_3 a0_4 a0_5 a0_6 a0_7 a0_8 a0_9 a0_10)=some r:=by rw [if_neg (show ¬(false=true) by decide)] at H;exact H
      clear H;have H:=H1;clear H1;have H':=AA.mk H;clear H;obtain ⟨hcz30_0,hcz30_1,hcz30_2,hcz30_3,hcz30_4,hcz30_5,hcz30_6,hcz30_7,hcz30_8,hcz30_9,hcz30_10⟩:=Bv BK292.out;have hfz30_0:=AX BK292.out;go_wp2_with (first|((with_reducible refine AO (f:=94) rfl ?_);refine Ak (some 31) rfl rfl Tryz.func94 (by kernel_rfl) rfl #[.string a0_1] rfl xg ?_;(with_reducible refine (CL.calls kj2 a0_1 false _ A19.out).mono ?_);rintro e w' ⟨rfl,⟨nd,rfl⟩⟩;refine ⟨_,rfl,?_⟩));go_meet;case rel=>exact ⟨_,(true),xq,H',⟨by have:=HJ2.out;first|omega|exact Nat.le_refl _⟩,⟨xk⟩,⟨xb⟩⟩
    case rest=>
     clear HC18;try clear c1
     try clear c2
     try clear p2
     try clear p3
     try clear c6
     try clear p6
     try clear c7
     try clear c8
     try clear c8b0
     try clear c8b1
     try clear c9
     try clear c10
     try clear c17
     try clear c20
     try clear c22
     try clear c23
     try clear c23b0
     try clear c23b1
     try clear c26
     try clear hcz11_0
     try clear hcz11_1
     try clear hcz11_10
     try clear hcz11_2
     try clear hcz11_3
     try clear hcz11_4
     try clear hcz11_5
     try clear hcz11_6
     try clear hcz11_7
     try clear hcz11_8
     try clear hcz11_9
     try clear hcz13_0
     try clear hcz13_1
     try clear hcz13_10
     try clear hcz13_2
     try clear hcz13_3
     try clear hcz13_4
     try clear hcz13_5
     try clear hcz13_6
     try clear hcz13_7
     try clear hcz13_8
     try clear hcz13_9
     try clear hcz14_0
     try clear hcz14_1
     try clear hcz14_10
     try clear hcz14_2
     try clear hcz14_3
     try clear hcz14_4
     try clear hcz14_5
     try clear hcz14_6
     try clear hcz14_7
     try clear hcz14_8
     try clear hcz14_9
     try clear hcz16_0
     try clear hcz16_1
     try clear hcz16_10
     try clear hcz16_2
     try clear hcz16_3
     try clear hcz16_4
     try clear hcz16_5
     try clear hcz16_6
     try clear hcz16_7
     try clear hcz16_8
     try clear hcz16_9
     try clear hcz24_0
     try clear hcz24_1
     try clear hcz24_10
     try clear hcz24_2
     try clear hcz24_3
     try clear hcz24_4
     try clear hcz24_5
     try clear hcz24_6
     try clear hcz24_7
     try clear hcz24_8
     try clear hcz24_9
     try clear hcz27_0
     try clear hcz27_1
     try clear hcz27_10
     try clear hcz27_2
     try clear hcz27_3
     try clear hcz27_4
     try clear hcz27_5
     try clear hcz27_6
     try clear hcz27_7
     try clear hcz27_8
     try clear hcz27_9
     try clear hcz28_0
     try clear hcz28_1
     try clear hcz28_10
     try clear hcz28_2
     try clear hcz28_3
     try clear hcz28_4
     try clear hcz28_5
     try clear hcz28_6
     try clear hcz28_7
     try clear hcz28_8
     try clear hcz28_9
     try clear hcz29_0
     try clear hcz29_1
     try clear hcz29_10
     try clear hcz29_2
     try clear hcz29_3
     try clear hcz29_4
     try clear hcz29_5
     try clear hcz29_6
     try clear hcz29_7
     try clear hcz29_8
     try clear hcz29_9
     try clear hcz30_0
     try clear hcz30_1
     try clear hcz30_10
     try clear hcz30_2
     try clear hcz30_3
     try clear hcz30_4
     try clear hcz30_5
     try clear hcz30_6
     try clear hcz30_7
     try clear hcz30_8
     try clear hcz30_9
     try clear hcz5_0
     try clear hcz5_1
     try clear hcz5_10
     try clear hcz5_2
     try clear hcz5_3
     try clear hcz5_4
     try clear hcz5_5
     try clear hcz5_6
     try clear hcz5_7
     try clear hcz5_8
     try clear hcz5_9
     try clear hfz11_0
     try clear hfz13_0
     try clear hfz14_0
     try clear hfz16_0
     try clear hfz24_0
     try clear hfz27_0
     try clear hfz28_0
     try clear hfz29_0
     try clear hfz30_0
     try clear hfz5_0
     try clear p2
     try clear p3
     try clear p6
     obtain ⟨kq,x56_17,rfl,HA,HJ17,BK292,HB⟩:=hcut;cases kq with
     |zero=>exact absurd HA.out (by simp [AQ.j1])
     |succ kj17=>
      have H:=HA.out;clear HA;simp only [AQ.j1] at H;by_cases c31:x56_17=true
      ·subst c31;have H1:(some false)=some r:=by rw [if_pos rfl] at H;exact H
       clear H;have H:=H1;clear H1;obtain rfl:=Option.some.inj H;go_wp2;go_ret;exact ⟨xe,xb⟩
      ·replace c31:=Bool.eq_false_iff.mpr c31;subst c31;have H1:(if a0_4<0 then (some false) else (if a0_4>253402300799 then (some false) else (if a0_5<0 then (some false) else (if a0_5>253402300799 then (some false) else (if a0_6<0 then (some false) else (if a0_6>253402300799 then (some false) else (if a0_10>=0 then (some (decide (a0_10<=3))) else (some false))))))))=some r:=by rw [if_neg (show ¬(false=true) by decide)] at H;exact H
       clear H;have H:=H1;clear H1;by_cases c32:a0_4<0
       ·rw [if_pos c32] at H;have c32b0:decide (a0_4<0)=true:=decide_eq_true c32;clear c32;obtain rfl:=Option.some.inj H;obtain ⟨hcz33_0,hcz33_1,hcz33_2,hcz33_3,hcz33_4,hcz33_5,hcz33_6,hcz33_7,hcz33_8,hcz33_9,hcz33_10⟩:=Bv BK292.out;have hfz33_0:=AX BK292.out;go_wp2;go_ret;exact ⟨xe,xb⟩
       ·rw [if_neg c32] at H;have c32b0:decide (a0_4<0)=false:=decide_eq_false c32;clear c32;by_cases c34:a0_4>253402300799
        ·rw [if_pos c34] at H;have c34b0:decide (253402300799<a0_4)=true:=decide_eq_true c34;clear c34;obtain rfl:=Option.some.inj H;obtain ⟨hcz35_0,hcz35_1,hcz35_2,hcz35_3,hcz35_4,hcz35_5,hcz35_6,hcz35_7,hcz35_8,hcz35_9,hcz35_10⟩:=Bv BK292.out;have hfz35_0:=AX BK292.out;go_wp2;go_ret;exact ⟨xe,xb⟩
        ·rw [if_neg c34] at H;have c34b0:decide (253402300799<a0_4)=false:=decide_eq_false c34;clear c34;by_cases c36:a0_5<0
         ·rw [if_pos c36] at H;have c36b0:decide (a0_5<0)=true:=decide_eq_true c36;clear c36;obtain rfl:=Option.some.inj H;obtain ⟨hcz37_0,hcz37_1,hcz37_2,hcz37_3,hcz37_4,hcz37_5,hcz37_6,hcz37_7,hcz37_8,hcz37_9,hcz37_10⟩:=Bv BK292.out;have hfz37_0:=AX BK292.out;go_wp2;go_ret;exact ⟨xe,xb⟩
         ·rw [if_neg c36] at H;have c36b0:decide (a0_5<0)=false:=decide_eq_false c36;clear c36;by_cases c38:a0_5>253402300799
          ·rw [if_pos c38] at H;have c38b0:decide (253402300799<a0_5)=true:=decide_eq_true c38;clear c38;obtain rfl:=Option.some.inj H;obtain ⟨hcz39_0,hcz39_1,hcz39_2,hcz39_3,hcz39_4,hcz39_5,hcz39_6,hcz39_7,hcz39_8,hcz39_9,hcz39_10⟩:=Bv BK292.out;have hfz39_0:=AX BK292.out;go_wp2;go_ret;exact ⟨xe,xb⟩
          ·rw [if_neg c38] at H;have c38b0:decide (253402300799<a0_5)=false:=decide_eq_false c38;clear c38;by_cases c40:a0_6<0
           ·rw [if_pos c40] at H;have c40b0:decide (a0_6<0)=true:=decide_eq_true c40;clear c40;obtain rfl:=Option.some.inj H;obtain ⟨hcz41_0,hcz41_1,hcz41_2,hcz41_3,hcz41_4,hcz41_5,hcz41_6,hcz41_7,hcz41_8,hcz41_9,hcz41_10⟩:=Bv BK292.out;have hfz41_0:=AX BK292.out;go_wp2;go_ret;exact ⟨xe,xb⟩
           ·rw [if_neg c40] at H;have c40b0:decide (a0_6<0)=false:=decide_eq_false c40;clear c40;by_cases c42:a0_6>253402300799
            ·rw [if_pos c42] at H;have c42b0:decide (253402300799<a0_6)=true:=decide_eq_true c42;clear c42;obtain rfl:=Option.some.inj H;obtain ⟨hcz43_0,hcz43_1,hcz43_2,hcz43_3,hcz43_4,hcz43_5,hcz43_6,hcz43_7,hcz43_8,hcz43_9,hcz43_10⟩:=Bv BK292.out;have hfz43_0:=AX BK292.out;go_wp2;go_ret;exact ⟨xe,xb⟩
            ·rw [if_neg c42] at H;have c42b0:decide (253402300799<a0_6)=false:=decide_eq_false c42;clear c42;by_cases c44:a0_10>=0
             ·rw [if_pos c44] at H;have c44b0:decide (0<=a0_10)=true:=decide_eq_true c44;clear c44;obtain rfl:=Option.some.inj H;obtain ⟨hcz45_0,hcz45_1,hcz45_2,hcz45_3,hcz45_4,hcz45_5,hcz45_6,hcz45_7,hcz45_8,hcz45_9,hcz45_10⟩:=Bv BK292.out;have hfz45_0:=AX BK292.out;go_wp2;go_ret;exact ⟨xe,xb⟩
             ·rw [if_neg c44] at H;have c44b0:decide (0<=a0_10)=false:=decide_eq_false c44;clear c44;obtain rfl:=Option.some.inj H;obtain ⟨hcz46_0,hcz46_1,hcz46_2,hcz46_3,hcz46_4,hcz46_5,hcz46_6,hcz46_7,hcz46_8,hcz46_9,hcz46_10⟩:=Bv BK292.out;have hfz46_0:=AX BK292.out;go_wp2;go_ret;exact ⟨xe,xb⟩
end Go.Proofs.YtikggnalmidlhaaGreatDoor.Print
end
section
namespace Go.Proofs.YtikggnalmidlhaaGreatDoor.Print
open RowKit AR Aa Ad Range Shelf
set_option linter.unusedVariables false
set_option linter.unusedSimpArgs false
attribute [local go_sem] Oper.semAt_some
def TT (a c:ByteArray):Bool:=decide (c.size<=a.size)&&((a.extract 0 c.size).toList==c.toList)
theorem Sr (a c:ByteArray):strings_HasPrefix.f a c=some (TT a c):=by
 unfold strings_HasPrefix.f stringslite_HasPrefix.f TT;by_cases h:c.size<=a.size
 ·rw [if_pos (show (a.size:Int)>=(c.size:Int) by omega),if_pos (by omega),if_pos (by omega),Int.toNat_natCast,decide_eq_true h];rfl
 ·rw [if_neg (show ¬(a.size:Int)>=(c.size:Int) by omega),decide_eq_false h];rfl
def GU (s:ByteArray):Bool:=s.toList==[]||(s.toList[0]? ==some 35&& !TT s Fb)
def encS (s:ByteArray):Array Value:=#[.string s]
def EE (l:List ByteArray):List ByteArray:=l.filter λs=> !GU s
theorem L8 {s:ByteArray} (h:0<s.size):s.toList[0]? =some s[0]:=by
 rw [ByteArray.toList_eq,Array.getElem?_toList];exact Array.getElem?_eq_getElem h
theorem NF {s:ByteArray} (h:0<s.size) (g:(s.toList==([]:List UInt8))=false) (e:(s[0].toNat:Int)=35):GU s= !TT s Fb:=by
 unfold GU;rw [g,L8 h];have:s[0]=35:=UInt8.toNat_inj.1 (by show s[0].toNat=35;omega);rw [this];rfl
theorem NG {s:ByteArray} (h:0<s.size) (g:(s.toList==([]:List UInt8))=false) (e:¬(s[0].toNat:Int)=35):GU s=false:=by
 unfold GU;rw [g,L8 h];have:(some s[0]==some (35:UInt8))=false:=by
  rw [beq_eq_false_iff_ne];intro e2;rw [Option.some.inj e2] at e;exact e rfl
 rw [this];rfl
theorem KZ {l:List ByteArray} {i:Nat} {s:ByteArray} (h:l[i]? =some s) (hb:GU s=true):EE (l.take (i+1))=EE (l.take i):=by
 rw [List.take_add_one,h];unfold EE;rw [List.filter_append];simp [hb]
theorem IU {l:List ByteArray} {i:Nat} {s:ByteArray} (h:l[i]? =some s) (hb:GU s=false):EE (l.take (i+1))=EE (l.take i)++[s]:=by
 rw [List.take_add_one,h];unfold EE;rw [List.filter_append];simp [hb]
theorem JM {l:List ByteArray} {i:Nat} {s:ByteArray} (h:l[i]? =some s) (hb:GU s=false):(EE l)[(EE (l.take i)).length]? =some s:=by
 have e:l=l.take (i+1)++l.drop (i+1):=(List.take_append_drop _ _).symm;have e2:EE l=EE (l.take i)++([s]++EE (l.drop (i+1))):=by
  conv=>lhs;rw [e]
  unfold EE;rw [List.filter_append];have:=IU h hb;unfold EE at this;rw [this,List.append_assoc]
 rw [e2,List.getElem?_append_right (Nat.le_refl _),Nat.sub_self];rfl
set_option maxHeartbeats 4000000 in
set_option maxRecDepth 100000 in
theorem KF (A0:Option Addr) (c0:Nat) (l:List ByteArray) (b n₀:Nat) (w0 w:World) (n:Nat) (hr:Kd.string.C w0 A0 l.length l) (hcap:l.length<=c0) (hn:l.length<=1000000000) (hn0:n₀=w0.heap.size) (hb0:Below n₀ w0 w) (hc:w.heap[b]? =some (.cells #[.slice A0 l.length c0] 45 (0,0))):
 NM Tryz.prog n 52 #[.pointer (some ⟨b,0,none⟩)] ((EE l).map encS) b n₀ w:=by
 intro lp J Jx W hW hJ hJx hY h0;have hlen:((EE l).map encS).length=(EE l).length:=List.length_map ..;have hbw:b<w.heap.size:=(Array.getElem?_eq_some_iff.1 hc).1;have hcW:W.heap[b]? =some (.cells #[.slice A0 l.length c0] 45 (0,0)):=(hW.block b hbw).trans hc;have HB:Below n₀ w0 W:=hb0.trans (hW.mono (by rw [hn0];exact hb0.size));have hcb:W.cell? ⟨b,0,none⟩=some (.slice A0 l.length c0):=(AL hcW 0).trans rfl;have u2:=Tryz.underlying45;have u3:=Tryz.underlying9;refine callsIn_of_wp Tryz.func52 rfl trivial ?_ rfl;simp only [Tryz.ntmps52,List.size_toArray,List.length_cons,List.length_nil,Nat.reduceAdd,Nat.reduceSub,Array.replicate_succ,Array.replicate_zero,List.push_toArray,List.append_toArray,List.nil_append,List.cons_append]
 gi_wp2
 gi_loopw [8] (λv8 wr=>∃ i:Nat,v8= .int .i64 i/\i<=l.length/\J (EE (l.take i)).length wr/\Below n₀ w0 wr) (λv8 _=>l.length - (intOf v8).toNat)
 case atStart=>exact ⟨0,rfl,Nat.zero_le _,h0,HB⟩
 case round=>
  obtain ⟨i,rfl,hi,hJs,hB⟩:=hrel;by_cases hlt:i<l.length
  ·obtain ⟨ad,rfl,hx⟩:=Kd.DF (Kd.DW hr (by rw [<-hn0];exact hB)) (i:Int) (by omega) (by omega);have hrd:Cf ByteArray.empty l (i:Int)=l[i]:=by unfold Cf;rw [Int.toNat_natCast,List.getD_eq_getElem?_getD,List.getElem?_eq_getElem hlt];rfl
   rw [hrd,Int.toNat_natCast] at hx;have d1:decide ((i:Int)<(l.length:Int))=true:=decide_eq_true (by omega);have d2:decide (i<l.length)=true:=decide_eq_true hlt;have p1:=eq_true (show 0<=(i:Int) by omega);have p2:=eq_true (show (i:Int)<(l.length:Int) by omega);have hli:l[i]? =some l[i]:=List.getElem?_eq_getElem hlt;generalize l[i]=s at hx hli;by_cases he:s.toList=[]
   ·have g1:(s.toList==([]:List UInt8))=true:=beq_iff_eq.2 he;have g3:s.toList.isEmpty=true:=by rw [he];rfl
    have hno:GU s=true:=by unfold GU;rw [g1];rfl
    have HP:AA (∀ W,Calls Tryz.prog 53 #[.string s, .string Fb] W λe w'=>e= .returned (.bool (TT s Fb))/\Ap W w'):=⟨λW=>strings_HasPrefix.calls s Fb _ W (Sr _ _)⟩;clear he
    gi_wp2_with ((with_reducible apply And.intro);(focus first|exact trivial|exact λf h=>(by cases h)))
    all_goals try (refine absurd (show some undef=some (Value.bool _) by assumption) ?_;intro h_;cases h_;done)
    all_goals go_roundw
    case' rel=>exact ⟨i+1,by first|rfl|simp,by omega,by rw [KZ hli hno];exact hJs,hB⟩
    all_goals
     have e9:(intOf (.int .i64 ((i:Int)+1))).toNat=i+1:=by show ((i:Int)+1).toNat=i+1;omega
     have e10:(intOf (.int .i64 (i:Int))).toNat=i:=by show (i:Int).toNat=i;omega
     rw [e9,e10];omega
   ·have g1:(s.toList==([]:List UInt8))=false:=beq_eq_false_iff_ne.2 he;have g3:s.toList.isEmpty=false:=List.isEmpty_eq_false_iff.2 he;have hsz:0<s.size:=by
     rcases Nat.eq_zero_or_pos s.size with h|h
     ·exact absurd (by rw [ByteArray.toList_eq];exact List.eq_nil_of_length_eq_zero (by rw [Array.length_toList];exact h)) he
     ·exact h
    have p3:=eq_true hsz;have p4:=eq_true (show (0:Int)<(s.size:Int) by omega);by_cases hq:(s[0].toNat:Int)=35
    ·have HP:AA (∀ W,Calls Tryz.prog 53 #[.string s, .string Fb] W λe w'=>e= .returned (.bool (TT s Fb))/\Ap W w'):=⟨λW=>strings_HasPrefix.calls s Fb _ W (Sr _ _)⟩;have hno:=NF hsz g1 hq;generalize TT s Fb=p at HP hno;have hq2:((s[0].toNat:Int)==35)=true:=beq_iff_eq.2 hq
     gi_upto_region 4 with (first|refine ⟨trivial,λh=>(by simp [Fence.wide] at h),?_⟩;gi_at_call 53;refine (callsIn_wide.2 (HP.out _)).mono ?_;rintro e w' ⟨rfl,nd,rfl⟩)
     cases p
     case' true=>replace hno:GU s=false:=hno
     case' false=>replace hno:GU s=true:=hno
     all_goals
      obtain ⟨W1,hW1⟩:∃ W1,W1=wr.drewN nd:=⟨_,rfl⟩;rw [<-hW1];have hJ1:J (EE (l.take i)).length W1:=hJ _ wr W1 none hJs (by rw [hW1];exact ⟨rfl,rfl,rfl,Nat.le_refl _,λ_ _ _=>rfl⟩) (λr e=>by cases e);have hB1:Below n₀ w0 W1:=by rw [hW1];exact Bw hB nd
      clear hW1 hJs hB hx HP
     ·gi_wp2_with ((with_reducible apply And.intro);(focus first|exact trivial|exact λf h=>(by cases h)))
      go_roundw;case rel=>exact ⟨i+1,by simp;try go_num,by omega,by rw [KZ hli hno];exact hJ1,hB1⟩
      case measure=>
       show l.length - ((i:Int)+1).toNat<l.length - (i:Int).toNat;omega
     ·skip;obtain ⟨fn,tmps,assign,body,hy,hR⟩:=hY (EE (l.take i)).length #[.string s] W1 (by rw [List.getElem?_map,JM hli hno];rfl) hJ1
      gi_wp2
      refine ⟨λh=>by simp [Fence.wide] at h,hR.mono ?_⟩;rintro e W3 (⟨rfl,hJ3,hk3,hb3⟩|⟨rfl,hJx3⟩)
      ·gi_wp2
       go_roundw;case rel=>exact ⟨i+1,by go_num,by omega,by rw [IU hli hno,List.length_append];exact hJ3,hB1.trans hk3⟩
       case measure=>simp [intOf];omega
      ·gi_wp2
       refine bodyPost_ret (results_none rfl _ _ _) rfl ?_;exact ⟨⟨_,rfl⟩, .inr ⟨_,by rw [hlen];exact (List.getElem?_eq_some_iff.1 (JM hli hno)).1,hJx3⟩⟩
    ·have hno:=NG hsz g1 hq;have hq2:((s[0].toNat:Int)==35)=false:=beq_eq_false_iff_ne.2 hq
     gi_upto_region 4 with ((with_reducible apply And.intro);(focus exact trivial))
     obtain ⟨fn,tmps,assign,body,hy,hR⟩:=hY (EE (l.take i)).length #[.string s] wr (by rw [List.getElem?_map,JM hli hno];rfl) hJs
     gi_wp2
     refine ⟨λh=>by simp [Fence.wide] at h,hR.mono ?_⟩;rintro e W3 (⟨rfl,hJ3,hk3,hb3⟩|⟨rfl,hJx3⟩)
     ·gi_wp2
      go_roundw;case rel=>exact ⟨i+1,by go_num,by omega,by rw [IU hli hno,List.length_append];exact hJ3,hB.trans hk3⟩
      case measure=>simp [intOf];omega
     ·gi_wp2
      refine bodyPost_ret (results_none rfl _ _ _) rfl ?_;exact ⟨⟨_,rfl⟩, .inr ⟨_,by rw [hlen];exact (List.getElem?_eq_some_iff.1 (JM hli hno)).1,hJx3⟩⟩
  ·obtain rfl:i=l.length:=by omega
   have e1:decide ((l.length:Int)<(l.length:Int))=false:=decide_eq_false (by omega);have e1b:decide (l.length<l.length)=false:=decide_eq_false hlt;rw [List.take_length] at hJs
   gi_wp2
   go_end0;exact ⟨⟨_,rfl⟩, .inl (hlen▸hJs)⟩
set_option maxRecDepth 100000 in
theorem KG (A0:Option Addr) (n c0:Nat) (w:World):Calls Tryz.prog 28 #[.slice A0 n c0] w λe w'=>e= .returned (.func (.func 52) #[] #[.pointer (some ⟨w.heap.size,0,none⟩)])/\w'=w.alloc (.cells #[.slice A0 n c0] 45):=by
 have u1:=Tryz.underlying45;go_enter Tryz.func28,Tryz.ntmps28;go_wp2;go_ret;exact ⟨rfl,rfl⟩
section
variable {F:Fence} {n:Nat} {P:Program} {ops:Array Oper} {rest:List Oper} {o:Oper} {a:Act} {w:World} {Q:Exit->Act->World->Prop}
theorem L9 {ty:TypeId} {x:Operand} (_:o.op= .load ty x) (h:wpListIn F n P ops Q (o::rest) a w):wpListIn F n P ops Q (o::rest) a w:=h
theorem GH {ty:TypeId} {x y:Operand} (_:o.op= .store ty x y) (h:wpListIn F n P ops Q (o::rest) a w):wpListIn F n P ops Q (o::rest) a w:=h
theorem NH (ty:TypeId) (x:Operand) (hgd:o.guard=none) (ho:o.op= .load ty x) (g:Nat) (hx:a.eval x= .pointer (some ⟨g,0,none⟩)) (t:TypeId) (cs:Array Value) (fr:Nat×Nat) (d:TypeDesc) (hg:w.heap[g]? =some (.cells cs t fr))
 (hu:P.underlying ty=some d) (hd:(match d with| .struct _| .array _ _=>true|_=>false)=true) (hi:(P.info? ty).map (·.size)=some cs.size)
 (h:wpListIn F n P ops Q rest (a.put o.dst (.agg cs)) w):wpListIn F n P ops Q (o::rest) a w:=by
 refine wpListIn_plain hgd λK hK=>?_
 unfold Oper.wpIn;refine ⟨by simp [Oper.about,ho],?_⟩;rw [Oper.semAt_plain F _ _ (by rw [ho];intro c hc';cases hc')];unfold execOp;simp only [ho,hx,Instr.loadAt,Instr.sureAddr,Sem.run_bind,Sem.run_pure,Result.andThen_ok,run_loadVar_row w g t ty cs fr d hg hu hd hi];exact hK _ _ h
theorem Iu (ty:TypeId) (x y:Operand) (hgd:o.guard=none) (ho:o.op= .store ty x y) (g:Nat) (cells:Array Value) (hx:a.eval x= .pointer (some ⟨g,0,none⟩)) (hy:a.eval y= .agg cells)
 (t:TypeId) (old:Array Value) (hg:w.heap[g]? =some (.cells old t (0,0))) (hi:(P.info? ty).map (·.size)=some cells.size) (hold:old.size=cells.size) (h1:cells.all (·.oneCell')=true)
 (h:wpListIn F n P ops Q rest (a.put o.dst undef) (w.setRow g cells)):wpListIn F n P ops Q (o::rest) a w:=by
 refine wpListIn_plain hgd λK hK=>?_
 unfold Oper.wpIn;refine ⟨by simp [Oper.about,ho],?_⟩;rw [Oper.semAt_plain F _ _ (by rw [ho];intro c hc';cases hc')];unfold execOp;simp only [ho,hx,hy,Instr.storeAt,Instr.sureAddr,Sem.run_bind,Sem.run_pure,Result.andThen_ok,run_storeVar_row w g t ty old cells hg hi hold h1];exact hK _ _ h
end
end Go.Proofs.YtikggnalmidlhaaGreatDoor.Print
end
