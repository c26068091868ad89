/- Printed by a program of this claim's session (xprint.py): the machine's side: each Go function as a Lean function, and that a call of it comes to what that tells; the row of a statement. No condition. -/
import Derived.Test.YtfggjdkccdkogaaGreatDoorPrint7
namespace Go.Proofs.YtfggjdkccdkogaaGreatDoor.Print
open RowKit Ac Aq Aw
attribute [local go_sem] DC DD DX DY Co Cq DI DJ
set_option linter.unusedVariables false
set_option linter.unusedSimpArgs false
def Gi.f (a0:ByteArray):Option (Bool):=if (a0.size:Int)>=1 then (if (a0.size:Int)<=64 then (if 0<(a0.size:Int) then (if (bt a0 0)=47 then ((Fu.f a0).bind λt167=>(some t167)) else (some false)) else (none)) else (some false)) else (some false)
set_option maxHeartbeats 8000000 in
set_option maxRecDepth 100000 in
theorem Gi.calls (a0:ByteArray) (r:Bool) (w:World) (h:Gi.f a0=some r):
 Calls Tryz.prog 78 #[.string a0] w λe w'=>e= .returned (.bool r)/\BP w w':=by
 have H:(if (a0.size:Int)>=1 then (if (a0.size:Int)<=64 then (if 0<(a0.size:Int) then (if (bt a0 0)=47 then ((Fu.f a0).bind λt167=>(some t167)) else (some false)) else (none)) else (some false)) else (some false))=some r:=h;clear h;by_cases c2:(a0.size:Int)>=1
 ·rw [if_pos c2] at H;have c2b0:decide (1<=(a0.size:Int))=true:=decide_eq_true c2;have c2b1:decide (1<=a0.size)=true:=decide_eq_true (by omega);clear c2;by_cases c3:(a0.size:Int)<=64
  ·rw [if_pos c3] at H;have c3b0:decide ((a0.size:Int)<=64)=true:=decide_eq_true c3;have c3b1:decide (a0.size<=64)=true:=decide_eq_true (by omega);clear c3;by_cases c4:0<(a0.size:Int)
   ·rw [if_pos c4] at H;have c4b0:decide (0<(a0.size:Int))=true:=decide_eq_true c4;have c4b1:decide (0<a0.size)=true:=decide_eq_true (by omega);clear c4;by_cases c6:(bt a0 0)=47
    ·rw [if_pos c6] at H;have c6b0:((bt a0 0)==47)=true:=beq_iff_eq.mpr c6;have c6b1:((bt a0 0) != 47)=false:=bne_eq_false_iff_eq.mpr c6;clear c6;replace H:=Option.bind_eq_some_iff.mp H;obtain ⟨t167,A70,H⟩:=H;replace H:(some t167)=some r:=H;have A7:=AA.mk A70;clear A70;obtain rfl:=Option.some.inj H;have p5:0<=(0:Int):=(by omega);have q5:0<a0.size:=(by have:(0:Int)<(a0.size:Int):=xa;omega);have hx5:∀ h:0<a0.size,((a0[0]'h).toNat:Int)=bt a0 0:=CV a0 0;clear p5;have qi5:(0<(a0.size:Int))=True:=eq_true (xa);replace q5:=eq_true q5;go_enter Tryz.func78,Tryz.ntmps78;go_wp2_with (first|(go_at_call 103;(with_reducible refine (Fu.calls a0 t167 _ A7.out).mono ?_);rintro e w' ⟨rfl,⟨nd,rfl⟩⟩));go_ret;exact ⟨xq,xd⟩
    ·rw [if_neg c6] at H;have c6b0:((bt a0 0)==47)=false:=beq_eq_false_iff_ne.mpr c6;have c6b1:((bt a0 0) != 47)=true:=bne_iff_ne.mpr c6;obtain rfl:=Option.some.inj H;have p5:0<=(0:Int):=(by omega);have q5:0<a0.size:=(by have:(0:Int)<(a0.size:Int):=xa;omega);have hx5:∀ h:0<a0.size,((a0[0]'h).toNat:Int)=bt a0 0:=CV a0 0;clear p5;have qi5:(0<(a0.size:Int))=True:=eq_true (xa);replace q5:=eq_true q5;go_enter Tryz.func78,Tryz.ntmps78;go_wp2;go_ret;exact ⟨xq,xd⟩
   ·rw [if_neg c4] at H;exact absurd H (by simp)
  ·rw [if_neg c3] at H;have c3b0:decide ((a0.size:Int)<=64)=false:=decide_eq_false c3;have c3b1:decide (a0.size<=64)=false:=decide_eq_false (by omega);clear c3;obtain rfl:=Option.some.inj H;go_enter Tryz.func78,Tryz.ntmps78;go_wp2;go_ret;exact ⟨xq,xd⟩
 ·rw [if_neg c2] at H;have c2b0:decide (1<=(a0.size:Int))=false:=decide_eq_false c2;have c2b1:decide (1<=a0.size)=false:=decide_eq_false (by omega);clear c2;obtain rfl:=Option.some.inj H;go_enter Tryz.func78,Tryz.ntmps78;go_wp2;go_ret;exact ⟨xq,xd⟩
mutual
def Aj.j0:Nat->Bool->ByteArray->ByteArray->ByteArray->ByteArray->Int->Int->Int->Bool->Bool->Bool->Int->Option (Bool)
 |0,_,_,_,_,_,_,_,_,_,_,_,_=>none
 |k+1,x11,x169000,x169001,x169002,x169003,x169004,x169005,x169006,x169007,x169008,x169009,x169010=>if x11=true then (some false) else ((Gi.f x169001).bind λt172=>(if t172=true then ((Es.f x169002).bind λt173=>(if t173=true then (Aj.j1 k (decide ((x169002.size:Int)>64)) x169000 x169001 x169002 x169003 x169004 x169005 x169006 x169007 x169008 x169009 x169010) else (Aj.j1 k (!t173) x169000 x169001 x169002 x169003 x169004 x169005 x169006 x169007 x169008 x169009 x169010))) else (Aj.j1 k (!t172) x169000 x169001 x169002 x169003 x169004 x169005 x169006 x169007 x169008 x169009 x169010)))
def Aj.j1:Nat->Bool->ByteArray->ByteArray->ByteArray->ByteArray->Int->Int->Int->Bool->Bool->Bool->Int->Option (Bool)
 |0,_,_,_,_,_,_,_,_,_,_,_,_=>none
 |k+1,x25,x169000,x169001,x169002,x169003,x169004,x169005,x169006,x169007,x169008,x169009,x169010=>if x25=true then (some false) else ((EW.f x169003).bind λt174=>(if t174=true then (if (x169003.size:Int)>128 then (some false) else ((Er.f 253402300799 x169004 x169005 x169006).bind λt175=>(if t175=true then (if x169010>=0 then (some (decide (x169010<=3))) else (some false)) else (some false)))) else (some false)))
end
def Aj.f (k:Nat) (a0_0:ByteArray) (a0_1:ByteArray) (a0_2:ByteArray) (a0_3:ByteArray) (a0_4:Int) (a0_5:Int) (a0_6:Int) (a0_7:Bool) (a0_8:Bool) (a0_9:Bool) (a0_10:Int):Option (Bool):=(EO.f k a0_0).bind λbt169=>(if bt169.2=true then (if bt169.1.toList=a0_0.toList then ((Dn.f k bt169.1).bind λt171=>(if t171=true then (Aj.j0 k (!a0_7) a0_0 a0_1 a0_2 a0_3 a0_4 a0_5 a0_6 a0_7 a0_8 a0_9 a0_10) else (Aj.j0 k false a0_0 a0_1 a0_2 a0_3 a0_4 a0_5 a0_6 a0_7 a0_8 a0_9 a0_10))) else (Aj.j0 k (bt169.1.toList != a0_0.toList) a0_0 a0_1 a0_2 a0_3 a0_4 a0_5 a0_6 a0_7 a0_8 a0_9 a0_10)) else (Aj.j0 k (!bt169.2) a0_0 a0_1 a0_2 a0_3 a0_4 a0_5 a0_6 a0_7 a0_8 a0_9 a0_10))
theorem Aj.Et:∀ k,(∀ y0 y1 y2 y3 y4 y5 y6 y7 y8 y9 y10 y11,CZ (Aj.j0 k y0 y1 y2 y3 y4 y5 y6 y7 y8 y9 y10 y11) (Aj.j0 (k+1) y0 y1 y2 y3 y4 y5 y6 y7 y8 y9 y10 y11))/\(∀ y0 y1 y2 y3 y4 y5 y6 y7 y8 y9 y10 y11,CZ (Aj.j1 k y0 y1 y2 y3 y4 y5 y6 y7 y8 y9 y10 y11) (Aj.j1 (k+1) y0 y1 y2 y3 y4 y5 y6 y7 y8 y9 y10 y11))
 |0=>⟨λ_ _ _ _ _ _ _ _ _ _ _ _ r h=>by simp [Aj.j0] at h,λ_ _ _ _ _ _ _ _ _ _ _ _ r h=>by simp [Aj.j1] at h⟩
 |k+1=>by
  obtain ⟨ih0,ih1⟩:=Aj.Et k;refine ⟨?_,?_⟩
  ·intro y0 y1 y2 y3 y4 y5 y6 y7 y8 y9 y10 y11;unfold Aj.j0
   repeat' first|(with_reducible first|exact ih0 _ _ _ _ _ _ _ _ _ _ _ _|exact ih1 _ _ _ _ _ _ _ _ _ _ _ _|exact EO.mono _ _|exact Dn.mono _ _|exact CZ.refl _|exact CZ.none _|refine CZ.ite ?_ ?_|refine CZ.bind ?_ (λ_=>?_))|exact ih0 _ _ _ _ _ _ _ _ _ _ _ _|exact ih1 _ _ _ _ _ _ _ _ _ _ _ _|exact EO.mono _ _|exact Dn.mono _ _|exact CZ.none _|refine CZ.ite ?_ ?_|refine CZ.bind ?_ (λ_=>?_)
  ·intro y0 y1 y2 y3 y4 y5 y6 y7 y8 y9 y10 y11;unfold Aj.j1
   repeat' first|(with_reducible first|exact ih0 _ _ _ _ _ _ _ _ _ _ _ _|exact ih1 _ _ _ _ _ _ _ _ _ _ _ _|exact EO.mono _ _|exact Dn.mono _ _|exact CZ.refl _|exact CZ.none _|refine CZ.ite ?_ ?_|refine CZ.bind ?_ (λ_=>?_))|exact ih0 _ _ _ _ _ _ _ _ _ _ _ _|exact ih1 _ _ _ _ _ _ _ _ _ _ _ _|exact EO.mono _ _|exact Dn.mono _ _|exact CZ.none _|refine CZ.ite ?_ ?_|refine CZ.bind ?_ (λ_=>?_)
theorem Aj.mono:∀ a0 a1 a2 a3 a4 a5 a6 a7 a8 a9 a10 k,CZ (Aj.f k a0 a1 a2 a3 a4 a5 a6 a7 a8 a9 a10) (Aj.f (k+1) a0 a1 a2 a3 a4 a5 a6 a7 a8 a9 a10):=by
 intro a0 a1 a2 a3 a4 a5 a6 a7 a8 a9 a10 k;obtain ⟨ih0,ih1⟩:=Aj.Et k;unfold Aj.f
 repeat' first|(with_reducible first|exact ih0 _ _ _ _ _ _ _ _ _ _ _ _|exact ih1 _ _ _ _ _ _ _ _ _ _ _ _|exact EO.mono _ _|exact Dn.mono _ _|exact CZ.refl _|exact CZ.none _|refine CZ.ite ?_ ?_|refine CZ.bind ?_ (λ_=>?_))|exact ih0 _ _ _ _ _ _ _ _ _ _ _ _|exact ih1 _ _ _ _ _ _ _ _ _ _ _ _|exact EO.mono _ _|exact Dn.mono _ _|exact CZ.none _|refine CZ.ite ?_ ?_|refine CZ.bind ?_ (λ_=>?_)
set_option maxHeartbeats 8000000 in
set_option maxRecDepth 100000 in
theorem Aj.calls (k:Nat) (a0_0:ByteArray) (a0_1:ByteArray) (a0_2:ByteArray) (a0_3:ByteArray) (a0_4:Int) (a0_5:Int) (a0_6:Int) (a0_7:Bool) (a0_8:Bool) (a0_9:Bool) (a0_10:Int) (r:Bool) (w:World) (hG:AA (D8 w)) (h:Aj.f k a0_0 a0_1 a0_2 a0_3 a0_4 a0_5 a0_6 a0_7 a0_8 a0_9 a0_10=some r):
 Calls Tryz.prog 51 #[.agg #[.string a0_0, .string a0_1, .string a0_2, .string a0_3, .int .i64 a0_4, .int .i64 a0_5, .int .i64 a0_6, .bool a0_7, .bool a0_8, .bool a0_9, .int .i64 a0_10]] w λe w'=>e= .returned (.bool r)/\Below w.heap.size w w':=by
 have hu25:=Tryz.underlying25;have hu124:=Tryz.underlying124;have HB:=AA.mk (Below.refl w.heap.size w);have H:((EO.f k a0_0).bind λbt169=>(if bt169.2=true then (if bt169.1.toList=a0_0.toList then ((Dn.f k bt169.1).bind λt171=>(if t171=true then (Aj.j0 k (!a0_7) a0_0 a0_1 a0_2 a0_3 a0_4 a0_5 a0_6 a0_7 a0_8 a0_9 a0_10) else (Aj.j0 k false a0_0 a0_1 a0_2 a0_3 a0_4 a0_5 a0_6 a0_7 a0_8 a0_9 a0_10))) else (Aj.j0 k (bt169.1.toList != a0_0.toList) a0_0 a0_1 a0_2 a0_3 a0_4 a0_5 a0_6 a0_7 a0_8 a0_9 a0_10)) else (Aj.j0 k (!bt169.2) a0_0 a0_1 a0_2 a0_3 a0_4 a0_5 a0_6 a0_7 a0_8 a0_9 a0_10)))=some r:=h;clear h;replace H:=Option.bind_eq_some_iff.mp H;obtain ⟨⟨t169,t170⟩,A20,H⟩:=H;try dsimp only at H
 have A2:=AA.mk A20;clear A20;have HC3:=AA.mk H;clear H;go_enter Tryz.func51,Tryz.ntmps51;go_upto_if 11 with (first|(refine Dp (N:=1) (cs:=#[.string a0_0, .string a0_1, .string a0_2, .string a0_3, .int .i64 a0_4, .int .i64 a0_5, .int .i64 a0_6, .bool a0_7, .bool a0_8, .bool a0_9, .int .i64 a0_10]) (t:=25) (λgb168 hg w4 hbox hb=>?_);have BK168:=AA.mk (hbox);have GW168:AA (w.heap.size<=gb168):=Dq hg xb;have GE168:AA (w.heap.size<=gb168):=Dq hg xb;replace HB:=AA.mk (AO xb hb);clear hb hbox hg;obtain ⟨hcz5_0,hcz5_1,hcz5_2,hcz5_3,hcz5_4,hcz5_5,hcz5_6,hcz5_7,hcz5_8,hcz5_9,hcz5_10⟩:=BK BK168.out;have hfz5_0:=AP BK168.out)|((with_reducible refine AQ (f:=76) rfl ?_);refine Ag (some 8) rfl rfl Tryz.func76 (by kernel_rfl) rfl #[.string a0_0] rfl xg ?_;(with_reducible refine (EO.calls k a0_0 t169 t170 _ xl A2.out).mono ?_);rintro e w6 ⟨rfl,hb⟩;refine ⟨_,rfl,?_⟩;replace BK168:=bL BK168 hb;replace HB:=AA.mk (AO xb hb);(try clear hb)))
 (try simp only [Act.put,List.setIfInBounds_toArray,List.set_cons_zero,List.set_cons_succ]);go_cut [11] (λv11 wc=>∃ (kq:Nat) (x11_2:Bool),v11= .bool x11_2/\AA (Aj.j0 kq x11_2 a0_0 a0_1 a0_2 a0_3 a0_4 a0_5 a0_6 a0_7 a0_8 a0_9 a0_10=some r)/\AA (kq<=k)/\AA (wc.heap[gb168]? =some (.cells #[.string a0_0, .string a0_1, .string a0_2, .string a0_3, .int .i64 a0_4, .int .i64 a0_5, .int .i64 a0_6, .bool a0_7, .bool a0_8, .bool a0_9, .int .i64 a0_10] 25 (0,0)))/\AA (Below w.heap.size w wc));case first=>
  have H:=HC3.out;clear HC3;by_cases c7:t170=true
  ·subst c7;have H1:(if t169.toList=a0_0.toList then ((Dn.f k t169).bind λt171=>(if t171=true then (Aj.j0 k (!a0_7) a0_0 a0_1 a0_2 a0_3 a0_4 a0_5 a0_6 a0_7 a0_8 a0_9 a0_10) else (Aj.j0 k false a0_0 a0_1 a0_2 a0_3 a0_4 a0_5 a0_6 a0_7 a0_8 a0_9 a0_10))) else (Aj.j0 k (t169.toList != a0_0.toList) a0_0 a0_1 a0_2 a0_3 a0_4 a0_5 a0_6 a0_7 a0_8 a0_9 a0_10))=some r:=by rw [if_pos rfl] at H;exact H
   clear H;have H:=H1;clear H1;by_cases c8:t169.toList=a0_0.toList
   ·rw [if_pos c8] at H;have c8b0:(t169.toList==a0_0.toList)=true:=beq_iff_eq.mpr c8;have c8b1:(t169.toList != a0_0.toList)=false:=bne_eq_false_iff_eq.mpr c8;clear c8;(first|rw [c8b0]|(simp only [CE,CU];rw [c8b0])|skip);replace H:=Option.bind_eq_some_iff.mp H;obtain ⟨t171,A90,H⟩:=H;replace H:(if t171=true then (Aj.j0 k (!a0_7) a0_0 a0_1 a0_2 a0_3 a0_4 a0_5 a0_6 a0_7 a0_8 a0_9 a0_10) else (Aj.j0 k false a0_0 a0_1 a0_2 a0_3 a0_4 a0_5 a0_6 a0_7 a0_8 a0_9 a0_10))=some r:=H;have A9:=AA.mk A90;clear A90;by_cases c10:t171=true
    ·subst c10;rw [if_pos rfl] at H;have H':=AA.mk H;clear H;obtain ⟨hcz11_0,hcz11_1,hcz11_2,hcz11_3,hcz11_4,hcz11_5,hcz11_6,hcz11_7,hcz11_8,hcz11_9,hcz11_10⟩:=BK BK168.out;have hfz11_0:=AP BK168.out;go_wp2_with (first|((with_reducible refine AQ (f:=77) rfl ?_);refine Ag (some 19) rfl rfl Tryz.func77 (by kernel_rfl) rfl #[.string t169] rfl xg ?_;(with_reducible refine (Dn.calls k t169 true _ xl A9.out).mono ?_);rintro e w12 ⟨rfl,hb⟩;refine ⟨_,rfl,?_⟩;replace BK168:=bL BK168 hb;replace HB:=AA.mk (AO xb hb);(try clear hb);obtain ⟨hcz13_0,hcz13_1,hcz13_2,hcz13_3,hcz13_4,hcz13_5,hcz13_6,hcz13_7,hcz13_8,hcz13_9,hcz13_10⟩:=BK BK168.out;have hfz13_0:=AP BK168.out));go_meet;case rel=>exact ⟨_,(!a0_7),xq,H',⟨by first|omega|exact Nat.le_refl _⟩,⟨xk⟩,⟨xb⟩⟩
    ·replace c10:=Bool.eq_false_iff.mpr c10;subst c10;have H1:(Aj.j0 k false a0_0 a0_1 a0_2 a0_3 a0_4 a0_5 a0_6 a0_7 a0_8 a0_9 a0_10)=some r:=by rw [if_neg (show ¬(false=true) by decide)] at H;exact H
     clear H;have H:=H1;clear H1;have H':=AA.mk H;clear H;obtain ⟨hcz14_0,hcz14_1,hcz14_2,hcz14_3,hcz14_4,hcz14_5,hcz14_6,hcz14_7,hcz14_8,hcz14_9,hcz14_10⟩:=BK BK168.out;have hfz14_0:=AP BK168.out;go_wp2_with (first|((with_reducible refine AQ (f:=77) rfl ?_);refine Ag (some 19) rfl rfl Tryz.func77 (by kernel_rfl) rfl #[.string t169] rfl xg ?_;(with_reducible refine (Dn.calls k t169 false _ xl A9.out).mono ?_);rintro e w15 ⟨rfl,hb⟩;refine ⟨_,rfl,?_⟩;replace BK168:=bL BK168 hb;replace HB:=AA.mk (AO xb hb);(try clear hb)));go_meet;case rel=>exact ⟨_,(false),xq,H',⟨by first|omega|exact Nat.le_refl _⟩,⟨xk⟩,⟨xb⟩⟩
   ·rw [if_neg c8] at H;have c8b0:(t169.toList==a0_0.toList)=false:=beq_eq_false_iff_ne.mpr c8;have c8b1:(t169.toList != a0_0.toList)=true:=bne_iff_ne.mpr c8;(first|rw [c8b0]|(simp only [CE,CU];rw [c8b0])|skip);have H':=AA.mk H;clear H;obtain ⟨hcz16_0,hcz16_1,hcz16_2,hcz16_3,hcz16_4,hcz16_5,hcz16_6,hcz16_7,hcz16_8,hcz16_9,hcz16_10⟩:=BK BK168.out;have hfz16_0:=AP BK168.out;go_wp2;go_meet;case rel=>exact ⟨_,((t169.toList != a0_0.toList)),xq,H',⟨by first|omega|exact Nat.le_refl _⟩,⟨xk⟩,⟨xb⟩⟩
  ·replace c7:=Bool.eq_false_iff.mpr c7;subst c7;have H1:(Aj.j0 k (!false) a0_0 a0_1 a0_2 a0_3 a0_4 a0_5 a0_6 a0_7 a0_8 a0_9 a0_10)=some r:=by rw [if_neg (show ¬(false=true) by decide)] at H;exact H
   clear H;have H:=H1;clear H1;have H':=AA.mk H;clear H;go_wp2;go_meet;case rel=>exact ⟨_,(!false),xq,H',⟨by first|omega|exact Nat.le_refl _⟩,⟨xk⟩,⟨xb⟩⟩
 case rest=>
  clear HC3;try clear c1
  try clear p2
  try clear p3
  try clear c5
  try clear p6
  try clear c7
  try clear c8
  try clear c8b0
  try clear c8b1
  try clear c10
  try clear hcz11_0
  try clear hcz11_1
  try clear hcz11_10
  try clear hcz11_2
  try clear hcz11_3
  try clear hcz11_4
  try clear hcz11_5
  try clear hcz11_6
  try clear hcz11_7
  try clear hcz11_8
  try clear hcz11_9
  try clear hcz13_0
  try clear hcz13_1
  try clear hcz13_10
  try clear hcz13_2
  try clear hcz13_3
  try clear hcz13_4
  try clear hcz13_5
  try clear hcz13_6
  try clear hcz13_7
  try clear hcz13_8
  try clear hcz13_9
  try clear hcz14_0
  try clear hcz14_1
  try clear hcz14_10
  try clear hcz14_2
  try clear hcz14_3
  try clear hcz14_4
  try clear hcz14_5
  try clear hcz14_6
  try clear hcz14_7
  try clear hcz14_8
  try clear hcz14_9
  try clear hcz16_0
  try clear hcz16_1
  try clear hcz16_10
  try clear hcz16_2
  try clear hcz16_3
  try clear hcz16_4
  try clear hcz16_5
  try clear hcz16_6
  try clear hcz16_7
  try clear hcz16_8
  try clear hcz16_9
  try clear hcz5_0
  try clear hcz5_1
  try clear hcz5_10
  try clear hcz5_2
  try clear hcz5_3
  try clear hcz5_4
  try clear hcz5_5
  try clear hcz5_6
  try clear hcz5_7
  try clear hcz5_8
  try clear hcz5_9
  try clear hfz11_0
  try clear hfz13_0
  try clear hfz14_0
  try clear hfz16_0
  try clear hfz5_0
  obtain ⟨kq,x11_2,rfl,HA,HJ2,BK168,HB⟩:=hcut;cases kq with
  |zero=>exact absurd HA.out (by simp [Aj.j0])
  |succ kj2=>
   have H:=HA.out;clear HA;simp only [Aj.j0] at H;by_cases c17:x11_2=true
   ·subst c17;have H1:(some false)=some r:=by rw [if_pos rfl] at H;exact H
    clear H;have H:=H1;clear H1;obtain rfl:=Option.some.inj H;go_wp2;go_ret;exact ⟨xe,xb⟩
   ·replace c17:=Bool.eq_false_iff.mpr c17;subst c17;have H1:((Gi.f a0_1).bind λt172=>(if t172=true then ((Es.f a0_2).bind λt173=>(if t173=true then (Aj.j1 kj2 (decide ((a0_2.size:Int)>64)) a0_0 a0_1 a0_2 a0_3 a0_4 a0_5 a0_6 a0_7 a0_8 a0_9 a0_10) else (Aj.j1 kj2 (!t173) a0_0 a0_1 a0_2 a0_3 a0_4 a0_5 a0_6 a0_7 a0_8 a0_9 a0_10))) else (Aj.j1 kj2 (!t172) a0_0 a0_1 a0_2 a0_3 a0_4 a0_5 a0_6 a0_7 a0_8 a0_9 a0_10)))=some r:=by rw [if_neg (show ¬(false=true) by decide)] at H;exact H
    clear H;have H:=H1;clear H1;replace H:=Option.bind_eq_some_iff.mp H;obtain ⟨t172,A180,H⟩:=H;replace H:(if t172=true then ((Es.f a0_2).bind λt173=>(if t173=true then (Aj.j1 kj2 (decide ((a0_2.size:Int)>64)) a0_0 a0_1 a0_2 a0_3 a0_4 a0_5 a0_6 a0_7 a0_8 a0_9 a0_10) else (Aj.j1 kj2 (!t173) a0_0 a0_1 a0_2 a0_3 a0_4 a0_5 a0_6 a0_7 a0_8 a0_9 a0_10))) else (Aj.j1 kj2 (!t172) a0_0 a0_1 a0_2 a0_3 a0_4 a0_5 a0_6 a0_7 a0_8 a0_9 a0_10))=some r:=H;have A18:=AA.mk A180;clear A180;have HC19:=AA.mk H;clear H;obtain ⟨hcz20_0,hcz20_1,hcz20_2,hcz20_3,hcz20_4,hcz20_5,hcz20_6,hcz20_7,hcz20_8,hcz20_9,hcz20_10⟩:=BK BK168.out;have hfz20_0:=AP BK168.out;go_upto_if 25 with (first|((with_reducible refine AQ (f:=78) rfl ?_);refine Ag (some 28) rfl rfl Tryz.func78 (by kernel_rfl) rfl #[.string a0_1] rfl xg ?_;(with_reducible refine (Gi.calls a0_1 t172 _ A18.out).mono ?_);rintro e w' ⟨rfl,⟨nd,rfl⟩⟩;refine ⟨_,rfl,?_⟩))
    (try simp only [Act.put,List.setIfInBounds_toArray,List.set_cons_zero,List.set_cons_succ]);go_cut [25] (λv25 wc=>∃ (kq:Nat) (x25_18:Bool),v25= .bool x25_18/\AA (Aj.j1 kq x25_18 a0_0 a0_1 a0_2 a0_3 a0_4 a0_5 a0_6 a0_7 a0_8 a0_9 a0_10=some r)/\AA (kq<=kj2)/\AA (wc.heap[gb168]? =some (.cells #[.string a0_0, .string a0_1, .string a0_2, .string a0_3, .int .i64 a0_4, .int .i64 a0_5, .int .i64 a0_6, .bool a0_7, .bool a0_8, .bool a0_9, .int .i64 a0_10] 25 (0,0)))/\AA (Below w.heap.size w wc));case first=>
     have H:=HC19.out;clear HC19;by_cases c21:t172=true
     ·subst c21;have H1:((Es.f a0_2).bind λt173=>(if t173=true then (Aj.j1 kj2 (decide ((a0_2.size:Int)>64)) a0_0 a0_1 a0_2 a0_3 a0_4 a0_5 a0_6 a0_7 a0_8 a0_9 a0_10) else (Aj.j1 kj2 (!t173) a0_0 a0_1 a0_2 a0_3 a0_4 a0_5 a0_6 a0_7 a0_8 a0_9 a0_10)))=some r:=by rw [if_pos rfl] at H;exact H
      clear H;have H:=H1;clear H1;replace H:=Option.bind_eq_some_iff.mp H;obtain ⟨t173,A220,H⟩:=H;replace H:(if t173=true then (Aj.j1 kj2 (decide ((a0_2.size:Int)>64)) a0_0 a0_1 a0_2 a0_3 a0_4 a0_5 a0_6 a0_7 a0_8 a0_9 a0_10) else (Aj.j1 kj2 (!t173) a0_0 a0_1 a0_2 a0_3 a0_4 a0_5 a0_6 a0_7 a0_8 a0_9 a0_10))=some r:=H;have A22:=AA.mk A220;clear A220;by_cases c23:t173=true
      ·subst c23;rw [if_pos rfl] at H;have H':=AA.mk H;clear H;obtain ⟨hcz24_0,hcz24_1,hcz24_2,hcz24_3,hcz24_4,hcz24_5,hcz24_6,hcz24_7,hcz24_8,hcz24_9,hcz24_10⟩:=BK BK168.out;have hfz24_0:=AP BK168.out;go_wp2_with (first|((with_reducible refine AQ (f:=79) rfl ?_);refine Ag (some 32) rfl rfl Tryz.func79 (by kernel_rfl) rfl #[.string a0_2] rfl xg ?_;(with_reducible refine (Es.calls a0_2 true _ A22.out).mono ?_);rintro e w' ⟨rfl,⟨nd,rfl⟩⟩;refine ⟨_,rfl,?_⟩));go_meet;case rel=>exact ⟨_,(decide ((a0_2.size:Int)>64)),xq,H',⟨by have:=HJ2.out;first|omega|exact Nat.le_refl _⟩,⟨xk⟩,⟨xb⟩⟩
      ·replace c23:=Bool.eq_false_iff.mpr c23;subst c23;have H1:(Aj.j1 kj2 (!false) a0_0 a0_1 a0_2 a0_3 a0_4 a0_5 a0_6 a0_7 a0_8 a0_9 a0_10)=some r:=by rw [if_neg (show ¬(false=true) by decide)] at H;exact H
       clear H;have H:=H1;clear H1;have H':=AA.mk H;clear H;obtain ⟨hcz25_0,hcz25_1,hcz25_2,hcz25_3,hcz25_4,hcz25_5,hcz25_6,hcz25_7,hcz25_8,hcz25_9,hcz25_10⟩:=BK BK168.out;have hfz25_0:=AP BK168.out;go_wp2_with (first|((with_reducible refine AQ (f:=79) rfl ?_);refine Ag (some 32) rfl rfl Tryz.func79 (by kernel_rfl) rfl #[.string a0_2] rfl xg ?_;(with_reducible refine (Es.calls a0_2 false _ A22.out).mono ?_);rintro e w' ⟨rfl,⟨nd,rfl⟩⟩;refine ⟨_,rfl,?_⟩));go_meet;case rel=>exact ⟨_,(!false),xq,H',⟨by have:=HJ2.out;first|omega|exact Nat.le_refl _⟩,⟨xk⟩,⟨xb⟩⟩
     ·replace c21:=Bool.eq_false_iff.mpr c21;subst c21;have H1:(Aj.j1 kj2 (!false) a0_0 a0_1 a0_2 a0_3 a0_4 a0_5 a0_6 a0_7 a0_8 a0_9 a0_10)=some r:=by rw [if_neg (show ¬(false=true) by decide)] at H;exact H
      clear H;have H:=H1;clear H1;have H':=AA.mk H;clear H;go_wp2;go_meet;case rel=>exact ⟨_,(!false),xq,H',⟨by have:=HJ2.out;first|omega|exact Nat.le_refl _⟩,⟨xk⟩,⟨xb⟩⟩
    case rest=>
     clear HC19;try clear c1
     try clear c2
     try clear p2
     try clear p3
     try clear c5
     try clear p6
     try clear c7
     try clear c8
     try clear c8b0
     try clear c8b1
     try clear c10
     try clear c17
     try clear c21
     try clear c23
     try clear hcz11_0
     try clear hcz11_1
     try clear hcz11_10
     try clear hcz11_2
     try clear hcz11_3
     try clear hcz11_4
     try clear hcz11_5
     try clear hcz11_6
     try clear hcz11_7
     try clear hcz11_8
     try clear hcz11_9
     try clear hcz13_0
     try clear hcz13_1
     try clear hcz13_10
     try clear hcz13_2
     try clear hcz13_3
     try clear hcz13_4
     try clear hcz13_5
     try clear hcz13_6
     try clear hcz13_7
     try clear hcz13_8
     try clear hcz13_9
     try clear hcz14_0
     try clear hcz14_1
     try clear hcz14_10
     try clear hcz14_2
     try clear hcz14_3
     try clear hcz14_4
     try clear hcz14_5
     try clear hcz14_6
     try clear hcz14_7
     try clear hcz14_8
     try clear hcz14_9
     try clear hcz16_0
     try clear hcz16_1
     try clear hcz16_10
     try clear hcz16_2
     try clear hcz16_3
     try clear hcz16_4
     try clear hcz16_5
     try clear hcz16_6
     try clear hcz16_7
     try clear hcz16_8
     try clear hcz16_9
     try clear hcz20_0
     try clear hcz20_1
     try clear hcz20_10
     try clear hcz20_2
     try clear hcz20_3
     try clear hcz20_4
     try clear hcz20_5
     try clear hcz20_6
     try clear hcz20_7
     try clear hcz20_8
     try clear hcz20_9
     try clear hcz24_0
     try clear hcz24_1
     try clear hcz24_10
     try clear hcz24_2
     try clear hcz24_3
     try clear hcz24_4
     try clear hcz24_5
     try clear hcz24_6
     try clear hcz24_7
     try clear hcz24_8
     try clear hcz24_9
     try clear hcz25_0
     try clear hcz25_1
     try clear hcz25_10
     try clear hcz25_2
     try clear hcz25_3
     try clear hcz25_4
     try clear hcz25_5
     try clear hcz25_6
     try clear hcz25_7
     try clear hcz25_8
     try clear hcz25_9
     try clear hcz5_0
     try clear hcz5_1
     try clear hcz5_10
     try clear hcz5_2
     try clear hcz5_3
     try clear hcz5_4
     try clear hcz5_5
     try clear hcz5_6
     try clear hcz5_7
     try clear hcz5_8
     try clear hcz5_9
     try clear hfz11_0
     try clear hfz13_0
     try clear hfz14_0
     try clear hfz16_0
     try clear hfz20_0
     try clear hfz24_0
     try clear hfz25_0
     try clear hfz5_0
     try clear p2
     try clear p3
     try clear p6
     obtain ⟨kq,x25_18,rfl,HA,HJ18,BK168,HB⟩:=hcut;cases kq with
     |zero=>exact absurd HA.out (by simp [Aj.j1])
     |succ kj18=>
      have H:=HA.out;clear HA;simp only [Aj.j1] at H;by_cases c26:x25_18=true
      ·subst c26;have H1:(some false)=some r:=by rw [if_pos rfl] at H;exact H
       clear H;have H:=H1;clear H1;obtain rfl:=Option.some.inj H;go_wp2;go_ret;exact ⟨xe,xb⟩
      ·replace c26:=Bool.eq_false_iff.mpr c26;subst c26;have H1:((EW.f a0_3).bind λt174=>(if t174=true then (if (a0_3.size:Int)>128 then (some false) else ((Er.f 253402300799 a0_4 a0_5 a0_6).bind λt175=>(if t175=true then (if a0_10>=0 then (some (decide (a0_10<=3))) else (some false)) else (some false)))) else (some false)))=some r:=by rw [if_neg (show ¬(false=true) by decide)] at H;exact H
       clear H;have H:=H1;clear H1;replace H:=Option.bind_eq_some_iff.mp H;obtain ⟨t174,A270,H⟩:=H;replace H:(if t174=true then (if (a0_3.size:Int)>128 then (some false) else ((Er.f 253402300799 a0_4 a0_5 a0_6).bind λt175=>(if t175=true then (if a0_10>=0 then (some (decide (a0_10<=3))) else (some false)) else (some false)))) else (some false))=some r:=H;have A27:=AA.mk A270;clear A270;by_cases c28:t174=true
       ·subst c28;rw [if_pos rfl] at H;by_cases c29:(a0_3.size:Int)>128
        ·rw [if_pos c29] at H;have c29b0:decide (128<(a0_3.size:Int))=true:=decide_eq_true c29;have c29b1:decide (128<a0_3.size)=true:=decide_eq_true (by omega);clear c29;obtain rfl:=Option.some.inj H;obtain ⟨hcz30_0,hcz30_1,hcz30_2,hcz30_3,hcz30_4,hcz30_5,hcz30_6,hcz30_7,hcz30_8,hcz30_9,hcz30_10⟩:=BK BK168.out;have hfz30_0:=AP BK168.out;go_wp2_with (first|((with_reducible refine AQ (f:=80) rfl ?_);refine Ag (some 41) rfl rfl Tryz.func80 (by kernel_rfl) rfl #[.string a0_3] rfl xg ?_;(with_reducible refine (EW.calls a0_3 true _ A27.out).mono ?_);rintro e w' ⟨rfl,⟨nd,rfl⟩⟩;refine ⟨_,rfl,?_⟩));go_ret;exact ⟨xe,xb⟩
        ·rw [if_neg c29] at H;have c29b0:decide (128<(a0_3.size:Int))=false:=decide_eq_false c29;have c29b1:decide (128<a0_3.size)=false:=decide_eq_false (by omega);clear c29;replace H:=Option.bind_eq_some_iff.mp H;obtain ⟨t175,A310,H⟩:=H;replace H:(if t175=true then (if a0_10>=0 then (some (decide (a0_10<=3))) else (some false)) else (some false))=some r:=H;have A31:=AA.mk A310;clear A310;by_cases c32:t175=true
         ·subst c32;rw [if_pos rfl] at H;by_cases c33:a0_10>=0
          ·rw [if_pos c33] at H;have c33b0:decide (0<=a0_10)=true:=decide_eq_true c33;clear c33;obtain rfl:=Option.some.inj H;obtain ⟨hcz34_0,hcz34_1,hcz34_2,hcz34_3,hcz34_4,hcz34_5,hcz34_6,hcz34_7,hcz34_8,hcz34_9,hcz34_10⟩:=BK BK168.out;have hfz34_0:=AP BK168.out;go_wp2_with (first|((with_reducible refine AQ (f:=80) rfl ?_);refine Ag (some 41) rfl rfl Tryz.func80 (by kernel_rfl) rfl #[.string a0_3] rfl xg ?_;(with_reducible refine (EW.calls a0_3 true _ A27.out).mono ?_);rintro e w' ⟨rfl,⟨nd,rfl⟩⟩;refine ⟨_,rfl,?_⟩)|((with_reducible refine AQ (f:=81) rfl ?_);refine Ag (some 54) rfl rfl Tryz.func81 (by kernel_rfl) rfl #[.int .i64 253402300799, .agg #[.int .i64 a0_4, .int .i64 a0_5, .int .i64 a0_6]] rfl xg ?_;(with_reducible refine (Er.calls 253402300799 a0_4 a0_5 a0_6 true _ A31.out).mono ?_);rintro e w35 ⟨rfl,hb⟩;refine ⟨_,rfl,?_⟩;replace BK168:=bL BK168 hb;replace HB:=AA.mk (AO xb hb);(try clear hb);obtain ⟨hcz36_0,hcz36_1,hcz36_2,hcz36_3,hcz36_4,hcz36_5,hcz36_6,hcz36_7,hcz36_8,hcz36_9,hcz36_10⟩:=BK BK168.out;have hfz36_0:=AP BK168.out));go_ret;exact ⟨xe,xb⟩
          ·rw [if_neg c33] at H;have c33b0:decide (0<=a0_10)=false:=decide_eq_false c33;clear c33;obtain rfl:=Option.some.inj H;obtain ⟨hcz37_0,hcz37_1,hcz37_2,hcz37_3,hcz37_4,hcz37_5,hcz37_6,hcz37_7,hcz37_8,hcz37_9,hcz37_10⟩:=BK BK168.out;have hfz37_0:=AP BK168.out;go_wp2_with (first|((with_reducible refine AQ (f:=80) rfl ?_);refine Ag (some 41) rfl rfl Tryz.func80 (by kernel_rfl) rfl #[.string a0_3] rfl xg ?_;(with_reducible refine (EW.calls a0_3 true _ A27.out).mono ?_);rintro e w' ⟨rfl,⟨nd,rfl⟩⟩;refine ⟨_,rfl,?_⟩)|((with_reducible refine AQ (f:=81) rfl ?_);refine Ag (some 54) rfl rfl Tryz.func81 (by kernel_rfl) rfl #[.int .i64 253402300799, .agg #[.int .i64 a0_4, .int .i64 a0_5, .int .i64 a0_6]] rfl xg ?_;(with_reducible refine (Er.calls 253402300799 a0_4 a0_5 a0_6 true _ A31.out).mono ?_);rintro e w38 ⟨rfl,hb⟩;refine ⟨_,rfl,?_⟩;replace BK168:=bL BK168 hb;replace HB:=AA.mk (AO xb hb);(try clear hb);obtain ⟨hcz39_0,hcz39_1,hcz39_2,hcz39_3,hcz39_4,hcz39_5,hcz39_6,hcz39_7,hcz39_8,hcz39_9,hcz39_10⟩:=BK BK168.out;have hfz39_0:=AP BK168.out));go_ret;exact ⟨xe,xb⟩
         ·replace c32:=Bool.eq_false_iff.mpr c32;subst c32;rw [if_neg Bool.false_ne_true] at H;obtain rfl:=Option.some.inj H;obtain ⟨hcz40_0,hcz40_1,hcz40_2,hcz40_3,hcz40_4,hcz40_5,hcz40_6,hcz40_7,hcz40_8,hcz40_9,hcz40_10⟩:=BK BK168.out;have hfz40_0:=AP BK168.out;go_wp2_with (first|((with_reducible refine AQ (f:=80) rfl ?_);refine Ag (some 41) rfl rfl Tryz.func80 (by kernel_rfl) rfl #[.string a0_3] rfl xg ?_;(with_reducible refine (EW.calls a0_3 true _ A27.out).mono ?_);rintro e w' ⟨rfl,⟨nd,rfl⟩⟩;refine ⟨_,rfl,?_⟩)|((with_reducible refine AQ (f:=81) rfl ?_);refine Ag (some 54) rfl rfl Tryz.func81 (by kernel_rfl) rfl #[.int .i64 253402300799, .agg #[.int .i64 a0_4, .int .i64 a0_5, .int .i64 a0_6]] rfl xg ?_;(with_reducible refine (Er.calls 253402300799 a0_4 a0_5 a0_6 false _ A31.out).mono ?_);rintro e w41 ⟨rfl,hb⟩;refine ⟨_,rfl,?_⟩;replace BK168:=bL BK168 hb;replace HB:=AA.mk (AO xb hb);(try clear hb)));go_ret;exact ⟨xe,xb⟩
       ·replace c28:=Bool.eq_false_iff.mpr c28;subst c28;have H1:(some false)=some r:=by rw [if_neg (show ¬(false=true) by decide)] at H;exact H
        clear H;have H:=H1;clear H1;obtain rfl:=Option.some.inj H;obtain ⟨hcz42_0,hcz42_1,hcz42_2,hcz42_3,hcz42_4,hcz42_5,hcz42_6,hcz42_7,hcz42_8,hcz42_9,hcz42_10⟩:=BK BK168.out;have hfz42_0:=AP BK168.out;go_wp2_with (first|((with_reducible refine AQ (f:=80) rfl ?_);refine Ag (some 41) rfl rfl Tryz.func80 (by kernel_rfl) rfl #[.string a0_3] rfl xg ?_;(with_reducible refine (EW.calls a0_3 false _ A27.out).mono ?_);rintro e w' ⟨rfl,⟨nd,rfl⟩⟩;refine ⟨_,rfl,?_⟩));go_ret;exact ⟨xe,xb⟩
end Go.Proofs.YtfggjdkccdkogaaGreatDoor.Print
