/- Printed by a program of this claim's session (xprint.py): the machine's side: each Go function as a Lean function, and that a call of it comes to what that tells; the row of a statement. No condition. -/
import Derived.Test.YtfggjdkccdkogaaGreatDoorPrint13
namespace Go.Proofs.YtfggjdkccdkogaaGreatDoor.Print
open RowKit Ac Aq Aw
attribute [local go_sem] DC DD DX DY Co Cq DI DJ
set_option linter.unusedVariables false
set_option linter.unusedSimpArgs false
def BU.j0:Nat->Int->Int->ByteArray->ByteArray->ByteArray->ByteArray->Int->Int->Int->Bool->Bool->Bool->Int->Option (Int)
 |0,_,_,_,_,_,_,_,_,_,_,_,_,_=>none
 |k+1,x0,x5,x472000,x472001,x472002,x472003,x472004,x472005,x472006,x472007,x472008,x472009,x472010=>if x472009=true then (if x472007=true then (if x0>=2 then (some ((wrap64 ((wrap64 (x5+2))+4))%256)) else (some ((wrap64 (x5+2))%256))) else (some ((wrap64 (x5+2))%256))) else (if x472007=true then (if x0>=2 then (some ((wrap64 (x5+4))%256)) else (some ((x5)%256))) else (some ((x5)%256)))
def BU.f (k:Nat) (a0:Int) (a1_0:ByteArray) (a1_1:ByteArray) (a1_2:ByteArray) (a1_3:ByteArray) (a1_4:Int) (a1_5:Int) (a1_6:Int) (a1_7:Bool) (a1_8:Bool) (a1_9:Bool) (a1_10:Int):Option (Int):=if a1_8=true then (BU.j0 k a0 (0+1) a1_0 a1_1 a1_2 a1_3 a1_4 a1_5 a1_6 a1_7 a1_8 a1_9 a1_10) else (BU.j0 k a0 0 a1_0 a1_1 a1_2 a1_3 a1_4 a1_5 a1_6 a1_7 a1_8 a1_9 a1_10)
set_option maxHeartbeats 8000000 in
set_option maxRecDepth 100000 in
theorem BU.calls (k:Nat) (a0:Int) (a1_0:ByteArray) (a1_1:ByteArray) (a1_2:ByteArray) (a1_3:ByteArray) (a1_4:Int) (a1_5:Int) (a1_6:Int) (a1_7:Bool) (a1_8:Bool) (a1_9:Bool) (a1_10:Int) (r:Int) (w:World) (h:BU.f k a0 a1_0 a1_1 a1_2 a1_3 a1_4 a1_5 a1_6 a1_7 a1_8 a1_9 a1_10=some r):
 Calls Tryz.prog 63 #[.int .i64 a0, .agg #[.string a1_0, .string a1_1, .string a1_2, .string a1_3, .int .i64 a1_4, .int .i64 a1_5, .int .i64 a1_6, .bool a1_7, .bool a1_8, .bool a1_9, .int .i64 a1_10]] w λe w'=>e= .returned (.int .u8 r)/\Below w.heap.size w w':=by
 have hu25:=Tryz.underlying25;have HB:=AA.mk (Below.refl w.heap.size w);have H:(if a1_8=true then (BU.j0 k a0 (0+1) a1_0 a1_1 a1_2 a1_3 a1_4 a1_5 a1_6 a1_7 a1_8 a1_9 a1_10) else (BU.j0 k a0 0 a1_0 a1_1 a1_2 a1_3 a1_4 a1_5 a1_6 a1_7 a1_8 a1_9 a1_10))=some r:=h;clear h;have HC3:=AA.mk H;clear H;go_enter Tryz.func63,Tryz.ntmps63;go_upto_if 7 with (first|(refine Dp (N:=3) (cs:=#[.string a1_0, .string a1_1, .string a1_2, .string a1_3, .int .i64 a1_4, .int .i64 a1_5, .int .i64 a1_6, .bool a1_7, .bool a1_8, .bool a1_9, .int .i64 a1_10]) (t:=25) (λgb471 hg w4 hbox hb=>?_);have BK471:=AA.mk (hbox);have GW471:AA (w.heap.size<=gb471):=Dq hg xb;have GE471:AA (w.heap.size<=gb471):=Dq hg xb;replace HB:=AA.mk (AO xb hb);clear hb hbox hg;obtain ⟨hcz5_0,hcz5_1,hcz5_2,hcz5_3,hcz5_4,hcz5_5,hcz5_6,hcz5_7,hcz5_8,hcz5_9,hcz5_10⟩:=BK BK471.out;have hfz5_0:=AP BK471.out))
 (try simp only [Act.put,List.setIfInBounds_toArray,List.set_cons_zero,List.set_cons_succ]);go_cut [5] (λv5 wc=>∃ (kq:Nat) (x5_2:Int),v5= .int .i64 x5_2/\AA (BU.j0 kq a0 x5_2 a1_0 a1_1 a1_2 a1_3 a1_4 a1_5 a1_6 a1_7 a1_8 a1_9 a1_10=some r)/\AA (kq<=k)/\AA (wc.heap[gb471]? =some (.cells #[.string a1_0, .string a1_1, .string a1_2, .string a1_3, .int .i64 a1_4, .int .i64 a1_5, .int .i64 a1_6, .bool a1_7, .bool a1_8, .bool a1_9, .int .i64 a1_10] 25 (0,0)))/\AA (Below w.heap.size w wc));case first=>
  have H:=HC3.out;clear HC3;by_cases c6:a1_8=true
  ·subst c6;have H1:(BU.j0 k a0 (0+1) a1_0 a1_1 a1_2 a1_3 a1_4 a1_5 a1_6 a1_7 true a1_9 a1_10)=some r:=by rw [if_pos rfl] at H;exact H
   clear H;have H:=H1;clear H1;have H':=AA.mk H;clear H;go_wp2;go_meet;case rel=>exact ⟨_,(0+1),xq,H',⟨by first|omega|exact Nat.le_refl _⟩,⟨xk⟩,⟨xb⟩⟩
  ·replace c6:=Bool.eq_false_iff.mpr c6;subst c6;have H1:(BU.j0 k a0 0 a1_0 a1_1 a1_2 a1_3 a1_4 a1_5 a1_6 a1_7 false a1_9 a1_10)=some r:=by rw [if_neg (show ¬(false=true) by decide)] at H;exact H
   clear H;have H:=H1;clear H1;have H':=AA.mk H;clear H;go_wp2;go_meet;case rel=>exact ⟨_,(0),xq,H',⟨by first|omega|exact Nat.le_refl _⟩,⟨xk⟩,⟨xb⟩⟩
 case rest=>
  clear HC3;try clear p2
  try clear c6
  try clear hcz5_0
  try clear hcz5_1
  try clear hcz5_10
  try clear hcz5_2
  try clear hcz5_3
  try clear hcz5_4
  try clear hcz5_5
  try clear hcz5_6
  try clear hcz5_7
  try clear hcz5_8
  try clear hcz5_9
  try clear hfz5_0
  obtain ⟨kq,x5_2,rfl,HA,HJ2,BK471,HB⟩:=hcut;cases kq with
  |zero=>exact absurd HA.out (by simp [BU.j0])
  |succ kj2=>
   have H:=HA.out;clear HA;simp only [BU.j0] at H;by_cases c7:a1_9=true
   ·subst c7;have H1:(if a1_7=true then (if a0>=2 then (some ((wrap64 ((wrap64 (x5_2+2))+4))%256)) else (some ((wrap64 (x5_2+2))%256))) else (some ((wrap64 (x5_2+2))%256)))=some r:=by rw [if_pos rfl] at H;exact H
    clear H;have H:=H1;clear H1;by_cases c8:a1_7=true
    ·subst c8;have H1:(if a0>=2 then (some ((wrap64 ((wrap64 (x5_2+2))+4))%256)) else (some ((wrap64 (x5_2+2))%256)))=some r:=by rw [if_pos rfl] at H;exact H
     clear H;have H:=H1;clear H1;by_cases c9:a0>=2
     ·rw [if_pos c9] at H;have c9b0:decide (2<=a0)=true:=decide_eq_true c9;clear c9;obtain rfl:=Option.some.inj H;obtain ⟨hcz10_0,hcz10_1,hcz10_2,hcz10_3,hcz10_4,hcz10_5,hcz10_6,hcz10_7,hcz10_8,hcz10_9,hcz10_10⟩:=BK BK471.out;have hfz10_0:=AP BK471.out;go_wp2;go_ret;exact ⟨xe,xb⟩
     ·rw [if_neg c9] at H;have c9b0:decide (2<=a0)=false:=decide_eq_false c9;clear c9;obtain rfl:=Option.some.inj H;obtain ⟨hcz11_0,hcz11_1,hcz11_2,hcz11_3,hcz11_4,hcz11_5,hcz11_6,hcz11_7,hcz11_8,hcz11_9,hcz11_10⟩:=BK BK471.out;have hfz11_0:=AP BK471.out;go_wp2;go_ret;exact ⟨xe,xb⟩
    ·replace c8:=Bool.eq_false_iff.mpr c8;subst c8;have H1:(some ((wrap64 (x5_2+2))%256))=some r:=by rw [if_neg (show ¬(false=true) by decide)] at H;exact H
     clear H;have H:=H1;clear H1;obtain rfl:=Option.some.inj H;obtain ⟨hcz12_0,hcz12_1,hcz12_2,hcz12_3,hcz12_4,hcz12_5,hcz12_6,hcz12_7,hcz12_8,hcz12_9,hcz12_10⟩:=BK BK471.out;have hfz12_0:=AP BK471.out;go_wp2;go_ret;exact ⟨xe,xb⟩
   ·replace c7:=Bool.eq_false_iff.mpr c7;subst c7;have H1:(if a1_7=true then (if a0>=2 then (some ((wrap64 (x5_2+4))%256)) else (some ((x5_2)%256))) else (some ((x5_2)%256)))=some r:=by rw [if_neg (show ¬(false=true) by decide)] at H;exact H
    clear H;have H:=H1;clear H1;by_cases c13:a1_7=true
    ·subst c13;have H1:(if a0>=2 then (some ((wrap64 (x5_2+4))%256)) else (some ((x5_2)%256)))=some r:=by rw [if_pos rfl] at H;exact H
     clear H;have H:=H1;clear H1;by_cases c14:a0>=2
     ·rw [if_pos c14] at H;have c14b0:decide (2<=a0)=true:=decide_eq_true c14;clear c14;obtain rfl:=Option.some.inj H;obtain ⟨hcz15_0,hcz15_1,hcz15_2,hcz15_3,hcz15_4,hcz15_5,hcz15_6,hcz15_7,hcz15_8,hcz15_9,hcz15_10⟩:=BK BK471.out;have hfz15_0:=AP BK471.out;go_wp2;go_ret;exact ⟨xe,xb⟩
     ·rw [if_neg c14] at H;have c14b0:decide (2<=a0)=false:=decide_eq_false c14;clear c14;obtain rfl:=Option.some.inj H;obtain ⟨hcz16_0,hcz16_1,hcz16_2,hcz16_3,hcz16_4,hcz16_5,hcz16_6,hcz16_7,hcz16_8,hcz16_9,hcz16_10⟩:=BK BK471.out;have hfz16_0:=AP BK471.out;go_wp2;go_ret;exact ⟨xe,xb⟩
    ·replace c13:=Bool.eq_false_iff.mpr c13;subst c13;have H1:(some ((x5_2)%256))=some r:=by rw [if_neg (show ¬(false=true) by decide)] at H;exact H
     clear H;have H:=H1;clear H1;obtain rfl:=Option.some.inj H;obtain ⟨hcz17_0,hcz17_1,hcz17_2,hcz17_3,hcz17_4,hcz17_5,hcz17_6,hcz17_7,hcz17_8,hcz17_9,hcz17_10⟩:=BK BK471.out;have hfz17_0:=AP BK471.out;go_wp2;go_ret;exact ⟨xe,xb⟩
end Go.Proofs.YtfggjdkccdkogaaGreatDoor.Print
