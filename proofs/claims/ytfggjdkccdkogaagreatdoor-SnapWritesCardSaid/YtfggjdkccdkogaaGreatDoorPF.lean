/- Several parts of the claim's proof in one text, said short by a program of this session. No condition. -/
import Derived.Test.YtfggjdkccdkogaaGreatDoorPE
section
namespace Go.Proofs.YtfggjdkccdkogaaGreatDoor.Print
open RowKit Ac Aq Aw
attribute [local go_sem] DC DD DX DY Co Cq DI DJ
set_option linter.unusedVariables false
set_option linter.unusedSimpArgs false
def DZ.f (k:Nat) (a0:ByteArray):Option (Bool):=if (a0.size:Int)>=1 then (if (a0.size:Int)<=64 then (if 0<(a0.size:Int) then (if (bt a0 0)=47 then ((CX.f k a0).bind λt372=>(some t372)) else (some false)) else (none)) else (some false)) else (some false)
set_option maxHeartbeats 8000000 in
set_option maxRecDepth 100000 in
theorem DZ.calls (k:Nat) (a0:ByteArray) (r:Bool) (w:World) (h:DZ.f k a0=some r):
 Calls Tryz.prog 93 #[.string a0] w λe w'=>e= .returned (.bool r)/\BP w w':=by
 have H:(if (a0.size:Int)>=1 then (if (a0.size:Int)<=64 then (if 0<(a0.size:Int) then (if (bt a0 0)=47 then ((CX.f k a0).bind λt372=>(some t372)) else (some false)) else (none)) else (some false)) else (some false))=some r:=h;clear h;by_cases c2:(a0.size:Int)>=1
 ·rw [if_pos c2] at H;have c2b0:decide (1<=(a0.size:Int))=true:=decide_eq_true c2;have c2b1:decide (1<=a0.size)=true:=decide_eq_true (by omega);clear c2;by_cases c3:(a0.size:Int)<=64
  ·rw [if_pos c3] at H;have c3b0:decide ((a0.size:Int)<=64)=true:=decide_eq_true c3;have c3b1:decide (a0.size<=64)=true:=decide_eq_true (by omega);clear c3;by_cases c4:0<(a0.size:Int)
   ·rw [if_pos c4] at H;have c4b0:decide (0<(a0.size:Int))=true:=decide_eq_true c4;have c4b1:decide (0<a0.size)=true:=decide_eq_true (by omega);clear c4;by_cases c6:(bt a0 0)=47
    ·rw [if_pos c6] at H;have c6b0:((bt a0 0)==47)=true:=beq_iff_eq.mpr c6;have c6b1:((bt a0 0) != 47)=false:=bne_eq_false_iff_eq.mpr c6;clear c6;replace H:=Option.bind_eq_some_iff.mp H;obtain ⟨t372,A70,H⟩:=H;replace H:(some t372)=some r:=H;have A7:=AA.mk A70;clear A70;obtain rfl:=Option.some.inj H;have p5:0<=(0:Int):=(by omega);have q5:0<a0.size:=(by have:(0:Int)<(a0.size:Int):=xa;omega);have hx5:∀ h:0<a0.size,((a0[0]'h).toNat:Int)=bt a0 0:=CV a0 0;clear p5;have qi5:(0<(a0.size:Int))=True:=eq_true (xa);replace q5:=eq_true q5;go_enter Tryz.func93,Tryz.ntmps93;go_wp2_with (first|(go_at_call 117;(with_reducible refine (CX.calls k a0 t372 _ A7.out).mono ?_);rintro e w' ⟨rfl,⟨nd,rfl⟩⟩));go_ret;exact ⟨xq,xd⟩
    ·rw [if_neg c6] at H;have c6b0:((bt a0 0)==47)=false:=beq_eq_false_iff_ne.mpr c6;have c6b1:((bt a0 0) != 47)=true:=bne_iff_ne.mpr c6;obtain rfl:=Option.some.inj H;have p5:0<=(0:Int):=(by omega);have q5:0<a0.size:=(by have:(0:Int)<(a0.size:Int):=xa;omega);have hx5:∀ h:0<a0.size,((a0[0]'h).toNat:Int)=bt a0 0:=CV a0 0;clear p5;have qi5:(0<(a0.size:Int))=True:=eq_true (xa);replace q5:=eq_true q5;go_enter Tryz.func93,Tryz.ntmps93;go_wp2;go_ret;exact ⟨xq,xd⟩
   ·rw [if_neg c4] at H;exact absurd H (by simp)
  ·rw [if_neg c3] at H;have c3b0:decide ((a0.size:Int)<=64)=false:=decide_eq_false c3;have c3b1:decide (a0.size<=64)=false:=decide_eq_false (by omega);clear c3;obtain rfl:=Option.some.inj H;go_enter Tryz.func93,Tryz.ntmps93;go_wp2;go_ret;exact ⟨xq,xd⟩
 ·rw [if_neg c2] at H;have c2b0:decide (1<=(a0.size:Int))=false:=decide_eq_false c2;have c2b1:decide (1<=a0.size)=false:=decide_eq_false (by omega);clear c2;obtain rfl:=Option.some.inj H;go_enter Tryz.func93,Tryz.ntmps93;go_wp2;go_ret;exact ⟨xq,xd⟩
def Bi.l0:Nat->ByteArray->Int->Option (Bool)
 |0,_,_=>none
 |k+1,x0,x3=>if x3<(x0.size:Int) then (if 0<=x3 then ((EZ.f (bt x0 x3)).bind λt373=>(if t373=true then (Bi.l0 k x0 (wrap64 (x3+1))) else (some false))) else (none)) else (some (decide ((x0.size:Int)>0)))
def Bi.f (k:Nat) (a0:ByteArray):Option (Bool):=Bi.l0 k a0 0
set_option maxHeartbeats 8000000 in
set_option maxRecDepth 100000 in
theorem Bi.calls (k:Nat) (a0:ByteArray) (r:Bool) (w:World) (h:Bi.f k a0=some r):
 Calls Tryz.prog 94 #[.string a0] w λe w'=>e= .returned (.bool r)/\BP w w':=by
 have H:(Bi.l0 k a0 0)=some r:=h;clear h;have H':=AA.mk H;clear H;go_enter Tryz.func94,Tryz.ntmps94;go_wp2;go_loopg [3] k (λkq v3 w'=>∃ (x3_1:Int),v3= .int .i64 x3_1/\AA (Bi.l0 kq a0 x3_1=some r)/\AA (kq<=k)/\BP w w');case atStart=>exact ⟨(0),xq,H',⟨Nat.le_refl _⟩,xd⟩
 case round=>
  clear H';obtain ⟨x3_1,rfl,HA,HK1,⟨m1,rfl⟩⟩:=hrel;cases gk with
  |zero=>exact absurd HA.out (by simp [Bi.l0])
  |succ k1=>
   have H:=HA.out;clear HA;simp only [Bi.l0] at H;by_cases c2:x3_1<(a0.size:Int)
   ·rw [if_pos c2] at H;have c2b0:decide (x3_1<(a0.size:Int))=true:=decide_eq_true c2;clear c2;by_cases c3:0<=x3_1
    ·rw [if_pos c3] at H;have c3b0:decide (0<=x3_1)=true:=decide_eq_true c3;clear c3;replace H:=Option.bind_eq_some_iff.mp H;obtain ⟨t373,A50,H⟩:=H;replace H:(if t373=true then (Bi.l0 k1 a0 (wrap64 (x3_1+1))) else (some false))=some r:=H;have A5:=AA.mk A50;clear A50;by_cases c6:t373=true
     ·subst c6;rw [if_pos rfl] at H;have H':=AA.mk H;clear H;have p4:0<=(x3_1:Int):=xa;have q4:x3_1<(a0.size:Int):=xa;have hx4:=CV a0 x3_1;replace p4:=eq_true p4;replace q4:=eq_true q4;go_wp2_with (first|((with_reducible refine AQ (f:=118) rfl ?_);refine Ag (some 13) rfl rfl Tryz.func118 (by kernel_rfl) rfl #[.int .u8 (bt a0 x3_1)] rfl xg ?_;(with_reducible refine (EZ.calls (bt a0 x3_1) true _ A5.out).mono ?_);rintro e w' ⟨rfl,⟨nd,rfl⟩⟩;refine ⟨_,rfl,?_⟩));go_roundg k1;case measure=>have:=HK1.out;omega
      case rel=>exact ⟨(wrap64 (x3_1+1)),xq,H',⟨by have:=HK1.out;omega⟩,xd⟩
     ·replace c6:=Bool.eq_false_iff.mpr c6;subst c6;have H1:(some false)=some r:=by rw [if_neg (show ¬(false=true) by decide)] at H;exact H
      clear H;have H:=H1;clear H1;obtain rfl:=Option.some.inj H;have p4:0<=(x3_1:Int):=xa;have q4:x3_1<(a0.size:Int):=xa;have hx4:=CV a0 x3_1;replace p4:=eq_true p4;replace q4:=eq_true q4;go_wp2_with (first|((with_reducible refine AQ (f:=118) rfl ?_);refine Ag (some 13) rfl rfl Tryz.func118 (by kernel_rfl) rfl #[.int .u8 (bt a0 x3_1)] rfl xg ?_;(with_reducible refine (EZ.calls (bt a0 x3_1) false _ A5.out).mono ?_);rintro e w' ⟨rfl,⟨nd,rfl⟩⟩;refine ⟨_,rfl,?_⟩));go_ret;exact ⟨xq,xd⟩
    ·rw [if_neg c3] at H;exact absurd H (by simp)
   ·rw [if_neg c2] at H;have c2b0:decide (x3_1<(a0.size:Int))=false:=decide_eq_false c2;clear c2;obtain rfl:=Option.some.inj H;go_wp2;go_ret;exact ⟨xq,xd⟩
def Bo.l0:Nat->ByteArray->Int->Option (Bool)
 |0,_,_=>none
 |k+1,x0,x3=>if x3<(x0.size:Int) then (if 0<=x3 then ((ES.f (bt x0 x3)).bind λt374=>(if t374=true then (Bo.l0 k x0 (wrap64 (x3+1))) else (some false))) else (none)) else (some true)
def Bo.f (k:Nat) (a0:ByteArray):Option (Bool):=Bo.l0 k a0 0
set_option maxHeartbeats 8000000 in
set_option maxRecDepth 100000 in
theorem Bo.calls (k:Nat) (a0:ByteArray) (r:Bool) (w:World) (h:Bo.f k a0=some r):
 Calls Tryz.prog 95 #[.string a0] w λe w'=>e= .returned (.bool r)/\BP w w':=by
 have H:(Bo.l0 k a0 0)=some r:=h;clear h;have H':=AA.mk H;clear H;go_enter Tryz.func95,Tryz.ntmps95;go_wp2;go_loopg [3] k (λkq v3 w'=>∃ (x3_1:Int),v3= .int .i64 x3_1/\AA (Bo.l0 kq a0 x3_1=some r)/\AA (kq<=k)/\BP w w');case atStart=>exact ⟨(0),xq,H',⟨Nat.le_refl _⟩,xd⟩
 case round=>
  clear H';obtain ⟨x3_1,rfl,HA,HK1,⟨m1,rfl⟩⟩:=hrel;cases gk with
  |zero=>exact absurd HA.out (by simp [Bo.l0])
  |succ k1=>
   have H:=HA.out;clear HA;simp only [Bo.l0] at H;by_cases c2:x3_1<(a0.size:Int)
   ·rw [if_pos c2] at H;have c2b0:decide (x3_1<(a0.size:Int))=true:=decide_eq_true c2;clear c2;by_cases c3:0<=x3_1
    ·rw [if_pos c3] at H;have c3b0:decide (0<=x3_1)=true:=decide_eq_true c3;clear c3;replace H:=Option.bind_eq_some_iff.mp H;obtain ⟨t374,A50,H⟩:=H;replace H:(if t374=true then (Bo.l0 k1 a0 (wrap64 (x3_1+1))) else (some false))=some r:=H;have A5:=AA.mk A50;clear A50;by_cases c6:t374=true
     ·subst c6;rw [if_pos rfl] at H;have H':=AA.mk H;clear H;have p4:0<=(x3_1:Int):=xa;have q4:x3_1<(a0.size:Int):=xa;have hx4:=CV a0 x3_1;replace p4:=eq_true p4;replace q4:=eq_true q4;go_wp2_with (first|((with_reducible refine AQ (f:=119) rfl ?_);refine Ag (some 13) rfl rfl Tryz.func119 (by kernel_rfl) rfl #[.int .u8 (bt a0 x3_1)] rfl xg ?_;(with_reducible refine (ES.calls (bt a0 x3_1) true _ A5.out).mono ?_);rintro e w' ⟨rfl,⟨nd,rfl⟩⟩;refine ⟨_,rfl,?_⟩));go_roundg k1;case measure=>have:=HK1.out;omega
      case rel=>exact ⟨(wrap64 (x3_1+1)),xq,H',⟨by have:=HK1.out;omega⟩,xd⟩
     ·replace c6:=Bool.eq_false_iff.mpr c6;subst c6;have H1:(some false)=some r:=by rw [if_neg (show ¬(false=true) by decide)] at H;exact H
      clear H;have H:=H1;clear H1;obtain rfl:=Option.some.inj H;have p4:0<=(x3_1:Int):=xa;have q4:x3_1<(a0.size:Int):=xa;have hx4:=CV a0 x3_1;replace p4:=eq_true p4;replace q4:=eq_true q4;go_wp2_with (first|((with_reducible refine AQ (f:=119) rfl ?_);refine Ag (some 13) rfl rfl Tryz.func119 (by kernel_rfl) rfl #[.int .u8 (bt a0 x3_1)] rfl xg ?_;(with_reducible refine (ES.calls (bt a0 x3_1) false _ A5.out).mono ?_);rintro e w' ⟨rfl,⟨nd,rfl⟩⟩;refine ⟨_,rfl,?_⟩));go_ret;exact ⟨xq,xd⟩
    ·rw [if_neg c3] at H;exact absurd H (by simp)
   ·rw [if_neg c2] at H;have c2b0:decide (x3_1<(a0.size:Int))=false:=decide_eq_false c2;clear c2;obtain rfl:=Option.some.inj H;go_wp2;go_ret;exact ⟨xq,xd⟩
end Go.Proofs.YtfggjdkccdkogaaGreatDoor.Print
end
section
namespace Go.Proofs.YtfggjdkccdkogaaGreatDoor.Print
open RowKit Ac Aq Aw
attribute [local go_sem] DC DD DX DY Co Cq DI DJ
set_option linter.unusedVariables false
set_option linter.unusedSimpArgs false
mutual
def Aa.j0:Nat->Bool->ByteArray->ByteArray->ByteArray->ByteArray->Int->Int->Int->Bool->Bool->Bool->Int->Option (Bool)
 |0,_,_,_,_,_,_,_,_,_,_,_,_=>none
 |k+1,x28,x376000,x376001,x376002,x376003,x376004,x376005,x376006,x376007,x376008,x376009,x376010=>if x28=true then (some false) else ((DZ.f k x376001).bind λt379=>(if t379=true then ((Bi.f k x376002).bind λt380=>(if t380=true then (if (x376002.size:Int)>64 then (Aa.j1 k true x376000 x376001 x376002 x376003 x376004 x376005 x376006 x376007 x376008 x376009 x376010) else ((Bo.f k x376003).bind λt381=>(if t381=true then (Aa.j1 k (decide ((x376003.size:Int)>128)) x376000 x376001 x376002 x376003 x376004 x376005 x376006 x376007 x376008 x376009 x376010) else (Aa.j1 k true x376000 x376001 x376002 x376003 x376004 x376005 x376006 x376007 x376008 x376009 x376010)))) else (Aa.j1 k true x376000 x376001 x376002 x376003 x376004 x376005 x376006 x376007 x376008 x376009 x376010))) else (Aa.j1 k true x376000 x376001 x376002 x376003 x376004 x376005 x376006 x376007 x376008 x376009 x376010)))
def Aa.j1:Nat->Bool->ByteArray->ByteArray->ByteArray->ByteArray->Int->Int->Int->Bool->Bool->Bool->Int->Option (Bool)
 |0,_,_,_,_,_,_,_,_,_,_,_,_=>none
 |k+1,x56,x376000,x376001,x376002,x376003,x376004,x376005,x376006,x376007,x376008,x376009,x376010=>if x56=true then (some false) else (if x376004<0 then (some false) else (if x376004>253402300799 then (some false) else (if x376005<0 then (some false) else (if x376005>253402300799 then (some false) else (if x376006<0 then (some false) else (if x376006>253402300799 then (some false) else (if x376010>=0 then (some (decide (x376010<=3))) else (some false))))))))
end
def Aa.f (k:Nat) (a0_0:ByteArray) (a0_1:ByteArray) (a0_2:ByteArray) (a0_3:ByteArray) (a0_4:Int) (a0_5:Int) (a0_6:Int) (a0_7:Bool) (a0_8:Bool) (a0_9:Bool) (a0_10:Int):Option (Bool):=(BH.f k a0_0).bind λbt376=>(if bt376.2=true then (if bt376.1.toList=a0_0.toList then ((Ch.f k a0_0).bind λt378=>(if t378=true then (Aa.j0 k (!a0_7) a0_0 a0_1 a0_2 a0_3 a0_4 a0_5 a0_6 a0_7 a0_8 a0_9 a0_10) else (Aa.j0 k false a0_0 a0_1 a0_2 a0_3 a0_4 a0_5 a0_6 a0_7 a0_8 a0_9 a0_10))) else (Aa.j0 k true a0_0 a0_1 a0_2 a0_3 a0_4 a0_5 a0_6 a0_7 a0_8 a0_9 a0_10)) else (Aa.j0 k true a0_0 a0_1 a0_2 a0_3 a0_4 a0_5 a0_6 a0_7 a0_8 a0_9 a0_10))
set_option maxHeartbeats 8000000 in
set_option maxRecDepth 100000 in
theorem Aa.calls (k:Nat) (a0_0:ByteArray) (a0_1:ByteArray) (a0_2:ByteArray) (a0_3:ByteArray) (a0_4:Int) (a0_5:Int) (a0_6:Int) (a0_7:Bool) (a0_8:Bool) (a0_9:Bool) (a0_10:Int) (r:Bool) (w:World) (h:Aa.f k a0_0 a0_1 a0_2 a0_3 a0_4 a0_5 a0_6 a0_7 a0_8 a0_9 a0_10=some r):
 Calls Tryz.prog 72 #[.agg #[.string a0_0, .string a0_1, .string a0_2, .string a0_3, .int .i64 a0_4, .int .i64 a0_5, .int .i64 a0_6, .bool a0_7, .bool a0_8, .bool a0_9, .int .i64 a0_10]] w λe w'=>e= .returned (.bool r)/\Below w.heap.size w w':=by
 have hu25:=Tryz.underlying25;have HB:=AA.mk (Below.refl w.heap.size w);have H:((BH.f k a0_0).bind λbt376=>(if bt376.2=true then (if bt376.1.toList=a0_0.toList then ((Ch.f k a0_0).bind λt378=>(if t378=true then (Aa.j0 k (!a0_7) a0_0 a0_1 a0_2 a0_3 a0_4 a0_5 a0_6 a0_7 a0_8 a0_9 a0_10) else (Aa.j0 k false a0_0 a0_1 a0_2 a0_3 a0_4 a0_5 a0_6 a0_7 a0_8 a0_9 a0_10))) else (Aa.j0 k true a0_0 a0_1 a0_2 a0_3 a0_4 a0_5 a0_6 a0_7 a0_8 a0_9 a0_10)) else (Aa.j0 k true a0_0 a0_1 a0_2 a0_3 a0_4 a0_5 a0_6 a0_7 a0_8 a0_9 a0_10)))=some r:=h;clear h;replace H:=Option.bind_eq_some_iff.mp H;obtain ⟨⟨t376,t377⟩,A20,H⟩:=H;try dsimp only at H
 have A2:=AA.mk A20;clear A20;have HC3:=AA.mk H;clear H;go_enter Tryz.func72,Tryz.ntmps72;go_upto_region 2 with (first|((with_reducible refine Fp (N:=1) rfl ?_);(try (refine He (by rfl) ?_;dsimp only));refine Dp (N:=1) (cs:=#[.string a0_0, .string a0_1, .string a0_2, .string a0_3, .int .i64 a0_4, .int .i64 a0_5, .int .i64 a0_6, .bool a0_7, .bool a0_8, .bool a0_9, .int .i64 a0_10]) (t:=25) (λgb375 hg w4 hbox hb=>?_);have BK375:=AA.mk (hbox);have GW375:AA (w.heap.size<=gb375):=Dq hg xb;have GE375:AA (w.heap.size<=gb375):=Dq hg xb;replace HB:=AA.mk (AO xb hb);clear hb hbox hg;obtain ⟨hcz5_0,hcz5_1,hcz5_2,hcz5_3,hcz5_4,hcz5_5,hcz5_6,hcz5_7,hcz5_8,hcz5_9,hcz5_10⟩:=BK BK375.out;have hfz5_0:=AP BK375.out)|((with_reducible refine AQ (f:=91) rfl ?_);refine Ag (some 8) rfl rfl Tryz.func91 (by kernel_rfl) rfl #[.string a0_0] rfl xg ?_;(with_reducible refine (BH.calls k a0_0 t376 t377 _ A2.out).mono ?_);rintro e w6 ⟨rfl,hb⟩;refine ⟨_,rfl,?_⟩;replace BK375:=bL BK375 hb;replace HB:=AA.mk (AO xb hb);(try clear hb)))
 (try simp only [Act.put,List.setIfInBounds_toArray,List.set_cons_zero,List.set_cons_succ]);go_cut [28] (λv28 wc=>∃ (kq:Nat) (x28_2:Bool),v28= .bool x28_2/\AA (Aa.j0 kq x28_2 a0_0 a0_1 a0_2 a0_3 a0_4 a0_5 a0_6 a0_7 a0_8 a0_9 a0_10=some r)/\AA (kq<=k)/\AA (wc.heap[gb375]? =some (.cells #[.string a0_0, .string a0_1, .string a0_2, .string a0_3, .int .i64 a0_4, .int .i64 a0_5, .int .i64 a0_6, .bool a0_7, .bool a0_8, .bool a0_9, .int .i64 a0_10] 25 (0,0)))/\AA (Below w.heap.size w wc));case first=>
  have H:=HC3.out;clear HC3;by_cases c7:t377=true
  ·subst c7;have H1:(if t376.toList=a0_0.toList then ((Ch.f k a0_0).bind λt378=>(if t378=true then (Aa.j0 k (!a0_7) a0_0 a0_1 a0_2 a0_3 a0_4 a0_5 a0_6 a0_7 a0_8 a0_9 a0_10) else (Aa.j0 k false a0_0 a0_1 a0_2 a0_3 a0_4 a0_5 a0_6 a0_7 a0_8 a0_9 a0_10))) else (Aa.j0 k true a0_0 a0_1 a0_2 a0_3 a0_4 a0_5 a0_6 a0_7 a0_8 a0_9 a0_10))=some r:=by rw [if_pos rfl] at H;exact H
   clear H;have H:=H1;clear H1;by_cases c8:t376.toList=a0_0.toList
   ·rw [if_pos c8] at H;have c8b0:(t376.toList==a0_0.toList)=true:=beq_iff_eq.mpr c8;have c8b1:(t376.toList != a0_0.toList)=false:=bne_eq_false_iff_eq.mpr c8;clear c8;(first|rw [c8b0]|(simp only [CE,CU];rw [c8b0])|skip);replace H:=Option.bind_eq_some_iff.mp H;obtain ⟨t378,A90,H⟩:=H;replace H:(if t378=true then (Aa.j0 k (!a0_7) a0_0 a0_1 a0_2 a0_3 a0_4 a0_5 a0_6 a0_7 a0_8 a0_9 a0_10) else (Aa.j0 k false a0_0 a0_1 a0_2 a0_3 a0_4 a0_5 a0_6 a0_7 a0_8 a0_9 a0_10))=some r:=H;have A9:=AA.mk A90;clear A90;by_cases c10:t378=true
    ·subst c10;rw [if_pos rfl] at H;have H':=AA.mk H;clear H;obtain ⟨hcz11_0,hcz11_1,hcz11_2,hcz11_3,hcz11_4,hcz11_5,hcz11_6,hcz11_7,hcz11_8,hcz11_9,hcz11_10⟩:=BK BK375.out;have hfz11_0:=AP BK375.out;go_wp2_with (first|(go_at_call 92;(with_reducible refine (Ch.calls k a0_0 true _ A9.out).mono ?_);rintro e w12 ⟨rfl,hb⟩;replace BK375:=bL BK375 hb;replace HB:=AA.mk (AO xb hb);(try clear hb);obtain ⟨hcz13_0,hcz13_1,hcz13_2,hcz13_3,hcz13_4,hcz13_5,hcz13_6,hcz13_7,hcz13_8,hcz13_9,hcz13_10⟩:=BK BK375.out;have hfz13_0:=AP BK375.out));go_meet;case rel=>exact ⟨_,(!a0_7),xq,H',⟨by first|omega|exact Nat.le_refl _⟩,⟨xk⟩,⟨xb⟩⟩
    ·replace c10:=Bool.eq_false_iff.mpr c10;subst c10;have H1:(Aa.j0 k false a0_0 a0_1 a0_2 a0_3 a0_4 a0_5 a0_6 a0_7 a0_8 a0_9 a0_10)=some r:=by rw [if_neg (show ¬(false=true) by decide)] at H;exact H
     clear H;have H:=H1;clear H1;have H':=AA.mk H;clear H;obtain ⟨hcz14_0,hcz14_1,hcz14_2,hcz14_3,hcz14_4,hcz14_5,hcz14_6,hcz14_7,hcz14_8,hcz14_9,hcz14_10⟩:=BK BK375.out;have hfz14_0:=AP BK375.out;go_wp2_with (first|(go_at_call 92;(with_reducible refine (Ch.calls k a0_0 false _ A9.out).mono ?_);rintro e w15 ⟨rfl,hb⟩;replace BK375:=bL BK375 hb;replace HB:=AA.mk (AO xb hb);(try clear hb)));go_meet;case rel=>exact ⟨_,(false),xq,H',⟨by first|omega|exact Nat.le_refl _⟩,⟨xk⟩,⟨xb⟩⟩
   ·rw [if_neg c8] at H;have c8b0:(t376.toList==a0_0.toList)=false:=beq_eq_false_iff_ne.mpr c8;have c8b1:(t376.toList != a0_0.toList)=true:=bne_iff_ne.mpr c8;(first|rw [c8b0]|(simp only [CE,CU];rw [c8b0])|skip);have H':=AA.mk H;clear H;obtain ⟨hcz16_0,hcz16_1,hcz16_2,hcz16_3,hcz16_4,hcz16_5,hcz16_6,hcz16_7,hcz16_8,hcz16_9,hcz16_10⟩:=BK BK375.out;have hfz16_0:=AP BK375.out;go_wp2;go_meet;case rel=>exact ⟨_,(true),xq,H',⟨by first|omega|exact Nat.le_refl _⟩,⟨xk⟩,⟨xb⟩⟩
  ·replace c7:=Bool.eq_false_iff.mpr c7;subst c7;have H1:(Aa.j0 k true a0_0 a0_1 a0_2 a0_3 a0_4 a0_5 a0_6 a0_7 a0_8 a0_9 a0_10)=some r:=by rw [if_neg (show ¬(false=true) by decide)] at H;exact H
   clear H;have H:=H1;clear H1;have H':=AA.mk H;clear H;go_wp2;go_meet;case rel=>exact ⟨_,(true),xq,H',⟨by first|omega|exact Nat.le_refl _⟩,⟨xk⟩,⟨xb⟩⟩
 case rest=>
  clear HC3;try clear c1
  try clear p2
  try clear p3
  try clear p6
  try clear c7
  try clear c8
  try clear c8b0
  try clear c8b1
  try clear c9
  try clear c10
  try clear hcz11_0
  try clear hcz11_1
  try clear hcz11_10
  try clear hcz11_2
  try clear hcz11_3
  try clear hcz11_4
  try clear hcz11_5
  try clear hcz11_6
  try clear hcz11_7
  try clear hcz11_8
  try clear hcz11_9
  try clear hcz13_0
  try clear hcz13_1
  try clear hcz13_10
  try clear hcz13_2
  try clear hcz13_3
  try clear hcz13_4
  try clear hcz13_5
  try clear hcz13_6
  try clear hcz13_7
  try clear hcz13_8
  try clear hcz13_9
  try clear hcz14_0
  try clear hcz14_1
  try clear hcz14_10
  try clear hcz14_2
  try clear hcz14_3
  try clear hcz14_4
  try clear hcz14_5
  try clear hcz14_6
  try clear hcz14_7
  try clear hcz14_8
  try clear hcz14_9
  try clear hcz16_0
  try clear hcz16_1
  try clear hcz16_10
  try clear hcz16_2
  try clear hcz16_3
  try clear hcz16_4
  try clear hcz16_5
  try clear hcz16_6
  try clear hcz16_7
  try clear hcz16_8
  try clear hcz16_9
  try clear hcz5_0
  try clear hcz5_1
  try clear hcz5_10
  try clear hcz5_2
  try clear hcz5_3
  try clear hcz5_4
  try clear hcz5_5
  try clear hcz5_6
  try clear hcz5_7
  try clear hcz5_8
  try clear hcz5_9
  try clear hfz11_0
  try clear hfz13_0
  try clear hfz14_0
  try clear hfz16_0
  try clear hfz5_0
  obtain ⟨kq,x28_2,rfl,HA,HJ2,BK375,HB⟩:=hcut;cases kq with
  |zero=>exact absurd HA.out (by simp [Aa.j0])
  |succ kj2=>
   have H:=HA.out;clear HA;simp only [Aa.j0] at H;by_cases c17:x28_2=true
   ·subst c17;have H1:(some false)=some r:=by rw [if_pos rfl] at H;exact H
    clear H;have H:=H1;clear H1;obtain rfl:=Option.some.inj H;go_wp2;go_ret;exact ⟨xe,xb⟩
   ·replace c17:=Bool.eq_false_iff.mpr c17;subst c17;have H1:((DZ.f kj2 a0_1).bind λt379=>(if t379=true then ((Bi.f kj2 a0_2).bind λt380=>(if t380=true then (if (a0_2.size:Int)>64 then (Aa.j1 kj2 true a0_0 a0_1 a0_2 a0_3 a0_4 a0_5 a0_6 a0_7 a0_8 a0_9 a0_10) else ((Bo.f kj2 a0_3).bind λt381=>(if t381=true then (Aa.j1 kj2 (decide ((a0_3.size:Int)>128)) a0_0 a0_1 a0_2 a0_3 a0_4 a0_5 a0_6 a0_7 a0_8 a0_9 a0_10) else (Aa.j1 kj2 true a0_0 a0_1 a0_2 a0_3 a0_4 a0_5 a0_6 a0_7 a0_8 a0_9 a0_10)))) else (Aa.j1 kj2 true a0_0 a0_1 a0_2 a0_3 a0_4 a0_5 a0_6 a0_7 a0_8 a0_9 a0_10))) else (Aa.j1 kj2 true a0_0 a0_1 a0_2 a0_3 a0_4 a0_5 a0_6 a0_7 a0_8 a0_9 a0_10)))=some r:=by rw [if_neg (show ¬(false=true) by decide)] at H;exact H
    clear H;have H:=H1;clear H1;have HC18:=AA.mk H;clear H;go_upto_region 4 with (fail)
    go_cut [56] (λv56 wc=>∃ (kq:Nat) (x56_17:Bool),v56= .bool x56_17/\AA (Aa.j1 kq x56_17 a0_0 a0_1 a0_2 a0_3 a0_4 a0_5 a0_6 a0_7 a0_8 a0_9 a0_10=some r)/\AA (kq<=kj2)/\AA (wc.heap[gb375]? =some (.cells #[.string a0_0, .string a0_1, .string a0_2, .string a0_3, .int .i64 a0_4, .int .i64 a0_5, .int .i64 a0_6, .bool a0_7, .bool a0_8, .bool a0_9, .int .i64 a0_10] 25 (0,0)))/\AA (Below w.heap.size w wc));case first=>
     have H:=HC18.out;clear HC18;replace H:=Option.bind_eq_some_iff.mp H;obtain ⟨t379,A190,H⟩:=H;replace H:(if t379=true then ((Bi.f kj2 a0_2).bind λt380=>(if t380=true then (if (a0_2.size:Int)>64 then (Aa.j1 kj2 true a0_0 a0_1 a0_2 a0_3 a0_4 a0_5 a0_6 a0_7 a0_8 a0_9 a0_10) else ((Bo.f kj2 a0_3).bind λt381=>(if t381=true then (Aa.j1 kj2 (decide ((a0_3.size:Int)>128)) a0_0 a0_1 a0_2 a0_3 a0_4 a0_5 a0_6 a0_7 a0_8 a0_9 a0_10) else (Aa.j1 kj2 true a0_0 a0_1 a0_2 a0_3 a0_4 a0_5 a0_6 a0_7 a0_8 a0_9 a0_10)))) else (Aa.j1 kj2 true a0_0 a0_1 a0_2 a0_3 a0_4 a0_5 a0_6 a0_7 a0_8 a0_9 a0_10))) else (Aa.j1 kj2 true a0_0 a0_1 a0_2 a0_3 a0_4 a0_5 a0_6 a0_7 a0_8 a0_9 a0_10))=some r:=H;have A19:=AA.mk A190;clear A190;by_cases c20:t379=true
     ·subst c20;rw [if_pos rfl] at H;replace H:=Option.bind_eq_some_iff.mp H;obtain ⟨t380,A210,H⟩:=H;try dsimp only at H
      have A21:=AA.mk A210;clear A210;by_cases c22:t380=true
      ·subst c22;rw [if_pos rfl] at H;by_cases c23:(a0_2.size:Int)>64
       ·rw [if_pos c23] at H;have c23b0:decide (64<(a0_2.size:Int))=true:=decide_eq_true c23;have c23b1:decide (64<a0_2.size)=true:=decide_eq_true (by omega);clear c23;(first|rw [c23b0]|(simp only [CE,CU];rw [c23b0])|skip);have H':=AA.mk H;clear H;obtain ⟨hcz24_0,hcz24_1,hcz24_2,hcz24_3,hcz24_4,hcz24_5,hcz24_6,hcz24_7,hcz24_8,hcz24_9,hcz24_10⟩:=BK BK375.out;have hfz24_0:=AP BK375.out;go_wp2_with (first|((with_reducible refine AQ (f:=93) rfl ?_);refine Ag (some 31) rfl rfl Tryz.func93 (by kernel_rfl) rfl #[.string a0_1] rfl xg ?_;(with_reducible refine (DZ.calls kj2 a0_1 true _ A19.out).mono ?_);rintro e w' ⟨rfl,⟨nd,rfl⟩⟩;refine ⟨_,rfl,?_⟩)|(go_at_call 94;(with_reducible refine (Bi.calls kj2 a0_2 true _ A21.out).mono ?_);rintro e w' ⟨rfl,⟨nd,rfl⟩⟩));go_meet;case rel=>exact ⟨_,(true),xq,H',⟨by have:=HJ2.out;first|omega|exact Nat.le_refl _⟩,⟨xk⟩,⟨xb⟩⟩
       ·rw [if_neg c23] at H;have c23b0:decide (64<(a0_2.size:Int))=false:=decide_eq_false c23;have c23b1:decide (64<a0_2.size)=false:=decide_eq_false (by omega);clear c23;(first|rw [c23b0]|(simp only [CE,CU];rw [c23b0])|skip);replace H:=Option.bind_eq_some_iff.mp H;obtain ⟨t381,A250,H⟩:=H;replace H:(if t381=true then (Aa.j1 kj2 (decide ((a0_3.size:Int)>128)) a0_0 a0_1 a0_2 a0_3 a0_4 a0_5 a0_6 a0_7 a0_8 a0_9 a0_10) else (Aa.j1 kj2 true a0_0 a0_1 a0_2 a0_3 a0_4 a0_5 a0_6 a0_7 a0_8 a0_9 a0_10))=some r:=H;have A25:=AA.mk A250;clear A250;by_cases c26:t381=true
        ·subst c26;rw [if_pos rfl] at H;have H':=AA.mk H;clear H;obtain ⟨hcz27_0,hcz27_1,hcz27_2,hcz27_3,hcz27_4,hcz27_5,hcz27_6,hcz27_7,hcz27_8,hcz27_9,hcz27_10⟩:=BK BK375.out;have hfz27_0:=AP BK375.out;go_wp2_with (first|((with_reducible refine AQ (f:=93) rfl ?_);refine Ag (some 31) rfl rfl Tryz.func93 (by kernel_rfl) rfl #[.string a0_1] rfl xg ?_;(with_reducible refine (DZ.calls kj2 a0_1 true _ A19.out).mono ?_);rintro e w' ⟨rfl,⟨nd,rfl⟩⟩;refine ⟨_,rfl,?_⟩)|(go_at_call 94;(with_reducible refine (Bi.calls kj2 a0_2 true _ A21.out).mono ?_);rintro e w' ⟨rfl,⟨nd,rfl⟩⟩)|(go_at_call 95;(with_reducible refine (Bo.calls kj2 a0_3 true _ A25.out).mono ?_);rintro e w' ⟨rfl,⟨nd,rfl⟩⟩));go_meet;case rel=>exact ⟨_,(decide ((a0_3.size:Int)>128)),xq,H',⟨by have:=HJ2.out;first|omega|exact Nat.le_refl _⟩,⟨xk⟩,⟨xb⟩⟩
        ·replace c26:=Bool.eq_false_iff.mpr c26;subst c26;have H1:(Aa.j1 kj2 true a0_0 a0_1 a0_2 a0_3 a0_4 a0_5 a0_6 a0_7 a0_8 a0_9 a0_10)=some r:=by rw [if_neg (show ¬(false=true) by decide)] at H;exact H
         clear H;have H:=H1;clear H1;have H':=AA.mk H;clear H;obtain ⟨hcz28_0,hcz28_1,hcz28_2,hcz28_3,hcz28_4,hcz28_5,hcz28_6,hcz28_7,hcz28_8,hcz28_9,hcz28_10⟩:=BK BK375.out;have hfz28_0:=AP BK375.out;go_wp2_with (first|((with_reducible refine AQ (f:=93) rfl ?_);refine Ag (some 31) rfl rfl Tryz.func93 (by kernel_rfl) rfl #[.string a0_1] rfl xg ?_;(with_reducible refine (DZ.calls kj2 a0_1 true _ A19.out).mono ?_);rintro e w' ⟨rfl,⟨nd,rfl⟩⟩;refine ⟨_,rfl,?_⟩)|(go_at_call 94;(with_reducible refine (Bi.calls kj2 a0_2 true _ A21.out).mono ?_);rintro e w' ⟨rfl,⟨nd,rfl⟩⟩)|(go_at_call 95;(with_reducible refine (Bo.calls kj2 a0_3 false _ A25.out).mono ?_);rintro e w' ⟨rfl,⟨nd,rfl⟩⟩));go_meet;case rel=>exact ⟨_,(true),xq,H',⟨by have:=HJ2.out;first|omega|exact Nat.le_refl _⟩,⟨xk⟩,⟨xb⟩⟩
      ·replace c22:=Bool.eq_false_iff.mpr c22;subst c22;have H1:(Aa.j1 kj2 true a0_0 a0_1 a0_2 a0_3 a0_4 a0_5 a0_6 a0_7 a0_8 a0_9 a0_10)=some r:=by rw [if_neg (show ¬(false=true) by decide)] at H;exact H
       clear H;have H:=H1;clear H1;have H':=AA.mk H;clear H;obtain ⟨hcz29_0,hcz29_1,hcz29_2,hcz29_3,hcz29_4,hcz29_5,hcz29_6,hcz29_7,hcz29_8,hcz29_9,hcz29_10⟩:=BK BK375.out;have hfz29_0:=AP BK375.out;go_wp2_with (first|((with_reducible refine AQ (f:=93) rfl ?_);refine Ag (some 31) rfl rfl Tryz.func93 (by kernel_rfl) rfl #[.string a0_1] rfl xg ?_;(with_reducible refine (DZ.calls kj2 a0_1 true _ A19.out).mono ?_);rintro e w' ⟨rfl,⟨nd,rfl⟩⟩;refine ⟨_,rfl,?_⟩)|(go_at_call 94;(with_reducible refine (Bi.calls kj2 a0_2 false _ A21.out).mono ?_);rintro e w' ⟨rfl,⟨nd,rfl⟩⟩));go_meet;case rel=>exact ⟨_,(true),xq,H',⟨by have:=HJ2.out;first|omega|exact Nat.le_refl _⟩,⟨xk⟩,⟨xb⟩⟩
     ·replace c20:=Bool.eq_false_iff.mpr c20;subst c20;have H1:(Aa.j1 kj2 true a0_0 a0_1 a0_2 a0_3 a0_4 a0_5 a0_6 a0_7 a0_8 a0_9 a0_10)=some r:=by rw [if_neg (show ¬(false=true) by decide)] at H;exact H
      clear H;have H:=H1;clear H1;have H':=AA.mk H;clear H;obtain ⟨hcz30_0,hcz30_1,hcz30_2,hcz30_3,hcz30_4,hcz30_5,hcz30_6,hcz30_7,hcz30_8,hcz30_9,hcz30_10⟩:=BK BK375.out;have hfz30_0:=AP BK375.out;go_wp2_with (first|((with_reducible refine AQ (f:=93) rfl ?_);refine Ag (some 31) rfl rfl Tryz.func93 (by kernel_rfl) rfl #[.string a0_1] rfl xg ?_;(with_reducible refine (DZ.calls kj2 a0_1 false _ A19.out).mono ?_);rintro e w' ⟨rfl,⟨nd,rfl⟩⟩;refine ⟨_,rfl,?_⟩));go_meet;case rel=>exact ⟨_,(true),xq,H',⟨by have:=HJ2.out;first|omega|exact Nat.le_refl _⟩,⟨xk⟩,⟨xb⟩⟩
    case rest=>
     clear HC18;try clear c1
     try clear c2
     try clear p2
     try clear p3
     try clear p6
     try clear c7
     try clear c8
     try clear c8b0
     try clear c8b1
     try clear c9
     try clear c10
     try clear c17
     try clear c20
     try clear c22
     try clear c23
     try clear c23b0
     try clear c23b1
     try clear c26
     try clear hcz11_0
     try clear hcz11_1
     try clear hcz11_10
     try clear hcz11_2
     try clear hcz11_3
     try clear hcz11_4
     try clear hcz11_5
     try clear hcz11_6
     try clear hcz11_7
     try clear hcz11_8
     try clear hcz11_9
     try clear hcz13_0
     try clear hcz13_1
     try clear hcz13_10
     try clear hcz13_2
     try clear hcz13_3
     try clear hcz13_4
     try clear hcz13_5
     try clear hcz13_6
     try clear hcz13_7
     try clear hcz13_8
     try clear hcz13_9
     try clear hcz14_0
     try clear hcz14_1
     try clear hcz14_10
     try clear hcz14_2
     try clear hcz14_3
     try clear hcz14_4
     try clear hcz14_5
     try clear hcz14_6
     try clear hcz14_7
     try clear hcz14_8
     try clear hcz14_9
     try clear hcz16_0
     try clear hcz16_1
     try clear hcz16_10
     try clear hcz16_2
     try clear hcz16_3
     try clear hcz16_4
     try clear hcz16_5
     try clear hcz16_6
     try clear hcz16_7
     try clear hcz16_8
     try clear hcz16_9
     try clear hcz24_0
     try clear hcz24_1
     try clear hcz24_10
     try clear hcz24_2
     try clear hcz24_3
     try clear hcz24_4
     try clear hcz24_5
     try clear hcz24_6
     try clear hcz24_7
     try clear hcz24_8
     try clear hcz24_9
     try clear hcz27_0
     try clear hcz27_1
     try clear hcz27_10
     try clear hcz27_2
     try clear hcz27_3
     try clear hcz27_4
     try clear hcz27_5
     try clear hcz27_6
     try clear hcz27_7
     try clear hcz27_8
     try clear hcz27_9
     try clear hcz28_0
     try clear hcz28_1
     try clear hcz28_10
     try clear hcz28_2
     try clear hcz28_3
     try clear hcz28_4
     try clear hcz28_5
     try clear hcz28_6
     try clear hcz28_7
     try clear hcz28_8
     try clear hcz28_9
     try clear hcz29_0
     try clear hcz29_1
     try clear hcz29_10
     try clear hcz29_2
     try clear hcz29_3
     try clear hcz29_4
     try clear hcz29_5
     try clear hcz29_6
     try clear hcz29_7
     try clear hcz29_8
     try clear hcz29_9
     try clear hcz30_0
     try clear hcz30_1
     try clear hcz30_10
     try clear hcz30_2
     try clear hcz30_3
     try clear hcz30_4
     try clear hcz30_5
     try clear hcz30_6
     try clear hcz30_7
     try clear hcz30_8
     try clear hcz30_9
     try clear hcz5_0
     try clear hcz5_1
     try clear hcz5_10
     try clear hcz5_2
     try clear hcz5_3
     try clear hcz5_4
     try clear hcz5_5
     try clear hcz5_6
     try clear hcz5_7
     try clear hcz5_8
     try clear hcz5_9
     try clear hfz11_0
     try clear hfz13_0
     try clear hfz14_0
     try clear hfz16_0
     try clear hfz24_0
     try clear hfz27_0
     try clear hfz28_0
     try clear hfz29_0
     try clear hfz30_0
     try clear hfz5_0
     try clear p2
     try clear p3
     try clear p6
     obtain ⟨kq,x56_17,rfl,HA,HJ17,BK375,HB⟩:=hcut;cases kq with
     |zero=>exact absurd HA.out (by simp [Aa.j1])
     |succ kj17=>
      have H:=HA.out;clear HA;simp only [Aa.j1] at H;by_cases c31:x56_17=true
      ·subst c31;have H1:(some false)=some r:=by rw [if_pos rfl] at H;exact H
       clear H;have H:=H1;clear H1;obtain rfl:=Option.some.inj H;go_wp2;go_ret;exact ⟨xe,xb⟩
      ·replace c31:=Bool.eq_false_iff.mpr c31;subst c31;have H1:(if a0_4<0 then (some false) else (if a0_4>253402300799 then (some false) else (if a0_5<0 then (some false) else (if a0_5>253402300799 then (some false) else (if a0_6<0 then (some false) else (if a0_6>253402300799 then (some false) else (if a0_10>=0 then (some (decide (a0_10<=3))) else (some false))))))))=some r:=by rw [if_neg (show ¬(false=true) by decide)] at H;exact H
       clear H;have H:=H1;clear H1;by_cases c32:a0_4<0
       ·rw [if_pos c32] at H;have c32b0:decide (a0_4<0)=true:=decide_eq_true c32;clear c32;obtain rfl:=Option.some.inj H;obtain ⟨hcz33_0,hcz33_1,hcz33_2,hcz33_3,hcz33_4,hcz33_5,hcz33_6,hcz33_7,hcz33_8,hcz33_9,hcz33_10⟩:=BK BK375.out;have hfz33_0:=AP BK375.out;go_wp2;go_ret;exact ⟨xe,xb⟩
       ·rw [if_neg c32] at H;have c32b0:decide (a0_4<0)=false:=decide_eq_false c32;clear c32;by_cases c34:a0_4>253402300799
        ·rw [if_pos c34] at H;have c34b0:decide (253402300799<a0_4)=true:=decide_eq_true c34;clear c34;obtain rfl:=Option.some.inj H;obtain ⟨hcz35_0,hcz35_1,hcz35_2,hcz35_3,hcz35_4,hcz35_5,hcz35_6,hcz35_7,hcz35_8,hcz35_9,hcz35_10⟩:=BK BK375.out;have hfz35_0:=AP BK375.out;go_wp2;go_ret;exact ⟨xe,xb⟩
        ·rw [if_neg c34] at H;have c34b0:decide (253402300799<a0_4)=false:=decide_eq_false c34;clear c34;by_cases c36:a0_5<0
         ·rw [if_pos c36] at H;have c36b0:decide (a0_5<0)=true:=decide_eq_true c36;clear c36;obtain rfl:=Option.some.inj H;obtain ⟨hcz37_0,hcz37_1,hcz37_2,hcz37_3,hcz37_4,hcz37_5,hcz37_6,hcz37_7,hcz37_8,hcz37_9,hcz37_10⟩:=BK BK375.out;have hfz37_0:=AP BK375.out;go_wp2;go_ret;exact ⟨xe,xb⟩
         ·rw [if_neg c36] at H;have c36b0:decide (a0_5<0)=false:=decide_eq_false c36;clear c36;by_cases c38:a0_5>253402300799
          ·rw [if_pos c38] at H;have c38b0:decide (253402300799<a0_5)=true:=decide_eq_true c38;clear c38;obtain rfl:=Option.some.inj H;obtain ⟨hcz39_0,hcz39_1,hcz39_2,hcz39_3,hcz39_4,hcz39_5,hcz39_6,hcz39_7,hcz39_8,hcz39_9,hcz39_10⟩:=BK BK375.out;have hfz39_0:=AP BK375.out;go_wp2;go_ret;exact ⟨xe,xb⟩
          ·rw [if_neg c38] at H;have c38b0:decide (253402300799<a0_5)=false:=decide_eq_false c38;clear c38;by_cases c40:a0_6<0
           ·rw [if_pos c40] at H;have c40b0:decide (a0_6<0)=true:=decide_eq_true c40;clear c40;obtain rfl:=Option.some.inj H;obtain ⟨hcz41_0,hcz41_1,hcz41_2,hcz41_3,hcz41_4,hcz41_5,hcz41_6,hcz41_7,hcz41_8,hcz41_9,hcz41_10⟩:=BK BK375.out;have hfz41_0:=AP BK375.out;go_wp2;go_ret;exact ⟨xe,xb⟩
           ·rw [if_neg c40] at H;have c40b0:decide (a0_6<0)=false:=decide_eq_false c40;clear c40;by_cases c42:a0_6>253402300799
            ·rw [if_pos c42] at H;have c42b0:decide (253402300799<a0_6)=true:=decide_eq_true c42;clear c42;obtain rfl:=Option.some.inj H;obtain ⟨hcz43_0,hcz43_1,hcz43_2,hcz43_3,hcz43_4,hcz43_5,hcz43_6,hcz43_7,hcz43_8,hcz43_9,hcz43_10⟩:=BK BK375.out;have hfz43_0:=AP BK375.out;go_wp2;go_ret;exact ⟨xe,xb⟩
            ·rw [if_neg c42] at H;have c42b0:decide (253402300799<a0_6)=false:=decide_eq_false c42;clear c42;by_cases c44:a0_10>=0
             ·rw [if_pos c44] at H;have c44b0:decide (0<=a0_10)=true:=decide_eq_true c44;clear c44;obtain rfl:=Option.some.inj H;obtain ⟨hcz45_0,hcz45_1,hcz45_2,hcz45_3,hcz45_4,hcz45_5,hcz45_6,hcz45_7,hcz45_8,hcz45_9,hcz45_10⟩:=BK BK375.out;have hfz45_0:=AP BK375.out;go_wp2;go_ret;exact ⟨xe,xb⟩
             ·rw [if_neg c44] at H;have c44b0:decide (0<=a0_10)=false:=decide_eq_false c44;clear c44;obtain rfl:=Option.some.inj H;obtain ⟨hcz46_0,hcz46_1,hcz46_2,hcz46_3,hcz46_4,hcz46_5,hcz46_6,hcz46_7,hcz46_8,hcz46_9,hcz46_10⟩:=BK BK375.out;have hfz46_0:=AP BK375.out;go_wp2;go_ret;exact ⟨xe,xb⟩
def Du.f (a0:Int) (a1:Int):Option (Int):=if a0<a1 then (some (-1)) else (if a0>a1 then (some 1) else (some 0))
set_option maxHeartbeats 8000000 in
set_option maxRecDepth 100000 in
theorem Du.calls (a0:Int) (a1:Int) (r:Int) (w:World) (h:Du.f a0 a1=some r):
 Calls Tryz.prog 96 #[.int .i64 a0, .int .i64 a1] w λe w'=>e= .returned (.int .i64 r)/\BP w w':=by
 have H:(if a0<a1 then (some (-1)) else (if a0>a1 then (some 1) else (some 0)))=some r:=h;clear h;by_cases c3:a0<a1
 ·rw [if_pos c3] at H;have c3b0:decide (a0<a1)=true:=decide_eq_true c3;clear c3;obtain rfl:=Option.some.inj H;go_enter Tryz.func96,Tryz.ntmps96;go_wp2;go_ret;exact ⟨xq,xd⟩
 ·rw [if_neg c3] at H;have c3b0:decide (a0<a1)=false:=decide_eq_false c3;clear c3;by_cases c4:a0>a1
  ·rw [if_pos c4] at H;have c4b0:decide (a1<a0)=true:=decide_eq_true c4;clear c4;obtain rfl:=Option.some.inj H;go_enter Tryz.func96,Tryz.ntmps96;go_wp2;go_ret;exact ⟨xq,xd⟩
  ·rw [if_neg c4] at H;have c4b0:decide (a1<a0)=false:=decide_eq_false c4;clear c4;obtain rfl:=Option.some.inj H;go_enter Tryz.func96,Tryz.ntmps96;go_wp2;go_ret;exact ⟨xq,xd⟩
end Go.Proofs.YtfggjdkccdkogaaGreatDoor.Print
end
