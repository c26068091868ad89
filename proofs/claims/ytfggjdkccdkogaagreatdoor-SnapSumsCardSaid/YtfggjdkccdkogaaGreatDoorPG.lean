/- Several parts of the claim's proof in one text, said short by a program of this session. No condition. -/
import Derived.Test.YtfggjdkccdkogaaGreatDoorPF
import Derived.Test.YtfggjdkccdkogaaGreatDoorPI
import Derived.Test.YtfggjdkccdkogaaGreatDoorPrint13
section
namespace Go.Proofs.YtfggjdkccdkogaaGreatDoor.Print
open RowKit Ac Aq Aw
attribute [local go_sem] DC DD DX DY Co Cq DI DJ
set_option linter.unusedVariables false
set_option linter.unusedSimpArgs false
attribute [local go_sem high] Yy
mutual
def Ay.l0:Nat->ByteArray->ByteArray->Int->Option (Int)
 |0,_,_,_=>none
 |k+1,x0,x1,x5=>if x5<(x0.size:Int) then (Ay.j1 k x0 x1 x5 (decide (x5<(x1.size:Int)))) else (Ay.j1 k x0 x1 x5 false)
def Ay.j1:Nat->ByteArray->ByteArray->Int->Bool->Option (Int)
 |0,_,_,_,_=>none
 |k+1,x0,x1,x5,x15=>if x15=true then (if 0<=x5 then (if x5<(x0.size:Int) then (if x5<(x1.size:Int) then (if (bt x0 x5)<(bt x1 x5) then (some (-1)) else (if (bt x0 x5)>(bt x1 x5) then (some 1) else (Ay.l0 k x0 x1 (wrap64 (x5+1))))) else (none)) else (none)) else (none)) else ((Du.f (x0.size:Int) (x1.size:Int)).bind λt382=>(some t382))
end
def Ay.f (k:Nat) (a0:ByteArray) (a1:ByteArray):Option (Int):=Ay.l0 k a0 a1 0
set_option maxHeartbeats 8000000 in
set_option maxRecDepth 100000 in
theorem Ay.calls (k:Nat) (a0:ByteArray) (a1:ByteArray) (r:Int) (w:World) (h:Ay.f k a0 a1=some r):
 Calls Tryz.prog 73 #[.string a0, .string a1] w λe w'=>e= .returned (.int .i64 r)/\BP w w':=by
 have H:(Ay.l0 k a0 a1 0)=some r:=h;clear h;have H':=AA.mk H;clear H;go_enter Tryz.func73,Tryz.ntmps73;go_wp2;repeat (go_quiet (fail);try go_wp2)
 go_loopg [5] k (λkq v5 w'=>∃ (x5_1:Int),v5= .int .i64 x5_1/\AA (Ay.l0 kq a0 a1 x5_1=some r)/\AA (kq<=k)/\BP w w');case atStart=>exact ⟨(0),xq,H',⟨Nat.le_refl _⟩,xd⟩
 case round=>
  clear H';try clear p2
  obtain ⟨x5_1,rfl,HA,HK1,⟨m1,rfl⟩⟩:=hrel;cases gk with
  |zero=>exact absurd HA.out (by simp [Ay.l0])
  |succ k1=>
   have H:=HA.out;clear HA;simp only [Ay.l0] at H;have HC3:=AA.mk H;clear H;go_upto_region 2 with (fail)
   repeat (go_quiet (fail);go_upto_region 2 with (fail))
   go_cut [15] (λv15 wc=>∃ (kq:Nat) (x15_2:Bool),v15= .bool x15_2/\AA (Ay.j1 kq a0 a1 x5_1 x15_2=some r)/\AA (kq<=k1)/\BP w wc);case first=>
    have H:=HC3.out;clear HC3;by_cases c4:x5_1<(a0.size:Int)
    ·rw [if_pos c4] at H;have c4b0:decide (x5_1<(a0.size:Int))=true:=decide_eq_true c4;clear c4;(first|rw [c4b0]|(simp only [CE,CU];rw [c4b0])|skip);have H':=AA.mk H;clear H;go_wp2;repeat (go_quiet (fail);try go_wp2)
     go_meet;case rel=>exact ⟨_,(decide (x5_1<(a1.size:Int))),xq,H',⟨by have:=HK1.out;first|omega|exact Nat.le_refl _⟩,xd⟩
    ·rw [if_neg c4] at H;have c4b0:decide (x5_1<(a0.size:Int))=false:=decide_eq_false c4;clear c4;(first|rw [c4b0]|(simp only [CE,CU];rw [c4b0])|skip);have H':=AA.mk H;clear H;go_wp2;repeat (go_quiet (fail);try go_wp2)
     go_meet;case rel=>exact ⟨_,(false),xq,H',⟨by have:=HK1.out;first|omega|exact Nat.le_refl _⟩,xd⟩
   case rest=>
    clear HC3;try clear p2
    try clear c4
    try clear c4b0
    try clear p2
    obtain ⟨kq,x15_2,rfl,HA,HJ2,⟨mc2,rfl⟩⟩:=hcut;cases kq with
    |zero=>exact absurd HA.out (by simp [Ay.j1])
    |succ kj2=>
     have H:=HA.out;clear HA;simp only [Ay.j1] at H;by_cases c5:x15_2=true
     ·subst c5;have H1:(if 0<=x5_1 then (if x5_1<(a0.size:Int) then (if x5_1<(a1.size:Int) then (if (bt a0 x5_1)<(bt a1 x5_1) then (some (-1)) else (if (bt a0 x5_1)>(bt a1 x5_1) then (some 1) else (Ay.l0 kj2 a0 a1 (wrap64 (x5_1+1))))) else (none)) else (none)) else (none))=some r:=by rw [if_pos rfl] at H;exact H
      clear H;have H:=H1;clear H1;by_cases c6:0<=x5_1
      ·rw [if_pos c6] at H;have c6b0:decide (0<=x5_1)=true:=decide_eq_true c6;clear c6;by_cases c7:x5_1<(a0.size:Int)
       ·rw [if_pos c7] at H;have c7b0:decide (x5_1<(a0.size:Int))=true:=decide_eq_true c7;clear c7;by_cases c9:x5_1<(a1.size:Int)
        ·rw [if_pos c9] at H;have c9b0:decide (x5_1<(a1.size:Int))=true:=decide_eq_true c9;clear c9;by_cases c11:(bt a0 x5_1)<(bt a1 x5_1)
         ·rw [if_pos c11] at H;have c11b0:decide ((bt a0 x5_1)<(bt a1 x5_1))=true:=decide_eq_true c11;clear c11;obtain rfl:=Option.some.inj H;have p8:0<=(x5_1:Int):=xa;have q8:x5_1<(a0.size:Int):=xa;have hx8:=CV a0 x5_1;replace p8:=eq_true p8;replace q8:=eq_true q8;have p10:0<=(x5_1:Int):=xa;have q10:x5_1<(a1.size:Int):=xa;have hx10:=CV a1 x5_1;replace p10:=eq_true p10;replace q10:=eq_true q10;go_wp2;repeat (go_quiet (fail);try go_wp2)
          go_ret;exact ⟨xq,xd⟩
         ·rw [if_neg c11] at H;have c11b0:decide ((bt a0 x5_1)<(bt a1 x5_1))=false:=decide_eq_false c11;clear c11;by_cases c14:(bt a0 x5_1)>(bt a1 x5_1)
          ·rw [if_pos c14] at H;have c14b0:decide ((bt a1 x5_1)<(bt a0 x5_1))=true:=decide_eq_true c14;clear c14;obtain rfl:=Option.some.inj H;have p8:0<=(x5_1:Int):=xa;have q8:x5_1<(a0.size:Int):=xa;have hx8:=CV a0 x5_1;replace p8:=eq_true p8;replace q8:=eq_true q8;have p10:0<=(x5_1:Int):=xa;have q10:x5_1<(a1.size:Int):=xa;have hx10:=CV a1 x5_1;replace p10:=eq_true p10;replace q10:=eq_true q10;have p12:0<=(x5_1:Int):=xa;have q12:x5_1<(a0.size:Int):=xa;have hx12:=CV a0 x5_1;replace p12:=eq_true p12;replace q12:=eq_true q12;have p13:0<=(x5_1:Int):=xa;have q13:x5_1<(a1.size:Int):=xa;have hx13:=CV a1 x5_1;replace p13:=eq_true p13;replace q13:=eq_true q13;go_wp2;repeat (go_quiet (fail);try go_wp2)
           go_ret;exact ⟨xq,xd⟩
          ·rw [if_neg c14] at H;have c14b0:decide ((bt a1 x5_1)<(bt a0 x5_1))=false:=decide_eq_false c14;clear c14;have H':=AA.mk H;clear H;have p8:0<=(x5_1:Int):=xa;have q8:x5_1<(a0.size:Int):=xa;have hx8:=CV a0 x5_1;replace p8:=eq_true p8;replace q8:=eq_true q8;have p10:0<=(x5_1:Int):=xa;have q10:x5_1<(a1.size:Int):=xa;have hx10:=CV a1 x5_1;replace p10:=eq_true p10;replace q10:=eq_true q10;have p12:0<=(x5_1:Int):=xa;have q12:x5_1<(a0.size:Int):=xa;have hx12:=CV a0 x5_1;replace p12:=eq_true p12;replace q12:=eq_true q12;have p13:0<=(x5_1:Int):=xa;have q13:x5_1<(a1.size:Int):=xa;have hx13:=CV a1 x5_1;replace p13:=eq_true p13;replace q13:=eq_true q13;go_wp2;repeat (go_quiet (fail);try go_wp2)
           go_roundg kj2;case measure=>have:=HK1.out;have:=HJ2.out;omega
           case rel=>exact ⟨(wrap64 (x5_1+1)),xq,H',⟨by have:=HK1.out;have:=HJ2.out;omega⟩,xd⟩
        ·rw [if_neg c9] at H;exact absurd H (by simp)
       ·rw [if_neg c7] at H;exact absurd H (by simp)
      ·rw [if_neg c6] at H;exact absurd H (by simp)
     ·replace c5:=Bool.eq_false_iff.mpr c5;subst c5;have H1:((Du.f (a0.size:Int) (a1.size:Int)).bind λt382=>(some t382))=some r:=by rw [if_neg (show ¬(false=true) by decide)] at H;exact H
      clear H;have H:=H1;clear H1;replace H:=Option.bind_eq_some_iff.mp H;obtain ⟨t382,A150,H⟩:=H;replace H:(some t382)=some r:=H;have A15:=AA.mk A150;clear A150;obtain rfl:=Option.some.inj H;go_wp2_with (first|(go_at_call 96;(with_reducible refine (Du.calls (a0.size:Int) (a1.size:Int) t382 _ A15.out).mono ?_);rintro e w' ⟨rfl,⟨nd,rfl⟩⟩;(try first|exact ⟨rfl,_,World.drewN_drewN _ _ _⟩|exact ⟨rfl,_,Eq.trans (World.drewN_drewN _ _ _) (congrArg (World.drewN _) (Nat.add_assoc _ _ _))⟩)));repeat (go_quiet (first|(go_at_call 96;(with_reducible refine (Du.calls (a0.size:Int) (a1.size:Int) t382 _ A15.out).mono ?_);rintro e w' ⟨rfl,⟨nd,rfl⟩⟩;(try first|exact ⟨rfl,_,World.drewN_drewN _ _ _⟩|exact ⟨rfl,_,Eq.trans (World.drewN_drewN _ _ _) (congrArg (World.drewN _) (Nat.add_assoc _ _ _))⟩)));try go_wp2_with (first|(go_at_call 96;(with_reducible refine (Du.calls (a0.size:Int) (a1.size:Int) t382 _ A15.out).mono ?_);rintro e w' ⟨rfl,⟨nd,rfl⟩⟩;(try first|exact ⟨rfl,_,World.drewN_drewN _ _ _⟩|exact ⟨rfl,_,Eq.trans (World.drewN_drewN _ _ _) (congrArg (World.drewN _) (Nat.add_assoc _ _ _))⟩))))
      go_ret;exact ⟨xq,xd⟩
def CL.f (k:Nat) (a0_0:ByteArray) (a0_1:ByteArray) (a0_2:ByteArray) (a1_0:ByteArray) (a1_1:ByteArray) (a1_2:ByteArray):Option (Int):=(Ay.f k a0_0 a1_0).bind λt385=>(if t385=0 then ((Ay.f k a0_1 a1_1).bind λt386=>(if t386=0 then ((Ay.f k a0_2 a1_2).bind λt387=>(some t387)) else (some t386))) else (some t385))
set_option maxHeartbeats 8000000 in
set_option maxRecDepth 100000 in
theorem CL.calls (k:Nat) (a0_0:ByteArray) (a0_1:ByteArray) (a0_2:ByteArray) (a1_0:ByteArray) (a1_1:ByteArray) (a1_2:ByteArray) (r:Int) (w:World) (h:CL.f k a0_0 a0_1 a0_2 a1_0 a1_1 a1_2=some r):
 Calls Tryz.prog 45 #[.agg #[.string a0_0, .string a0_1, .string a0_2], .agg #[.string a1_0, .string a1_1, .string a1_2]] w λe w'=>e= .returned (.int .i64 r)/\Below w.heap.size w w':=by
 have hu94:=Tryz.underlying94;have HB:=AA.mk (Below.refl w.heap.size w);have H:((Ay.f k a0_0 a1_0).bind λt385=>(if t385=0 then ((Ay.f k a0_1 a1_1).bind λt386=>(if t386=0 then ((Ay.f k a0_2 a1_2).bind λt387=>(some t387)) else (some t386))) else (some t385)))=some r:=h;clear h;replace H:=Option.bind_eq_some_iff.mp H;obtain ⟨t385,A30,H⟩:=H;try dsimp only at H
 have A3:=AA.mk A30;clear A30;by_cases c4:t385=0
 ·rw [if_pos c4] at H;have c4b0:(t385==0)=true:=beq_iff_eq.mpr c4;have c4b1:(t385 != 0)=false:=bne_eq_false_iff_eq.mpr c4;clear c4;replace H:=Option.bind_eq_some_iff.mp H;obtain ⟨t386,A50,H⟩:=H;replace H:(if t386=0 then ((Ay.f k a0_2 a1_2).bind λt387=>(some t387)) else (some t386))=some r:=H;have A5:=AA.mk A50;clear A50;by_cases c6:t386=0
  ·rw [if_pos c6] at H;have c6b0:(t386==0)=true:=beq_iff_eq.mpr c6;have c6b1:(t386 != 0)=false:=bne_eq_false_iff_eq.mpr c6;clear c6;replace H:=Option.bind_eq_some_iff.mp H;obtain ⟨t387,A70,H⟩:=H;replace H:(some t387)=some r:=H;have A7:=AA.mk A70;clear A70;obtain rfl:=Option.some.inj H;go_enter Tryz.func45,Tryz.ntmps45;go_wp2_with (first|(refine Dp (N:=2) (cs:=#[.string a0_0, .string a0_1, .string a0_2]) (t:=94) (λgb383 hg w8 hbox hb=>?_);have BK383:=AA.mk (hbox);have GW383:AA (w.heap.size<=gb383):=Dq hg xb;have GE383:AA (w.heap.size<=gb383):=Dq hg xb;replace HB:=AA.mk (AO xb hb);clear hb hbox hg)|(refine Dp (N:=3) (cs:=#[.string a1_0, .string a1_1, .string a1_2]) (t:=94) (λgb384 hg w9 hbox hb=>?_);have BK384:=AA.mk (hbox);have GW384:AA (w.heap.size<=gb384):=Dq hg xb;have GE384:AA (w.heap.size<=gb384):=Dq hg xb;replace HB:=AA.mk (AO xb hb);have NB383_384:=GM hg (Cs BK383);have NB384_383:=GN hg (Cs BK383);replace BK383:=Ao BK383 hb;clear hb hbox hg;have hnb10:=NB383_384.out;have hnc10:=NB384_383.out;obtain ⟨hcz11_0,hcz11_1,hcz11_2⟩:=cells3 BK383.out;have hfz11_0:=AP BK383.out;obtain ⟨hcz12_0,hcz12_1,hcz12_2⟩:=cells3 BK384.out;have hfz12_0:=AP BK384.out)|((with_reducible refine AQ (f:=73) rfl ?_);refine Ag (some 10) rfl rfl Tryz.func73 (by kernel_rfl) rfl #[.string a0_0, .string a1_0] rfl xg ?_;(with_reducible refine (Ay.calls k a0_0 a1_0 t385 _ A3.out).mono ?_);rintro e w' ⟨rfl,⟨nd,rfl⟩⟩;refine ⟨_,rfl,?_⟩)|((with_reducible refine AQ (f:=73) rfl ?_);refine Ag (some 17) rfl rfl Tryz.func73 (by kernel_rfl) rfl #[.string a0_1, .string a1_1] rfl xg ?_;(with_reducible refine (Ay.calls k a0_1 a1_1 t386 _ A5.out).mono ?_);rintro e w' ⟨rfl,⟨nd,rfl⟩⟩;refine ⟨_,rfl,?_⟩)|((with_reducible refine AQ (f:=73) rfl ?_);refine Ag (some 24) rfl rfl Tryz.func73 (by kernel_rfl) rfl #[.string a0_2, .string a1_2] rfl xg ?_;(with_reducible refine (Ay.calls k a0_2 a1_2 t387 _ A7.out).mono ?_);rintro e w' ⟨rfl,⟨nd,rfl⟩⟩;refine ⟨_,rfl,?_⟩));go_ret;exact ⟨xe,xb⟩
  ·rw [if_neg c6] at H;have c6b0:(t386==0)=false:=beq_eq_false_iff_ne.mpr c6;have c6b1:(t386 != 0)=true:=bne_iff_ne.mpr c6;obtain rfl:=Option.some.inj H;go_enter Tryz.func45,Tryz.ntmps45;go_wp2_with (first|(refine Dp (N:=2) (cs:=#[.string a0_0, .string a0_1, .string a0_2]) (t:=94) (λgb383 hg w13 hbox hb=>?_);have BK383:=AA.mk (hbox);have GW383:AA (w.heap.size<=gb383):=Dq hg xb;have GE383:AA (w.heap.size<=gb383):=Dq hg xb;replace HB:=AA.mk (AO xb hb);clear hb hbox hg)|(refine Dp (N:=3) (cs:=#[.string a1_0, .string a1_1, .string a1_2]) (t:=94) (λgb384 hg w14 hbox hb=>?_);have BK384:=AA.mk (hbox);have GW384:AA (w.heap.size<=gb384):=Dq hg xb;have GE384:AA (w.heap.size<=gb384):=Dq hg xb;replace HB:=AA.mk (AO xb hb);have NB383_384:=GM hg (Cs BK383);have NB384_383:=GN hg (Cs BK383);replace BK383:=Ao BK383 hb;clear hb hbox hg;have hnb15:=NB383_384.out;have hnc15:=NB384_383.out;obtain ⟨hcz16_0,hcz16_1,hcz16_2⟩:=cells3 BK383.out;have hfz16_0:=AP BK383.out;obtain ⟨hcz17_0,hcz17_1,hcz17_2⟩:=cells3 BK384.out;have hfz17_0:=AP BK384.out)|((with_reducible refine AQ (f:=73) rfl ?_);refine Ag (some 10) rfl rfl Tryz.func73 (by kernel_rfl) rfl #[.string a0_0, .string a1_0] rfl xg ?_;(with_reducible refine (Ay.calls k a0_0 a1_0 t385 _ A3.out).mono ?_);rintro e w' ⟨rfl,⟨nd,rfl⟩⟩;refine ⟨_,rfl,?_⟩)|((with_reducible refine AQ (f:=73) rfl ?_);refine Ag (some 17) rfl rfl Tryz.func73 (by kernel_rfl) rfl #[.string a0_1, .string a1_1] rfl xg ?_;(with_reducible refine (Ay.calls k a0_1 a1_1 t386 _ A5.out).mono ?_);rintro e w' ⟨rfl,⟨nd,rfl⟩⟩;refine ⟨_,rfl,?_⟩));go_ret;exact ⟨xe,xb⟩
 ·rw [if_neg c4] at H;have c4b0:(t385==0)=false:=beq_eq_false_iff_ne.mpr c4;have c4b1:(t385 != 0)=true:=bne_iff_ne.mpr c4;obtain rfl:=Option.some.inj H;go_enter Tryz.func45,Tryz.ntmps45;go_wp2_with (first|(refine Dp (N:=2) (cs:=#[.string a0_0, .string a0_1, .string a0_2]) (t:=94) (λgb383 hg w18 hbox hb=>?_);have BK383:=AA.mk (hbox);have GW383:AA (w.heap.size<=gb383):=Dq hg xb;have GE383:AA (w.heap.size<=gb383):=Dq hg xb;replace HB:=AA.mk (AO xb hb);clear hb hbox hg)|(refine Dp (N:=3) (cs:=#[.string a1_0, .string a1_1, .string a1_2]) (t:=94) (λgb384 hg w19 hbox hb=>?_);have BK384:=AA.mk (hbox);have GW384:AA (w.heap.size<=gb384):=Dq hg xb;have GE384:AA (w.heap.size<=gb384):=Dq hg xb;replace HB:=AA.mk (AO xb hb);have NB383_384:=GM hg (Cs BK383);have NB384_383:=GN hg (Cs BK383);replace BK383:=Ao BK383 hb;clear hb hbox hg;have hnb20:=NB383_384.out;have hnc20:=NB384_383.out;obtain ⟨hcz21_0,hcz21_1,hcz21_2⟩:=cells3 BK383.out;have hfz21_0:=AP BK383.out;obtain ⟨hcz22_0,hcz22_1,hcz22_2⟩:=cells3 BK384.out;have hfz22_0:=AP BK384.out)|((with_reducible refine AQ (f:=73) rfl ?_);refine Ag (some 10) rfl rfl Tryz.func73 (by kernel_rfl) rfl #[.string a0_0, .string a1_0] rfl xg ?_;(with_reducible refine (Ay.calls k a0_0 a1_0 t385 _ A3.out).mono ?_);rintro e w' ⟨rfl,⟨nd,rfl⟩⟩;refine ⟨_,rfl,?_⟩));go_ret;exact ⟨xe,xb⟩
def BS.f (a0_0:ByteArray) (a0_1:ByteArray) (a0_2:ByteArray) (a0_3:ByteArray) (a0_4:Int) (a0_5:Int) (a0_6:Int) (a0_7:Bool) (a0_8:Bool) (a0_9:Bool) (a0_10:Int):Option (ByteArray×ByteArray×ByteArray):=some (a0_0,a0_1,a0_2)
set_option maxHeartbeats 8000000 in
set_option maxRecDepth 100000 in
theorem BS.calls (a0_0:ByteArray) (a0_1:ByteArray) (a0_2:ByteArray) (a0_3:ByteArray) (a0_4:Int) (a0_5:Int) (a0_6:Int) (a0_7:Bool) (a0_8:Bool) (a0_9:Bool) (a0_10:Int) (r1:ByteArray) (r2:ByteArray) (r3:ByteArray) (w:World) (h:BS.f a0_0 a0_1 a0_2 a0_3 a0_4 a0_5 a0_6 a0_7 a0_8 a0_9 a0_10=some (r1,r2,r3)):
 Calls Tryz.prog 46 #[.agg #[.string a0_0, .string a0_1, .string a0_2, .string a0_3, .int .i64 a0_4, .int .i64 a0_5, .int .i64 a0_6, .bool a0_7, .bool a0_8, .bool a0_9, .int .i64 a0_10]] w λe w'=>e= .returned (.agg #[.string r1, .string r2, .string r3])/\Below w.heap.size w w':=by
 have hu25:=Tryz.underlying25;have hu94:=Tryz.underlying94;have HB:=AA.mk (Below.refl w.heap.size w);have H:(some (a0_0,a0_1,a0_2))=some (r1,r2,r3):=h;clear h;simp only [Option.some.injEq,Prod.mk.injEq] at H;obtain ⟨rfl,rfl,rfl⟩:=H;go_enter Tryz.func46,Tryz.ntmps46;go_wp2_with (first|(refine Dp (N:=1) (cs:=#[.string a0_0, .string a0_1, .string a0_2, .string a0_3, .int .i64 a0_4, .int .i64 a0_5, .int .i64 a0_6, .bool a0_7, .bool a0_8, .bool a0_9, .int .i64 a0_10]) (t:=25) (λgb388 hg w2 hbox hb=>?_);have BK388:=AA.mk (hbox);have GW388:AA (w.heap.size<=gb388):=Dq hg xb;have GE388:AA (w.heap.size<=gb388):=Dq hg xb;replace HB:=AA.mk (AO xb hb);clear hb hbox hg)|(refine Dp (N:=2) (cs:=#[.string (⟨#[]⟩:ByteArray), .string (⟨#[]⟩:ByteArray), .string (⟨#[]⟩:ByteArray)]) (t:=94) (λgb389 hg w3 hbox hb=>?_);have BK389:=AA.mk (hbox);have GW389:AA (w.heap.size<=gb389):=Dq hg xb;have GE389:AA (w.heap.size<=gb389):=Dq hg xb;replace HB:=AA.mk (AO xb hb);have NB388_389:=GM hg (Cs BK388);have NB389_388:=GN hg (Cs BK388);replace BK388:=Ao BK388 hb;clear hb hbox hg;have hnb4:=NB388_389.out;have hnc4:=NB389_388.out;obtain ⟨hcz5_0,hcz5_1,hcz5_2,hcz5_3,hcz5_4,hcz5_5,hcz5_6,hcz5_7,hcz5_8,hcz5_9,hcz5_10⟩:=BK BK388.out;have hfz5_0:=AP BK388.out;obtain ⟨hcz6_0,hcz6_1,hcz6_2⟩:=cells3 BK389.out;have hfz6_0:=AP BK389.out));refine bodyPost_ret (results_cell_row rfl _ _ gb389 94 #[.string a0_0, .string a0_1, .string a0_2] (0,0) _ rfl xk Tryz.underlying94 rfl (by kernel_rfl)) rfl ?_;exact ⟨xe,xb⟩
end Go.Proofs.YtfggjdkccdkogaaGreatDoor.Print
end
