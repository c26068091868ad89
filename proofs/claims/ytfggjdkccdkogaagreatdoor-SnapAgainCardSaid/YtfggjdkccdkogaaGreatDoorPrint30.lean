/- Printed by a program of this claim's session (xprint.py): the machine's side: each Go function as a Lean function, and that a call of it comes to what that tells; the row of a statement. No condition. -/
import Derived.Test.YtfggjdkccdkogaaGreatDoorPrint13
namespace Go.Proofs.YtfggjdkccdkogaaGreatDoor.Print
open RowKit Ac Aq Aw
attribute [local go_sem] DC DD DX DY Co Cq DI DJ
set_option linter.unusedVariables false
set_option linter.unusedSimpArgs false
def BM.j0:Nat->ByteArray->Option (Bool)
 |0,_=>none
 |k+1,x0=>(Ck.f k x0).bind λbt607=>(if bt607.2.2=0 then ((Dy.f k bt607.2.1).bind λbt612=>((Av.f k bt607.1 bt612.1).bind λbt617=>((AX.f k).bind λt619=>(if t619=true then (if bt612.2=0 then (if bt617.2=true then (some (bt617.1.toList==x0.toList)) else (some false)) else (some false)) else (some false))))) else ((AX.f k).bind λt620=>(if t620=true then (if bt607.1=0 then (some ((bt607.2.1.length:Int)==0)) else (some false)) else (some false))))
def BM.f (k:Nat) (a0:ByteArray) (a1:Bool):Option (Bool):=if (a0.size:Int)>2000 then ((AX.f k).bind λt605=>(some t605)) else (if a1=true then ((Ci.f k a0).bind λt606=>(if a0.size+t606.size<=9223372036854775807 then (BM.j0 k (a0++t606)) else (none))) else (BM.j0 k a0))
set_option maxHeartbeats 8000000 in
set_option maxRecDepth 100000 in
theorem BM.calls (k:Nat) (a0:ByteArray) (a1:Bool) (r:Bool) (w:World) (hG:AA (D8 w)) (hT_:AA (r=true)) (h:BM.f k a0 a1=some r):
 Calls Tryz.prog 8 #[.string a0, .bool a1] w λe w'=>e= .returned (.bool r)/\Below w.heap.size w w':=by
 have hu47:=Tryz.underlying47;have HB:=AA.mk (Below.refl w.heap.size w);have H:(if (a0.size:Int)>2000 then ((AX.f k).bind λt605=>(some t605)) else (if a1=true then ((Ci.f k a0).bind λt606=>(if a0.size+t606.size<=9223372036854775807 then (BM.j0 k (a0++t606)) else (none))) else (BM.j0 k a0)))=some r:=h;clear h;by_cases c3:(a0.size:Int)>2000
 ·rw [if_pos c3] at H;have c3b0:decide (2000<(a0.size:Int))=true:=decide_eq_true c3;have c3b1:decide (2000<a0.size)=true:=decide_eq_true (by omega);clear c3;replace H:=Option.bind_eq_some_iff.mp H;obtain ⟨t605,A40,H⟩:=H;replace H:(some t605)=some r:=H;have A4:=AA.mk A40;clear A40;obtain rfl:=Option.some.inj H;go_enter Tryz.func8,Tryz.ntmps8;go_wp2_with (first|((with_reducible refine AQ (f:=15) rfl ?_);refine Ag (some 15) rfl rfl Tryz.func15 (by kernel_rfl) rfl #[] rfl xg ?_;(with_reducible refine (AX.calls k t605 _ xl ⟨by first|rfl|assumption|exact hT_.out⟩ A4.out).mono ?_);rintro e w5 ⟨rfl,hb⟩;refine ⟨_,rfl,?_⟩;replace HB:=AA.mk (AO xb hb);(try clear hb)));go_ret;exact ⟨xe,xb⟩
 ·rw [if_neg c3] at H;have c3b0:decide (2000<(a0.size:Int))=false:=decide_eq_false c3;have c3b1:decide (2000<a0.size)=false:=decide_eq_false (by omega);clear c3;have HC6:=AA.mk H;clear H;go_enter Tryz.func8,Tryz.ntmps8;go_upto_if 16 with (fail)
  go_cut [0] (λv0 wc=>∃ (kq:Nat) (x0_5:ByteArray),v0= .string x0_5/\AA (BM.j0 kq x0_5=some r)/\AA (kq<=k)/\AA (Below w.heap.size w wc));case first=>
   have H:=HC6.out;clear HC6;by_cases c7:a1=true
   ·subst c7;have H1:((Ci.f k a0).bind λt606=>(if a0.size+t606.size<=9223372036854775807 then (BM.j0 k (a0++t606)) else (none)))=some r:=by rw [if_pos rfl] at H;exact H
    clear H;have H:=H1;clear H1;replace H:=Option.bind_eq_some_iff.mp H;obtain ⟨t606,A80,H⟩:=H;replace H:(if a0.size+t606.size<=9223372036854775807 then (BM.j0 k (a0++t606)) else (none))=some r:=H;have A8:=AA.mk A80;clear A80;by_cases c9:a0.size+t606.size<=9223372036854775807
    ·rw [if_pos c9] at H;have c9b0:=eq_true c9;have c9b1:decide (a0.size+t606.size<=9223372036854775807)=true:=decide_eq_true c9;try have c9b2:(9223372036854775807<a0.size+t606.size)=False:=eq_false (Nat.not_lt.2 c9)
     have H':=AA.mk H;clear H;go_wp2_with (first|((with_reducible refine AQ (f:=24) rfl ?_);refine Ag (some 19) rfl rfl Tryz.func24 (by kernel_rfl) rfl #[.string a0] rfl xg ?_;(with_reducible refine (Ci.calls k a0 t606 _ A8.out).mono ?_);rintro e w10 ⟨rfl,hb⟩;refine ⟨_,rfl,?_⟩;replace HB:=AA.mk (AO xb hb);(try clear hb)));go_meet;case rel=>exact ⟨_,(a0++t606),xq,H',⟨by first|omega|exact Nat.le_refl _⟩,⟨xb⟩⟩
    ·rw [if_neg c9] at H;exact absurd H (by simp)
   ·replace c7:=Bool.eq_false_iff.mpr c7;subst c7;have H1:(BM.j0 k a0)=some r:=by rw [if_neg (show ¬(false=true) by decide)] at H;exact H
    clear H;have H:=H1;clear H1;have H':=AA.mk H;clear H;go_wp2;go_meet;case rel=>exact ⟨_,(a0),xq,H',⟨by first|omega|exact Nat.le_refl _⟩,⟨xb⟩⟩
  case rest=>
   clear HC6;try clear c1
   try clear c2
   try clear p2
   try clear c3
   try clear c3b0
   try clear c3b1
   try clear p3
   try clear p6
   try clear c7
   try clear c8
   try clear c9
   try clear c9b0
   try clear c9b1
   try clear c9b2
   obtain ⟨kq,x0_5,rfl,HA,HJ5,HB⟩:=hcut;cases kq with
   |zero=>exact absurd HA.out (by simp [BM.j0])
   |succ kj5=>
    have H:=HA.out;clear HA;simp only [BM.j0] at H;replace H:=Option.bind_eq_some_iff.mp H;obtain ⟨⟨t607,t608,t609⟩,A110,H⟩:=H;replace H:(if t609=0 then ((Dy.f kj5 t608).bind λbt612=>((Av.f kj5 t607 bt612.1).bind λbt617=>((AX.f kj5).bind λt619=>(if t619=true then (if bt612.2=0 then (if bt617.2=true then (some (bt617.1.toList==x0_5.toList)) else (some false)) else (some false)) else (some false))))) else ((AX.f kj5).bind λt620=>(if t620=true then (if t607=0 then (some ((t608.length:Int)==0)) else (some false)) else (some false))))=some r:=H;have A11:=AA.mk A110;clear A110;by_cases c12:t609=0
    ·rw [if_pos c12] at H;have c12b0:(t609==0)=true:=beq_iff_eq.mpr c12;have c12b1:(t609 != 0)=false:=bne_eq_false_iff_eq.mpr c12;clear c12;replace H:=Option.bind_eq_some_iff.mp H;obtain ⟨⟨t612,t615⟩,A130,H⟩:=H;replace H:((Av.f kj5 t607 t612).bind λbt617=>((AX.f kj5).bind λt619=>(if t619=true then (if t615=0 then (if bt617.2=true then (some (bt617.1.toList==x0_5.toList)) else (some false)) else (some false)) else (some false))))=some r:=H;have A13:=AA.mk A130;clear A130;replace H:=Option.bind_eq_some_iff.mp H;obtain ⟨⟨t617,t618⟩,A140,H⟩:=H;try dsimp only at H
     have A14:=AA.mk A140;clear A140;replace H:=Option.bind_eq_some_iff.mp H;obtain ⟨t619,A150,H⟩:=H;try dsimp only at H
     have A15:=AA.mk A150;clear A150;by_cases c16:t619=true
     ·subst c16;rw [if_pos rfl] at H;by_cases c17:t615=0
      ·rw [if_pos c17] at H;have c17b0:(t615==0)=true:=beq_iff_eq.mpr c17;have c17b1:(t615 != 0)=false:=bne_eq_false_iff_eq.mpr c17;clear c17;by_cases c18:t618=true
       ·subst c18;have H1:(some (t617.toList==x0_5.toList))=some r:=by rw [if_pos rfl] at H;exact H
        clear H;have H:=H1;clear H1;obtain rfl:=Option.some.inj H;go_wp2_with (first|((with_reducible refine AQ (f:=21) rfl ?_);refine Ag (some 23) rfl rfl Tryz.func21 (by kernel_rfl) rfl #[.string x0_5] rfl xg ?_;(with_reducible refine (Ck.calls kj5 x0_5 t607 t608 t609 _ xl A11.out).mono ?_);rintro e w19 ⟨v610,rfl,ho0,hb⟩;refine ⟨_,rfl,?_⟩;have HO611:=AA.mk (Kd.CJ ho0 (Ai xb));replace HB:=AA.mk (AO xb hb);(try clear hb);(try clear ho0);obtain ⟨Ao20,co20,eo20⟩:=Kd.Cg HO611.out;subst eo20)|((with_reducible refine AQ (f:=26) rfl ?_);refine Ag (some 41) rfl rfl Tryz.func26 (by kernel_rfl) rfl #[.slice Ao20 t608.length co20] rfl xg ?_;(with_reducible refine (Dy.calls kj5 _ _ t608 t612 t615 _ ?side1 ?side2 xl A13.out).mono ?_);(case side1=>repeat (first|exact (Kd.BN HO611.out).2.2|(with_reducible refine Kd.Cy ?_ _)|(with_reducible refine Kd.C8 ?_ _)|(with_reducible refine Kd.Da ?_)));(case side2=>exact (Kd.BN HO611.out).2.1);rintro e w21 ⟨v613,rfl,ho0,hb⟩;refine ⟨_,rfl,?_⟩;replace HO611:=AA.mk (Kd.Af (xR HO611) hb);have HO614:=AA.mk (Kd.CJ ho0 (Ai xb));replace HB:=AA.mk (AO xb hb);(try clear hb);(try clear ho0))|((with_reducible refine Fp (N:=8) rfl ?_);(try (refine He (by rfl) ?_;dsimp only));refine Dp (N:=8) (cs:=#[.slice none 0 0]) (t:=47) (λgb616 hg w22 hbox hb=>?_);replace HO611:=AA.mk (Kd.Af (xR HO611) hb);replace HO614:=AA.mk (Kd.Af (xR HO614) hb);have BK616:=AA.mk (hbox);have GW616:AA (w.heap.size<=gb616):=Dq hg xb;have GE616:AA (w.heap.size<=gb616):=Dq hg xb;replace HB:=AA.mk (AO xb hb);clear hb hbox hg;obtain ⟨Ao23,co23,eo23⟩:=Kd.Cg HO614.out;subst eo23;have hcz24_0:w22.cell? ⟨gb616,0,none⟩=some (.slice none 0 0):=(AJ BK616.out 0).trans rfl;have hfz24_0:=AP BK616.out 0)|((with_reducible refine AQ (f:=19) rfl ?_);refine Ag (some 47) rfl rfl Tryz.func19 (by kernel_rfl) rfl #[.int .i64 t607, .agg #[.slice Ao23 t612.length co23]] rfl xg ?_;(with_reducible refine (Av.calls kj5 t607 _ _ t612 t617 true _ ?side1 ?side2 A14.out).mono ?_);(case side1=>refine (Kd.BN (e:=129) (base:=w.heap.size) (ok:=λk_=>True) (n:=t612.length) (c:=co23) ?_).2.2;exact (by (with_reducible repeat (first|apply Kd.BX|apply Kd.BZ|apply Kd.Bc));exact (Kd.CK (Kd.BG (p:=⟨gb616,0,none⟩) (Kd.Cf HO614.out BK616.out (by decide)) (λ_ hk=>hk.2) (.slice Ao23 t612.length co23)) (λ_ h_=>h_.1))));(case side2=>exact (Kd.BN HO614.out).2.1);rintro e w25 ⟨rfl,hb⟩;refine ⟨_,rfl,?_⟩;replace HO611:=AA.mk (Kd.Af (by (with_reducible repeat (first|apply Kd.BX|apply Kd.BZ|apply Kd.Bc));exact (Kd.CK (Kd.BG (p:=⟨gb616,0,none⟩) (Kd.Cf HO611.out BK616.out (by decide)) (λ_ hk=>hk.2) (.slice Ao23 t612.length co23)) (λ_ h_=>h_.1))) hb);replace HO614:=AA.mk (Kd.Af (by (with_reducible repeat (first|apply Kd.BX|apply Kd.BZ|apply Kd.Bc));exact (Kd.CK (Kd.BG (p:=⟨gb616,0,none⟩) (Kd.Cf HO614.out BK616.out (by decide)) (λ_ hk=>hk.2) (.slice Ao23 t612.length co23)) (λ_ h_=>h_.1))) hb);replace BK616:=AA.mk (DN (g:=gb616) (o:= .cells #[.slice Ao23 t612.length co23] 47 (0,0)) xk hb);replace HB:=AA.mk (AO xb hb);(try clear hb))|((with_reducible refine AQ (f:=15) rfl ?_);refine Ag (some 50) rfl rfl Tryz.func15 (by kernel_rfl) rfl #[] rfl xg ?_;(with_reducible refine (AX.calls kj5 true _ xl ⟨by first|rfl|assumption|exact hT_.out⟩ A15.out).mono ?_);rintro e w26 ⟨rfl,hb⟩;refine ⟨_,rfl,?_⟩;replace HO611:=AA.mk (Kd.Af (xR HO611) hb);replace HO614:=AA.mk (Kd.Af (xR HO614) hb);replace BK616:=bL BK616 hb;replace HB:=AA.mk (AO xb hb);(try clear hb)));go_ret;exact ⟨xe,xb⟩
       ·replace c18:=Bool.eq_false_iff.mpr c18;subst c18;have H1:(some false)=some r:=by rw [if_neg (show ¬(false=true) by decide)] at H;exact H
        clear H;have H:=H1;clear H1;obtain rfl:=Option.some.inj H;exact absurd hT_.out (by decide)
      ·rw [if_neg c17] at H;have c17b0:(t615==0)=false:=beq_eq_false_iff_ne.mpr c17;have c17b1:(t615 != 0)=true:=bne_iff_ne.mpr c17;obtain rfl:=Option.some.inj H;exact absurd hT_.out (by decide)
     ·replace c16:=Bool.eq_false_iff.mpr c16;subst c16;have H1:(some false)=some r:=by rw [if_neg (show ¬(false=true) by decide)] at H;exact H
      clear H;have H:=H1;clear H1;obtain rfl:=Option.some.inj H;exact absurd hT_.out (by decide)
    ·rw [if_neg c12] at H;have c12b0:(t609==0)=false:=beq_eq_false_iff_ne.mpr c12;have c12b1:(t609 != 0)=true:=bne_iff_ne.mpr c12;replace H:=Option.bind_eq_some_iff.mp H;obtain ⟨t620,A270,H⟩:=H;replace H:(if t620=true then (if t607=0 then (some ((t608.length:Int)==0)) else (some false)) else (some false))=some r:=H;have A27:=AA.mk A270;clear A270;by_cases c28:t620=true
     ·subst c28;rw [if_pos rfl] at H;by_cases c29:t607=0
      ·rw [if_pos c29] at H;have c29b0:(t607==0)=true:=beq_iff_eq.mpr c29;have c29b1:(t607 != 0)=false:=bne_eq_false_iff_eq.mpr c29;clear c29;obtain rfl:=Option.some.inj H;go_wp2_with (first|((with_reducible refine AQ (f:=21) rfl ?_);refine Ag (some 23) rfl rfl Tryz.func21 (by kernel_rfl) rfl #[.string x0_5] rfl xg ?_;(with_reducible refine (Ck.calls kj5 x0_5 t607 t608 t609 _ xl A11.out).mono ?_);rintro e w30 ⟨v610,rfl,ho0,hb⟩;refine ⟨_,rfl,?_⟩;have HO611:=AA.mk (Kd.CJ ho0 (Ai xb));replace HB:=AA.mk (AO xb hb);(try clear hb);(try clear ho0))|((with_reducible refine AQ (f:=15) rfl ?_);refine Ag (some 29) rfl rfl Tryz.func15 (by kernel_rfl) rfl #[] rfl xg ?_;(with_reducible refine (AX.calls kj5 true _ xl ⟨by first|rfl|assumption|exact hT_.out⟩ A27.out).mono ?_);rintro e w31 ⟨rfl,hb⟩;refine ⟨_,rfl,?_⟩;replace HO611:=AA.mk (Kd.Af (xR HO611) hb);replace HB:=AA.mk (AO xb hb);(try clear hb);obtain ⟨Ao32,co32,eo32⟩:=Kd.Cg HO611.out;subst eo32));go_ret;exact ⟨xe,xb⟩
      ·rw [if_neg c29] at H;have c29b0:(t607==0)=false:=beq_eq_false_iff_ne.mpr c29;have c29b1:(t607 != 0)=true:=bne_iff_ne.mpr c29;obtain rfl:=Option.some.inj H;exact absurd hT_.out (by decide)
     ·replace c28:=Bool.eq_false_iff.mpr c28;subst c28;rw [if_neg Bool.false_ne_true] at H;obtain rfl:=Option.some.inj H;exact absurd hT_.out (by decide)
def BM.Pure:Prop:=∀ (a0:ByteArray) (a1:Bool),a0.size<=140737488351232->∃ k,BM.f k a0 a1=some true
theorem BM.walk (P:BM.Pure) (a0:ByteArray) (a1:Bool) (w:World) (w0:a0.size<=140737488351232) (hG:AA (D8 w)):
 Calls Tryz.prog 8 #[.string a0, .bool a1] w λe w'=>e= .returned (.bool true)/\Below w.heap.size w w':=by
 obtain ⟨k,h⟩:=P a0 a1 w0;refine (BM.calls k a0 a1 true w hG ⟨rfl⟩ h).mono ?_;rintro e w' ⟨rfl,hd⟩;exact ⟨rfl,hd⟩
end Go.Proofs.YtfggjdkccdkogaaGreatDoor.Print
