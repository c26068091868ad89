/- Printed by a program of this claim's session (xprint.py): the machine's side: each Go function as a Lean function, and that a call of it comes to what that tells; the row of a statement. No condition. -/
import Derived.Test.YtfggjdkccdkogaaGreatDoorGcrc
import Derived.Test.YtfggjdkccdkogaaGreatDoorPrint0
namespace Go.Proofs.YtfggjdkccdkogaaGreatDoor.Print
open RowKit Ac Aq Aw
attribute [local go_sem] DC DD DX DY Co Cq DI DJ
set_option linter.unusedVariables false
set_option linter.unusedSimpArgs false
def CS.l0:Nat->Int->List Int->Option (ByteArray)
 |0,_,_=>none
 |k+1,x0,x3=>if x0>=128 then (if x3.length<140737488355328 then (CS.l0 k (IntKind.u64.wrap (Int.tdiv x0 128)) (x3++[(IntKind.u64.wrap (128+(Int.tmod x0 128)))%256])) else (none)) else (if x3.length<140737488355328 then (some (strOfNums (x3++[(x0)%256]))) else (none))
def CS.f (k:Nat) (a0:Int):Option (ByteArray):=CS.l0 k a0 ([]:List Int)
set_option maxHeartbeats 8000000 in
set_option maxRecDepth 100000 in
theorem CS.calls (k:Nat) (a0:Int) (r:ByteArray) (w:World) (h:CS.f k a0=some r):
 Calls Tryz.prog 61 #[.int .u64 a0] w λe w'=>e= .returned (.string r)/\Below w.heap.size w w':=by
 have HB:=AA.mk (Below.refl w.heap.size w);have H:(CS.l0 k a0 ([]:List Int))=some r:=h;clear h;have H':=AA.mk H;clear H;go_enter Tryz.func61,Tryz.ntmps61;go_wp2;go_loopg [0,3] k (λkq v0 v3 w'=>∃ (x0_1:Int) (x3_1:List Int),v0= .int .u64 x0_1/\AA (CS.l0 kq x0_1 x3_1=some r)/\AA (kq<=k)/\AA (Kd.R (Kd.int .u8) 5 w' w.heap.size (λ_=>True) v3 x3_1)/\AA (Below w.heap.size w w'));case atStart=>exact ⟨(a0),(([]:List Int)),xq,H',⟨Nat.le_refl _⟩,⟨by first|exact Kd.Em _ _ _ _ _|exact Kd.GA _ _ _ _ _|exact Kd.GD _ _ _ _ _|exact Kd.F8 _ _ _ _ _|exact Kd.F9 _ _ _ _ _⟩,⟨xb⟩⟩
 case round=>
  clear H';obtain ⟨x0_1,x3_1,rfl,HA,HK1,HO_3,HB⟩:=hrel;cases gk with
  |zero=>exact absurd HA.out (by simp [CS.l0])
  |succ k1=>
   have H:=HA.out;clear HA;simp only [CS.l0] at H;by_cases c2:x0_1>=128
   ·rw [if_pos c2] at H;have c2b0:decide (128<=x0_1)=true:=decide_eq_true c2;clear c2;by_cases c3:x3_1.length<140737488355328
    ·rw [if_pos c3] at H;have LMc3:=AA.mk c3;clear c3;obtain ⟨y564,hy564⟩:∃ y_:List Int,y_=(x3_1++[(IntKind.u64.wrap (128+(Int.tmod x0_1 128)))%256]):=⟨_,rfl⟩;replace H:(CS.l0 k1 (IntKind.u64.wrap (Int.tdiv x0_1 128)) y564)=some r:=by first|(rw [hy564];with_reducible exact H)|(have H2_:=(Option.bind_some _ _).symm.trans H;rw [hy564];with_reducible exact H2_)|(have H2_:=(Option.bind_some _ _).symm.trans H;with_reducible exact H2_)|with_reducible exact H|(rw [hy564];exact H)|exact H
     have Ny564:=AA.mk hy564;clear hy564;have H':=AA.mk H;clear H;go_wp2_with (first|((with_reducible refine DV (b:= .append) (xs:=#[.tmp 6, .tmp 11]) rfl ?_);at_builtin;refine Kd.Eb (Kd.int .u8) (w0:=w) w.heap.size rfl (.tmp 6) (.tmp 11) 67 5 (.int .u8 0) 1 rfl Tryz.underlying67 info5 rfl (by decide) (by omega) u3 x3_1 ((IntKind.u64.wrap (128+(Int.tmod x0_1 128)))%256) [.int .u8 ((IntKind.u64.wrap (128+(Int.tmod x0_1 128)))%256)] (λ_=>True) (λ_=>False) rfl rfl ?aP (λ_ hk=>hk.elim) ?aF ?aO ?aB ?aS ?aL ?_;(case aP=>exact rfl);(case aB=>exact xb);(case aF=>exact (λ_ _=>trivial));(case aO=>exact (xR HO_3));(case aS=>exact (Ai xb));(case aL=>have:=LMc3.out;omega);intro v565 w4 ho hb hg hat;rw [<-Ny564.out] at ho;have n0_:=AA.mk (hb);have n1_:=AA.mk (ho);clear HB;clear HO_3;have HB:=n0_;have HO566:=n1_;clear n0_ n1_;clear ho hb hg hat));go_roundg k1;case measure=>have:=HK1.out;omega
     case rel=>exact ⟨(IntKind.u64.wrap (Int.tdiv x0_1 128)),(y564),xq,H',⟨by have:=HK1.out;omega⟩,⟨by (with_reducible repeat (first|apply Kd.BX|apply Kd.BZ|apply Kd.Bc));exact HO566.out⟩,⟨xb⟩⟩
    ·rw [if_neg c3] at H;exact absurd H (by simp)
   ·rw [if_neg c2] at H;have c2b0:decide (128<=x0_1)=false:=decide_eq_false c2;clear c2;by_cases c5:x3_1.length<140737488355328
    ·rw [if_pos c5] at H;have LMc5:=AA.mk c5;clear c5;obtain ⟨y567,hy567⟩:∃ y_:List Int,y_=(x3_1++[(x0_1)%256]):=⟨_,rfl⟩;replace H:(some (strOfNums y567))=some r:=by first|(rw [hy567];with_reducible exact H)|(have H2_:=(Option.bind_some _ _).symm.trans H;rw [hy567];with_reducible exact H2_)|(have H2_:=(Option.bind_some _ _).symm.trans H;with_reducible exact H2_)|with_reducible exact H|(rw [hy567];exact H)|exact H
     have Ny567:=AA.mk hy567;clear hy567;obtain rfl:=Option.some.inj H;go_wp2_with (first|((with_reducible refine DV (b:= .append) (xs:=#[.tmp 15, .tmp 18]) rfl ?_);at_builtin;refine Kd.Eb (Kd.int .u8) (w0:=w) w.heap.size rfl (.tmp 15) (.tmp 18) 67 5 (.int .u8 0) 1 rfl Tryz.underlying67 info5 rfl (by decide) (by omega) u3 x3_1 ((x0_1)%256) [.int .u8 ((x0_1)%256)] (λ_=>True) (λ_=>False) rfl rfl ?aP (λ_ hk=>hk.elim) ?aF ?aO ?aB ?aS ?aL ?_;(case aP=>exact rfl);(case aB=>exact xb);(case aF=>exact (λ_ _=>trivial));(case aO=>exact (xR HO_3));(case aS=>exact (Ai xb));(case aL=>have:=LMc5.out;omega);intro v568 w6 ho hb hg hat;rw [<-Ny567.out] at ho;have n0_:=AA.mk (hb);have n1_:=AA.mk (ho);clear HB;clear HO_3;have HB:=n0_;have HO569:=n1_;clear n0_ n1_;clear ho hb hg hat;have hcv7:=C9 (P:=Tryz.prog) Tryz.underlying67 Tryz.underlying5 Tryz.underlying9 (Kd.Dl HO569.out)));go_ret;exact ⟨xe,xb⟩
    ·rw [if_neg c5] at H;exact absurd H (by simp)
def Ae.f (k:Nat) (a0:Int):Option (ByteArray):=(CS.f k (IntKind.u64.wrap (a0))).bind λt570=>(some t570)
set_option maxHeartbeats 8000000 in
set_option maxRecDepth 100000 in
theorem Ae.calls (k:Nat) (a0:Int) (r:ByteArray) (w:World) (h:Ae.f k a0=some r):
 Calls Tryz.prog 34 #[.int .i64 a0] w λe w'=>e= .returned (.string r)/\Below w.heap.size w w':=by
 have HB:=AA.mk (Below.refl w.heap.size w);have H:((CS.f k (IntKind.u64.wrap (a0))).bind λt570=>(some t570))=some r:=h;clear h;replace H:=Option.bind_eq_some_iff.mp H;obtain ⟨t570,A20,H⟩:=H;try dsimp only at H
 have A2:=AA.mk A20;clear A20;obtain rfl:=Option.some.inj H;go_enter Tryz.func34,Tryz.ntmps34;go_wp2_with (first|((with_reducible refine AQ (f:=61) rfl ?_);refine Ag (some 5) rfl rfl Tryz.func61 (by kernel_rfl) rfl #[.int .u64 (IntKind.u64.wrap (a0))] rfl xg ?_;(with_reducible refine (CS.calls k (IntKind.u64.wrap (a0)) t570 _ A2.out).mono ?_);rintro e w3 ⟨rfl,hb⟩;refine ⟨_,rfl,?_⟩;replace HB:=AA.mk (AO xb hb);(try clear hb)));go_ret;exact ⟨xe,xb⟩
def BB.f (k:Nat) (a0:ByteArray):Option (ByteArray):=(CS.f k (IntKind.u64.wrap ((a0.size:Int)))).bind λt571=>(if t571.size+a0.size<=9223372036854775807 then (some (t571++a0)) else (none))
set_option maxHeartbeats 8000000 in
set_option maxRecDepth 100000 in
theorem BB.calls (k:Nat) (a0:ByteArray) (r:ByteArray) (w:World) (h:BB.f k a0=some r):
 Calls Tryz.prog 62 #[.string a0] w λe w'=>e= .returned (.string r)/\Below w.heap.size w w':=by
 have HB:=AA.mk (Below.refl w.heap.size w);have H:((CS.f k (IntKind.u64.wrap ((a0.size:Int)))).bind λt571=>(if t571.size+a0.size<=9223372036854775807 then (some (t571++a0)) else (none)))=some r:=h;clear h;replace H:=Option.bind_eq_some_iff.mp H;obtain ⟨t571,A20,H⟩:=H;try dsimp only at H
 have A2:=AA.mk A20;clear A20;by_cases c3:t571.size+a0.size<=9223372036854775807
 ·rw [if_pos c3] at H;have c3b0:=eq_true c3;have c3b1:decide (t571.size+a0.size<=9223372036854775807)=true:=decide_eq_true c3;try have c3b2:(9223372036854775807<t571.size+a0.size)=False:=eq_false (Nat.not_lt.2 c3)
  obtain rfl:=Option.some.inj H;go_enter Tryz.func62,Tryz.ntmps62;go_wp2_with (first|((with_reducible refine AQ (f:=61) rfl ?_);refine Ag (some 6) rfl rfl Tryz.func61 (by kernel_rfl) rfl #[.int .u64 (IntKind.u64.wrap ((a0.size:Int)))] rfl xg ?_;(with_reducible refine (CS.calls k (IntKind.u64.wrap ((a0.size:Int))) t571 _ A2.out).mono ?_);rintro e w4 ⟨rfl,hb⟩;refine ⟨_,rfl,?_⟩;replace HB:=AA.mk (AO xb hb);(try clear hb)));go_ret;exact ⟨xe,xb⟩
 ·rw [if_neg c3] at H;exact absurd H (by simp)
end Go.Proofs.YtfggjdkccdkogaaGreatDoor.Print
