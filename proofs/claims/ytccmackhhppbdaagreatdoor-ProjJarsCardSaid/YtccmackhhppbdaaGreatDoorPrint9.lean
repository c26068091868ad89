/- Printed by a program of this claim's session (xprint.py): the machine's side: each Go function as a Lean function, and that a call of it comes to what that tells; the row of a statement. No condition. -/
import Derived.Test.YtccmackhhppbdaaGreatDoorPrint0
namespace Go.Proofs.YtccmackhhppbdaaGreatDoor.Print
open RowKit Af BI BM
attribute [local go_sem] Ck Cm DC DD CW CX Cn Co
set_option linter.unusedVariables false
set_option linter.unusedSimpArgs false
def BG.l0:Nat->ByteArray->List ByteArray->Int->Int->Option (List ByteArray)
 |0,_,_,_,_=>none
 |k+1,x0,x3,x4,x5=>if x5<(x0.size:Int) then (if 0<=x5 then (if (bt x0 x5)=46 then (if 0<=x4 then (if x4<=x5 then (if x5<=(x0.size:Int) then (if x3.length<8796093022208 then (BG.l0 k x0 (x3++[x0.extract (x4:Int).toNat (x5:Int).toNat]) (wrap64 (x5+1)) (wrap64 (x5+1))) else (none)) else (none)) else (none)) else (none)) else (BG.l0 k x0 x3 x4 (wrap64 (x5+1)))) else (none)) else (if 0<=x4 then (if x4<=(x0.size:Int) then (if x3.length<8796093022208 then (some (x3++[x0.extract (x4:Int).toNat x0.size])) else (none)) else (none)) else (none))
def BG.f (k:Nat) (a0:ByteArray):Option (List ByteArray):=BG.l0 k a0 ([]:List ByteArray) 0 0
set_option maxHeartbeats 8000000 in
set_option maxRecDepth 100000 in
theorem BG.calls (k:Nat) (a0:ByteArray) (r:List ByteArray) (w:World) (h:BG.f k a0=some r):
 Calls Tryz.prog 62 #[.string a0] w λe w'=>∃ v0_:Value,e= .returned (v0_)/\Kd.R Kd.string 9 w' w.heap.size (λ_=>True) v0_ r/\Below w.heap.size w w':=by
 have HB:=AA.mk (Below.refl w.heap.size w);have H:(BG.l0 k a0 ([]:List ByteArray) 0 0)=some r:=h;clear h;have H':=AA.mk H;clear H;go_enter Tryz.func62,Tryz.ntmps62;go_wp2;go_loopg [3,4,5] k (λkq v3 v4 v5 w'=>∃ (x3_1:List ByteArray) (x4_1:Int) (x5_1:Int),v4= .int .i64 x4_1/\v5= .int .i64 x5_1/\AA (BG.l0 kq a0 x3_1 x4_1 x5_1=some r)/\AA (kq<=k)/\AA (Kd.R Kd.string 9 w' w.heap.size (λ_=>True) v3 x3_1)/\AA (Below w.heap.size w w'));case atStart=>exact ⟨(([]:List ByteArray)),(0),(0),xq,xq,H',⟨Nat.le_refl _⟩,⟨by first|exact Kd.EI _ _ _ _ _|exact Kd.Ep _ _ _ _ _|exact Kd.Er _ _ _ _ _|exact Kd.En _ _ _ _ _|exact Kd.Eo _ _ _ _ _⟩,⟨xb⟩⟩
 case round=>
  clear H';obtain ⟨x3_1,x4_1,x5_1,rfl,rfl,HA,HK1,HO_3,HB⟩:=hrel;cases gk with
  |zero=>exact absurd HA.out (by simp [BG.l0])
  |succ k1=>
   have H:=HA.out;clear HA;simp only [BG.l0] at H;by_cases c2:x5_1<(a0.size:Int)
   ·rw [if_pos c2] at H;have c2b0:decide (x5_1<(a0.size:Int))=true:=decide_eq_true c2;clear c2;by_cases c3:0<=x5_1
    ·rw [if_pos c3] at H;have c3b0:decide (0<=x5_1)=true:=decide_eq_true c3;clear c3;by_cases c5:(bt a0 x5_1)=46
     ·rw [if_pos c5] at H;have c5b0:((bt a0 x5_1)==46)=true:=beq_iff_eq.mpr c5;have c5b1:((bt a0 x5_1) != 46)=false:=bne_eq_false_iff_eq.mpr c5;clear c5;by_cases c6:0<=x4_1
      ·rw [if_pos c6] at H;have c6b0:=eq_true c6;have c6b1:decide (0<=x4_1)=true:=decide_eq_true c6;clear c6;by_cases c7:x4_1<=x5_1
       ·rw [if_pos c7] at H;have c7b0:=eq_true c7;have c7b1:decide (x4_1<=x5_1)=true:=decide_eq_true c7;clear c7;by_cases c8:x5_1<=(a0.size:Int)
        ·rw [if_pos c8] at H;have c8b0:=eq_true c8;have c8b1:decide (x5_1<=(a0.size:Int))=true:=decide_eq_true c8;clear c8;by_cases c9:x3_1.length<8796093022208
         ·rw [if_pos c9] at H;have LMc9:=AA.mk c9;clear c9;obtain ⟨y325,hy325⟩:∃ y_:List ByteArray,y_=(x3_1++[a0.extract (x4_1:Int).toNat (x5_1:Int).toNat]):=⟨_,rfl⟩;replace H:(BG.l0 k1 a0 y325 (wrap64 (x5_1+1)) (wrap64 (x5_1+1)))=some r:=by first|(rw [hy325];with_reducible exact H)|(have H2_:=(Option.bind_some _ _).symm.trans H;rw [hy325];with_reducible exact H2_)|(have H2_:=(Option.bind_some _ _).symm.trans H;with_reducible exact H2_)|with_reducible exact H|(rw [hy325];exact H)|exact H
          have Ny325:=AA.mk hy325;clear hy325;have H':=AA.mk H;clear H;have p4:0<=(x5_1:Int):=xa;have q4:x5_1<(a0.size:Int):=xa;have hx4:=Bl a0 x5_1;replace p4:=eq_true p4;replace q4:=eq_true q4;go_wp2_with (first|((with_reducible refine DF (b:= .append) (xs:=#[.tmp 16, .tmp 21]) rfl ?_);at_builtin;refine Kd.EJ Kd.string (w0:=w) w.heap.size rfl (.tmp 16) (.tmp 21) 60 9 (.string ⟨#[]⟩) 16 rfl Tryz.underlying60 QF rfl (by decide) (by omega) u3 x3_1 (a0.extract (x4_1:Int).toNat (x5_1:Int).toNat) [.string (a0.extract (x4_1:Int).toNat (x5_1:Int).toNat)] (λ_=>True) (λ_=>False) rfl rfl ?aP (λ_ hk=>hk.elim) ?aF ?aO ?aB ?aS ?aL ?_;(case aP=>exact rfl);(case aB=>exact xb);(case aF=>exact (λ_ _=>trivial));(case aO=>exact (xR HO_3));(case aS=>exact (Av xb));(case aL=>have:=LMc9.out;omega);intro v326 w10 ho hb hg hat;rw [<-Ny325.out] at ho;have n0_:=AA.mk (hb);have n1_:=AA.mk (ho);clear HB;clear HO_3;have HB:=n0_;have HO327:=n1_;clear n0_ n1_;clear ho hb hg hat));go_roundg k1;case measure=>have:=HK1.out;omega
          case rel=>exact ⟨(y325),(wrap64 (x5_1+1)),(wrap64 (x5_1+1)),xq,xq,H',⟨by have:=HK1.out;omega⟩,⟨by (with_reducible repeat (first|apply Kd.Ar|apply Kd.Au|apply Kd.BB));exact HO327.out⟩,⟨xb⟩⟩
         ·rw [if_neg c9] at H;exact absurd H (by simp)
        ·rw [if_neg c8] at H;exact absurd H (by simp)
       ·rw [if_neg c7] at H;exact absurd H (by simp)
      ·rw [if_neg c6] at H;exact absurd H (by simp)
     ·rw [if_neg c5] at H;have c5b0:((bt a0 x5_1)==46)=false:=beq_eq_false_iff_ne.mpr c5;have c5b1:((bt a0 x5_1) != 46)=true:=bne_iff_ne.mpr c5;have H':=AA.mk H;clear H;have p4:0<=(x5_1:Int):=xa;have q4:x5_1<(a0.size:Int):=xa;have hx4:=Bl a0 x5_1;replace p4:=eq_true p4;replace q4:=eq_true q4;go_wp2;go_roundg k1;case measure=>have:=HK1.out;omega
      case rel=>exact ⟨(x3_1),(x4_1),(wrap64 (x5_1+1)),xq,xq,H',⟨by have:=HK1.out;omega⟩,⟨by (with_reducible repeat (first|apply Kd.Ar|apply Kd.Au|apply Kd.BB));exact HO_3.out⟩,⟨xb⟩⟩
    ·rw [if_neg c3] at H;exact absurd H (by simp)
   ·rw [if_neg c2] at H;have c2b0:decide (x5_1<(a0.size:Int))=false:=decide_eq_false c2;clear c2;by_cases c11:0<=x4_1
    ·rw [if_pos c11] at H;have c11b0:=eq_true c11;have c11b1:decide (0<=x4_1)=true:=decide_eq_true c11;clear c11;by_cases c12:x4_1<=(a0.size:Int)
     ·rw [if_pos c12] at H;have c12b0:=eq_true c12;have c12b1:decide (x4_1<=(a0.size:Int))=true:=decide_eq_true c12;clear c12;by_cases c13:x3_1.length<8796093022208
      ·rw [if_pos c13] at H;have LMc13:=AA.mk c13;clear c13;obtain ⟨y328,hy328⟩:∃ y_:List ByteArray,y_=(x3_1++[a0.extract (x4_1:Int).toNat a0.size]):=⟨_,rfl⟩;replace H:(some y328)=some r:=by first|(rw [hy328];with_reducible exact H)|(have H2_:=(Option.bind_some _ _).symm.trans H;rw [hy328];with_reducible exact H2_)|(have H2_:=(Option.bind_some _ _).symm.trans H;with_reducible exact H2_)|with_reducible exact H|(rw [hy328];exact H)|exact H
       have Ny328:=AA.mk hy328;clear hy328;obtain rfl:=Option.some.inj H;go_wp2_with (first|((with_reducible refine DF (b:= .append) (xs:=#[.tmp 25, .tmp 29]) rfl ?_);at_builtin;refine Kd.EJ Kd.string (w0:=w) w.heap.size rfl (.tmp 25) (.tmp 29) 60 9 (.string ⟨#[]⟩) 16 rfl Tryz.underlying60 QF rfl (by decide) (by omega) u3 x3_1 (a0.extract (x4_1:Int).toNat a0.size) [.string (a0.extract (x4_1:Int).toNat a0.size)] (λ_=>True) (λ_=>False) rfl rfl ?aP (λ_ hk=>hk.elim) ?aF ?aO ?aB ?aS ?aL ?_;(case aP=>exact rfl);(case aB=>exact xb);(case aF=>exact (λ_ _=>trivial));(case aO=>exact (xR HO_3));(case aS=>exact (Av xb));(case aL=>have:=LMc13.out;omega);intro v329 w14 ho hb hg hat;rw [<-Ny328.out] at ho;have n0_:=AA.mk (hb);have n1_:=AA.mk (ho);clear HB;clear HO_3;have HB:=n0_;have HO330:=n1_;clear n0_ n1_;clear ho hb hg hat));go_ret;exact ⟨_,xe,by (with_reducible repeat (first|apply Kd.Ar|apply Kd.Au|apply Kd.BB));exact HO330.out,xb⟩
      ·rw [if_neg c13] at H;exact absurd H (by simp)
     ·rw [if_neg c12] at H;exact absurd H (by simp)
    ·rw [if_neg c11] at H;exact absurd H (by simp)
end Go.Proofs.YtccmackhhppbdaaGreatDoor.Print
