/- Several parts of the claim's proof in one text, said short by a program of this session. No condition. -/
import Derived.Test.YtikggnalmidlhaaGreatDoorM5
section
namespace Go.Proofs.YtikggnalmidlhaaGreatDoor.Print
open RowKit AR Aa Ad
attribute [local go_sem] BM BN Bo Bp BC BD BO BP
set_option linter.unusedVariables false
set_option linter.unusedSimpArgs false
def YE.l0:Nat->ByteArray->Int->Int->Option (Bool)
 |0,_,_,_=>none
 |k+1,x0,x1,x5=>if x5<(x0.size:Int) then (if 0<=x5 then (if (bt x0 x5)=x1 then (some true) else (YE.l0 k x0 x1 (wrap64 (x5+1)))) else (none)) else (some false)
def YE.f (k:Nat) (a0:ByteArray) (a1:Int):Option (Bool):=YE.l0 k a0 a1 0
set_option maxHeartbeats 8000000 in
set_option maxRecDepth 100000 in
theorem YE.calls (k:Nat) (a0:ByteArray) (a1:Int) (r:Bool) (w:World) (h:YE.f k a0 a1=some r):
 Calls Tryz.prog 33 #[.string a0, .int .u8 a1] w λe w'=>e= .returned (.bool r)/\Ap w w':=by
 have H:(YE.l0 k a0 a1 0)=some r:=h;clear h;have H':=AA.mk H;clear H;go_enter Tryz.func33,Tryz.ntmps33;go_wp2;go_loopg [5] k (λkq v5 w'=>∃ (x5_1:Int),v5= .int .i64 x5_1/\AA (YE.l0 kq a0 a1 x5_1=some r)/\AA (kq<=k)/\Ap w w');case atStart=>exact ⟨(0),xq,H',⟨Nat.le_refl _⟩,xd⟩
 case round=>
  clear H';try clear p2
  obtain ⟨x5_1,rfl,HA,HK1,⟨m1,rfl⟩⟩:=hrel;cases gk with
  |zero=>exact absurd HA.out (by simp [YE.l0])
  |succ k1=>
   have H:=HA.out;clear HA;simp only [YE.l0] at H;by_cases c3:x5_1<(a0.size:Int)
   ·rw [if_pos c3] at H;have c3b0:decide (x5_1<(a0.size:Int))=true:=decide_eq_true c3;clear c3;by_cases c4:0<=x5_1
    ·rw [if_pos c4] at H;have c4b0:decide (0<=x5_1)=true:=decide_eq_true c4;clear c4;by_cases c6:(bt a0 x5_1)=a1
     ·rw [if_pos c6] at H;have c6b0:((bt a0 x5_1)==a1)=true:=beq_iff_eq.mpr c6;have c6b1:((bt a0 x5_1) != a1)=false:=bne_eq_false_iff_eq.mpr c6;clear c6;obtain rfl:=Option.some.inj H;have p5:0<=(x5_1:Int):=xa;have q5:x5_1<(a0.size:Int):=xa;have hx5:=Br a0 x5_1;replace p5:=eq_true p5;replace q5:=eq_true q5;go_wp2;go_ret;exact ⟨xq,xd⟩
     ·rw [if_neg c6] at H;have c6b0:((bt a0 x5_1)==a1)=false:=beq_eq_false_iff_ne.mpr c6;have c6b1:((bt a0 x5_1) != a1)=true:=bne_iff_ne.mpr c6;have H':=AA.mk H;clear H;have p5:0<=(x5_1:Int):=xa;have q5:x5_1<(a0.size:Int):=xa;have hx5:=Br a0 x5_1;replace p5:=eq_true p5;replace q5:=eq_true q5;go_wp2;go_roundg k1;case measure=>have:=HK1.out;omega
      case rel=>exact ⟨(wrap64 (x5_1+1)),xq,H',⟨by have:=HK1.out;omega⟩,xd⟩
    ·rw [if_neg c4] at H;exact absurd H (by simp)
   ·rw [if_neg c3] at H;have c3b0:decide (x5_1<(a0.size:Int))=false:=decide_eq_false c3;clear c3;obtain rfl:=Option.some.inj H;go_wp2;go_ret;exact ⟨xq,xd⟩
end Go.Proofs.YtikggnalmidlhaaGreatDoor.Print
end
section
namespace Go.Proofs.YtikggnalmidlhaaGreatDoor.Print
open RowKit AR Aa Ad
attribute [local go_sem] BM BN Bo Bp BC BD BO BP
set_option linter.unusedVariables false
set_option linter.unusedSimpArgs false
def Vf.f (a0:ByteArray) (a1:ByteArray):Option (Bool):=if (a0.size:Int)>=(a1.size:Int) then (if 0<=(a1.size:Int) then (if (a1.size:Int)<=(a0.size:Int) then (some ((a0.extract 0 ((a1.size:Int):Int).toNat).toList==a1.toList)) else (none)) else (none)) else (some false)
set_option maxHeartbeats 8000000 in
set_option maxRecDepth 100000 in
theorem Vf.calls (a0:ByteArray) (a1:ByteArray) (r:Bool) (w:World) (h:Vf.f a0 a1=some r):
 Calls Tryz.prog 17 #[.string a0, .string a1] w λe w'=>e= .returned (.bool r)/\Ap w w':=by
 have H:(if (a0.size:Int)>=(a1.size:Int) then (if 0<=(a1.size:Int) then (if (a1.size:Int)<=(a0.size:Int) then (some ((a0.extract 0 ((a1.size:Int):Int).toNat).toList==a1.toList)) else (none)) else (none)) else (some false))=some r:=h;clear h;by_cases c3:(a0.size:Int)>=(a1.size:Int)
 ·rw [if_pos c3] at H;have c3b0:decide ((a1.size:Int)<=(a0.size:Int))=true:=decide_eq_true c3;have c3b1:decide (a1.size<=a0.size)=true:=decide_eq_true (Int.ofNat_le.mp c3);clear c3;by_cases c4:0<=(a1.size:Int)
  ·rw [if_pos c4] at H;have c4b0:=eq_true c4;have c4b1:decide (0<=(a1.size:Int))=true:=decide_eq_true c4;clear c4;by_cases c5:(a1.size:Int)<=(a0.size:Int)
   ·rw [if_pos c5] at H;have c5b0:=eq_true c5;have c5b1:decide ((a1.size:Int)<=(a0.size:Int))=true:=decide_eq_true c5;clear c5;obtain rfl:=Option.some.inj H;go_enter Tryz.func17,Tryz.ntmps17;go_wp2;go_ret;exact ⟨xq,xd⟩
   ·rw [if_neg c5] at H;exact absurd H (by simp)
  ·rw [if_neg c4] at H;exact absurd H (by simp)
 ·rw [if_neg c3] at H;have c3b0:decide ((a1.size:Int)<=(a0.size:Int))=false:=decide_eq_false c3;have c3b1:decide (a1.size<=a0.size)=false:=decide_eq_false (λh=>c3 (Int.ofNat_le.mpr h));clear c3;obtain rfl:=Option.some.inj H;go_enter Tryz.func17,Tryz.ntmps17;go_wp2;go_ret;exact ⟨xq,xd⟩
end Go.Proofs.YtikggnalmidlhaaGreatDoor.Print
end
section
namespace Go.Proofs.YtikggnalmidlhaaGreatDoor.Print
open RowKit AR Aa Ad
attribute [local go_sem] BM BN Bo Bp BC BD BO BP
set_option linter.unusedVariables false
set_option linter.unusedSimpArgs false
def Va.l0:Nat->ByteArray->List ByteArray->Int->Int->Option (List ByteArray)
 |0,_,_,_,_=>none
 |k+1,x0,x3,x4,x5=>if x5<(x0.size:Int) then (if 0<=x5 then (if (bt x0 x5)=9 then (if 0<=x4 then (if x4<=x5 then (if x5<=(x0.size:Int) then (if x3.length<8796093022208 then (Va.l0 k x0 (x3++[x0.extract (x4:Int).toNat (x5:Int).toNat]) (wrap64 (x5+1)) (wrap64 (x5+1))) else (none)) else (none)) else (none)) else (none)) else (Va.l0 k x0 x3 x4 (wrap64 (x5+1)))) else (none)) else (if 0<=x4 then (if x4<=(x0.size:Int) then (if x3.length<8796093022208 then (some (x3++[x0.extract (x4:Int).toNat x0.size])) else (none)) else (none)) else (none))
def Va.f (k:Nat) (a0:ByteArray):Option (List ByteArray):=Va.l0 k a0 ([]:List ByteArray) 0 0
set_option maxHeartbeats 8000000 in
set_option maxRecDepth 100000 in
theorem Va.calls (k:Nat) (a0:ByteArray) (r:List ByteArray) (w:World) (h:Va.f k a0=some r):
 Calls Tryz.prog 59 #[.string a0] w λe w'=>∃ v0_:Value,e= .returned (v0_)/\Kd.R Kd.string 9 w' w.heap.size (λ_=>True) v0_ r/\Below w.heap.size w w':=by
 have HB:=AA.mk (Below.refl w.heap.size w);have H:(Va.l0 k a0 ([]:List ByteArray) 0 0)=some r:=h;clear h;have H':=AA.mk H;clear H;go_enter Tryz.func59,Tryz.ntmps59;go_wp2;go_loopg [3,4,5] k (λkq v3 v4 v5 w'=>∃ (x3_1:List ByteArray) (x4_1:Int) (x5_1:Int),v4= .int .i64 x4_1/\v5= .int .i64 x5_1/\AA (Va.l0 kq a0 x3_1 x4_1 x5_1=some r)/\AA (kq<=k)/\AA (Kd.R Kd.string 9 w' w.heap.size (λ_=>True) v3 x3_1)/\AA (Below w.heap.size w w'));case atStart=>exact ⟨(([]:List ByteArray)),(0),(0),xq,xq,H',⟨Nat.le_refl _⟩,⟨by first|exact Kd.Eu _ _ _ _ _|exact Kd.F6 _ _ _ _ _|exact Kd.F7 _ _ _ _ _|exact Kd.F3 _ _ _ _ _|exact Kd.F5 _ _ _ _ _⟩,⟨xb⟩⟩
 case round=>
  clear H';obtain ⟨x3_1,x4_1,x5_1,rfl,rfl,HA,HK1,HO_3,HB⟩:=hrel;cases gk with
  |zero=>exact absurd HA.out (by simp [Va.l0])
  |succ k1=>
   have H:=HA.out;clear HA;simp only [Va.l0] at H;by_cases c2:x5_1<(a0.size:Int)
   ·rw [if_pos c2] at H;have c2b0:decide (x5_1<(a0.size:Int))=true:=decide_eq_true c2;clear c2;by_cases c3:0<=x5_1
    ·rw [if_pos c3] at H;have c3b0:decide (0<=x5_1)=true:=decide_eq_true c3;clear c3;by_cases c5:(bt a0 x5_1)=9
     ·rw [if_pos c5] at H;have c5b0:((bt a0 x5_1)==9)=true:=beq_iff_eq.mpr c5;have c5b1:((bt a0 x5_1) != 9)=false:=bne_eq_false_iff_eq.mpr c5;clear c5;by_cases c6:0<=x4_1
      ·rw [if_pos c6] at H;have c6b0:=eq_true c6;have c6b1:decide (0<=x4_1)=true:=decide_eq_true c6;clear c6;by_cases c7:x4_1<=x5_1
       ·rw [if_pos c7] at H;have c7b0:=eq_true c7;have c7b1:decide (x4_1<=x5_1)=true:=decide_eq_true c7;clear c7;by_cases c8:x5_1<=(a0.size:Int)
        ·rw [if_pos c8] at H;have c8b0:=eq_true c8;have c8b1:decide (x5_1<=(a0.size:Int))=true:=decide_eq_true c8;clear c8;by_cases c9:x3_1.length<8796093022208
         ·rw [if_pos c9] at H;have LMc9:=AA.mk c9;clear c9;obtain ⟨y404,hy404⟩:∃ y_:List ByteArray,y_=(x3_1++[a0.extract (x4_1:Int).toNat (x5_1:Int).toNat]):=⟨_,rfl⟩;replace H:(Va.l0 k1 a0 y404 (wrap64 (x5_1+1)) (wrap64 (x5_1+1)))=some r:=by first|(rw [hy404];with_reducible exact H)|(have H2_:=(Option.bind_some _ _).symm.trans H;rw [hy404];with_reducible exact H2_)|(have H2_:=(Option.bind_some _ _).symm.trans H;with_reducible exact H2_)|with_reducible exact H|(rw [hy404];exact H)|exact H
          have Ny404:=AA.mk hy404;clear hy404;have H':=AA.mk H;clear H;have p4:0<=(x5_1:Int):=xa;have q4:x5_1<(a0.size:Int):=xa;have hx4:=Br a0 x5_1;replace p4:=eq_true p4;replace q4:=eq_true q4;go_wp2_with (first|((with_reducible refine DR (b:= .append) (xs:=#[.tmp 16, .tmp 21]) rfl ?_);at_builtin;refine Kd.Ej Kd.string (w0:=w) w.heap.size rfl (.tmp 16) (.tmp 21) 45 9 (.string ⟨#[]⟩) 16 rfl Tryz.underlying45 QG rfl (by decide) (by omega) u3 x3_1 (a0.extract (x4_1:Int).toNat (x5_1:Int).toNat) [.string (a0.extract (x4_1:Int).toNat (x5_1:Int).toNat)] (λ_=>True) (λ_=>False) rfl rfl ?aP (λ_ hk=>hk.elim) ?aF ?aO ?aB ?aS ?aL ?_;(case aP=>exact rfl);(case aB=>exact xb);(case aF=>exact (λ_ _=>trivial));(case aO=>exact (xR HO_3));(case aS=>exact (BF xb));(case aL=>have:=LMc9.out;omega);intro v405 w10 ho hb hg hat;rw [<-Ny404.out] at ho;have n0_:=AA.mk (hb);have n1_:=AA.mk (ho);clear HB;clear HO_3;have HB:=n0_;have HO406:=n1_;clear n0_ n1_;clear ho hb hg hat));go_roundg k1;case measure=>have:=HK1.out;omega
          case rel=>exact ⟨(y404),(wrap64 (x5_1+1)),(wrap64 (x5_1+1)),xq,xq,H',⟨by have:=HK1.out;omega⟩,⟨by (with_reducible repeat (first|apply Kd.Bd|apply Kd.Be|apply Kd.Bl));exact HO406.out⟩,⟨xb⟩⟩
         ·rw [if_neg c9] at H;exact absurd H (by simp)
        ·rw [if_neg c8] at H;exact absurd H (by simp)
       ·rw [if_neg c7] at H;exact absurd H (by simp)
      ·rw [if_neg c6] at H;exact absurd H (by simp)
     ·rw [if_neg c5] at H;have c5b0:((bt a0 x5_1)==9)=false:=beq_eq_false_iff_ne.mpr c5;have c5b1:((bt a0 x5_1) != 9)=true:=bne_iff_ne.mpr c5;have H':=AA.mk H;clear H;have p4:0<=(x5_1:Int):=xa;have q4:x5_1<(a0.size:Int):=xa;have hx4:=Br a0 x5_1;replace p4:=eq_true p4;replace q4:=eq_true q4;go_wp2;go_roundg k1;case measure=>have:=HK1.out;omega
      case rel=>exact ⟨(x3_1),(x4_1),(wrap64 (x5_1+1)),xq,xq,H',⟨by have:=HK1.out;omega⟩,⟨by (with_reducible repeat (first|apply Kd.Bd|apply Kd.Be|apply Kd.Bl));exact HO_3.out⟩,⟨xb⟩⟩
    ·rw [if_neg c3] at H;exact absurd H (by simp)
   ·rw [if_neg c2] at H;have c2b0:decide (x5_1<(a0.size:Int))=false:=decide_eq_false c2;clear c2;by_cases c11:0<=x4_1
    ·rw [if_pos c11] at H;have c11b0:=eq_true c11;have c11b1:decide (0<=x4_1)=true:=decide_eq_true c11;clear c11;by_cases c12:x4_1<=(a0.size:Int)
     ·rw [if_pos c12] at H;have c12b0:=eq_true c12;have c12b1:decide (x4_1<=(a0.size:Int))=true:=decide_eq_true c12;clear c12;by_cases c13:x3_1.length<8796093022208
      ·rw [if_pos c13] at H;have LMc13:=AA.mk c13;clear c13;obtain ⟨y407,hy407⟩:∃ y_:List ByteArray,y_=(x3_1++[a0.extract (x4_1:Int).toNat a0.size]):=⟨_,rfl⟩;replace H:(some y407)=some r:=by first|(rw [hy407];with_reducible exact H)|(have H2_:=(Option.bind_some _ _).symm.trans H;rw [hy407];with_reducible exact H2_)|(have H2_:=(Option.bind_some _ _).symm.trans H;with_reducible exact H2_)|with_reducible exact H|(rw [hy407];exact H)|exact H
       have Ny407:=AA.mk hy407;clear hy407;obtain rfl:=Option.some.inj H;go_wp2_with (first|((with_reducible refine DR (b:= .append) (xs:=#[.tmp 25, .tmp 29]) rfl ?_);at_builtin;refine Kd.Ej Kd.string (w0:=w) w.heap.size rfl (.tmp 25) (.tmp 29) 45 9 (.string ⟨#[]⟩) 16 rfl Tryz.underlying45 QG rfl (by decide) (by omega) u3 x3_1 (a0.extract (x4_1:Int).toNat a0.size) [.string (a0.extract (x4_1:Int).toNat a0.size)] (λ_=>True) (λ_=>False) rfl rfl ?aP (λ_ hk=>hk.elim) ?aF ?aO ?aB ?aS ?aL ?_;(case aP=>exact rfl);(case aB=>exact xb);(case aF=>exact (λ_ _=>trivial));(case aO=>exact (xR HO_3));(case aS=>exact (BF xb));(case aL=>have:=LMc13.out;omega);intro v408 w14 ho hb hg hat;rw [<-Ny407.out] at ho;have n0_:=AA.mk (hb);have n1_:=AA.mk (ho);clear HB;clear HO_3;have HB:=n0_;have HO409:=n1_;clear n0_ n1_;clear ho hb hg hat));go_ret;exact ⟨_,xe,by (with_reducible repeat (first|apply Kd.Bd|apply Kd.Be|apply Kd.Bl));exact HO409.out,xb⟩
      ·rw [if_neg c13] at H;exact absurd H (by simp)
     ·rw [if_neg c12] at H;exact absurd H (by simp)
    ·rw [if_neg c11] at H;exact absurd H (by simp)
end Go.Proofs.YtikggnalmidlhaaGreatDoor.Print
end
section
namespace Go.Proofs.YtikggnalmidlhaaGreatDoor.Print
open RowKit AR Aa Ad
attribute [local go_sem] BM BN Bo Bp BC BD BO BP
set_option linter.unusedVariables false
set_option linter.unusedSimpArgs false
def BV.f (a0:Bool):Option (ByteArray):=if a0=true then (some (⟨#[84,82,85,69]⟩:ByteArray)) else (some (⟨#[70,65,76,83,69]⟩:ByteArray))
set_option maxHeartbeats 8000000 in
set_option maxRecDepth 100000 in
theorem BV.calls (a0:Bool) (r:ByteArray) (w:World) (h:BV.f a0=some r):
 Calls Tryz.prog 49 #[.bool a0] w λe w'=>e= .returned (.string r)/\Ap w w':=by
 have H:(if a0=true then (some (⟨#[84,82,85,69]⟩:ByteArray)) else (some (⟨#[70,65,76,83,69]⟩:ByteArray)))=some r:=h;clear h;by_cases c2:a0=true
 ·subst c2;rw [if_pos rfl] at H;obtain rfl:=Option.some.inj H;go_enter Tryz.func49,Tryz.ntmps49;go_wp2;go_ret;exact ⟨xq,xd⟩
 ·replace c2:=Bool.eq_false_iff.mpr c2;subst c2;have H1:(some (⟨#[70,65,76,83,69]⟩:ByteArray))=some r:=by rw [if_neg (show ¬(false=true) by decide)] at H;exact H
  clear H;have H:=H1;clear H1;obtain rfl:=Option.some.inj H;go_enter Tryz.func49,Tryz.ntmps49;go_wp2;go_ret;exact ⟨xq,xd⟩
end Go.Proofs.YtikggnalmidlhaaGreatDoor.Print
end
section
namespace Go.Proofs.YtikggnalmidlhaaGreatDoor.Print
open RowKit AR Aa Ad
attribute [local go_sem] BM BN Bo Bp BC BD BO BP
set_option linter.unusedVariables false
set_option linter.unusedSimpArgs false
def CR.l0:Nat->List ByteArray->List ByteArray->Int->Int->Option (Bool)
 |0,_,_,_,_=>none
 |k+1,x3,x10,x11,x12=>if x12<x11 then (if 0<=x12 then (if x12<(x10.length:Int) then ((EL.f (Cf ByteArray.empty x10 x12)).bind λbt113=>(if bt113.2=true then (if bt113.1<0 then (some false) else (if bt113.1>255 then (some false) else (CR.l0 k x3 x10 x11 (wrap64 (x12+1))))) else (some false))) else (none)) else (none)) else (some ((x3.length:Int)==4))
def CR.f (k:Nat) (a0:ByteArray):Option (Bool):=(strings_Split.f a0 (⟨#[46]⟩:ByteArray)).bind λt109=>(CR.l0 k t109 t109 (t109.length:Int) 0)
theorem CR.Dt:∀ k,(∀ y0 y1 y2 y3,Bz (CR.l0 k y0 y1 y2 y3) (CR.l0 (k+1) y0 y1 y2 y3))
 |0=>λ_ _ _ _ r h=>by simp [CR.l0] at h
 |k+1=>by
  have ih0:=CR.Dt k
  ·intro y0 y1 y2 y3;unfold CR.l0
   repeat' first|(with_reducible first|exact ih0 _ _ _ _|exact Bz.refl _|exact Bz.none _|refine Bz.ite ?_ ?_|refine Bz.bind ?_ (λ_=>?_))|exact ih0 _ _ _ _|exact Bz.none _|refine Bz.ite ?_ ?_|refine Bz.bind ?_ (λ_=>?_)
theorem CR.mono:∀ a0 k,Bz (CR.f k a0) (CR.f (k+1) a0):=by
 intro a0 k;have ih0:=CR.Dt k;unfold CR.f
 repeat' first|(with_reducible first|exact ih0 _ _ _ _|exact Bz.refl _|exact Bz.none _|refine Bz.ite ?_ ?_|refine Bz.bind ?_ (λ_=>?_))|exact ih0 _ _ _ _|exact Bz.none _|refine Bz.ite ?_ ?_|refine Bz.bind ?_ (λ_=>?_)
set_option maxHeartbeats 8000000 in
set_option maxRecDepth 100000 in
theorem CR.calls (k:Nat) (a0:ByteArray) (r:Bool) (w:World) (hG:AA (Ck w)) (h:CR.f k a0=some r):
 Calls Tryz.prog 65 #[.string a0] w λe w'=>e= .returned (.bool r)/\Below w.heap.size w w':=by
 have HB:=AA.mk (Below.refl w.heap.size w);have H:((strings_Split.f a0 (⟨#[46]⟩:ByteArray)).bind λt109=>(CR.l0 k t109 t109 (t109.length:Int) 0))=some r:=h;clear h;replace H:=Option.bind_eq_some_iff.mp H;obtain ⟨t109,A20,H⟩:=H;try dsimp only at H
 have A2:=AA.mk A20;clear A20;have H':=AA.mk H;clear H;go_enter Tryz.func65,Tryz.ntmps65;go_wp2_with (first|((with_reducible refine AO (f:=85) rfl ?_);refine Ak (some 9) rfl rfl Tryz.func85 (by kernel_rfl) rfl #[.string a0, .string (⟨#[46]⟩:ByteArray)] rfl xg ?_;(with_reducible refine (strings_Split.calls a0 (⟨#[46]⟩:ByteArray) t109 _ xl A2.out).mono ?_);rintro e w3 ⟨v110,rfl,ho0,hb⟩;refine ⟨_,rfl,?_⟩;have HO111:=AA.mk (Kd.Cm ho0 (BF xb));replace HB:=AA.mk (AP xb hb);(try clear hb);(try clear ho0);obtain ⟨Ao4,co4,eo4⟩:=Kd.CE HO111.out;subst eo4));go_loopg [12] k (λkq v12 w'=>∃ (x12_1:Int),v12= .int .i64 x12_1/\AA (CR.l0 kq t109 t109 (t109.length:Int) x12_1=some r)/\AA (kq<=k)/\AA (Kd.R Kd.string 9 w' w.heap.size (λ_=>True) (.slice Ao4 t109.length co4) t109)/\AA (Kd.R Kd.string 9 w' w.heap.size (λ_=>True) (.slice Ao4 t109.length co4) t109)/\AA (Below w.heap.size w w'));case atStart=>exact ⟨(0),xq,H',⟨Nat.le_refl _⟩,⟨by (with_reducible repeat (first|apply Kd.Bd|apply Kd.Be|apply Kd.Bl));exact HO111.out⟩,⟨by (with_reducible repeat (first|apply Kd.Bd|apply Kd.Be|apply Kd.Bl));exact HO111.out⟩,⟨xb⟩⟩
 case round=>
  clear H';try clear p2
  try clear p3
  obtain ⟨x12_1,rfl,HA,HK1,HO_3,HO_10,HB⟩:=hrel;cases gk with
  |zero=>exact absurd HA.out (by simp [CR.l0])
  |succ k1=>
   have H:=HA.out;clear HA;simp only [CR.l0] at H;by_cases c5:x12_1<(t109.length:Int)
   ·rw [if_pos c5] at H;have c5b0:decide (x12_1<(t109.length:Int))=true:=decide_eq_true c5;clear c5;by_cases c6:0<=x12_1
    ·rw [if_pos c6] at H;have c6b0:decide (0<=x12_1)=true:=decide_eq_true c6;clear c6;by_cases c7:x12_1<(t109.length:Int)
     ·rw [if_pos c7] at H;have c7b0:decide (x12_1<(t109.length:Int))=true:=decide_eq_true c7;clear c7;replace H:=Option.bind_eq_some_iff.mp H;obtain ⟨⟨t113,t114⟩,A80,H⟩:=H;replace H:(if t114=true then (if t113<0 then (some false) else (if t113>255 then (some false) else (CR.l0 k1 t109 t109 (t109.length:Int) (wrap64 (x12_1+1))))) else (some false))=some r:=H;have A8:=AA.mk A80;clear A80;by_cases c9:t114=true
      ·subst c9;rw [if_pos rfl] at H;by_cases c10:t113<0
       ·rw [if_pos c10] at H;have c10b0:decide (t113<0)=true:=decide_eq_true c10;clear c10;obtain rfl:=Option.some.inj H;have p112:0<=(x12_1:Int):=xa;have q112:x12_1<(t109.length:Int):=xa;obtain ⟨ad112,e112,hx112_0⟩:=Kd.DF (Kd.BH HO_10.out).2.2 x12_1 p112 q112;cases e112;replace p112:=eq_true p112;replace q112:=eq_true q112;go_wp2_with (first|((with_reducible refine AO (f:=58) rfl ?_);refine Ak (some 18) rfl rfl Tryz.func58 (by kernel_rfl) rfl #[.string (Cf ByteArray.empty t109 x12_1)] rfl xg ?_;(with_reducible refine (EL.calls (Cf ByteArray.empty t109 x12_1) t113 true _ xl A8.out).mono ?_);rintro e w11 ⟨rfl,hb⟩;refine ⟨_,rfl,?_⟩;replace HO_3:=AA.mk (Kd.BX (xR HO_3) hb);replace HO_10:=AA.mk (Kd.BX (xR HO_10) hb);replace HB:=AA.mk (AP xb hb);(try clear hb)));go_ret;exact ⟨xe,xb⟩
       ·rw [if_neg c10] at H;have c10b0:decide (t113<0)=false:=decide_eq_false c10;clear c10;by_cases c12:t113>255
        ·rw [if_pos c12] at H;have c12b0:decide (255<t113)=true:=decide_eq_true c12;clear c12;obtain rfl:=Option.some.inj H;have p112:0<=(x12_1:Int):=xa;have q112:x12_1<(t109.length:Int):=xa;obtain ⟨ad112,e112,hx112_0⟩:=Kd.DF (Kd.BH HO_10.out).2.2 x12_1 p112 q112;cases e112;replace p112:=eq_true p112;replace q112:=eq_true q112;go_wp2_with (first|((with_reducible refine AO (f:=58) rfl ?_);refine Ak (some 18) rfl rfl Tryz.func58 (by kernel_rfl) rfl #[.string (Cf ByteArray.empty t109 x12_1)] rfl xg ?_;(with_reducible refine (EL.calls (Cf ByteArray.empty t109 x12_1) t113 true _ xl A8.out).mono ?_);rintro e w13 ⟨rfl,hb⟩;refine ⟨_,rfl,?_⟩;replace HO_3:=AA.mk (Kd.BX (xR HO_3) hb);replace HO_10:=AA.mk (Kd.BX (xR HO_10) hb);replace HB:=AA.mk (AP xb hb);(try clear hb)));go_ret;exact ⟨xe,xb⟩
        ·rw [if_neg c12] at H;have c12b0:decide (255<t113)=false:=decide_eq_false c12;clear c12;have H':=AA.mk H;clear H;have p112:0<=(x12_1:Int):=xa;have q112:x12_1<(t109.length:Int):=xa;obtain ⟨ad112,e112,hx112_0⟩:=Kd.DF (Kd.BH HO_10.out).2.2 x12_1 p112 q112;cases e112;replace p112:=eq_true p112;replace q112:=eq_true q112;go_wp2_with (first|((with_reducible refine AO (f:=58) rfl ?_);refine Ak (some 18) rfl rfl Tryz.func58 (by kernel_rfl) rfl #[.string (Cf ByteArray.empty t109 x12_1)] rfl xg ?_;(with_reducible refine (EL.calls (Cf ByteArray.empty t109 x12_1) t113 true _ xl A8.out).mono ?_);rintro e w14 ⟨rfl,hb⟩;refine ⟨_,rfl,?_⟩;replace HO_3:=AA.mk (Kd.BX (xR HO_3) hb);replace HO_10:=AA.mk (Kd.BX (xR HO_10) hb);replace HB:=AA.mk (AP xb hb);(try clear hb)));go_roundg k1;case measure=>have:=HK1.out;omega
         case rel=>exact ⟨(wrap64 (x12_1+1)),xq,H',⟨by have:=HK1.out;omega⟩,⟨by (with_reducible repeat (first|apply Kd.Bd|apply Kd.Be|apply Kd.Bl));exact HO_3.out⟩,⟨by (with_reducible repeat (first|apply Kd.Bd|apply Kd.Be|apply Kd.Bl));exact HO_10.out⟩,⟨xb⟩⟩
      ·replace c9:=Bool.eq_false_iff.mpr c9;subst c9;have H1:(some false)=some r:=by rw [if_neg (show ¬(false=true) by decide)] at H;exact H
       clear H;have H:=H1;clear H1;obtain rfl:=Option.some.inj H;have p112:0<=(x12_1:Int):=xa;have q112:x12_1<(t109.length:Int):=xa;obtain ⟨ad112,e112,hx112_0⟩:=Kd.DF (Kd.BH HO_10.out).2.2 x12_1 p112 q112;cases e112;replace p112:=eq_true p112;replace q112:=eq_true q112;go_wp2_with (first|((with_reducible refine AO (f:=58) rfl ?_);refine Ak (some 18) rfl rfl Tryz.func58 (by kernel_rfl) rfl #[.string (Cf ByteArray.empty t109 x12_1)] rfl xg ?_;(with_reducible refine (EL.calls (Cf ByteArray.empty t109 x12_1) t113 false _ xl A8.out).mono ?_);rintro e w15 ⟨rfl,hb⟩;refine ⟨_,rfl,?_⟩;replace HO_3:=AA.mk (Kd.BX (xR HO_3) hb);replace HO_10:=AA.mk (Kd.BX (xR HO_10) hb);replace HB:=AA.mk (AP xb hb);(try clear hb)));go_ret;exact ⟨xe,xb⟩
     ·rw [if_neg c7] at H;exact absurd H (by simp)
    ·rw [if_neg c6] at H;exact absurd H (by simp)
   ·rw [if_neg c5] at H;have c5b0:decide (x12_1<(t109.length:Int))=false:=decide_eq_false c5;clear c5;obtain rfl:=Option.some.inj H;go_wp2;go_ret;exact ⟨xe,xb⟩
end Go.Proofs.YtikggnalmidlhaaGreatDoor.Print
end
