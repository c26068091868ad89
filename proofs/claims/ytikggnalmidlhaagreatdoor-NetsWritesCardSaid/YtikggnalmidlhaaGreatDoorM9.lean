/- Several parts of the claim's proof in one text, said short by a program of this session. No condition. -/
import Derived.Test.YtikggnalmidlhaaGreatDoorM6
section
namespace Go.Proofs.YtikggnalmidlhaaGreatDoor.Print
open RowKit AR Aa Ad
attribute [local go_sem] BM BN Bo Bp BC BD BO BP
set_option linter.unusedVariables false
set_option linter.unusedSimpArgs false
def Av.l0:Nat->ByteArray->List ByteArray->Int->Int->Option (List ByteArray)
 |0,_,_,_,_=>none
 |k+1,x0,x3,x4,x5=>if x5<(x0.size:Int) then (if 0<=x5 then (if (bt x0 x5)=46 then (if 0<=x4 then (if x4<=x5 then (if x5<=(x0.size:Int) then (if x3.length<8796093022208 then (Av.l0 k x0 (x3++[x0.extract (x4:Int).toNat (x5:Int).toNat]) (wrap64 (x5+1)) (wrap64 (x5+1))) else (none)) else (none)) else (none)) else (none)) else (Av.l0 k x0 x3 x4 (wrap64 (x5+1)))) else (none)) else (if 0<=x4 then (if x4<=(x0.size:Int) then (if x3.length<8796093022208 then (some (x3++[x0.extract (x4:Int).toNat x0.size])) else (none)) else (none)) else (none))
def Av.f (k:Nat) (a0:ByteArray):Option (List ByteArray):=Av.l0 k a0 ([]:List ByteArray) 0 0
set_option maxHeartbeats 8000000 in
set_option maxRecDepth 100000 in
theorem Av.calls (k:Nat) (a0:ByteArray) (r:List ByteArray) (w:World) (h:Av.f k a0=some r):
 Calls Tryz.prog 90 #[.string a0] w λe w'=>∃ v0_:Value,e= .returned (v0_)/\Kd.R Kd.string 9 w' w.heap.size (λ_=>True) v0_ r/\Below w.heap.size w w':=by
 have HB:=AA.mk (Below.refl w.heap.size w);have H:(Av.l0 k a0 ([]:List ByteArray) 0 0)=some r:=h;clear h;have H':=AA.mk H;clear H;go_enter Tryz.func90,Tryz.ntmps90;go_wp2;go_loopg [3,4,5] k (λkq v3 v4 v5 w'=>∃ (x3_1:List ByteArray) (x4_1:Int) (x5_1:Int),v4= .int .i64 x4_1/\v5= .int .i64 x5_1/\AA (Av.l0 kq a0 x3_1 x4_1 x5_1=some r)/\AA (kq<=k)/\AA (Kd.R Kd.string 9 w' w.heap.size (λ_=>True) v3 x3_1)/\AA (Below w.heap.size w w'));case atStart=>exact ⟨(([]:List ByteArray)),(0),(0),xq,xq,H',⟨Nat.le_refl _⟩,⟨by first|exact Kd.Eu _ _ _ _ _|exact Kd.F6 _ _ _ _ _|exact Kd.F7 _ _ _ _ _|exact Kd.F3 _ _ _ _ _|exact Kd.F5 _ _ _ _ _⟩,⟨xb⟩⟩
 case round=>
  clear H';obtain ⟨x3_1,x4_1,x5_1,rfl,rfl,HA,HK1,HO_3,HB⟩:=hrel;cases gk with
  |zero=>exact absurd HA.out (by simp [Av.l0])
  |succ k1=>
   have H:=HA.out;clear HA;simp only [Av.l0] at H;by_cases c2:x5_1<(a0.size:Int)
   ·rw [if_pos c2] at H;have c2b0:decide (x5_1<(a0.size:Int))=true:=decide_eq_true c2;clear c2;by_cases c3:0<=x5_1
    ·rw [if_pos c3] at H;have c3b0:decide (0<=x5_1)=true:=decide_eq_true c3;clear c3;by_cases c5:(bt a0 x5_1)=46
     ·rw [if_pos c5] at H;have c5b0:((bt a0 x5_1)==46)=true:=beq_iff_eq.mpr c5;have c5b1:((bt a0 x5_1) != 46)=false:=bne_eq_false_iff_eq.mpr c5;clear c5;by_cases c6:0<=x4_1
      ·rw [if_pos c6] at H;have c6b0:=eq_true c6;have c6b1:decide (0<=x4_1)=true:=decide_eq_true c6;clear c6;by_cases c7:x4_1<=x5_1
       ·rw [if_pos c7] at H;have c7b0:=eq_true c7;have c7b1:decide (x4_1<=x5_1)=true:=decide_eq_true c7;clear c7;by_cases c8:x5_1<=(a0.size:Int)
        ·rw [if_pos c8] at H;have c8b0:=eq_true c8;have c8b1:decide (x5_1<=(a0.size:Int))=true:=decide_eq_true c8;clear c8;by_cases c9:x3_1.length<8796093022208
         ·rw [if_pos c9] at H;have LMc9:=AA.mk c9;clear c9;obtain ⟨y257,hy257⟩:∃ y_:List ByteArray,y_=(x3_1++[a0.extract (x4_1:Int).toNat (x5_1:Int).toNat]):=⟨_,rfl⟩;replace H:(Av.l0 k1 a0 y257 (wrap64 (x5_1+1)) (wrap64 (x5_1+1)))=some r:=by first|(rw [hy257];with_reducible exact H)|(have H2_:=(Option.bind_some _ _).symm.trans H;rw [hy257];with_reducible exact H2_)|(have H2_:=(Option.bind_some _ _).symm.trans H;with_reducible exact H2_)|with_reducible exact H|(rw [hy257];exact H)|exact H
          have Ny257:=AA.mk hy257;clear hy257;have H':=AA.mk H;clear H;have p4:0<=(x5_1:Int):=xa;have q4:x5_1<(a0.size:Int):=xa;have hx4:=Br a0 x5_1;replace p4:=eq_true p4;replace q4:=eq_true q4;go_wp2_with (first|((with_reducible refine DR (b:= .append) (xs:=#[.tmp 16, .tmp 21]) rfl ?_);at_builtin;refine Kd.Ej Kd.string (w0:=w) w.heap.size rfl (.tmp 16) (.tmp 21) 45 9 (.string ⟨#[]⟩) 16 rfl Tryz.underlying45 QG rfl (by decide) (by omega) u3 x3_1 (a0.extract (x4_1:Int).toNat (x5_1:Int).toNat) [.string (a0.extract (x4_1:Int).toNat (x5_1:Int).toNat)] (λ_=>True) (λ_=>False) rfl rfl ?aP (λ_ hk=>hk.elim) ?aF ?aO ?aB ?aS ?aL ?_;(case aP=>exact rfl);(case aB=>exact xb);(case aF=>exact (λ_ _=>trivial));(case aO=>exact (xR HO_3));(case aS=>exact (BF xb));(case aL=>have:=LMc9.out;omega);intro v258 w10 ho hb hg hat;rw [<-Ny257.out] at ho;have n0_:=AA.mk (hb);have n1_:=AA.mk (ho);clear HB;clear HO_3;have HB:=n0_;have HO259:=n1_;clear n0_ n1_;clear ho hb hg hat));go_roundg k1;case measure=>have:=HK1.out;omega
          case rel=>exact ⟨(y257),(wrap64 (x5_1+1)),(wrap64 (x5_1+1)),xq,xq,H',⟨by have:=HK1.out;omega⟩,⟨by (with_reducible repeat (first|apply Kd.Bd|apply Kd.Be|apply Kd.Bl));exact HO259.out⟩,⟨xb⟩⟩
         ·rw [if_neg c9] at H;exact absurd H (by simp)
        ·rw [if_neg c8] at H;exact absurd H (by simp)
       ·rw [if_neg c7] at H;exact absurd H (by simp)
      ·rw [if_neg c6] at H;exact absurd H (by simp)
     ·rw [if_neg c5] at H;have c5b0:((bt a0 x5_1)==46)=false:=beq_eq_false_iff_ne.mpr c5;have c5b1:((bt a0 x5_1) != 46)=true:=bne_iff_ne.mpr c5;have H':=AA.mk H;clear H;have p4:0<=(x5_1:Int):=xa;have q4:x5_1<(a0.size:Int):=xa;have hx4:=Br a0 x5_1;replace p4:=eq_true p4;replace q4:=eq_true q4;go_wp2;go_roundg k1;case measure=>have:=HK1.out;omega
      case rel=>exact ⟨(x3_1),(x4_1),(wrap64 (x5_1+1)),xq,xq,H',⟨by have:=HK1.out;omega⟩,⟨by (with_reducible repeat (first|apply Kd.Bd|apply Kd.Be|apply Kd.Bl));exact HO_3.out⟩,⟨xb⟩⟩
    ·rw [if_neg c3] at H;exact absurd H (by simp)
   ·rw [if_neg c2] at H;have c2b0:decide (x5_1<(a0.size:Int))=false:=decide_eq_false c2;clear c2;by_cases c11:0<=x4_1
    ·rw [if_pos c11] at H;have c11b0:=eq_true c11;have c11b1:decide (0<=x4_1)=true:=decide_eq_true c11;clear c11;by_cases c12:x4_1<=(a0.size:Int)
     ·rw [if_pos c12] at H;have c12b0:=eq_true c12;have c12b1:decide (x4_1<=(a0.size:Int))=true:=decide_eq_true c12;clear c12;by_cases c13:x3_1.length<8796093022208
      ·rw [if_pos c13] at H;have LMc13:=AA.mk c13;clear c13;obtain ⟨y260,hy260⟩:∃ y_:List ByteArray,y_=(x3_1++[a0.extract (x4_1:Int).toNat a0.size]):=⟨_,rfl⟩;replace H:(some y260)=some r:=by first|(rw [hy260];with_reducible exact H)|(have H2_:=(Option.bind_some _ _).symm.trans H;rw [hy260];with_reducible exact H2_)|(have H2_:=(Option.bind_some _ _).symm.trans H;with_reducible exact H2_)|with_reducible exact H|(rw [hy260];exact H)|exact H
       have Ny260:=AA.mk hy260;clear hy260;obtain rfl:=Option.some.inj H;go_wp2_with (first|((with_reducible refine DR (b:= .append) (xs:=#[.tmp 25, .tmp 29]) rfl ?_);at_builtin;refine Kd.Ej Kd.string (w0:=w) w.heap.size rfl (.tmp 25) (.tmp 29) 45 9 (.string ⟨#[]⟩) 16 rfl Tryz.underlying45 QG rfl (by decide) (by omega) u3 x3_1 (a0.extract (x4_1:Int).toNat a0.size) [.string (a0.extract (x4_1:Int).toNat a0.size)] (λ_=>True) (λ_=>False) rfl rfl ?aP (λ_ hk=>hk.elim) ?aF ?aO ?aB ?aS ?aL ?_;(case aP=>exact rfl);(case aB=>exact xb);(case aF=>exact (λ_ _=>trivial));(case aO=>exact (xR HO_3));(case aS=>exact (BF xb));(case aL=>have:=LMc13.out;omega);intro v261 w14 ho hb hg hat;rw [<-Ny260.out] at ho;have n0_:=AA.mk (hb);have n1_:=AA.mk (ho);clear HB;clear HO_3;have HB:=n0_;have HO262:=n1_;clear n0_ n1_;clear ho hb hg hat));go_ret;exact ⟨_,xe,by (with_reducible repeat (first|apply Kd.Bd|apply Kd.Be|apply Kd.Bl));exact HO262.out,xb⟩
      ·rw [if_neg c13] at H;exact absurd H (by simp)
     ·rw [if_neg c12] at H;exact absurd H (by simp)
    ·rw [if_neg c11] at H;exact absurd H (by simp)
end Go.Proofs.YtikggnalmidlhaaGreatDoor.Print
end
section
namespace Go.Proofs.YtikggnalmidlhaaGreatDoor.Print
open RowKit AR Aa Ad
attribute [local go_sem] BM BN Bo Bp BC BD BO BP
set_option linter.unusedVariables false
set_option linter.unusedSimpArgs false
mutual
def AZ.j0:Nat->ByteArray->Bool->Option (Bool)
 |0,_,_=>none
 |k+1,x0,x24=>if x24=true then (some false) else (AZ.l0 k x0 0)
def AZ.l0:Nat->ByteArray->Int->Option (Bool)
 |0,_,_=>none
 |k+1,x0,x3=>if x3<(x0.size:Int) then (if 0<=x3 then (if (bt x0 x3)>=97 then (if ((bt x0 x3)<=122) then (AZ.l0 k x0 (wrap64 (x3+1))) else (if (bt x0 x3)>=48 then (if ((bt x0 x3)<=57) then (AZ.l0 k x0 (wrap64 (x3+1))) else (if (bt x0 x3)=45 then (AZ.l0 k x0 (wrap64 (x3+1))) else (some false))) else (if (bt x0 x3)=45 then (AZ.l0 k x0 (wrap64 (x3+1))) else (some false)))) else (if (bt x0 x3)>=48 then (if ((bt x0 x3)<=57) then (AZ.l0 k x0 (wrap64 (x3+1))) else (if (bt x0 x3)=45 then (AZ.l0 k x0 (wrap64 (x3+1))) else (some false))) else (if (bt x0 x3)=45 then (AZ.l0 k x0 (wrap64 (x3+1))) else (some false)))) else (none)) else (some true)
end
def AZ.f (k:Nat) (a0:ByteArray):Option (Bool):=if (a0.size:Int)<1 then (AZ.j0 k a0 true) else (if (a0.size:Int)>63 then (AZ.j0 k a0 true) else (if 0<(a0.size:Int) then (if (bt a0 0)=45 then (AZ.j0 k a0 true) else (if 0<=(wrap64 ((a0.size:Int) - 1)) then (if (wrap64 ((a0.size:Int) - 1))<(a0.size:Int) then (AZ.j0 k a0 ((bt a0 (wrap64 ((a0.size:Int) - 1)))==45)) else (none)) else (none))) else (none)))
set_option maxHeartbeats 8000000 in
set_option maxRecDepth 100000 in
theorem AZ.calls (k:Nat) (a0:ByteArray) (r:Bool) (w:World) (h:AZ.f k a0=some r):
 Calls Tryz.prog 91 #[.string a0] w λe w'=>e= .returned (.bool r)/\Ap w w':=by
 have H:(if (a0.size:Int)<1 then (AZ.j0 k a0 true) else (if (a0.size:Int)>63 then (AZ.j0 k a0 true) else (if 0<(a0.size:Int) then (if (bt a0 0)=45 then (AZ.j0 k a0 true) else (if 0<=(wrap64 ((a0.size:Int) - 1)) then (if (wrap64 ((a0.size:Int) - 1))<(a0.size:Int) then (AZ.j0 k a0 ((bt a0 (wrap64 ((a0.size:Int) - 1)))==45)) else (none)) else (none))) else (none))))=some r:=h;clear h;have HC2:=AA.mk H;clear H;go_enter Tryz.func91,Tryz.ntmps91;go_upto_region 1 with (fail)
 go_cut [24] (λv24 wc=>∃ (kq:Nat) (x24_1:Bool),v24= .bool x24_1/\AA (AZ.j0 kq a0 x24_1=some r)/\AA (kq<=k)/\Ap w wc);case first=>
  have H:=HC2.out;clear HC2;by_cases c3:(a0.size:Int)<1
  ·rw [if_pos c3] at H;have c3b0:decide ((a0.size:Int)<1)=true:=decide_eq_true c3;have c3b1:decide (a0.size<1)=true:=decide_eq_true (by omega);clear c3;(first|rw [c3b0]|(simp only [DL,DU];rw [c3b0])|skip);have H':=AA.mk H;clear H;go_wp2;go_meet;case rel=>exact ⟨_,(true),xq,H',⟨by first|omega|exact Nat.le_refl _⟩,xd⟩
  ·rw [if_neg c3] at H;have c3b0:decide ((a0.size:Int)<1)=false:=decide_eq_false c3;have c3b1:decide (a0.size<1)=false:=decide_eq_false (by omega);clear c3;(first|rw [c3b0]|(simp only [DL,DU];rw [c3b0])|skip);by_cases c4:(a0.size:Int)>63
   ·rw [if_pos c4] at H;have c4b0:decide (63<(a0.size:Int))=true:=decide_eq_true c4;have c4b1:decide (63<a0.size)=true:=decide_eq_true (by omega);clear c4;have H':=AA.mk H;clear H;go_wp2;go_meet;case rel=>exact ⟨_,(true),xq,H',⟨by first|omega|exact Nat.le_refl _⟩,xd⟩
   ·rw [if_neg c4] at H;have c4b0:decide (63<(a0.size:Int))=false:=decide_eq_false c4;have c4b1:decide (63<a0.size)=false:=decide_eq_false (by omega);clear c4;by_cases c5:0<(a0.size:Int)
    ·rw [if_pos c5] at H;have c5b0:decide (0<(a0.size:Int))=true:=decide_eq_true c5;have c5b1:decide (0<a0.size)=true:=decide_eq_true (by omega);clear c5;by_cases c7:(bt a0 0)=45
     ·rw [if_pos c7] at H;have c7b0:((bt a0 0)==45)=true:=beq_iff_eq.mpr c7;have c7b1:((bt a0 0) != 45)=false:=bne_eq_false_iff_eq.mpr c7;clear c7;have H':=AA.mk H;clear H;have p6:0<=(0:Int):=(by omega);have q6:0<a0.size:=(by have:(0:Int)<(a0.size:Int):=xa;omega);have hx6:∀ h:0<a0.size,((a0[0]'h).toNat:Int)=bt a0 0:=Br a0 0;clear p6;have qi6:(0<(a0.size:Int))=True:=eq_true (xa);replace q6:=eq_true q6;go_wp2;go_meet;case rel=>exact ⟨_,(true),xq,H',⟨by first|omega|exact Nat.le_refl _⟩,xd⟩
     ·rw [if_neg c7] at H;have c7b0:((bt a0 0)==45)=false:=beq_eq_false_iff_ne.mpr c7;have c7b1:((bt a0 0) != 45)=true:=bne_iff_ne.mpr c7;obtain ⟨ji8,hji8⟩:∃ j_:Int,(wrap64 ((a0.size:Int) - 1))=j_:=⟨_,rfl⟩;replace H:(if 0<=(ji8) then (if (ji8)<(a0.size:Int) then (AZ.j0 k a0 ((bt a0 (ji8))==45)) else (none)) else (none))=some r:=by first|(rw [hji8] at H;exact H)|(simp only [hji8] at H⊢;exact H)
      have hji8w:(IntKind.i64.wrap ((a0.size:Int) - 1))=ji8:=(DL _).trans hji8;by_cases c9:0<=(ji8)
      ·rw [if_pos c9] at H;have c9b0:decide (0<=(ji8))=true:=decide_eq_true c9;clear c9;by_cases c10:(ji8)<(a0.size:Int)
       ·rw [if_pos c10] at H;have c10b0:decide ((ji8)<(a0.size:Int))=true:=decide_eq_true c10;clear c10;have H':=AA.mk H;clear H;have p6:0<=(0:Int):=(by omega);have q6:0<a0.size:=(by have:(0:Int)<(a0.size:Int):=xa;omega);have hx6:∀ h:0<a0.size,((a0[0]'h).toNat:Int)=bt a0 0:=Br a0 0;clear p6;have qi6:(0<(a0.size:Int))=True:=eq_true (xa);replace q6:=eq_true q6;have p11:0<=((ji8):Int):=xa;have q11:(ji8)<(a0.size:Int):=xa;have hx11:=Br a0 (ji8);replace p11:=eq_true p11;replace q11:=eq_true q11;go_wp2;go_meet;case rel=>exact ⟨_,(((bt a0 (ji8))==45)),(by first|rfl|(simp;done)|(simp only [<-hji8]<;>(first|rfl|simp))|(simp [*];done)),H',⟨by first|omega|exact Nat.le_refl _⟩,xd⟩
       ·rw [if_neg c10] at H;exact absurd H (by simp)
      ·rw [if_neg c9] at H;exact absurd H (by simp)
    ·rw [if_neg c5] at H;exact absurd H (by simp)
 case rest=>
  clear HC2;try clear c1
  try clear p1
  try clear q1
  try clear hx1
  try clear p2
  try clear c3
  try clear c3b0
  try clear c3b1
  try clear c4
  try clear c4b0
  try clear c4b1
  try clear c5
  try clear c5b0
  try clear c5b1
  try clear p6
  try clear q6
  try clear hx6
  try clear qi6
  try clear c7
  try clear c7b0
  try clear c7b1
  try clear c9
  try clear c9b0
  try clear c10
  try clear c10b0
  try clear p11
  try clear q11
  try clear hx11
  try clear p11
  try clear p6
  try clear q11
  try clear q6
  obtain ⟨kq,x24_1,rfl,HA,HJ1,⟨mc1,rfl⟩⟩:=hcut;cases kq with
  |zero=>exact absurd HA.out (by simp [AZ.j0])
  |succ kj1=>
   have H:=HA.out;clear HA;simp only [AZ.j0] at H;by_cases c12:x24_1=true
   ·subst c12;have H1:(some false)=some r:=by rw [if_pos rfl] at H;exact H
    clear H;have H:=H1;clear H1;obtain rfl:=Option.some.inj H;go_wp2;go_ret;exact ⟨xq,xd⟩
   ·replace c12:=Bool.eq_false_iff.mpr c12;subst c12;have H1:(AZ.l0 kj1 a0 0)=some r:=by rw [if_neg (show ¬(false=true) by decide)] at H;exact H
    clear H;have H:=H1;clear H1;have H':=AA.mk H;clear H;go_wp2;go_loopg [3] kj1 (λkq v3 w'=>∃ (x3_2:Int),v3= .int .i64 x3_2/\AA (AZ.l0 kq a0 x3_2=some r)/\AA (kq<=kj1)/\Ap w w');case atStart=>exact ⟨(0),xq,H',⟨Nat.le_refl _⟩,xd⟩
    case round=>
     clear H';try clear c1
     try clear p1
     try clear q1
     try clear hx1
     try clear p2
     try clear c3
     try clear c3b0
     try clear c3b1
     try clear c4
     try clear c4b0
     try clear c4b1
     try clear c5
     try clear c5b0
     try clear c5b1
     try clear p6
     try clear q6
     try clear hx6
     try clear qi6
     try clear c7
     try clear c7b0
     try clear c7b1
     try clear c9
     try clear c9b0
     try clear c10
     try clear c10b0
     try clear p11
     try clear q11
     try clear hx11
     try clear c12
     try clear p1
     try clear p11
     try clear p2
     try clear p6
     try clear q1
     try clear q11
     try clear q6
     obtain ⟨x3_2,rfl,HA,HK2,⟨m2,rfl⟩⟩:=hrel;cases gk with
     |zero=>exact absurd HA.out (by simp [AZ.l0])
     |succ k2=>
      have H:=HA.out;clear HA;simp only [AZ.l0] at H;by_cases c13:x3_2<(a0.size:Int)
      ·rw [if_pos c13] at H;have c13b0:decide (x3_2<(a0.size:Int))=true:=decide_eq_true c13;clear c13;by_cases c14:0<=x3_2
       ·rw [if_pos c14] at H;have c14b0:decide (0<=x3_2)=true:=decide_eq_true c14;clear c14;by_cases c16:(bt a0 x3_2)>=97
        ·rw [if_pos c16] at H;have c16b0:decide (97<=(bt a0 x3_2))=true:=decide_eq_true c16;clear c16;by_cases c18:((bt a0 x3_2)<=122)
         ·rw [if_pos c18] at H;have c18b0:decide ((bt a0 x3_2)<=122)=true:=decide_eq_true c18;clear c18;have H':=AA.mk H;clear H;have p15:0<=(x3_2:Int):=xa;have q15:x3_2<(a0.size:Int):=xa;have hx15:=Br a0 x3_2;replace p15:=eq_true p15;replace q15:=eq_true q15;have p17:0<=(x3_2:Int):=xa;have q17:x3_2<(a0.size:Int):=xa;have hx17:=Br a0 x3_2;replace p17:=eq_true p17;replace q17:=eq_true q17;go_wp2;go_roundg k2;case measure=>have:=HJ1.out;have:=HK2.out;omega
          case rel=>exact ⟨(wrap64 (x3_2+1)),xq,H',⟨by have:=HJ1.out;have:=HK2.out;omega⟩,xd⟩
         ·rw [if_neg c18] at H;have c18b0:decide ((bt a0 x3_2)<=122)=false:=decide_eq_false c18;clear c18;by_cases c20:(bt a0 x3_2)>=48
          ·rw [if_pos c20] at H;have c20b0:decide (48<=(bt a0 x3_2))=true:=decide_eq_true c20;clear c20;by_cases c22:((bt a0 x3_2)<=57)
           ·rw [if_pos c22] at H;have c22b0:decide ((bt a0 x3_2)<=57)=true:=decide_eq_true c22;clear c22;have H':=AA.mk H;clear H;have p15:0<=(x3_2:Int):=xa;have q15:x3_2<(a0.size:Int):=xa;have hx15:=Br a0 x3_2;replace p15:=eq_true p15;replace q15:=eq_true q15;have p17:0<=(x3_2:Int):=xa;have q17:x3_2<(a0.size:Int):=xa;have hx17:=Br a0 x3_2;replace p17:=eq_true p17;replace q17:=eq_true q17;have p19:0<=(x3_2:Int):=xa;have q19:x3_2<(a0.size:Int):=xa;have hx19:=Br a0 x3_2;replace p19:=eq_true p19;replace q19:=eq_true q19;have p21:0<=(x3_2:Int):=xa;have q21:x3_2<(a0.size:Int):=xa;have hx21:=Br a0 x3_2;replace p21:=eq_true p21;replace q21:=eq_true q21;go_wp2;go_roundg k2;case measure=>have:=HJ1.out;have:=HK2.out;omega
            case rel=>exact ⟨(wrap64 (x3_2+1)),xq,H',⟨by have:=HJ1.out;have:=HK2.out;omega⟩,xd⟩
           ·rw [if_neg c22] at H;have c22b0:decide ((bt a0 x3_2)<=57)=false:=decide_eq_false c22;clear c22;by_cases c24:(bt a0 x3_2)=45
            ·rw [if_pos c24] at H;have c24b0:((bt a0 x3_2)==45)=true:=beq_iff_eq.mpr c24;have c24b1:((bt a0 x3_2) != 45)=false:=bne_eq_false_iff_eq.mpr c24;clear c24;have H':=AA.mk H;clear H;have p15:0<=(x3_2:Int):=xa;have q15:x3_2<(a0.size:Int):=xa;have hx15:=Br a0 x3_2;replace p15:=eq_true p15;replace q15:=eq_true q15;have p17:0<=(x3_2:Int):=xa;have q17:x3_2<(a0.size:Int):=xa;have hx17:=Br a0 x3_2;replace p17:=eq_true p17;replace q17:=eq_true q17;have p19:0<=(x3_2:Int):=xa;have q19:x3_2<(a0.size:Int):=xa;have hx19:=Br a0 x3_2;replace p19:=eq_true p19;replace q19:=eq_true q19;have p21:0<=(x3_2:Int):=xa;have q21:x3_2<(a0.size:Int):=xa;have hx21:=Br a0 x3_2;replace p21:=eq_true p21;replace q21:=eq_true q21;have p23:0<=(x3_2:Int):=xa;have q23:x3_2<(a0.size:Int):=xa;have hx23:=Br a0 x3_2;replace p23:=eq_true p23;replace q23:=eq_true q23;go_wp2;go_roundg k2;case measure=>have:=HJ1.out;have:=HK2.out;omega
             case rel=>exact ⟨(wrap64 (x3_2+1)),xq,H',⟨by have:=HJ1.out;have:=HK2.out;omega⟩,xd⟩
            ·rw [if_neg c24] at H;have c24b0:((bt a0 x3_2)==45)=false:=beq_eq_false_iff_ne.mpr c24;have c24b1:((bt a0 x3_2) != 45)=true:=bne_iff_ne.mpr c24;obtain rfl:=Option.some.inj H;have p15:0<=(x3_2:Int):=xa;have q15:x3_2<(a0.size:Int):=xa;have hx15:=Br a0 x3_2;replace p15:=eq_true p15;replace q15:=eq_true q15;have p17:0<=(x3_2:Int):=xa;have q17:x3_2<(a0.size:Int):=xa;have hx17:=Br a0 x3_2;replace p17:=eq_true p17;replace q17:=eq_true q17;have p19:0<=(x3_2:Int):=xa;have q19:x3_2<(a0.size:Int):=xa;have hx19:=Br a0 x3_2;replace p19:=eq_true p19;replace q19:=eq_true q19;have p21:0<=(x3_2:Int):=xa;have q21:x3_2<(a0.size:Int):=xa;have hx21:=Br a0 x3_2;replace p21:=eq_true p21;replace q21:=eq_true q21;have p23:0<=(x3_2:Int):=xa;have q23:x3_2<(a0.size:Int):=xa;have hx23:=Br a0 x3_2;replace p23:=eq_true p23;replace q23:=eq_true q23;go_wp2;go_ret;exact ⟨xq,xd⟩
          ·rw [if_neg c20] at H;have c20b0:decide (48<=(bt a0 x3_2))=false:=decide_eq_false c20;clear c20;by_cases c26:(bt a0 x3_2)=45
           ·rw [if_pos c26] at H;have c26b0:((bt a0 x3_2)==45)=true:=beq_iff_eq.mpr c26;have c26b1:((bt a0 x3_2) != 45)=false:=bne_eq_false_iff_eq.mpr c26;clear c26;have H':=AA.mk H;clear H;have p15:0<=(x3_2:Int):=xa;have q15:x3_2<(a0.size:Int):=xa;have hx15:=Br a0 x3_2;replace p15:=eq_true p15;replace q15:=eq_true q15;have p17:0<=(x3_2:Int):=xa;have q17:x3_2<(a0.size:Int):=xa;have hx17:=Br a0 x3_2;replace p17:=eq_true p17;replace q17:=eq_true q17;have p19:0<=(x3_2:Int):=xa;have q19:x3_2<(a0.size:Int):=xa;have hx19:=Br a0 x3_2;replace p19:=eq_true p19;replace q19:=eq_true q19;have p25:0<=(x3_2:Int):=xa;have q25:x3_2<(a0.size:Int):=xa;have hx25:=Br a0 x3_2;replace p25:=eq_true p25;replace q25:=eq_true q25;go_wp2;go_roundg k2;case measure=>have:=HJ1.out;have:=HK2.out;omega
            case rel=>exact ⟨(wrap64 (x3_2+1)),xq,H',⟨by have:=HJ1.out;have:=HK2.out;omega⟩,xd⟩
           ·rw [if_neg c26] at H;have c26b0:((bt a0 x3_2)==45)=false:=beq_eq_false_iff_ne.mpr c26;have c26b1:((bt a0 x3_2) != 45)=true:=bne_iff_ne.mpr c26;obtain rfl:=Option.some.inj H;have p15:0<=(x3_2:Int):=xa;have q15:x3_2<(a0.size:Int):=xa;have hx15:=Br a0 x3_2;replace p15:=eq_true p15;replace q15:=eq_true q15;have p17:0<=(x3_2:Int):=xa;have q17:x3_2<(a0.size:Int):=xa;have hx17:=Br a0 x3_2;replace p17:=eq_true p17;replace q17:=eq_true q17;have p19:0<=(x3_2:Int):=xa;have q19:x3_2<(a0.size:Int):=xa;have hx19:=Br a0 x3_2;replace p19:=eq_true p19;replace q19:=eq_true q19;have p25:0<=(x3_2:Int):=xa;have q25:x3_2<(a0.size:Int):=xa;have hx25:=Br a0 x3_2;replace p25:=eq_true p25;replace q25:=eq_true q25;go_wp2;go_ret;exact ⟨xq,xd⟩
        ·rw [if_neg c16] at H;have c16b0:decide (97<=(bt a0 x3_2))=false:=decide_eq_false c16;clear c16;by_cases c28:(bt a0 x3_2)>=48
         ·rw [if_pos c28] at H;have c28b0:decide (48<=(bt a0 x3_2))=true:=decide_eq_true c28;clear c28;by_cases c30:((bt a0 x3_2)<=57)
          ·rw [if_pos c30] at H;have c30b0:decide ((bt a0 x3_2)<=57)=true:=decide_eq_true c30;clear c30;have H':=AA.mk H;clear H;have p15:0<=(x3_2:Int):=xa;have q15:x3_2<(a0.size:Int):=xa;have hx15:=Br a0 x3_2;replace p15:=eq_true p15;replace q15:=eq_true q15;have p27:0<=(x3_2:Int):=xa;have q27:x3_2<(a0.size:Int):=xa;have hx27:=Br a0 x3_2;replace p27:=eq_true p27;replace q27:=eq_true q27;have p29:0<=(x3_2:Int):=xa;have q29:x3_2<(a0.size:Int):=xa;have hx29:=Br a0 x3_2;replace p29:=eq_true p29;replace q29:=eq_true q29;go_wp2;go_roundg k2;case measure=>have:=HJ1.out;have:=HK2.out;omega
           case rel=>exact ⟨(wrap64 (x3_2+1)),xq,H',⟨by have:=HJ1.out;have:=HK2.out;omega⟩,xd⟩
          ·rw [if_neg c30] at H;have c30b0:decide ((bt a0 x3_2)<=57)=false:=decide_eq_false c30;clear c30;by_cases c32:(bt a0 x3_2)=45
           ·rw [if_pos c32] at H;have c32b0:((bt a0 x3_2)==45)=true:=beq_iff_eq.mpr c32;have c32b1:((bt a0 x3_2) != 45)=false:=bne_eq_false_iff_eq.mpr c32;clear c32;have H':=AA.mk H;clear H;have p15:0<=(x3_2:Int):=xa;have q15:x3_2<(a0.size:Int):=xa;have hx15:=Br a0 x3_2;replace p15:=eq_true p15;replace q15:=eq_true q15;have p27:0<=(x3_2:Int):=xa;have q27:x3_2<(a0.size:Int):=xa;have hx27:=Br a0 x3_2;replace p27:=eq_true p27;replace q27:=eq_true q27;have p29:0<=(x3_2:Int):=xa;have q29:x3_2<(a0.size:Int):=xa;have hx29:=Br a0 x3_2;replace p29:=eq_true p29;replace q29:=eq_true q29;have p31:0<=(x3_2:Int):=xa;have q31:x3_2<(a0.size:Int):=xa;have hx31:=Br a0 x3_2;replace p31:=eq_true p31;replace q31:=eq_true q31;go_wp2;go_roundg k2;case measure=>have:=HJ1.out;have:=HK2.out;omega
            case rel=>exact ⟨(wrap64 (x3_2+1)),xq,H',⟨by have:=HJ1.out;have:=HK2.out;omega⟩,xd⟩
           ·rw [if_neg c32] at H;have c32b0:((bt a0 x3_2)==45)=false:=beq_eq_false_iff_ne.mpr c32;have c32b1:((bt a0 x3_2) != 45)=true:=bne_iff_ne.mpr c32;obtain rfl:=Option.some.inj H;have p15:0<=(x3_2:Int):=xa;have q15:x3_2<(a0.size:Int):=xa;have hx15:=Br a0 x3_2;replace p15:=eq_true p15;replace q15:=eq_true q15;have p27:0<=(x3_2:Int):=xa;have q27:x3_2<(a0.size:Int):=xa;have hx27:=Br a0 x3_2;replace p27:=eq_true p27;replace q27:=eq_true q27;have p29:0<=(x3_2:Int):=xa;have q29:x3_2<(a0.size:Int):=xa;have hx29:=Br a0 x3_2;replace p29:=eq_true p29;replace q29:=eq_true q29;have p31:0<=(x3_2:Int):=xa;have q31:x3_2<(a0.size:Int):=xa;have hx31:=Br a0 x3_2;replace p31:=eq_true p31;replace q31:=eq_true q31;go_wp2;go_ret;exact ⟨xq,xd⟩
         ·rw [if_neg c28] at H;have c28b0:decide (48<=(bt a0 x3_2))=false:=decide_eq_false c28;clear c28;by_cases c34:(bt a0 x3_2)=45
          ·rw [if_pos c34] at H;have c34b0:((bt a0 x3_2)==45)=true:=beq_iff_eq.mpr c34;have c34b1:((bt a0 x3_2) != 45)=false:=bne_eq_false_iff_eq.mpr c34;clear c34;have H':=AA.mk H;clear H;have p15:0<=(x3_2:Int):=xa;have q15:x3_2<(a0.size:Int):=xa;have hx15:=Br a0 x3_2;replace p15:=eq_true p15;replace q15:=eq_true q15;have p27:0<=(x3_2:Int):=xa;have q27:x3_2<(a0.size:Int):=xa;have hx27:=Br a0 x3_2;replace p27:=eq_true p27;replace q27:=eq_true q27;have p33:0<=(x3_2:Int):=xa;have q33:x3_2<(a0.size:Int):=xa;have hx33:=Br a0 x3_2;replace p33:=eq_true p33;replace q33:=eq_true q33;go_wp2;go_roundg k2;case measure=>have:=HJ1.out;have:=HK2.out;omega
           case rel=>exact ⟨(wrap64 (x3_2+1)),xq,H',⟨by have:=HJ1.out;have:=HK2.out;omega⟩,xd⟩
          ·rw [if_neg c34] at H;have c34b0:((bt a0 x3_2)==45)=false:=beq_eq_false_iff_ne.mpr c34;have c34b1:((bt a0 x3_2) != 45)=true:=bne_iff_ne.mpr c34;obtain rfl:=Option.some.inj H;have p15:0<=(x3_2:Int):=xa;have q15:x3_2<(a0.size:Int):=xa;have hx15:=Br a0 x3_2;replace p15:=eq_true p15;replace q15:=eq_true q15;have p27:0<=(x3_2:Int):=xa;have q27:x3_2<(a0.size:Int):=xa;have hx27:=Br a0 x3_2;replace p27:=eq_true p27;replace q27:=eq_true q27;have p33:0<=(x3_2:Int):=xa;have q33:x3_2<(a0.size:Int):=xa;have hx33:=Br a0 x3_2;replace p33:=eq_true p33;replace q33:=eq_true q33;go_wp2;go_ret;exact ⟨xq,xd⟩
       ·rw [if_neg c14] at H;exact absurd H (by simp)
      ·rw [if_neg c13] at H;have c13b0:decide (x3_2<(a0.size:Int))=false:=decide_eq_false c13;clear c13;obtain rfl:=Option.some.inj H;go_wp2;go_ret;exact ⟨xq,xd⟩
end Go.Proofs.YtikggnalmidlhaaGreatDoor.Print
end
section
namespace Go.Proofs.YtikggnalmidlhaaGreatDoor.Print
open RowKit AR Aa Ad
attribute [local go_sem] BM BN Bo Bp BC BD BO BP
set_option linter.unusedVariables false
set_option linter.unusedSimpArgs false
def Az.l0:Nat->Int->ByteArray->Option (ByteArray)
 |0,_,_=>none
 |k+1,x0,x3=>if x0>=10 then ((some (([(IntKind.u64.wrap (48+(Int.tmod x0 10)))%256]:List Int):List Int)).bind λy269=>(if (strOfNums y269).size+x3.size<=9223372036854775807 then (Az.l0 k (IntKind.u64.wrap (Int.tdiv x0 10)) ((strOfNums y269)++x3)) else (none))) else ((some (([(IntKind.u64.wrap (48+x0))%256]:List Int):List Int)).bind λy272=>(if (strOfNums y272).size+x3.size<=9223372036854775807 then (some ((strOfNums y272)++x3)) else (none)))
def Az.f (k:Nat) (a0:Int):Option (ByteArray):=Az.l0 k a0 (⟨#[]⟩:ByteArray)
set_option maxHeartbeats 8000000 in
set_option maxRecDepth 100000 in
theorem Az.calls (k:Nat) (a0:Int) (r:ByteArray) (w:World) (h:Az.f k a0=some r):
 Calls Tryz.prog 79 #[.int .u64 a0] w λe w'=>e= .returned (.string r)/\Below w.heap.size w w':=by
 have HB:=AA.mk (Below.refl w.heap.size w);have H:(Az.l0 k a0 (⟨#[]⟩:ByteArray))=some r:=h;clear h;have H':=AA.mk H;clear H;go_enter Tryz.func79,Tryz.ntmps79;go_wp2;go_loopg [0,3] k (λkq v0 v3 w'=>∃ (x0_1:Int) (x3_1:ByteArray),v0= .int .u64 x0_1/\v3= .string x3_1/\AA (Az.l0 kq x0_1 x3_1=some r)/\AA (kq<=k)/\AA (Below w.heap.size w w'));case atStart=>exact ⟨(a0),((⟨#[]⟩:ByteArray)),xq,xq,H',⟨Nat.le_refl _⟩,⟨xb⟩⟩
 case round=>
  clear H';obtain ⟨x0_1,x3_1,rfl,rfl,HA,HK1,HB⟩:=hrel;cases gk with
  |zero=>exact absurd HA.out (by simp [Az.l0])
  |succ k1=>
   have H:=HA.out;clear HA;simp only [Az.l0] at H;by_cases c2:x0_1>=10
   ·rw [if_pos c2] at H;have c2b0:decide (10<=x0_1)=true:=decide_eq_true c2;clear c2;obtain ⟨y269,hy269⟩:∃ y_:List Int,y_=(([(IntKind.u64.wrap (48+(Int.tmod x0_1 10)))%256]:List Int)):=⟨_,rfl⟩;replace H:(if (strOfNums y269).size+x3_1.size<=9223372036854775807 then (Az.l0 k1 (IntKind.u64.wrap (Int.tdiv x0_1 10)) ((strOfNums y269)++x3_1)) else (none))=some r:=by first|(rw [hy269];with_reducible exact H)|(have H2_:=(Option.bind_some _ _).symm.trans H;rw [hy269];with_reducible exact H2_)|(have H2_:=(Option.bind_some _ _).symm.trans H;with_reducible exact H2_)|with_reducible exact H|(rw [hy269];exact H)|exact H
    have Ny269:=AA.mk hy269;clear hy269;by_cases c3:(strOfNums y269).size+x3_1.size<=9223372036854775807
    ·rw [if_pos c3] at H;have c3b0:=eq_true c3;have c3b1:decide ((strOfNums y269).size+x3_1.size<=9223372036854775807)=true:=decide_eq_true c3;try have c3b2:(9223372036854775807<(strOfNums y269).size+x3_1.size)=False:=eq_false (Nat.not_lt.2 c3)
     have H':=AA.mk H;clear H;go_wp2_with (first|((with_reducible refine F4 (N:=10) rfl ?_);refine Kd.OV (Kd.int .u8) _ 5 ?hg (N:=10) ?hd (xs:=([(IntKind.u64.wrap (48+(Int.tmod x0_1 10)))%256]:List Int)) (inner:=[.int .u8 ((IntKind.u64.wrap (48+(Int.tmod x0_1 10)))%256)]) (ok:=λ_=>True) (okp:=λ_=>True) ?hr ?hp (λ_ hk=>hk) trivial (Below.refl _ _) (Nat.le_refl _) (by simp) ?_;(case hd=>rfl);(case hg=>rfl);(case hr=>first|(go_simp;done)|(go_simp;rfl));(case hp=>exact (CG.one (show Kd.M (Kd.int .u8) _ _ _ ((IntKind.u64.wrap (48+(Int.tmod x0_1 10)))%256) [.int .u8 ((IntKind.u64.wrap (48+(Int.tmod x0_1 10)))%256)] from rfl) (CG.none _ _)));intro v270 w4 ho5 hb hg_ hnew_;clear hg_ hnew_;(first|rw [<-Ny269.out] at ho5|(simp only [Int.reduceToNat] at ho5;rw [<-Ny269.out] at ho5));have HO271:=AA.mk (Kd.Cm ho5 (BF xb));replace HB:=AA.mk (AP xb hb);clear hb ho5;have hcv6:=Jg (P:=Tryz.prog) Tryz.underlying76 Tryz.underlying5 Tryz.underlying9 (Kd.Ji HO271.out)));go_roundg k1;case measure=>have:=HK1.out;omega
     case rel=>exact ⟨(IntKind.u64.wrap (Int.tdiv x0_1 10)),((strOfNums y269)++x3_1),xq,xq,H',⟨by have:=HK1.out;omega⟩,⟨xb⟩⟩
    ·rw [if_neg c3] at H;exact absurd H (by simp)
   ·rw [if_neg c2] at H;have c2b0:decide (10<=x0_1)=false:=decide_eq_false c2;clear c2;obtain ⟨y272,hy272⟩:∃ y_:List Int,y_=(([(IntKind.u64.wrap (48+x0_1))%256]:List Int)):=⟨_,rfl⟩;replace H:(if (strOfNums y272).size+x3_1.size<=9223372036854775807 then (some ((strOfNums y272)++x3_1)) else (none))=some r:=by first|(rw [hy272];with_reducible exact H)|(have H2_:=(Option.bind_some _ _).symm.trans H;rw [hy272];with_reducible exact H2_)|(have H2_:=(Option.bind_some _ _).symm.trans H;with_reducible exact H2_)|with_reducible exact H|(rw [hy272];exact H)|exact H
    have Ny272:=AA.mk hy272;clear hy272;by_cases c7:(strOfNums y272).size+x3_1.size<=9223372036854775807
    ·rw [if_pos c7] at H;have c7b0:=eq_true c7;have c7b1:decide ((strOfNums y272).size+x3_1.size<=9223372036854775807)=true:=decide_eq_true c7;try have c7b2:(9223372036854775807<(strOfNums y272).size+x3_1.size)=False:=eq_false (Nat.not_lt.2 c7)
     obtain rfl:=Option.some.inj H;go_wp2_with (first|((with_reducible refine F4 (N:=19) rfl ?_);refine Kd.OV (Kd.int .u8) _ 5 ?hg (N:=19) ?hd (xs:=([(IntKind.u64.wrap (48+x0_1))%256]:List Int)) (inner:=[.int .u8 ((IntKind.u64.wrap (48+x0_1))%256)]) (ok:=λ_=>True) (okp:=λ_=>True) ?hr ?hp (λ_ hk=>hk) trivial (Below.refl _ _) (Nat.le_refl _) (by simp) ?_;(case hd=>rfl);(case hg=>rfl);(case hr=>first|(go_simp;done)|(go_simp;rfl));(case hp=>exact (CG.one (show Kd.M (Kd.int .u8) _ _ _ ((IntKind.u64.wrap (48+x0_1))%256) [.int .u8 ((IntKind.u64.wrap (48+x0_1))%256)] from rfl) (CG.none _ _)));intro v273 w8 ho9 hb hg_ hnew_;clear hg_ hnew_;(first|rw [<-Ny272.out] at ho9|(simp only [Int.reduceToNat] at ho9;rw [<-Ny272.out] at ho9));have HO274:=AA.mk (Kd.Cm ho9 (BF xb));replace HB:=AA.mk (AP xb hb);clear hb ho9;have hcv10:=Jg (P:=Tryz.prog) Tryz.underlying76 Tryz.underlying5 Tryz.underlying9 (Kd.Ji HO274.out)));go_ret;exact ⟨xe,xb⟩
    ·rw [if_neg c7] at H;exact absurd H (by simp)
end Go.Proofs.YtikggnalmidlhaaGreatDoor.Print
end
section
namespace Go.Proofs.YtikggnalmidlhaaGreatDoor.Print
open RowKit AR Aa Ad
attribute [local go_sem] BM BN Bo Bp BC BD BO BP
set_option linter.unusedVariables false
set_option linter.unusedSimpArgs false
mutual
def Af.j0:Nat->ByteArray->Bool->Option (Int×Bool)
 |0,_,_=>none
 |k+1,x0,x16=>if x16=true then (some (0,false)) else (Af.l0 k x0 0 0)
def Af.l0:Nat->ByteArray->Int->Int->Option (Int×Bool)
 |0,_,_,_=>none
 |k+1,x0,x6,x7=>if x7<(x0.size:Int) then (if 0<=x7 then (if (bt x0 x7)<48 then (some (0,false)) else (if (bt x0 x7)>57 then (some (0,false)) else (Af.l0 k x0 (IntKind.u64.wrap ((IntKind.u64.wrap ((IntKind.u64.wrap (10*x6))+(IntKind.u64.wrap (bt x0 x7)))) - 48)) (wrap64 (x7+1))))) else (none)) else (some (x6,true))
end
def Af.f (k:Nat) (a0:ByteArray) (a1:Int):Option (Int×Bool):=if (a0.size:Int)<1 then (Af.j0 k a0 true) else (Af.j0 k a0 (decide ((a0.size:Int)>a1)))
set_option maxHeartbeats 8000000 in
set_option maxRecDepth 100000 in
theorem Af.calls (k:Nat) (a0:ByteArray) (a1:Int) (r1:Int) (r2:Bool) (w:World) (h:Af.f k a0 a1=some (r1,r2)):
 Calls Tryz.prog 92 #[.string a0, .int .i64 a1] w λe w'=>e= .returned (.tuple #[.int .u64 r1, .bool r2])/\Ap w w':=by
 have H:(if (a0.size:Int)<1 then (Af.j0 k a0 true) else (Af.j0 k a0 (decide ((a0.size:Int)>a1))))=some (r1,r2):=h;clear h;have HC3:=AA.mk H;clear H;go_enter Tryz.func92,Tryz.ntmps92;go_upto_region 1 with (fail)
 go_cut [16] (λv16 wc=>∃ (kq:Nat) (x16_2:Bool),v16= .bool x16_2/\AA (Af.j0 kq a0 x16_2=some (r1,r2))/\AA (kq<=k)/\Ap w wc);case first=>
  have H:=HC3.out;clear HC3;by_cases c4:(a0.size:Int)<1
  ·rw [if_pos c4] at H;have c4b0:decide ((a0.size:Int)<1)=true:=decide_eq_true c4;have c4b1:decide (a0.size<1)=true:=decide_eq_true (by omega);clear c4;(first|rw [c4b0]|(simp only [DL,DU];rw [c4b0])|skip);have H':=AA.mk H;clear H;go_wp2;go_meet;case rel=>exact ⟨_,(true),xq,H',⟨by first|omega|exact Nat.le_refl _⟩,xd⟩
  ·rw [if_neg c4] at H;have c4b0:decide ((a0.size:Int)<1)=false:=decide_eq_false c4;have c4b1:decide (a0.size<1)=false:=decide_eq_false (by omega);clear c4;(first|rw [c4b0]|(simp only [DL,DU];rw [c4b0])|skip);have H':=AA.mk H;clear H;go_wp2;go_meet;case rel=>exact ⟨_,(decide ((a0.size:Int)>a1)),xq,H',⟨by first|omega|exact Nat.le_refl _⟩,xd⟩
 case rest=>
  clear HC3;try clear p2
  try clear c4
  try clear c4b0
  try clear c4b1
  obtain ⟨kq,x16_2,rfl,HA,HJ2,⟨mc2,rfl⟩⟩:=hcut;cases kq with
  |zero=>exact absurd HA.out (by simp [Af.j0])
  |succ kj2=>
   have H:=HA.out;clear HA;simp only [Af.j0] at H;by_cases c5:x16_2=true
   ·subst c5;have H1:(some (0,false))=some (r1,r2):=by rw [if_pos rfl] at H;exact H
    clear H;have H:=H1;clear H1;simp only [Option.some.injEq,Prod.mk.injEq] at H;obtain ⟨rfl,rfl⟩:=H;go_wp2;go_ret2;exact ⟨xq,xd⟩
   ·replace c5:=Bool.eq_false_iff.mpr c5;subst c5;have H1:(Af.l0 kj2 a0 0 0)=some (r1,r2):=by rw [if_neg (show ¬(false=true) by decide)] at H;exact H
    clear H;have H:=H1;clear H1;have H':=AA.mk H;clear H;go_wp2;go_loopg [6,7] kj2 (λkq v6 v7 w'=>∃ (x6_2:Int) (x7_2:Int),v6= .int .u64 x6_2/\v7= .int .i64 x7_2/\AA (Af.l0 kq a0 x6_2 x7_2=some (r1,r2))/\AA (kq<=kj2)/\Ap w w');case atStart=>exact ⟨(0),(0),xq,xq,H',⟨Nat.le_refl _⟩,xd⟩
    case round=>
     clear H';try clear c2
     try clear p2
     try clear c4
     try clear c4b0
     try clear c4b1
     try clear c5
     try clear p2
     obtain ⟨x6_2,x7_2,rfl,rfl,HA,HK2,⟨m2,rfl⟩⟩:=hrel;cases gk with
     |zero=>exact absurd HA.out (by simp [Af.l0])
     |succ k2=>
      have H:=HA.out;clear HA;simp only [Af.l0] at H;by_cases c6:x7_2<(a0.size:Int)
      ·rw [if_pos c6] at H;have c6b0:decide (x7_2<(a0.size:Int))=true:=decide_eq_true c6;clear c6;by_cases c7:0<=x7_2
       ·rw [if_pos c7] at H;have c7b0:decide (0<=x7_2)=true:=decide_eq_true c7;clear c7;by_cases c9:(bt a0 x7_2)<48
        ·rw [if_pos c9] at H;have c9b0:decide ((bt a0 x7_2)<48)=true:=decide_eq_true c9;clear c9;simp only [Option.some.injEq,Prod.mk.injEq] at H;obtain ⟨rfl,rfl⟩:=H;have p8:0<=(x7_2:Int):=xa;have q8:x7_2<(a0.size:Int):=xa;have hx8:=Br a0 x7_2;replace p8:=eq_true p8;replace q8:=eq_true q8;go_wp2;go_ret2;exact ⟨xq,xd⟩
        ·rw [if_neg c9] at H;have c9b0:decide ((bt a0 x7_2)<48)=false:=decide_eq_false c9;clear c9;by_cases c11:(bt a0 x7_2)>57
         ·rw [if_pos c11] at H;have c11b0:decide (57<(bt a0 x7_2))=true:=decide_eq_true c11;clear c11;simp only [Option.some.injEq,Prod.mk.injEq] at H;obtain ⟨rfl,rfl⟩:=H;have p8:0<=(x7_2:Int):=xa;have q8:x7_2<(a0.size:Int):=xa;have hx8:=Br a0 x7_2;replace p8:=eq_true p8;replace q8:=eq_true q8;have p10:0<=(x7_2:Int):=xa;have q10:x7_2<(a0.size:Int):=xa;have hx10:=Br a0 x7_2;replace p10:=eq_true p10;replace q10:=eq_true q10;go_wp2;go_ret2;exact ⟨xq,xd⟩
         ·rw [if_neg c11] at H;have c11b0:decide (57<(bt a0 x7_2))=false:=decide_eq_false c11;clear c11;have H':=AA.mk H;clear H;have p8:0<=(x7_2:Int):=xa;have q8:x7_2<(a0.size:Int):=xa;have hx8:=Br a0 x7_2;replace p8:=eq_true p8;replace q8:=eq_true q8;have p10:0<=(x7_2:Int):=xa;have q10:x7_2<(a0.size:Int):=xa;have hx10:=Br a0 x7_2;replace p10:=eq_true p10;replace q10:=eq_true q10;have p12:0<=(x7_2:Int):=xa;have q12:x7_2<(a0.size:Int):=xa;have hx12:=Br a0 x7_2;replace p12:=eq_true p12;replace q12:=eq_true q12;go_wp2;go_roundg k2;case measure=>have:=HJ2.out;have:=HK2.out;omega
          case rel=>exact ⟨(IntKind.u64.wrap ((IntKind.u64.wrap ((IntKind.u64.wrap (10*x6_2))+(IntKind.u64.wrap (bt a0 x7_2)))) - 48)),(wrap64 (x7_2+1)),xq,xq,H',⟨by have:=HJ2.out;have:=HK2.out;omega⟩,xd⟩
       ·rw [if_neg c7] at H;exact absurd H (by simp)
      ·rw [if_neg c6] at H;have c6b0:decide (x7_2<(a0.size:Int))=false:=decide_eq_false c6;clear c6;simp only [Option.some.injEq,Prod.mk.injEq] at H;obtain ⟨rfl,rfl⟩:=H;go_wp2;go_ret2;exact ⟨xq,xd⟩
end Go.Proofs.YtikggnalmidlhaaGreatDoor.Print
end
section
namespace Go.Proofs.YtikggnalmidlhaaGreatDoor.Print
open RowKit AR Aa Ad
attribute [local go_sem] BM BN Bo Bp BC BD BO BP
set_option linter.unusedVariables false
set_option linter.unusedSimpArgs false
def EF.f (a0:Int) (a1:Bool):Option (Bool):=if a0>=97 then (if a0<=122 then (some true) else (if a0>=48 then (if a0<=57 then (some true) else (if a0=45 then (some (!a1)) else (some false))) else (if a0=45 then (some (!a1)) else (some false)))) else (if a0>=48 then (if a0<=57 then (some true) else (if a0=45 then (some (!a1)) else (some false))) else (if a0=45 then (some (!a1)) else (some false)))
set_option maxHeartbeats 8000000 in
set_option maxRecDepth 100000 in
theorem EF.calls (a0:Int) (a1:Bool) (r:Bool) (w:World) (h:EF.f a0 a1=some r):
 Calls Tryz.prog 117 #[.int .u8 a0, .bool a1] w λe w'=>e= .returned (.bool r)/\Ap w w':=by
 have H:(if a0>=97 then (if a0<=122 then (some true) else (if a0>=48 then (if a0<=57 then (some true) else (if a0=45 then (some (!a1)) else (some false))) else (if a0=45 then (some (!a1)) else (some false)))) else (if a0>=48 then (if a0<=57 then (some true) else (if a0=45 then (some (!a1)) else (some false))) else (if a0=45 then (some (!a1)) else (some false))))=some r:=h;clear h;by_cases c3:a0>=97
 ·rw [if_pos c3] at H;have c3b0:decide (97<=a0)=true:=decide_eq_true c3;clear c3;by_cases c4:a0<=122
  ·rw [if_pos c4] at H;have c4b0:decide (a0<=122)=true:=decide_eq_true c4;clear c4;obtain rfl:=Option.some.inj H;go_enter Tryz.func117,Tryz.ntmps117;go_wp2;go_ret;exact ⟨xq,xd⟩
  ·rw [if_neg c4] at H;have c4b0:decide (a0<=122)=false:=decide_eq_false c4;clear c4;by_cases c5:a0>=48
   ·rw [if_pos c5] at H;have c5b0:decide (48<=a0)=true:=decide_eq_true c5;clear c5;by_cases c6:a0<=57
    ·rw [if_pos c6] at H;have c6b0:decide (a0<=57)=true:=decide_eq_true c6;clear c6;obtain rfl:=Option.some.inj H;go_enter Tryz.func117,Tryz.ntmps117;go_wp2;go_ret;exact ⟨xq,xd⟩
    ·rw [if_neg c6] at H;have c6b0:decide (a0<=57)=false:=decide_eq_false c6;clear c6;by_cases c7:a0=45
     ·rw [if_pos c7] at H;have c7b0:(a0==45)=true:=beq_iff_eq.mpr c7;have c7b1:(a0 != 45)=false:=bne_eq_false_iff_eq.mpr c7;clear c7;obtain rfl:=Option.some.inj H;go_enter Tryz.func117,Tryz.ntmps117;go_wp2;go_ret;exact ⟨xq,xd⟩
     ·rw [if_neg c7] at H;have c7b0:(a0==45)=false:=beq_eq_false_iff_ne.mpr c7;have c7b1:(a0 != 45)=true:=bne_iff_ne.mpr c7;obtain rfl:=Option.some.inj H;go_enter Tryz.func117,Tryz.ntmps117;go_wp2;go_ret;exact ⟨xq,xd⟩
   ·rw [if_neg c5] at H;have c5b0:decide (48<=a0)=false:=decide_eq_false c5;clear c5;by_cases c8:a0=45
    ·rw [if_pos c8] at H;have c8b0:(a0==45)=true:=beq_iff_eq.mpr c8;have c8b1:(a0 != 45)=false:=bne_eq_false_iff_eq.mpr c8;clear c8;obtain rfl:=Option.some.inj H;go_enter Tryz.func117,Tryz.ntmps117;go_wp2;go_ret;exact ⟨xq,xd⟩
    ·rw [if_neg c8] at H;have c8b0:(a0==45)=false:=beq_eq_false_iff_ne.mpr c8;have c8b1:(a0 != 45)=true:=bne_iff_ne.mpr c8;obtain rfl:=Option.some.inj H;go_enter Tryz.func117,Tryz.ntmps117;go_wp2;go_ret;exact ⟨xq,xd⟩
 ·rw [if_neg c3] at H;have c3b0:decide (97<=a0)=false:=decide_eq_false c3;clear c3;by_cases c9:a0>=48
  ·rw [if_pos c9] at H;have c9b0:decide (48<=a0)=true:=decide_eq_true c9;clear c9;by_cases c10:a0<=57
   ·rw [if_pos c10] at H;have c10b0:decide (a0<=57)=true:=decide_eq_true c10;clear c10;obtain rfl:=Option.some.inj H;go_enter Tryz.func117,Tryz.ntmps117;go_wp2;go_ret;exact ⟨xq,xd⟩
   ·rw [if_neg c10] at H;have c10b0:decide (a0<=57)=false:=decide_eq_false c10;clear c10;by_cases c11:a0=45
    ·rw [if_pos c11] at H;have c11b0:(a0==45)=true:=beq_iff_eq.mpr c11;have c11b1:(a0 != 45)=false:=bne_eq_false_iff_eq.mpr c11;clear c11;obtain rfl:=Option.some.inj H;go_enter Tryz.func117,Tryz.ntmps117;go_wp2;go_ret;exact ⟨xq,xd⟩
    ·rw [if_neg c11] at H;have c11b0:(a0==45)=false:=beq_eq_false_iff_ne.mpr c11;have c11b1:(a0 != 45)=true:=bne_iff_ne.mpr c11;obtain rfl:=Option.some.inj H;go_enter Tryz.func117,Tryz.ntmps117;go_wp2;go_ret;exact ⟨xq,xd⟩
  ·rw [if_neg c9] at H;have c9b0:decide (48<=a0)=false:=decide_eq_false c9;clear c9;by_cases c12:a0=45
   ·rw [if_pos c12] at H;have c12b0:(a0==45)=true:=beq_iff_eq.mpr c12;have c12b1:(a0 != 45)=false:=bne_eq_false_iff_eq.mpr c12;clear c12;obtain rfl:=Option.some.inj H;go_enter Tryz.func117,Tryz.ntmps117;go_wp2;go_ret;exact ⟨xq,xd⟩
   ·rw [if_neg c12] at H;have c12b0:(a0==45)=false:=beq_eq_false_iff_ne.mpr c12;have c12b1:(a0 != 45)=true:=bne_iff_ne.mpr c12;obtain rfl:=Option.some.inj H;go_enter Tryz.func117,Tryz.ntmps117;go_wp2;go_ret;exact ⟨xq,xd⟩
end Go.Proofs.YtikggnalmidlhaaGreatDoor.Print
end
