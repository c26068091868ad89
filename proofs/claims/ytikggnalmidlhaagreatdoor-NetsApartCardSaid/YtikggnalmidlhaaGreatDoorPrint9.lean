/- Printed by a program of this claim's session (xprint.py): the machine's side: each Go function as a Lean function, and that a call of it comes to what that tells; the row of a statement. No condition. -/
import Derived.Test.YtikggnalmidlhaaGreatDoorM6
namespace Go.Proofs.YtikggnalmidlhaaGreatDoor.Print
open RowKit AR Aa Ad
attribute [local go_sem] BM BN Bo Bp BC BD BO BP
set_option linter.unusedVariables false
set_option linter.unusedSimpArgs false
mutual
def Ab.l0:Nat->List (List (Cj))->Int->List (List (Cj))->Int->Int->Option ((List (Cj)))
 |0,_,_,_,_,_=>none
 |k+1,x0,x3,x9,x10,x11=>if x11<x10 then (if 0<=x11 then (if x11<(x9.length:Int) then (if (wrap64 (x3+((FB x9 x11).length:Int)))<0 then (none) else (Ab.l0 k x0 (wrap64 (x3+((FB x9 x11).length:Int))) x9 x10 (wrap64 (x11+1)))) else (none)) else (none)) else ((DX.f ([]:List (Cj)) x3).bind λt125=>(Ab.l1 k t125 x0 (x0.length:Int) 0))
def Ab.l1:Nat->List (Cj)->List (List (Cj))->Int->Int->Option ((List (Cj)))
 |0,_,_,_,_=>none
 |k+1,x6,x25,x26,x27=>if x27<x26 then (if 0<=x27 then (if x27<(x25.length:Int) then (if x6.length+(FB x25 x27).length<925904528653 then (Ab.l1 k (x6++(FB x25 x27)) x25 x26 (wrap64 (x27+1))) else (none)) else (none)) else (none)) else (some x6)
end
def Ab.f (k:Nat) (l0:List (List (Cj))):Option ((List (Cj))):=Ab.l0 k l0 0 l0 (l0.length:Int) 0
theorem Ab.Dt:∀ k,(∀ y0 y1 y2 y3 y4,Bz (Ab.l0 k y0 y1 y2 y3 y4) (Ab.l0 (k+1) y0 y1 y2 y3 y4))/\(∀ y0 y1 y2 y3,Bz (Ab.l1 k y0 y1 y2 y3) (Ab.l1 (k+1) y0 y1 y2 y3))
 |0=>⟨λ_ _ _ _ _ r h=>by simp [Ab.l0] at h,λ_ _ _ _ r h=>by simp [Ab.l1] at h⟩
 |k+1=>by
  obtain ⟨ih0,ih1⟩:=Ab.Dt k;refine ⟨?_,?_⟩
  ·intro y0 y1 y2 y3 y4;unfold Ab.l0
   repeat' first|(with_reducible first|exact ih0 _ _ _ _ _|exact ih1 _ _ _ _|exact Bz.refl _|exact Bz.none _|refine Bz.ite ?_ ?_|refine Bz.bind ?_ (λ_=>?_))|exact ih0 _ _ _ _ _|exact ih1 _ _ _ _|exact Bz.none _|refine Bz.ite ?_ ?_|refine Bz.bind ?_ (λ_=>?_)
  ·intro y0 y1 y2 y3;unfold Ab.l1
   repeat' first|(with_reducible first|exact ih0 _ _ _ _ _|exact ih1 _ _ _ _|exact Bz.refl _|exact Bz.none _|refine Bz.ite ?_ ?_|refine Bz.bind ?_ (λ_=>?_))|exact ih0 _ _ _ _ _|exact ih1 _ _ _ _|exact Bz.none _|refine Bz.ite ?_ ?_|refine Bz.bind ?_ (λ_=>?_)
theorem Ab.mono:∀ a0 k,Bz (Ab.f k a0) (Ab.f (k+1) a0):=by
 intro a0 k;obtain ⟨ih0,ih1⟩:=Ab.Dt k;unfold Ab.f
 repeat' first|(with_reducible first|exact ih0 _ _ _ _ _|exact ih1 _ _ _ _|exact Bz.refl _|exact Bz.none _|refine Bz.ite ?_ ?_|refine Bz.bind ?_ (λ_=>?_))|exact ih0 _ _ _ _ _|exact ih1 _ _ _ _|exact Bz.none _|refine Bz.ite ?_ ?_|refine Bz.bind ?_ (λ_=>?_)
set_option maxHeartbeats 8000000 in
set_option maxRecDepth 100000 in
theorem Ab.calls (k:Nat) (A0:Option Addr) (c0:Nat) (l0:List (List (Cj))) (r:List (Cj)) (w:World) (hr0:Kd.C (Kd.slice 98 Ex) w A0 l0.length l0) (hc0:l0.length<=c0) (h:Ab.f k l0=some r):
 Calls Tryz.prog 71 #[.slice A0 l0.length c0] w λe w'=>∃ v0_:Value,e= .returned (v0_)/\Kd.R Ex 98 w' w.heap.size (λ_=>True) v0_ r/\Below w.heap.size w w':=by
 have HR0:=AA.mk hr0;have HC0:=AA.mk hc0;clear hr0 hc0;have HB:=AA.mk (Below.refl w.heap.size w);have H:(Ab.l0 k l0 0 l0 (l0.length:Int) 0)=some r:=h;clear h;have H':=AA.mk H;clear H;go_enter Tryz.func71,Tryz.ntmps71;go_wp2;go_loopg [3,11] k (λkq v3 v11 w'=>∃ (x3_1:Int) (x11_1:Int),v3= .int .i64 x3_1/\v11= .int .i64 x11_1/\AA (Ab.l0 kq l0 x3_1 l0 (l0.length:Int) x11_1=some r)/\AA (kq<=k)/\AA (Below w.heap.size w w'));case atStart=>exact ⟨(0),(0),xq,xq,H',⟨Nat.le_refl _⟩,⟨xb⟩⟩
 case round=>
  clear H';obtain ⟨x3_1,x11_1,rfl,rfl,HA,HK1,HB⟩:=hrel;cases gk with
  |zero=>exact absurd HA.out (by simp [Ab.l0])
  |succ k1=>
   have H:=HA.out;clear HA;simp only [Ab.l0] at H;by_cases c2:x11_1<(l0.length:Int)
   ·rw [if_pos c2] at H;have c2b0:decide (x11_1<(l0.length:Int))=true:=decide_eq_true c2;clear c2;by_cases c3:0<=x11_1
    ·rw [if_pos c3] at H;have c3b0:decide (0<=x11_1)=true:=decide_eq_true c3;clear c3;by_cases c4:x11_1<(l0.length:Int)
     ·rw [if_pos c4] at H;have c4b0:decide (x11_1<(l0.length:Int))=true:=decide_eq_true c4;clear c4;by_cases c5:(wrap64 (x3_1+((FB l0 x11_1).length:Int)))<0
      ·rw [if_pos c5] at H;exact absurd H (by simp)
      ·rw [if_neg c5] at H;have c5b0:decide ((wrap64 (x3_1+((FB l0 x11_1).length:Int)))<0)=false:=decide_eq_false c5;clear c5;have H':=AA.mk H;clear H;have p124:0<=(x11_1:Int):=xa;have q124:x11_1<(l0.length:Int):=xa;obtain ⟨ad124,A124_0,c124_0,e124,hx124_0,hl124_0,hi124_0⟩:=TE HR0.out x11_1 p124 q124;cases e124;replace hx124_0:=AJ HB.out hx124_0;have HR124_0:=AA.mk hi124_0;have HC124_0:=AA.mk hl124_0;clear hi124_0 hl124_0;replace p124:=eq_true p124;replace q124:=eq_true q124;go_wp2;go_roundg k1;case measure=>have:=HK1.out;omega
       case rel=>exact ⟨(wrap64 (x3_1+((FB l0 x11_1).length:Int))),(wrap64 (x11_1+1)),xq,xq,H',⟨by have:=HK1.out;omega⟩,⟨xb⟩⟩
     ·rw [if_neg c4] at H;exact absurd H (by simp)
    ·rw [if_neg c3] at H;exact absurd H (by simp)
   ·rw [if_neg c2] at H;have c2b0:decide (x11_1<(l0.length:Int))=false:=decide_eq_false c2;clear c2;replace H:=Option.bind_eq_some_iff.mp H;obtain ⟨t125,A60,H⟩:=H;replace H:(Ab.l1 k1 t125 l0 (l0.length:Int) 0)=some r:=H;have A6:=AA.mk A60;clear A60;have H':=AA.mk H;clear H;go_wp2_with (first|((with_reducible refine AO (f:=108) rfl ?_);refine Ak (some 24) rfl rfl Tryz.func108 (by kernel_rfl) rfl #[.slice none 0 0, .int .i64 x3_1] rfl xg ?_;(refine (DX.calls _ _ ([]:List (Cj)) x3_1 t125 _ ?side1 ?side2 A6.out).mono ?_);(case side1=>exact Kd.TG _ _);(case side2=>exact Nat.le_refl _);rintro e w7 ⟨v126,rfl,ho0,hb⟩;refine ⟨_,rfl,?_⟩;have HO127:=AA.mk (Kd.Cm ho0 (BF xb));replace HB:=AA.mk (AP xb hb);(try clear hb);(try clear ho0)));go_loopg [6,27] k1 (λkq v6 v27 w'=>∃ (x6_2:List (Cj)) (x27_2:Int),v27= .int .i64 x27_2/\AA (Ab.l1 kq x6_2 l0 (l0.length:Int) x27_2=some r)/\AA (kq<=k1)/\AA (Kd.R Ex 98 w' w.heap.size (λ_=>True) v6 x6_2)/\AA (Below w.heap.size w w'));case atStart=>exact ⟨(t125),(0),xq,H',⟨Nat.le_refl _⟩,⟨by (with_reducible repeat (first|apply Kd.Bd|apply Kd.Be|apply Kd.Bl));exact HO127.out⟩,⟨xb⟩⟩
    case round=>
     clear H';try clear c1
     try clear p1
     try clear q1
     try clear hx1
     try clear c2
     try clear c2b0
     try clear p2
     try clear c3
     try clear c3b0
     try clear p3
     try clear c4
     try clear c4b0
     try clear c5
     try clear c5b0
     try clear p6
     try clear c7
     try clear hx124_0
     try clear p124
     try clear q124
     obtain ⟨x6_2,x27_2,rfl,HA,HK2,HO_6,HB⟩:=hrel;cases gk with
     |zero=>exact absurd HA.out (by simp [Ab.l1])
     |succ k2=>
      have H:=HA.out;clear HA;simp only [Ab.l1] at H;by_cases c8:x27_2<(l0.length:Int)
      ·rw [if_pos c8] at H;have c8b0:decide (x27_2<(l0.length:Int))=true:=decide_eq_true c8;clear c8;by_cases c9:0<=x27_2
       ·rw [if_pos c9] at H;have c9b0:decide (0<=x27_2)=true:=decide_eq_true c9;clear c9;by_cases c10:x27_2<(l0.length:Int)
        ·rw [if_pos c10] at H;have c10b0:decide (x27_2<(l0.length:Int))=true:=decide_eq_true c10;clear c10;by_cases c11:x6_2.length+(FB l0 x27_2).length<925904528653
         ·rw [if_pos c11] at H;have LMc11:=AA.mk c11;clear c11;obtain ⟨y129,hy129⟩:∃ y_:List (Cj),y_=(x6_2++(FB l0 x27_2)):=⟨_,rfl⟩;replace H:(Ab.l1 k2 y129 l0 (l0.length:Int) (wrap64 (x27_2+1)))=some r:=by first|(rw [hy129];with_reducible exact H)|(have H2_:=(Option.bind_some _ _).symm.trans H;rw [hy129];with_reducible exact H2_)|(have H2_:=(Option.bind_some _ _).symm.trans H;with_reducible exact H2_)|with_reducible exact H|(rw [hy129];exact H)|exact H
          have Ny129:=AA.mk hy129;clear hy129;have H':=AA.mk H;clear H;have p128:0<=(x27_2:Int):=xa;have q128:x27_2<(l0.length:Int):=xa;obtain ⟨ad128,A128_0,c128_0,e128,hx128_0,hl128_0,hi128_0⟩:=TE HR0.out x27_2 p128 q128;cases e128;replace hx128_0:=AJ HB.out hx128_0;have HR128_0:=AA.mk hi128_0;have HC128_0:=AA.mk hl128_0;clear hi128_0 hl128_0;replace p128:=eq_true p128;replace q128:=eq_true q128;go_wp2_with (first|((with_reducible refine DR (b:= .append) (xs:=#[.tmp 31, .tmp 32]) rfl ?_);at_builtin;refine Kd.KP Ex (w0:=w) w.heap.size rfl (.tmp 31) (.tmp 32) 23 98 (.agg #[(.string ⟨#[]⟩),(.string ⟨#[]⟩),(.string ⟨#[]⟩),(.string ⟨#[]⟩),(.string ⟨#[]⟩),(.string ⟨#[]⟩),(.string ⟨#[]⟩),(.int .i64 0),(.int .i64 0),(.int .i64 0),(.bool false),(.bool false),(.bool false),(.int .i64 0)]) 152 rfl Tryz.underlying23 Ib rfl (by decide) (by omega) u6 x6_2 (FB l0 x27_2) _ _ _ (λ_=>True) (λ_=>False) rfl rfl ?aO ?aR (λ_ _ h=>h) (λ_ h=>h.elim) ?aF ?aB ?aS ?aL ?_;(case aR=>repeat (first|exact (Kd.DW HR128_0.out HB.out)|(with_reducible refine Kd.CZ ?_ _)|(with_reducible refine Kd.Cb ?_ _)|(with_reducible refine Kd.Cs ?_)));(case aB=>exact xb);(case aF=>exact (λ_ _=>trivial));(case aO=>exact (xR HO_6));(case aS=>exact (BF xb));(case aL=>have:=LMc11.out;omega);intro v130 w12 ho hb hg hat;rw [<-Ny129.out] at ho;have n0_:=AA.mk (hb);have n1_:=AA.mk (ho);clear HB;clear HO_6;have HB:=n0_;have HO131:=n1_;clear n0_ n1_;clear ho hb hg hat));go_roundg k2;case measure=>have:=HK1.out;have:=HK2.out;omega
          case rel=>exact ⟨(y129),(wrap64 (x27_2+1)),xq,H',⟨by have:=HK1.out;have:=HK2.out;omega⟩,⟨by (with_reducible repeat (first|apply Kd.Bd|apply Kd.Be|apply Kd.Bl));exact HO131.out⟩,⟨xb⟩⟩
         ·rw [if_neg c11] at H;exact absurd H (by simp)
        ·rw [if_neg c10] at H;exact absurd H (by simp)
       ·rw [if_neg c9] at H;exact absurd H (by simp)
      ·rw [if_neg c8] at H;have c8b0:decide (x27_2<(l0.length:Int))=false:=decide_eq_false c8;clear c8;obtain rfl:=Option.some.inj H;go_wp2;go_ret;exact ⟨_,xe,by (with_reducible repeat (first|apply Kd.Bd|apply Kd.Be|apply Kd.Bl));exact HO_6.out,xb⟩
end Go.Proofs.YtikggnalmidlhaaGreatDoor.Print
