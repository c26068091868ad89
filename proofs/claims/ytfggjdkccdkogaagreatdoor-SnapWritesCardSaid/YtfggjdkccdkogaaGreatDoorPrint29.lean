/- Printed by a program of this claim's session (xprint.py): the machine's side: each Go function as a Lean function, and that a call of it comes to what that tells; the row of a statement. No condition. -/
import Derived.Test.YtfggjdkccdkogaaGreatDoorPG
import Derived.Test.YtfggjdkccdkogaaGreatDoorPrint28
namespace Go.Proofs.YtfggjdkccdkogaaGreatDoor.Print
open RowKit Ac Aq Aw
attribute [local go_sem] DC DD DX DY Co Cq DI DJ
set_option linter.unusedVariables false
set_option linter.unusedSimpArgs false
mutual
def Am.j0:Nat->Int->List (Cz)->Bool->Option (ByteArray×Bool)
 |0,_,_,_=>none
 |k+1,x0,x1,x13=>if x13=true then (some ((⟨#[]⟩:ByteArray),false)) else ((some (([(x0)%256]:List Int):List Int)).bind λy590=>(if 2+(strOfNums y590).size<=9223372036854775807 then ((Ae.f k (x1.length:Int)).bind λt593=>(if ((⟨#[67,74]⟩:ByteArray)++(strOfNums y590)).size+t593.size<=9223372036854775807 then (Am.l0 k x0 x1 (((⟨#[67,74]⟩:ByteArray)++(strOfNums y590))++t593) 0) else (none))) else (none)))
def Am.l0:Nat->Int->List (Cz)->ByteArray->Int->Option (ByteArray×Bool)
 |0,_,_,_,_=>none
 |k+1,x0,x1,x6,x7=>if x7<(x1.length:Int) then (if 0<=x7 then ((BC.f k x0 ((AB x1 x7).f0) ((AB x1 x7).f1) ((AB x1 x7).f2) ((AB x1 x7).f3) ((AB x1 x7).f4) ((AB x1 x7).f5) ((AB x1 x7).f6) ((AB x1 x7).f7) ((AB x1 x7).f8) ((AB x1 x7).f9) ((AB x1 x7).f10)).bind λt595=>(if x6.size+t595.size<=9223372036854775807 then (Am.l0 k x0 x1 (x6++t595) (wrap64 (x7+1))) else (none))) else (none)) else ((Ci.f k x6).bind λt596=>(if x6.size+t596.size<=9223372036854775807 then (some (x6++t596,true)) else (none)))
end
def Am.f (k:Nat) (a0:Int) (l1:List (Cz)):Option (ByteArray×Bool):=if a0<1 then (Am.j0 k a0 l1 true) else (Am.j0 k a0 l1 (decide (a0>3)))
def Am.T3:Bool×List (List Nat×List Nat):=(true,[([],[]),([0],[0]),([1],[1]),([2],[2]),([3],[3]),([],[]),([5],[5]),([6],[6]),([4,7],[4,7]),([8,7,0,1,2,3,4,5,6,7,8],[8])])
def Am.B3:List Nat:=[0,1,3,7,15,0,32,96,255,511]
theorem Am.Xz:GI .any (opsOf Tryz.f20 3)=Am.T3:=by kernel_rfl
theorem Am.Ut:FO Am.T3.2 Am.B3=true:=by kernel_rfl
set_option maxHeartbeats 8000000 in
set_option maxRecDepth 100000 in
theorem Am.calls (k:Nat) (a0:Int) (A1:Option Addr) (c1:Nat) (l1:List (Cz)) (r1:ByteArray) (r2:Bool) (w:World) (hr1:Kd.C k25 w A1 l1.length l1) (hc1:l1.length<=c1) (h:Am.f k a0 l1=some (r1,r2)):
 Calls Tryz.prog 20 #[.int .i64 a0, .slice A1 l1.length c1] w λe w'=>e= .returned (.tuple #[.string r1, .bool r2])/\Below w.heap.size w w':=by
 have hu25:=Tryz.underlying25;have HR1:=AA.mk hr1;have HC1:=AA.mk hc1;clear hr1 hc1;have HB:=AA.mk (Below.refl w.heap.size w);have H:(if a0<1 then (Am.j0 k a0 l1 true) else (Am.j0 k a0 l1 (decide (a0>3))))=some (r1,r2):=h;clear h;have HC3:=AA.mk H;clear H;go_enter Tryz.func20,Tryz.ntmps20;go_upto_region 1 with (fail)
 go_cut [13] (λv13 wc=>∃ (kq:Nat) (x13_2:Bool),v13= .bool x13_2/\AA (Am.j0 kq a0 l1 x13_2=some (r1,r2))/\AA (kq<=k)/\AA (Below w.heap.size w wc));case first=>
  have H:=HC3.out;clear HC3;by_cases c4:a0<1
  ·rw [if_pos c4] at H;have c4b0:decide (a0<1)=true:=decide_eq_true c4;clear c4;(first|rw [c4b0]|(simp only [CE,CU];rw [c4b0])|skip);have H':=AA.mk H;clear H;go_wp2;go_meet;case rel=>exact ⟨_,(true),xq,H',⟨by first|omega|exact Nat.le_refl _⟩,⟨xb⟩⟩
  ·rw [if_neg c4] at H;have c4b0:decide (a0<1)=false:=decide_eq_false c4;clear c4;(first|rw [c4b0]|(simp only [CE,CU];rw [c4b0])|skip);have H':=AA.mk H;clear H;go_wp2;go_meet;case rel=>exact ⟨_,(decide (a0>3)),xq,H',⟨by first|omega|exact Nat.le_refl _⟩,⟨xb⟩⟩
 case rest=>
  clear HC3;try clear c1
  try clear c2
  try clear p2
  try clear c4
  try clear c4b0
  obtain ⟨kq,x13_2,rfl,HA,HJ2,HB⟩:=hcut;cases kq with
  |zero=>exact absurd HA.out (by simp [Am.j0])
  |succ kj2=>
   have H:=HA.out;clear HA;simp only [Am.j0] at H;by_cases c5:x13_2=true
   ·subst c5;have H1:(some ((⟨#[]⟩:ByteArray),false))=some (r1,r2):=by rw [if_pos rfl] at H;exact H
    clear H;have H:=H1;clear H1;simp only [Option.some.injEq,Prod.mk.injEq] at H;obtain ⟨rfl,rfl⟩:=H;go_wp2;go_ret2;exact ⟨xe,xb⟩
   ·replace c5:=Bool.eq_false_iff.mpr c5;subst c5;have H1:((some (([(a0)%256]:List Int):List Int)).bind λy590=>(if 2+(strOfNums y590).size<=9223372036854775807 then ((Ae.f kj2 (l1.length:Int)).bind λt593=>(if ((⟨#[67,74]⟩:ByteArray)++(strOfNums y590)).size+t593.size<=9223372036854775807 then (Am.l0 kj2 a0 l1 (((⟨#[67,74]⟩:ByteArray)++(strOfNums y590))++t593) 0) else (none))) else (none)))=some (r1,r2):=by rw [if_neg (show ¬(false=true) by decide)] at H;exact H
    clear H;have H:=H1;clear H1;obtain ⟨y590,hy590⟩:∃ y_:List Int,y_=(([(a0)%256]:List Int)):=⟨_,rfl⟩;replace H:(if 2+(strOfNums y590).size<=9223372036854775807 then ((Ae.f kj2 (l1.length:Int)).bind λt593=>(if ((⟨#[67,74]⟩:ByteArray)++(strOfNums y590)).size+t593.size<=9223372036854775807 then (Am.l0 kj2 a0 l1 (((⟨#[67,74]⟩:ByteArray)++(strOfNums y590))++t593) 0) else (none))) else (none))=some (r1,r2):=by first|(rw [hy590];with_reducible exact H)|(have H2_:=(Option.bind_some _ _).symm.trans H;rw [hy590];with_reducible exact H2_)|(have H2_:=(Option.bind_some _ _).symm.trans H;with_reducible exact H2_)|with_reducible exact H|(rw [hy590];exact H)|exact H
    have Ny590:=AA.mk hy590;clear hy590;by_cases c6:2+(strOfNums y590).size<=9223372036854775807
    ·rw [if_pos c6] at H;have c6b0:=eq_true c6;have c6b1:decide (2+(strOfNums y590).size<=9223372036854775807)=true:=decide_eq_true c6;try have c6b2:(9223372036854775807<2+(strOfNums y590).size)=False:=eq_false (Nat.not_lt.2 c6)
     replace H:=Option.bind_eq_some_iff.mp H;obtain ⟨t593,A70,H⟩:=H;replace H:(if ((⟨#[67,74]⟩:ByteArray)++(strOfNums y590)).size+t593.size<=9223372036854775807 then (Am.l0 kj2 a0 l1 (((⟨#[67,74]⟩:ByteArray)++(strOfNums y590))++t593) 0) else (none))=some (r1,r2):=H;have A7:=AA.mk A70;clear A70;by_cases c8:((⟨#[67,74]⟩:ByteArray)++(strOfNums y590)).size+t593.size<=9223372036854775807
     ·rw [if_pos c8] at H;have c8b0:=eq_true c8;have c8b1:decide (((⟨#[67,74]⟩:ByteArray)++(strOfNums y590)).size+t593.size<=9223372036854775807)=true:=decide_eq_true c8;try have c8b2:(9223372036854775807<((⟨#[67,74]⟩:ByteArray)++(strOfNums y590)).size+t593.size)=False:=eq_false (Nat.not_lt.2 c8)
      try (have c8b3:=c8b2;simp only [ByteArray.size_append,Uk,List.size_toArray,List.length_cons,List.length_nil,Nat.reduceAdd] at c8b3)
      have H':=AA.mk H;clear H;try go_wp2
      replace HB:=AA.mk (Bb HB.out);refine EG (n:=10) (S:=λw'=>True) (ds:=[]) (bm 10 0) (by kernel_rfl) rfl rfl trivial (λhHeld=>?_);refine Dc Am.Xz Am.Ut (λHT_ HW_=>?_);generalize wc.drew=w9 at HB hHeld⊢
      refine AZ (i:=0) (N:=some 14) (bm 10 1) rfl rfl (AV HT_.out (by kernel_rfl)) (Or.inl ⟨by rfl,by intro w';go_simp;with_reducible rfl⟩) ?_;refine AZ (i:=1) (N:=some 15) (bm 10 3) rfl rfl (AV HT_.out (by kernel_rfl)) (Or.inl ⟨by rfl,by intro w';go_simp;with_reducible rfl⟩) ?_;refine AZ (i:=5) (N:=some 19) (bm 10 35) rfl rfl (AV HT_.out (by kernel_rfl)) (Or.inl ⟨by rfl,by intro w';go_simp;with_reducible rfl⟩) ?_;refine AZ (i:=6) (N:=some 20) (bm 10 99) rfl rfl (AV HT_.out (by kernel_rfl)) (Or.inl ⟨by rfl,by intro w';go_simp;with_reducible rfl⟩) ?_;refine EF (σ:=Value) 2 (bm 10 255) (λs_=>[(16,s_),(17, .string (strOfNums y590)),(21, .string t593),(18, .string ((⟨#[67,74]⟩:ByteArray)++(strOfNums y590)))]) (λs_ w'=>(Kd.R (Kd.int .u8) 5 w' w.heap.size (λ_=>True) s_ y590)/\(Below w.heap.size w w')) ?_ ?_
      rotate_left
      ·intro hCont;refine Hu (i:=2) (j:=7) (Ni:=some 16) (Nj:=some 21) (bm 10 103) (bm 10 227) rfl rfl rfl rfl (Eu HT_.out (by kernel_rfl)) (by decide) (by decide) (λK hK=>?_) (λK hK=>?_)
       ·skip;refine Kd.DW (Kd.int .u8) _ 5 ?hg (N:=16) ?hd (xs:=([(a0)%256]:List Int)) (inner:=[.int .u8 ((a0)%256)]) (ok:=λ_=>True) (okp:=λ_=>True) ?hr ?hp (λ_ hk=>hk) trivial (Below.refl _ _) (Nat.le_refl _) (by simp) ?_;(case hd=>rfl);(case hg=>rfl);(case hr=>first|(go_simp;done)|(go_simp;rfl));(case hp=>exact (CY.one (show Kd.M (Kd.int .u8) _ _ _ ((a0)%256) [.int .u8 ((a0)%256)] from rfl) (CY.none _ _)));intro v591 w10 ho11 hb hg_ hnew_;clear hg_ hnew_;(first|rw [<-Ny590.out] at ho11|(simp only [Int.reduceToNat] at ho11;rw [<-Ny590.out] at ho11));have HO592:=AA.mk (Kd.CJ ho11 (Ai xb));replace HB:=AA.mk (AO xb hb);clear hb ho11;refine hK.out _ _ trivial (λhHeld=>?_);clear hK K;refine Be (some 16) rfl ?_;refine Hu (i:=3) (j:=7) (Ni:=some 17) (Nj:=some 21) (bm 10 111) (bm 10 231) rfl rfl rfl rfl (Eu HT_.out (by kernel_rfl)) (by decide) (by decide) (λK hK=>?_) (λK hK=>?_)
        ·skip;have hcv12:=C9 (P:=Tryz.prog) Tryz.underlying67 Tryz.underlying5 Tryz.underlying9 (Kd.Dl HO592.out);refine FY (w1:=?_) (v:=?_) (by rfl) rfl ?_ ?_
         rotate_left 2
         ·go_simp;constructor
          ·rfl
          ·rfl
         clear hcv12;refine hK.out _ _ trivial (λhHeld=>?_);clear hK K;refine Be (some 17) rfl ?_;refine AZ (i:=4) (N:=some 18) (bm 10 127) rfl rfl (AV HT_.out (by kernel_rfl)) (Or.inl ⟨by rfl,by intro w';go_simp;with_reducible rfl⟩) ?_;refine Df (i:=7) (N:=some 21) (bm 10 255) rfl rfl (Bw HT_.out (by kernel_rfl)) (by decide) (λK hK=>?_);refine Cr Tryz.func34 (by kernel_rfl) rfl #[.int .i64 (l1.length:Int)] (by rfl) rfl rfl xg ?_;with_reducible refine (Ae.calls kj2 (l1.length:Int) t593 _ A7.out).mono ?_
         rintro e w13 ⟨rfl,hb⟩;refine ⟨_,rfl,?_⟩;replace HO592:=AA.mk (Kd.Af (xR HO592) hb);replace HB:=AA.mk (AO xb hb);(try clear hb);refine hK.out _ _ trivial (λhHeld=>?_);clear hK K;refine Be (some 21) rfl ?_;exact Bq (by simp only [Ah,Act.put,List.setIfInBounds_toArray,List.set_cons_zero,List.set_cons_succ]) (hCont (v591) _ ⟨(xR HO592),xb⟩)
        ·skip;refine Cr Tryz.func34 (by kernel_rfl) rfl #[.int .i64 (l1.length:Int)] (by rfl) rfl rfl xg ?_;with_reducible refine (Ae.calls kj2 (l1.length:Int) t593 _ A7.out).mono ?_
         rintro e w12 ⟨rfl,hb⟩;refine ⟨_,rfl,?_⟩;replace HO592:=AA.mk (Kd.Af (xR HO592) hb);replace HB:=AA.mk (AO xb hb);(try clear hb);refine hK.out _ _ trivial (λhHeld=>?_);clear hK K;refine Be (some 21) rfl ?_;refine Df (i:=3) (N:=some 17) (bm 10 239) rfl rfl (Bw HT_.out (by kernel_rfl)) (by decide) (λK hK=>?_);have hcv13:=C9 (P:=Tryz.prog) Tryz.underlying67 Tryz.underlying5 Tryz.underlying9 (Kd.Dl HO592.out);refine FY (w1:=?_) (v:=?_) (by rfl) rfl ?_ ?_
         rotate_left 2
         ·go_simp;constructor
          ·rfl
          ·rfl
         clear hcv13;refine hK.out _ _ trivial (λhHeld=>?_);clear hK K;refine Be (some 17) rfl ?_;refine AZ (i:=4) (N:=some 18) (bm 10 255) rfl rfl (AV HT_.out (by kernel_rfl)) (Or.inl ⟨by rfl,by intro w';go_simp;with_reducible rfl⟩) ?_;exact Bq (by simp only [Ah,Act.put,List.setIfInBounds_toArray,List.set_cons_zero,List.set_cons_succ]) (hCont (v591) _ ⟨(xR HO592),xb⟩)
       ·skip;refine Cr Tryz.func34 (by kernel_rfl) rfl #[.int .i64 (l1.length:Int)] (by rfl) rfl rfl xg ?_;with_reducible refine (Ae.calls kj2 (l1.length:Int) t593 _ A7.out).mono ?_
        rintro e w10 ⟨rfl,hb⟩;refine ⟨_,rfl,?_⟩;replace HB:=AA.mk (AO xb hb);(try clear hb);refine hK.out _ _ trivial (λhHeld=>?_);clear hK K;refine Be (some 21) rfl ?_;refine Df (i:=2) (N:=some 16) (bm 10 231) rfl rfl (Bw HT_.out (by kernel_rfl)) (by decide) (λK hK=>?_);refine Kd.DW (Kd.int .u8) _ 5 ?hg (N:=16) ?hd (xs:=([(a0)%256]:List Int)) (inner:=[.int .u8 ((a0)%256)]) (ok:=λ_=>True) (okp:=λ_=>True) ?hr ?hp (λ_ hk=>hk) trivial (Below.refl _ _) (Nat.le_refl _) (by simp) ?_;(case hd=>rfl);(case hg=>rfl);(case hr=>first|(go_simp;done)|(go_simp;rfl));(case hp=>exact (CY.one (show Kd.M (Kd.int .u8) _ _ _ ((a0)%256) [.int .u8 ((a0)%256)] from rfl) (CY.none _ _)));intro v591 w11 ho12 hb hg_ hnew_;clear hg_ hnew_;(first|rw [<-Ny590.out] at ho12|(simp only [Int.reduceToNat] at ho12;rw [<-Ny590.out] at ho12));have HO592:=AA.mk (Kd.CJ ho12 (Ai xb));replace HB:=AA.mk (AO xb hb);clear hb ho12;refine hK.out _ _ trivial (λhHeld=>?_);clear hK K;refine Be (some 16) rfl ?_;refine Df (i:=3) (N:=some 17) (bm 10 239) rfl rfl (Bw HT_.out (by kernel_rfl)) (by decide) (λK hK=>?_);have hcv13:=C9 (P:=Tryz.prog) Tryz.underlying67 Tryz.underlying5 Tryz.underlying9 (Kd.Dl HO592.out);refine FY (w1:=?_) (v:=?_) (by rfl) rfl ?_ ?_
        rotate_left 2
        ·go_simp;constructor
         ·rfl
         ·rfl
        clear hcv13;refine hK.out _ _ trivial (λhHeld=>?_);clear hK K;refine Be (some 17) rfl ?_;refine AZ (i:=4) (N:=some 18) (bm 10 255) rfl rfl (AV HT_.out (by kernel_rfl)) (Or.inl ⟨by rfl,by intro w';go_simp;with_reducible rfl⟩) ?_;exact Bq (by simp only [Ah,Act.put,List.setIfInBounds_toArray,List.set_cons_zero,List.set_cons_succ]) (hCont (v591) _ ⟨(xR HO592),xb⟩)
      rintro v591 w14 ⟨h0_,h1_⟩;have n0_:AA (Kd.R (Kd.int .u8) 5 w14 w.heap.size (λ_=>True) v591 y590):=⟨h0_⟩;have n1_:AA (Below w.heap.size w w14):=⟨h1_⟩;clear HB;clear h0_ h1_;have HO592:=n0_;have HB:=n1_;clear n0_ n1_;have hHeld:=trivial;refine Bq (a':=?_) ?_ ?_
      rotate_left
      ·simp only [Ah,Act.put,List.setIfInBounds_toArray,List.set_cons_zero,List.set_cons_succ];rfl
      refine AZ (i:=8) (N:=some 22) (bm 10 511) rfl rfl (AV HT_.out (by kernel_rfl)) (Or.inl ⟨by rfl,by intro w';go_simp;with_reducible rfl⟩) ?_;refine AZ (i:=9) (N:=some 6) (bm 10 1023) rfl rfl (AV HT_.out (by kernel_rfl)) (Or.inl ⟨by rfl,by intro w';go_simp;with_reducible rfl⟩) ?_;refine Ep (EM HT_.out (by kernel_rfl)) ?_;try go_wp2
      go_loopg [6,7] kj2 (λkq v6 v7 w'=>∃ (x6_2:ByteArray) (x7_2:Int),v6= .string x6_2/\v7= .int .i64 x7_2/\AA (Am.l0 kq a0 l1 x6_2 x7_2=some (r1,r2))/\AA (kq<=kj2)/\AA (Below w.heap.size w w'));case atStart=>exact ⟨(((⟨#[67,74]⟩:ByteArray)++(strOfNums y590))++t593),(0),xq,xq,H',⟨Nat.le_refl _⟩,⟨xb⟩⟩
      case round=>
       clear H';try clear c1
       try clear hcv1
       try clear c2
       try clear p2
       try clear c3
       try clear p3
       try clear c4
       try clear c4b0
       try clear c5
       try clear c6
       try clear c6b0
       try clear c6b1
       try clear c6b2
       try clear p6
       try clear c8
       try clear c8b0
       try clear c8b1
       try clear c8b2
       try clear hcv12
       try clear hcv13
       try clear p2
       obtain ⟨x6_2,x7_2,rfl,rfl,HA,HK2,HB⟩:=hrel;cases gk with
       |zero=>exact absurd HA.out (by simp [Am.l0])
       |succ k2=>
        have H:=HA.out;clear HA;simp only [Am.l0] at H;by_cases c15:x7_2<(l1.length:Int)
        ·rw [if_pos c15] at H;have c15b0:decide (x7_2<(l1.length:Int))=true:=decide_eq_true c15;clear c15;by_cases c16:0<=x7_2
         ·rw [if_pos c16] at H;have c16b0:decide (0<=x7_2)=true:=decide_eq_true c16;clear c16;replace H:=Option.bind_eq_some_iff.mp H;obtain ⟨t595,A170,H⟩:=H;replace H:(if x6_2.size+t595.size<=9223372036854775807 then (Am.l0 k2 a0 l1 (x6_2++t595) (wrap64 (x7_2+1))) else (none))=some (r1,r2):=H;have A17:=AA.mk A170;clear A170;by_cases c18:x6_2.size+t595.size<=9223372036854775807
          ·rw [if_pos c18] at H;have c18b0:=eq_true c18;have c18b1:decide (x6_2.size+t595.size<=9223372036854775807)=true:=decide_eq_true c18;try have c18b2:(9223372036854775807<x6_2.size+t595.size)=False:=eq_false (Nat.not_lt.2 c18)
           have H':=AA.mk H;clear H;have p594:0<=(x7_2:Int):=xa;have q594:x7_2<(l1.length:Int):=xa;obtain ⟨ad594,e594,hx594_0,hx594_1,hx594_2,hx594_3,hx594_4,hx594_5,hx594_6,hx594_7,hx594_8,hx594_9,hx594_10⟩:=Dw HR1.out x7_2 p594 q594;cases e594;replace hx594_0:=bK HB.out hx594_0;replace hx594_1:=bK HB.out hx594_1;replace hx594_2:=bK HB.out hx594_2;replace hx594_3:=bK HB.out hx594_3;replace hx594_4:=bK HB.out hx594_4;replace hx594_5:=bK HB.out hx594_5;replace hx594_6:=bK HB.out hx594_6;replace hx594_7:=bK HB.out hx594_7;replace hx594_8:=bK HB.out hx594_8;replace hx594_9:=bK HB.out hx594_9;replace hx594_10:=bK HB.out hx594_10;replace p594:=eq_true p594;replace q594:=eq_true q594;go_wp2_with (first|((with_reducible refine AQ (f:=35) rfl ?_);refine Ag (some 35) rfl rfl Tryz.func35 (by kernel_rfl) rfl #[.int .i64 a0, .agg #[.string ((AB l1 x7_2).f0), .string ((AB l1 x7_2).f1), .string ((AB l1 x7_2).f2), .string ((AB l1 x7_2).f3), .int .i64 ((AB l1 x7_2).f4), .int .i64 ((AB l1 x7_2).f5), .int .i64 ((AB l1 x7_2).f6), .bool ((AB l1 x7_2).f7), .bool ((AB l1 x7_2).f8), .bool ((AB l1 x7_2).f9), .int .i64 ((AB l1 x7_2).f10)]] rfl xg ?_;(with_reducible refine (BC.calls k2 a0 ((AB l1 x7_2).f0) ((AB l1 x7_2).f1) ((AB l1 x7_2).f2) ((AB l1 x7_2).f3) ((AB l1 x7_2).f4) ((AB l1 x7_2).f5) ((AB l1 x7_2).f6) ((AB l1 x7_2).f7) ((AB l1 x7_2).f8) ((AB l1 x7_2).f9) ((AB l1 x7_2).f10) t595 _ A17.out).mono ?_);rintro e w19 ⟨rfl,hb⟩;refine ⟨_,rfl,?_⟩;replace HB:=AA.mk (AO xb hb);(try clear hb)));go_roundg k2;case measure=>have:=HJ2.out;have:=HK2.out;omega
           case rel=>exact ⟨(x6_2++t595),(wrap64 (x7_2+1)),xq,xq,H',⟨by have:=HJ2.out;have:=HK2.out;omega⟩,⟨xb⟩⟩
          ·rw [if_neg c18] at H;exact absurd H (by simp)
         ·rw [if_neg c16] at H;exact absurd H (by simp)
        ·rw [if_neg c15] at H;have c15b0:decide (x7_2<(l1.length:Int))=false:=decide_eq_false c15;clear c15;replace H:=Option.bind_eq_some_iff.mp H;obtain ⟨t596,A200,H⟩:=H;replace H:(if x6_2.size+t596.size<=9223372036854775807 then (some (x6_2++t596,true)) else (none))=some (r1,r2):=H;have A20:=AA.mk A200;clear A200;by_cases c21:x6_2.size+t596.size<=9223372036854775807
         ·rw [if_pos c21] at H;have c21b0:=eq_true c21;have c21b1:decide (x6_2.size+t596.size<=9223372036854775807)=true:=decide_eq_true c21;try have c21b2:(9223372036854775807<x6_2.size+t596.size)=False:=eq_false (Nat.not_lt.2 c21)
          simp only [Option.some.injEq,Prod.mk.injEq] at H;obtain ⟨rfl,rfl⟩:=H;go_wp2_with (first|((with_reducible refine AQ (f:=24) rfl ?_);refine Ag (some 39) rfl rfl Tryz.func24 (by kernel_rfl) rfl #[.string x6_2] rfl xg ?_;(with_reducible refine (Ci.calls k2 x6_2 t596 _ A20.out).mono ?_);rintro e w22 ⟨rfl,hb⟩;refine ⟨_,rfl,?_⟩;replace HB:=AA.mk (AO xb hb);(try clear hb)));go_ret2;exact ⟨xe,xb⟩
         ·rw [if_neg c21] at H;exact absurd H (by simp)
     ·rw [if_neg c8] at H;exact absurd H (by simp)
    ·rw [if_neg c6] at H;exact absurd H (by simp)
def Dv.f (k:Nat) (l0:List (Cz)):Option ((List (CO))×Bool):=(Ca.f k l0).bind λt598=>(if t598=true then ((EC.f k l0).bind λt599=>(if t599=true then ((Dy.f k l0).bind λbt600=>(some (bt600.1,true))) else (some (([]:List (CO)),false)))) else (some (([]:List (CO)),false)))
set_option maxHeartbeats 8000000 in
set_option maxRecDepth 100000 in
theorem Dv.calls (k:Nat) (A0:Option Addr) (c0:Nat) (l0:List (Cz)) (r1:List (CO)) (r2:Bool) (w:World) (hr0:Kd.C k25 w A0 l0.length l0) (hc0:l0.length<=c0) (hG:AA (D8 w)) (h:Dv.f k l0=some (r1,r2)):
 Calls Tryz.prog 18 #[.slice A0 l0.length c0] w λe w'=>∃ v0_:Value,e= .returned (.tuple #[.agg #[v0_], .bool r2])/\Kd.R En 129 w' w.heap.size (λ_=>True) v0_ r1/\Below w.heap.size w w':=by
 have hu47:=Tryz.underlying47;have HR0:=AA.mk hr0;have HC0:=AA.mk hc0;clear hr0 hc0;have HB:=AA.mk (Below.refl w.heap.size w);have H:((Ca.f k l0).bind λt598=>(if t598=true then ((EC.f k l0).bind λt599=>(if t599=true then ((Dy.f k l0).bind λbt600=>(some (bt600.1,true))) else (some (([]:List (CO)),false)))) else (some (([]:List (CO)),false))))=some (r1,r2):=h;clear h;replace H:=Option.bind_eq_some_iff.mp H;obtain ⟨t598,A20,H⟩:=H;try dsimp only at H
 have A2:=AA.mk A20;clear A20;by_cases c3:t598=true
 ·subst c3;rw [if_pos rfl] at H;replace H:=Option.bind_eq_some_iff.mp H;obtain ⟨t599,A40,H⟩:=H;try dsimp only at H
  have A4:=AA.mk A40;clear A40;by_cases c5:t599=true
  ·subst c5;rw [if_pos rfl] at H;replace H:=Option.bind_eq_some_iff.mp H;obtain ⟨⟨t600,t603⟩,A60,H⟩:=H;try dsimp only at H
   have A6:=AA.mk A60;clear A60;simp only [Option.some.injEq,Prod.mk.injEq] at H;obtain ⟨rfl,rfl⟩:=H;go_enter Tryz.func18,Tryz.ntmps18;go_wp2_with (first|(refine Dp (N:=2) (cs:=#[.slice none 0 0]) (t:=47) (λgb597 hg w7 hbox hb=>?_);have BK597:=AA.mk (hbox);have GW597:AA (w.heap.size<=gb597):=Dq hg xb;have GE597:AA (w.heap.size<=gb597):=Dq hg xb;replace HB:=AA.mk (AO xb hb);clear hb hbox hg)|((with_reducible refine AQ (f:=27) rfl ?_);refine Ag (some 7) rfl rfl Tryz.func27 (by kernel_rfl) rfl #[.slice A0 l0.length c0] rfl xg ?_;(with_reducible refine (Ca.calls k _ _ l0 true _ ?side1 ?side2 A2.out).mono ?_);(case side1=>repeat (first|exact (Kd.Ed HR0.out HB.out)|(with_reducible refine Kd.Cy ?_ _)|(with_reducible refine Kd.C8 ?_ _)|(with_reducible refine Kd.Da ?_)));(case side2=>exact HC0.out);rintro e w' ⟨rfl,⟨nd,rfl⟩⟩;refine ⟨_,rfl,?_⟩;(try (rw [JJ w7];generalize hq_:World.drewN w7 _=w7;have n0_:AA (w7.heap[gb597]? =some (.cells #[.slice none 0 0] 47 (0,0))):=⟨by rw [<-hq_];exact xk⟩;have n1_:AA (Below w.heap.size w w7):=⟨by rw [<-hq_];exact xb⟩;clear BK597 HB hq_;have BK597:=n0_;have HB:=n1_;clear n0_ n1_)))|(go_at_call 28;(with_reducible refine (EC.calls k _ _ l0 true _ ?side1 ?side2 A4.out).mono ?_);(case side1=>repeat (first|exact (Kd.Ed HR0.out HB.out)|(with_reducible refine Kd.Cy ?_ _)|(with_reducible refine Kd.C8 ?_ _)|(with_reducible refine Kd.Da ?_)));(case side2=>exact HC0.out);rintro e w8 ⟨rfl,hb⟩;replace BK597:=bL BK597 hb;replace HB:=AA.mk (AO xb hb);(try clear hb))|((with_reducible refine AQ (f:=26) rfl ?_);refine Ag (some 17) rfl rfl Tryz.func26 (by kernel_rfl) rfl #[.slice A0 l0.length c0] rfl xg ?_;(with_reducible refine (Dy.calls k _ _ l0 t600 t603 _ ?side1 ?side2 xl A6.out).mono ?_);(case side1=>repeat (first|exact (Kd.Ed HR0.out HB.out)|(with_reducible refine Kd.Cy ?_ _)|(with_reducible refine Kd.C8 ?_ _)|(with_reducible refine Kd.Da ?_)));(case side2=>exact HC0.out);rintro e w9 ⟨v601,rfl,ho0,hb⟩;refine ⟨_,rfl,?_⟩;have HO602:=AA.mk (Kd.CJ ho0 (Ai xb));replace BK597:=bL BK597 hb;replace HB:=AA.mk (AO xb hb);(try clear hb);(try clear ho0))|(refine Dp (N:=4) (cs:=#[.slice none 0 0]) (t:=47) (λgb604 hg w10 hbox hb=>?_);replace HO602:=AA.mk (Kd.Af (xR HO602) hb);have BK604:=AA.mk (hbox);have GW604:AA (w.heap.size<=gb604):=Dq hg xb;have GE604:AA (w.heap.size<=gb604):=Dq hg xb;replace HB:=AA.mk (AO xb hb);have NB597_604:=GM hg (Cs BK597);have NB604_597:=GN hg (Cs BK597);replace BK597:=bL BK597 hb;clear hb hbox hg;obtain ⟨Ao11,co11,eo11⟩:=Kd.Cg HO602.out;subst eo11;have hnb12:=NB604_597.out;have hnc12:=NB597_604.out;have hcz13_0:w10.cell? ⟨gb604,0,none⟩=some (.slice none 0 0):=(AJ BK604.out 0).trans rfl;have hfz13_0:=AP BK604.out 0;have hcz14_0:w10.cell? ⟨gb597,0,none⟩=some (.slice none 0 0):=(AJ BK597.out 0).trans rfl;have hfz14_0:=AP BK597.out 0));refine bodyPost_ret (DU rfl _ _ gb597 47 #[.slice Ao11 t600.length co11] (0,0) _ rfl xk Tryz.underlying47 rfl (by kernel_rfl)) rfl ?_;exact ⟨_,xe,by (with_reducible repeat (first|apply Kd.BX|apply Kd.BZ|apply Kd.Bc));exact Kd.CK (Kd.BG (p:=⟨gb597,0,none⟩) (Kd.BG (p:=⟨gb604,0,none⟩) (Kd.Cf (Kd.Cf HO602.out BK604.out (by decide)) BK597.out (by decide)) (λ_ hk=>hk.1.2) (.slice Ao11 t600.length co11)) (λ_ hk=>hk.2) (.slice Ao11 t600.length co11)) (λ_ hk=>trivial),xb⟩
  ·replace c5:=Bool.eq_false_iff.mpr c5;subst c5;have H1:(some (([]:List (CO)),false))=some (r1,r2):=by rw [if_neg (show ¬(false=true) by decide)] at H;exact H
   clear H;have H:=H1;clear H1;simp only [Option.some.injEq,Prod.mk.injEq] at H;obtain ⟨rfl,rfl⟩:=H;go_enter Tryz.func18,Tryz.ntmps18;go_wp2_with (first|(refine Dp (N:=2) (cs:=#[.slice none 0 0]) (t:=47) (λgb597 hg w15 hbox hb=>?_);have BK597:=AA.mk (hbox);have GW597:AA (w.heap.size<=gb597):=Dq hg xb;have GE597:AA (w.heap.size<=gb597):=Dq hg xb;replace HB:=AA.mk (AO xb hb);clear hb hbox hg)|((with_reducible refine AQ (f:=27) rfl ?_);refine Ag (some 7) rfl rfl Tryz.func27 (by kernel_rfl) rfl #[.slice A0 l0.length c0] rfl xg ?_;(with_reducible refine (Ca.calls k _ _ l0 true _ ?side1 ?side2 A2.out).mono ?_);(case side1=>repeat (first|exact (Kd.Ed HR0.out HB.out)|(with_reducible refine Kd.Cy ?_ _)|(with_reducible refine Kd.C8 ?_ _)|(with_reducible refine Kd.Da ?_)));(case side2=>exact HC0.out);rintro e w' ⟨rfl,⟨nd,rfl⟩⟩;refine ⟨_,rfl,?_⟩;(try (rw [JJ w15];generalize hq_:World.drewN w15 _=w15;have n0_:AA (w15.heap[gb597]? =some (.cells #[.slice none 0 0] 47 (0,0))):=⟨by rw [<-hq_];exact xk⟩;have n1_:AA (Below w.heap.size w w15):=⟨by rw [<-hq_];exact xb⟩;clear BK597 HB hq_;have BK597:=n0_;have HB:=n1_;clear n0_ n1_)))|(go_at_call 28;(with_reducible refine (EC.calls k _ _ l0 false _ ?side1 ?side2 A4.out).mono ?_);(case side1=>repeat (first|exact (Kd.Ed HR0.out HB.out)|(with_reducible refine Kd.Cy ?_ _)|(with_reducible refine Kd.C8 ?_ _)|(with_reducible refine Kd.Da ?_)));(case side2=>exact HC0.out);rintro e w16 ⟨rfl,hb⟩;replace BK597:=bL BK597 hb;replace HB:=AA.mk (AO xb hb);(try clear hb);have hcz17_0:w16.cell? ⟨gb597,0,none⟩=some (.slice none 0 0):=(AJ BK597.out 0).trans rfl;have hfz17_0:=AP BK597.out 0));refine bodyPost_ret (DU rfl _ _ gb597 47 #[.slice none 0 0] (0,0) _ rfl xk Tryz.underlying47 rfl (by kernel_rfl)) rfl ?_;exact ⟨_,xe,by first|exact Kd.Em _ _ _ _ _|exact Kd.GA _ _ _ _ _|exact Kd.GD _ _ _ _ _|exact Kd.F8 _ _ _ _ _|exact Kd.F9 _ _ _ _ _,xb⟩
 ·replace c3:=Bool.eq_false_iff.mpr c3;subst c3;have H1:(some (([]:List (CO)),false))=some (r1,r2):=by rw [if_neg (show ¬(false=true) by decide)] at H;exact H
  clear H;have H:=H1;clear H1;simp only [Option.some.injEq,Prod.mk.injEq] at H;obtain ⟨rfl,rfl⟩:=H;go_enter Tryz.func18,Tryz.ntmps18;go_wp2_with (first|(refine Dp (N:=2) (cs:=#[.slice none 0 0]) (t:=47) (λgb597 hg w18 hbox hb=>?_);have BK597:=AA.mk (hbox);have GW597:AA (w.heap.size<=gb597):=Dq hg xb;have GE597:AA (w.heap.size<=gb597):=Dq hg xb;replace HB:=AA.mk (AO xb hb);clear hb hbox hg)|((with_reducible refine AQ (f:=27) rfl ?_);refine Ag (some 7) rfl rfl Tryz.func27 (by kernel_rfl) rfl #[.slice A0 l0.length c0] rfl xg ?_;(with_reducible refine (Ca.calls k _ _ l0 false _ ?side1 ?side2 A2.out).mono ?_);(case side1=>repeat (first|exact (Kd.Ed HR0.out HB.out)|(with_reducible refine Kd.Cy ?_ _)|(with_reducible refine Kd.C8 ?_ _)|(with_reducible refine Kd.Da ?_)));(case side2=>exact HC0.out);rintro e w' ⟨rfl,⟨nd,rfl⟩⟩;refine ⟨_,rfl,?_⟩;(try (rw [JJ w18];generalize hq_:World.drewN w18 _=w18;have n0_:AA (w18.heap[gb597]? =some (.cells #[.slice none 0 0] 47 (0,0))):=⟨by rw [<-hq_];exact xk⟩;have n1_:AA (Below w.heap.size w w18):=⟨by rw [<-hq_];exact xb⟩;clear BK597 HB hq_;have BK597:=n0_;have HB:=n1_;clear n0_ n1_));have hcz19_0:w18.cell? ⟨gb597,0,none⟩=some (.slice none 0 0):=(AJ BK597.out 0).trans rfl;have hfz19_0:=AP BK597.out 0));refine bodyPost_ret (DU rfl _ _ gb597 47 #[.slice none 0 0] (0,0) _ rfl xk Tryz.underlying47 rfl (by kernel_rfl)) rfl ?_;exact ⟨_,xe,by first|exact Kd.Em _ _ _ _ _|exact Kd.GA _ _ _ _ _|exact Kd.GD _ _ _ _ _|exact Kd.F8 _ _ _ _ _|exact Kd.F9 _ _ _ _ _,xb⟩
end Go.Proofs.YtfggjdkccdkogaaGreatDoor.Print
