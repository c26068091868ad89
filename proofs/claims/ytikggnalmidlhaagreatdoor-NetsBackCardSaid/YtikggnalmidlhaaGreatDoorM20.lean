/- Several parts of the claim's proof in one text, said short by a program of this session. No condition. -/
import Derived.Test.YtikggnalmidlhaaGreatDoorM16
import Derived.Test.YtikggnalmidlhaaGreatDoorPrint54
section
namespace Go.Proofs.YtikggnalmidlhaaGreatDoor.Print
open RowKit AR Aa Ad
attribute [local go_sem] BM BN Bo Bp BC BD BO BP
set_option linter.unusedVariables false
set_option linter.unusedSimpArgs false
def BK.l0:Nat->List (CU)->ByteArray->Int->Option (ByteArray)
 |0,_,_,_=>none
 |k+1,x0,x3,x4=>if x4<(x0.length:Int) then (if 0<=x4 then ((Al.f k ((AB x0 x4).f0) ((AB x0 x4).f1) ((AB x0 x4).f2) ((AB x0 x4).f3) ((AB x0 x4).f4) ((AB x0 x4).f5) ((AB x0 x4).f6) ((AB x0 x4).f7) ((AB x0 x4).f8) ((AB x0 x4).f9) ((AB x0 x4).f10)).bind λt443=>(if x3.size+t443.size<=9223372036854775807 then (if (x3++t443).size+1<=9223372036854775807 then (BK.l0 k x0 ((x3++t443)++(⟨#[10]⟩:ByteArray)) (wrap64 (x4+1))) else (none)) else (none))) else (none)) else (some x3)
def BK.f (k:Nat) (l0:List (CU)):Option (ByteArray):=BK.l0 k l0 (⟨#[35,32,78,101,116,115,99,97,112,101,32,72,84,84,80,32,67,111,111,107,105,101,32,70,105,108,101,10]⟩:ByteArray) 0
set_option maxHeartbeats 8000000 in
set_option maxRecDepth 100000 in
theorem BK.calls (k:Nat) (A0:Option Addr) (c0:Nat) (l0:List (CU)) (r:ByteArray) (w:World) (hr0:Kd.C Fu w A0 l0.length l0) (hc0:l0.length<=c0) (h:BK.f k l0=some r):
 Calls Tryz.prog 12 #[.slice A0 l0.length c0] w λe w'=>e= .returned (.string r)/\Below w.heap.size w w':=by
 have hu53:=Tryz.underlying53;have HR0:=AA.mk hr0;have HC0:=AA.mk hc0;clear hr0 hc0;have HB:=AA.mk (Below.refl w.heap.size w);have H:(BK.l0 k l0 (⟨#[35,32,78,101,116,115,99,97,112,101,32,72,84,84,80,32,67,111,111,107,105,101,32,70,105,108,101,10]⟩:ByteArray) 0)=some r:=h;clear h;have H':=AA.mk H;clear H;go_enter Tryz.func12,Tryz.ntmps12;go_wp2;go_loopg [3,4] k (λkq v3 v4 w'=>∃ (x3_1:ByteArray) (x4_1:Int),v3= .string x3_1/\v4= .int .i64 x4_1/\AA (BK.l0 kq l0 x3_1 x4_1=some r)/\AA (kq<=k)/\AA (Below w.heap.size w w'));case atStart=>exact ⟨((⟨#[35,32,78,101,116,115,99,97,112,101,32,72,84,84,80,32,67,111,111,107,105,101,32,70,105,108,101,10]⟩:ByteArray)),(0),xq,xq,H',⟨Nat.le_refl _⟩,⟨xb⟩⟩
 case round=>
  clear H';try clear c1
  obtain ⟨x3_1,x4_1,rfl,rfl,HA,HK1,HB⟩:=hrel;cases gk with
  |zero=>exact absurd HA.out (by simp [BK.l0])
  |succ k1=>
   have H:=HA.out;clear HA;simp only [BK.l0] at H;by_cases c2:x4_1<(l0.length:Int)
   ·rw [if_pos c2] at H;have c2b0:decide (x4_1<(l0.length:Int))=true:=decide_eq_true c2;clear c2;by_cases c3:0<=x4_1
    ·rw [if_pos c3] at H;have c3b0:decide (0<=x4_1)=true:=decide_eq_true c3;clear c3;replace H:=Option.bind_eq_some_iff.mp H;obtain ⟨t443,A40,H⟩:=H;replace H:(if x3_1.size+t443.size<=9223372036854775807 then (if (x3_1++t443).size+1<=9223372036854775807 then (BK.l0 k1 l0 ((x3_1++t443)++(⟨#[10]⟩:ByteArray)) (wrap64 (x4_1+1))) else (none)) else (none))=some r:=H;have A4:=AA.mk A40;clear A40;by_cases c5:x3_1.size+t443.size<=9223372036854775807
     ·rw [if_pos c5] at H;have c5b0:=eq_true c5;have c5b1:decide (x3_1.size+t443.size<=9223372036854775807)=true:=decide_eq_true c5;try have c5b2:(9223372036854775807<x3_1.size+t443.size)=False:=eq_false (Nat.not_lt.2 c5)
      by_cases c6:(x3_1++t443).size+1<=9223372036854775807
      ·rw [if_pos c6] at H;have c6b0:=eq_true c6;have c6b1:decide ((x3_1++t443).size+1<=9223372036854775807)=true:=decide_eq_true c6;try have c6b2:(9223372036854775807<(x3_1++t443).size+1)=False:=eq_false (Nat.not_lt.2 c6)
       try (have c6b3:=c6b2;simp only [ByteArray.size_append,JG,List.size_toArray,List.length_cons,List.length_nil,Nat.reduceAdd] at c6b3)
       have H':=AA.mk H;clear H;have p442:0<=(x4_1:Int):=xa;have q442:x4_1<(l0.length:Int):=xa;obtain ⟨ad442,e442,hx442_0,hx442_1,hx442_2,hx442_3,hx442_4,hx442_5,hx442_6,hx442_7,hx442_8,hx442_9,hx442_10⟩:=Ce HR0.out x4_1 p442 q442;cases e442;replace hx442_0:=AJ HB.out hx442_0;replace hx442_1:=AJ HB.out hx442_1;replace hx442_2:=AJ HB.out hx442_2;replace hx442_3:=AJ HB.out hx442_3;replace hx442_4:=AJ HB.out hx442_4;replace hx442_5:=AJ HB.out hx442_5;replace hx442_6:=AJ HB.out hx442_6;replace hx442_7:=AJ HB.out hx442_7;replace hx442_8:=AJ HB.out hx442_8;replace hx442_9:=AJ HB.out hx442_9;replace hx442_10:=AJ HB.out hx442_10;replace p442:=eq_true p442;replace q442:=eq_true q442;go_wp2_with (first|((with_reducible refine AO (f:=26) rfl ?_);refine Ak (some 16) rfl rfl Tryz.func26 (by kernel_rfl) rfl #[.agg #[.string ((AB l0 x4_1).f0), .string ((AB l0 x4_1).f1), .string ((AB l0 x4_1).f2), .string ((AB l0 x4_1).f3), .int .i64 ((AB l0 x4_1).f4), .int .i64 ((AB l0 x4_1).f5), .int .i64 ((AB l0 x4_1).f6), .bool ((AB l0 x4_1).f7), .bool ((AB l0 x4_1).f8), .bool ((AB l0 x4_1).f9), .int .i64 ((AB l0 x4_1).f10)]] rfl xg ?_;(with_reducible refine (Al.calls k1 ((AB l0 x4_1).f0) ((AB l0 x4_1).f1) ((AB l0 x4_1).f2) ((AB l0 x4_1).f3) ((AB l0 x4_1).f4) ((AB l0 x4_1).f5) ((AB l0 x4_1).f6) ((AB l0 x4_1).f7) ((AB l0 x4_1).f8) ((AB l0 x4_1).f9) ((AB l0 x4_1).f10) t443 _ A4.out).mono ?_);rintro e w7 ⟨rfl,hb⟩;refine ⟨_,rfl,?_⟩;replace HB:=AA.mk (AP xb hb);(try clear hb)));go_roundg k1;case measure=>have:=HK1.out;omega
       case rel=>exact ⟨((x3_1++t443)++(⟨#[10]⟩:ByteArray)),(wrap64 (x4_1+1)),xq,xq,H',⟨by have:=HK1.out;omega⟩,⟨xb⟩⟩
      ·rw [if_neg c6] at H;exact absurd H (by simp)
     ·rw [if_neg c5] at H;exact absurd H (by simp)
    ·rw [if_neg c3] at H;exact absurd H (by simp)
   ·rw [if_neg c2] at H;have c2b0:decide (x4_1<(l0.length:Int))=false:=decide_eq_false c2;clear c2;obtain rfl:=Option.some.inj H;go_wp2;go_ret;exact ⟨xe,xb⟩
end Go.Proofs.YtikggnalmidlhaaGreatDoor.Print
end
section
namespace Go.Proofs.YtikggnalmidlhaaGreatDoor.Print
open RowKit AR Aa Ad
attribute [local go_sem] BM BN Bo Bp BC BD BO BP
set_option linter.unusedVariables false
set_option linter.unusedSimpArgs false
mutual
def AV.j0:Nat->Bool->ByteArray->ByteArray->ByteArray->ByteArray->Int->Int->Int->Bool->Bool->Bool->Int->Option (Bool)
 |0,_,_,_,_,_,_,_,_,_,_,_,_=>none
 |k+1,x11,x117000,x117001,x117002,x117003,x117004,x117005,x117006,x117007,x117008,x117009,x117010=>if x11=true then (some false) else ((ET.f x117001).bind λt120=>(if t120=true then ((DT.f x117002).bind λt121=>(if t121=true then (AV.j1 k (decide ((x117002.size:Int)>64)) x117000 x117001 x117002 x117003 x117004 x117005 x117006 x117007 x117008 x117009 x117010) else (AV.j1 k (!t121) x117000 x117001 x117002 x117003 x117004 x117005 x117006 x117007 x117008 x117009 x117010))) else (AV.j1 k (!t120) x117000 x117001 x117002 x117003 x117004 x117005 x117006 x117007 x117008 x117009 x117010)))
def AV.j1:Nat->Bool->ByteArray->ByteArray->ByteArray->ByteArray->Int->Int->Int->Bool->Bool->Bool->Int->Option (Bool)
 |0,_,_,_,_,_,_,_,_,_,_,_,_=>none
 |k+1,x25,x117000,x117001,x117002,x117003,x117004,x117005,x117006,x117007,x117008,x117009,x117010=>if x25=true then (some false) else ((Cw.f x117003).bind λt122=>(if t122=true then (if (x117003.size:Int)>128 then (some false) else ((DN.f 253402300799 x117004 x117005 x117006).bind λt123=>(if t123=true then (if x117010>=0 then (some (decide (x117010<=3))) else (some false)) else (some false)))) else (some false)))
end
def AV.f (k:Nat) (a0_0:ByteArray) (a0_1:ByteArray) (a0_2:ByteArray) (a0_3:ByteArray) (a0_4:Int) (a0_5:Int) (a0_6:Int) (a0_7:Bool) (a0_8:Bool) (a0_9:Bool) (a0_10:Int):Option (Bool):=(Ca.f k a0_0).bind λbt117=>(if bt117.2=true then (if bt117.1.toList=a0_0.toList then ((CR.f k bt117.1).bind λt119=>(if t119=true then (AV.j0 k (!a0_7) a0_0 a0_1 a0_2 a0_3 a0_4 a0_5 a0_6 a0_7 a0_8 a0_9 a0_10) else (AV.j0 k false a0_0 a0_1 a0_2 a0_3 a0_4 a0_5 a0_6 a0_7 a0_8 a0_9 a0_10))) else (AV.j0 k (bt117.1.toList != a0_0.toList) a0_0 a0_1 a0_2 a0_3 a0_4 a0_5 a0_6 a0_7 a0_8 a0_9 a0_10)) else (AV.j0 k (!bt117.2) a0_0 a0_1 a0_2 a0_3 a0_4 a0_5 a0_6 a0_7 a0_8 a0_9 a0_10))
theorem AV.Dt:∀ k,(∀ y0 y1 y2 y3 y4 y5 y6 y7 y8 y9 y10 y11,Bz (AV.j0 k y0 y1 y2 y3 y4 y5 y6 y7 y8 y9 y10 y11) (AV.j0 (k+1) y0 y1 y2 y3 y4 y5 y6 y7 y8 y9 y10 y11))/\(∀ y0 y1 y2 y3 y4 y5 y6 y7 y8 y9 y10 y11,Bz (AV.j1 k y0 y1 y2 y3 y4 y5 y6 y7 y8 y9 y10 y11) (AV.j1 (k+1) y0 y1 y2 y3 y4 y5 y6 y7 y8 y9 y10 y11))
 |0=>⟨λ_ _ _ _ _ _ _ _ _ _ _ _ r h=>by simp [AV.j0] at h,λ_ _ _ _ _ _ _ _ _ _ _ _ r h=>by simp [AV.j1] at h⟩
 |k+1=>by
  obtain ⟨ih0,ih1⟩:=AV.Dt k;refine ⟨?_,?_⟩
  ·intro y0 y1 y2 y3 y4 y5 y6 y7 y8 y9 y10 y11;unfold AV.j0
   repeat' first|(with_reducible first|exact ih0 _ _ _ _ _ _ _ _ _ _ _ _|exact ih1 _ _ _ _ _ _ _ _ _ _ _ _|exact Ca.mono _ _|exact CR.mono _ _|exact Bz.refl _|exact Bz.none _|refine Bz.ite ?_ ?_|refine Bz.bind ?_ (λ_=>?_))|exact ih0 _ _ _ _ _ _ _ _ _ _ _ _|exact ih1 _ _ _ _ _ _ _ _ _ _ _ _|exact Ca.mono _ _|exact CR.mono _ _|exact Bz.none _|refine Bz.ite ?_ ?_|refine Bz.bind ?_ (λ_=>?_)
  ·intro y0 y1 y2 y3 y4 y5 y6 y7 y8 y9 y10 y11;unfold AV.j1
   repeat' first|(with_reducible first|exact ih0 _ _ _ _ _ _ _ _ _ _ _ _|exact ih1 _ _ _ _ _ _ _ _ _ _ _ _|exact Ca.mono _ _|exact CR.mono _ _|exact Bz.refl _|exact Bz.none _|refine Bz.ite ?_ ?_|refine Bz.bind ?_ (λ_=>?_))|exact ih0 _ _ _ _ _ _ _ _ _ _ _ _|exact ih1 _ _ _ _ _ _ _ _ _ _ _ _|exact Ca.mono _ _|exact CR.mono _ _|exact Bz.none _|refine Bz.ite ?_ ?_|refine Bz.bind ?_ (λ_=>?_)
theorem AV.mono:∀ a0 a1 a2 a3 a4 a5 a6 a7 a8 a9 a10 k,Bz (AV.f k a0 a1 a2 a3 a4 a5 a6 a7 a8 a9 a10) (AV.f (k+1) a0 a1 a2 a3 a4 a5 a6 a7 a8 a9 a10):=by
 intro a0 a1 a2 a3 a4 a5 a6 a7 a8 a9 a10 k;obtain ⟨ih0,ih1⟩:=AV.Dt k;unfold AV.f
 repeat' first|(with_reducible first|exact ih0 _ _ _ _ _ _ _ _ _ _ _ _|exact ih1 _ _ _ _ _ _ _ _ _ _ _ _|exact Ca.mono _ _|exact CR.mono _ _|exact Bz.refl _|exact Bz.none _|refine Bz.ite ?_ ?_|refine Bz.bind ?_ (λ_=>?_))|exact ih0 _ _ _ _ _ _ _ _ _ _ _ _|exact ih1 _ _ _ _ _ _ _ _ _ _ _ _|exact Ca.mono _ _|exact CR.mono _ _|exact Bz.none _|refine Bz.ite ?_ ?_|refine Bz.bind ?_ (λ_=>?_)
set_option maxHeartbeats 8000000 in
set_option maxRecDepth 100000 in
theorem AV.calls (k:Nat) (a0_0:ByteArray) (a0_1:ByteArray) (a0_2:ByteArray) (a0_3:ByteArray) (a0_4:Int) (a0_5:Int) (a0_6:Int) (a0_7:Bool) (a0_8:Bool) (a0_9:Bool) (a0_10:Int) (r:Bool) (w:World) (hG:AA (Ck w)) (h:AV.f k a0_0 a0_1 a0_2 a0_3 a0_4 a0_5 a0_6 a0_7 a0_8 a0_9 a0_10=some r):
 Calls Tryz.prog 35 #[.agg #[.string a0_0, .string a0_1, .string a0_2, .string a0_3, .int .i64 a0_4, .int .i64 a0_5, .int .i64 a0_6, .bool a0_7, .bool a0_8, .bool a0_9, .int .i64 a0_10]] w λe w'=>e= .returned (.bool r)/\Below w.heap.size w w':=by
 have hu53:=Tryz.underlying53;have hu94:=Tryz.underlying94;have HB:=AA.mk (Below.refl w.heap.size w);have H:((Ca.f k a0_0).bind λbt117=>(if bt117.2=true then (if bt117.1.toList=a0_0.toList then ((CR.f k bt117.1).bind λt119=>(if t119=true then (AV.j0 k (!a0_7) a0_0 a0_1 a0_2 a0_3 a0_4 a0_5 a0_6 a0_7 a0_8 a0_9 a0_10) else (AV.j0 k false a0_0 a0_1 a0_2 a0_3 a0_4 a0_5 a0_6 a0_7 a0_8 a0_9 a0_10))) else (AV.j0 k (bt117.1.toList != a0_0.toList) a0_0 a0_1 a0_2 a0_3 a0_4 a0_5 a0_6 a0_7 a0_8 a0_9 a0_10)) else (AV.j0 k (!bt117.2) a0_0 a0_1 a0_2 a0_3 a0_4 a0_5 a0_6 a0_7 a0_8 a0_9 a0_10)))=some r:=h;clear h;replace H:=Option.bind_eq_some_iff.mp H;obtain ⟨⟨t117,t118⟩,A20,H⟩:=H;try dsimp only at H
 have A2:=AA.mk A20;clear A20;have HC3:=AA.mk H;clear H;go_enter Tryz.func35,Tryz.ntmps35;go_upto_if 11 with (first|(refine Dk (N:=1) (cs:=#[.string a0_0, .string a0_1, .string a0_2, .string a0_3, .int .i64 a0_4, .int .i64 a0_5, .int .i64 a0_6, .bool a0_7, .bool a0_8, .bool a0_9, .int .i64 a0_10]) (t:=53) (λgb116 hg w4 hbox hb=>?_);have BK116:=AA.mk (hbox);have GW116:AA (w.heap.size<=gb116):=Dp hg xb;have GE116:AA (w.heap.size<=gb116):=Dp hg xb;replace HB:=AA.mk (AP xb hb);clear hb hbox hg;obtain ⟨hcz5_0,hcz5_1,hcz5_2,hcz5_3,hcz5_4,hcz5_5,hcz5_6,hcz5_7,hcz5_8,hcz5_9,hcz5_10⟩:=Bv BK116.out;have hfz5_0:=AX BK116.out)|((with_reducible refine AO (f:=57) rfl ?_);refine Ak (some 8) rfl rfl Tryz.func57 (by kernel_rfl) rfl #[.string a0_0] rfl xg ?_;(with_reducible refine (Ca.calls k a0_0 t117 t118 _ xl A2.out).mono ?_);rintro e w6 ⟨rfl,hb⟩;refine ⟨_,rfl,?_⟩;replace BK116:=Bt BK116 hb;replace HB:=AA.mk (AP xb hb);(try clear hb)))
 (try simp only [Act.put,List.setIfInBounds_toArray,List.set_cons_zero,List.set_cons_succ]);go_cut [11] (λv11 wc=>∃ (kq:Nat) (x11_2:Bool),v11= .bool x11_2/\AA (AV.j0 kq x11_2 a0_0 a0_1 a0_2 a0_3 a0_4 a0_5 a0_6 a0_7 a0_8 a0_9 a0_10=some r)/\AA (kq<=k)/\AA (wc.heap[gb116]? =some (.cells #[.string a0_0, .string a0_1, .string a0_2, .string a0_3, .int .i64 a0_4, .int .i64 a0_5, .int .i64 a0_6, .bool a0_7, .bool a0_8, .bool a0_9, .int .i64 a0_10] 53 (0,0)))/\AA (Below w.heap.size w wc));case first=>
  have H:=HC3.out;clear HC3;by_cases c7:t118=true
  ·subst c7;have H1:(if t117.toList=a0_0.toList then ((CR.f k t117).bind λt119=>(if t119=true then (AV.j0 k (!a0_7) a0_0 a0_1 a0_2 a0_3 a0_4 a0_5 a0_6 a0_7 a0_8 a0_9 a0_10) else (AV.j0 k false a0_0 a0_1 a0_2 a0_3 a0_4 a0_5 a0_6 a0_7 a0_8 a0_9 a0_10))) else (AV.j0 k (t117.toList != a0_0.toList) a0_0 a0_1 a0_2 a0_3 a0_4 a0_5 a0_6 a0_7 a0_8 a0_9 a0_10))=some r:=by rw [if_pos rfl] at H;exact H
   clear H;have H:=H1;clear H1;by_cases c8:t117.toList=a0_0.toList
   ·rw [if_pos c8] at H;have c8b0:(t117.toList==a0_0.toList)=true:=beq_iff_eq.mpr c8;have c8b1:(t117.toList != a0_0.toList)=false:=bne_eq_false_iff_eq.mpr c8;clear c8;(first|rw [c8b0]|(simp only [DL,DU];rw [c8b0])|skip);replace H:=Option.bind_eq_some_iff.mp H;obtain ⟨t119,A90,H⟩:=H;replace H:(if t119=true then (AV.j0 k (!a0_7) a0_0 a0_1 a0_2 a0_3 a0_4 a0_5 a0_6 a0_7 a0_8 a0_9 a0_10) else (AV.j0 k false a0_0 a0_1 a0_2 a0_3 a0_4 a0_5 a0_6 a0_7 a0_8 a0_9 a0_10))=some r:=H;have A9:=AA.mk A90;clear A90;by_cases c10:t119=true
    ·subst c10;rw [if_pos rfl] at H;have H':=AA.mk H;clear H;obtain ⟨hcz11_0,hcz11_1,hcz11_2,hcz11_3,hcz11_4,hcz11_5,hcz11_6,hcz11_7,hcz11_8,hcz11_9,hcz11_10⟩:=Bv BK116.out;have hfz11_0:=AX BK116.out;go_wp2_with (first|((with_reducible refine AO (f:=65) rfl ?_);refine Ak (some 19) rfl rfl Tryz.func65 (by kernel_rfl) rfl #[.string t117] rfl xg ?_;(with_reducible refine (CR.calls k t117 true _ xl A9.out).mono ?_);rintro e w12 ⟨rfl,hb⟩;refine ⟨_,rfl,?_⟩;replace BK116:=Bt BK116 hb;replace HB:=AA.mk (AP xb hb);(try clear hb);obtain ⟨hcz13_0,hcz13_1,hcz13_2,hcz13_3,hcz13_4,hcz13_5,hcz13_6,hcz13_7,hcz13_8,hcz13_9,hcz13_10⟩:=Bv BK116.out;have hfz13_0:=AX BK116.out));go_meet;case rel=>exact ⟨_,(!a0_7),xq,H',⟨by first|omega|exact Nat.le_refl _⟩,⟨xk⟩,⟨xb⟩⟩
    ·replace c10:=Bool.eq_false_iff.mpr c10;subst c10;have H1:(AV.j0 k false a0_0 a0_1 a0_2 a0_3 a0_4 a0_5 a0_6 a0_7 a0_8 a0_9 a0_10)=some r:=by rw [if_neg (show ¬(false=true) by decide)] at H;exact H
     clear H;have H:=H1;clear H1;have H':=AA.mk H;clear H;obtain ⟨hcz14_0,hcz14_1,hcz14_2,hcz14_3,hcz14_4,hcz14_5,hcz14_6,hcz14_7,hcz14_8,hcz14_9,hcz14_10⟩:=Bv BK116.out;have hfz14_0:=AX BK116.out;go_wp2_with (first|((with_reducible refine AO (f:=65) rfl ?_);refine Ak (some 19) rfl rfl Tryz.func65 (by kernel_rfl) rfl #[.string t117] rfl xg ?_;(with_reducible refine (CR.calls k t117 false _ xl A9.out).mono ?_);rintro e w15 ⟨rfl,hb⟩;refine ⟨_,rfl,?_⟩;replace BK116:=Bt BK116 hb;replace HB:=AA.mk (AP xb hb);(try clear hb)));go_meet;case rel=>exact ⟨_,(false),xq,H',⟨by first|omega|exact Nat.le_refl _⟩,⟨xk⟩,⟨xb⟩⟩
   ·rw [if_neg c8] at H;have c8b0:(t117.toList==a0_0.toList)=false:=beq_eq_false_iff_ne.mpr c8;have c8b1:(t117.toList != a0_0.toList)=true:=bne_iff_ne.mpr c8;(first|rw [c8b0]|(simp only [DL,DU];rw [c8b0])|skip);have H':=AA.mk H;clear H;obtain ⟨hcz16_0,hcz16_1,hcz16_2,hcz16_3,hcz16_4,hcz16_5,hcz16_6,hcz16_7,hcz16_8,hcz16_9,hcz16_10⟩:=Bv BK116.out;have hfz16_0:=AX BK116.out;go_wp2;go_meet;case rel=>exact ⟨_,((t117.toList != a0_0.toList)),xq,H',⟨by first|omega|exact Nat.le_refl _⟩,⟨xk⟩,⟨xb⟩⟩
  ·replace c7:=Bool.eq_false_iff.mpr c7;subst c7;have H1:(AV.j0 k (!false) a0_0 a0_1 a0_2 a0_3 a0_4 a0_5 a0_6 a0_7 a0_8 a0_9 a0_10)=some r:=by rw [if_neg (show ¬(false=true) by decide)] at H;exact H
   clear H;have H:=H1;clear H1;have H':=AA.mk H;clear H;go_wp2;go_meet;case rel=>exact ⟨_,(!false),xq,H',⟨by first|omega|exact Nat.le_refl _⟩,⟨xk⟩,⟨xb⟩⟩
 case rest=>
  clear HC3;try clear c1
  try clear p2
  try clear c3
  try clear p3
  try clear c5
  try clear c6
  try clear p6
  try clear c7
  try clear c8
  try clear c8b0
  try clear c8b1
  try clear c10
  try clear hcz11_0
  try clear hcz11_1
  try clear hcz11_10
  try clear hcz11_2
  try clear hcz11_3
  try clear hcz11_4
  try clear hcz11_5
  try clear hcz11_6
  try clear hcz11_7
  try clear hcz11_8
  try clear hcz11_9
  try clear hcz13_0
  try clear hcz13_1
  try clear hcz13_10
  try clear hcz13_2
  try clear hcz13_3
  try clear hcz13_4
  try clear hcz13_5
  try clear hcz13_6
  try clear hcz13_7
  try clear hcz13_8
  try clear hcz13_9
  try clear hcz14_0
  try clear hcz14_1
  try clear hcz14_10
  try clear hcz14_2
  try clear hcz14_3
  try clear hcz14_4
  try clear hcz14_5
  try clear hcz14_6
  try clear hcz14_7
  try clear hcz14_8
  try clear hcz14_9
  try clear hcz16_0
  try clear hcz16_1
  try clear hcz16_10
  try clear hcz16_2
  try clear hcz16_3
  try clear hcz16_4
  try clear hcz16_5
  try clear hcz16_6
  try clear hcz16_7
  try clear hcz16_8
  try clear hcz16_9
  try clear hcz5_0
  try clear hcz5_1
  try clear hcz5_10
  try clear hcz5_2
  try clear hcz5_3
  try clear hcz5_4
  try clear hcz5_5
  try clear hcz5_6
  try clear hcz5_7
  try clear hcz5_8
  try clear hcz5_9
  try clear hfz11_0
  try clear hfz13_0
  try clear hfz14_0
  try clear hfz16_0
  try clear hfz5_0
  obtain ⟨kq,x11_2,rfl,HA,HJ2,BK116,HB⟩:=hcut;cases kq with
  |zero=>exact absurd HA.out (by simp [AV.j0])
  |succ kj2=>
   have H:=HA.out;clear HA;simp only [AV.j0] at H;by_cases c17:x11_2=true
   ·subst c17;have H1:(some false)=some r:=by rw [if_pos rfl] at H;exact H
    clear H;have H:=H1;clear H1;obtain rfl:=Option.some.inj H;go_wp2;go_ret;exact ⟨xe,xb⟩
   ·replace c17:=Bool.eq_false_iff.mpr c17;subst c17;have H1:((ET.f a0_1).bind λt120=>(if t120=true then ((DT.f a0_2).bind λt121=>(if t121=true then (AV.j1 kj2 (decide ((a0_2.size:Int)>64)) a0_0 a0_1 a0_2 a0_3 a0_4 a0_5 a0_6 a0_7 a0_8 a0_9 a0_10) else (AV.j1 kj2 (!t121) a0_0 a0_1 a0_2 a0_3 a0_4 a0_5 a0_6 a0_7 a0_8 a0_9 a0_10))) else (AV.j1 kj2 (!t120) a0_0 a0_1 a0_2 a0_3 a0_4 a0_5 a0_6 a0_7 a0_8 a0_9 a0_10)))=some r:=by rw [if_neg (show ¬(false=true) by decide)] at H;exact H
    clear H;have H:=H1;clear H1;replace H:=Option.bind_eq_some_iff.mp H;obtain ⟨t120,A180,H⟩:=H;replace H:(if t120=true then ((DT.f a0_2).bind λt121=>(if t121=true then (AV.j1 kj2 (decide ((a0_2.size:Int)>64)) a0_0 a0_1 a0_2 a0_3 a0_4 a0_5 a0_6 a0_7 a0_8 a0_9 a0_10) else (AV.j1 kj2 (!t121) a0_0 a0_1 a0_2 a0_3 a0_4 a0_5 a0_6 a0_7 a0_8 a0_9 a0_10))) else (AV.j1 kj2 (!t120) a0_0 a0_1 a0_2 a0_3 a0_4 a0_5 a0_6 a0_7 a0_8 a0_9 a0_10))=some r:=H;have A18:=AA.mk A180;clear A180;have HC19:=AA.mk H;clear H;obtain ⟨hcz20_0,hcz20_1,hcz20_2,hcz20_3,hcz20_4,hcz20_5,hcz20_6,hcz20_7,hcz20_8,hcz20_9,hcz20_10⟩:=Bv BK116.out;have hfz20_0:=AX BK116.out;go_upto_if 25 with (first|((with_reducible refine AO (f:=66) rfl ?_);refine Ak (some 28) rfl rfl Tryz.func66 (by kernel_rfl) rfl #[.string a0_1] rfl xg ?_;(with_reducible refine (ET.calls a0_1 t120 _ A18.out).mono ?_);rintro e w' ⟨rfl,⟨nd,rfl⟩⟩;refine ⟨_,rfl,?_⟩))
    (try simp only [Act.put,List.setIfInBounds_toArray,List.set_cons_zero,List.set_cons_succ]);go_cut [25] (λv25 wc=>∃ (kq:Nat) (x25_18:Bool),v25= .bool x25_18/\AA (AV.j1 kq x25_18 a0_0 a0_1 a0_2 a0_3 a0_4 a0_5 a0_6 a0_7 a0_8 a0_9 a0_10=some r)/\AA (kq<=kj2)/\AA (wc.heap[gb116]? =some (.cells #[.string a0_0, .string a0_1, .string a0_2, .string a0_3, .int .i64 a0_4, .int .i64 a0_5, .int .i64 a0_6, .bool a0_7, .bool a0_8, .bool a0_9, .int .i64 a0_10] 53 (0,0)))/\AA (Below w.heap.size w wc));case first=>
     have H:=HC19.out;clear HC19;by_cases c21:t120=true
     ·subst c21;have H1:((DT.f a0_2).bind λt121=>(if t121=true then (AV.j1 kj2 (decide ((a0_2.size:Int)>64)) a0_0 a0_1 a0_2 a0_3 a0_4 a0_5 a0_6 a0_7 a0_8 a0_9 a0_10) else (AV.j1 kj2 (!t121) a0_0 a0_1 a0_2 a0_3 a0_4 a0_5 a0_6 a0_7 a0_8 a0_9 a0_10)))=some r:=by rw [if_pos rfl] at H;exact H
      clear H;have H:=H1;clear H1;replace H:=Option.bind_eq_some_iff.mp H;obtain ⟨t121,A220,H⟩:=H;replace H:(if t121=true then (AV.j1 kj2 (decide ((a0_2.size:Int)>64)) a0_0 a0_1 a0_2 a0_3 a0_4 a0_5 a0_6 a0_7 a0_8 a0_9 a0_10) else (AV.j1 kj2 (!t121) a0_0 a0_1 a0_2 a0_3 a0_4 a0_5 a0_6 a0_7 a0_8 a0_9 a0_10))=some r:=H;have A22:=AA.mk A220;clear A220;by_cases c23:t121=true
      ·subst c23;rw [if_pos rfl] at H;have H':=AA.mk H;clear H;obtain ⟨hcz24_0,hcz24_1,hcz24_2,hcz24_3,hcz24_4,hcz24_5,hcz24_6,hcz24_7,hcz24_8,hcz24_9,hcz24_10⟩:=Bv BK116.out;have hfz24_0:=AX BK116.out;go_wp2_with (first|((with_reducible refine AO (f:=67) rfl ?_);refine Ak (some 32) rfl rfl Tryz.func67 (by kernel_rfl) rfl #[.string a0_2] rfl xg ?_;(with_reducible refine (DT.calls a0_2 true _ A22.out).mono ?_);rintro e w' ⟨rfl,⟨nd,rfl⟩⟩;refine ⟨_,rfl,?_⟩));go_meet;case rel=>exact ⟨_,(decide ((a0_2.size:Int)>64)),xq,H',⟨by have:=HJ2.out;first|omega|exact Nat.le_refl _⟩,⟨xk⟩,⟨xb⟩⟩
      ·replace c23:=Bool.eq_false_iff.mpr c23;subst c23;have H1:(AV.j1 kj2 (!false) a0_0 a0_1 a0_2 a0_3 a0_4 a0_5 a0_6 a0_7 a0_8 a0_9 a0_10)=some r:=by rw [if_neg (show ¬(false=true) by decide)] at H;exact H
       clear H;have H:=H1;clear H1;have H':=AA.mk H;clear H;obtain ⟨hcz25_0,hcz25_1,hcz25_2,hcz25_3,hcz25_4,hcz25_5,hcz25_6,hcz25_7,hcz25_8,hcz25_9,hcz25_10⟩:=Bv BK116.out;have hfz25_0:=AX BK116.out;go_wp2_with (first|((with_reducible refine AO (f:=67) rfl ?_);refine Ak (some 32) rfl rfl Tryz.func67 (by kernel_rfl) rfl #[.string a0_2] rfl xg ?_;(with_reducible refine (DT.calls a0_2 false _ A22.out).mono ?_);rintro e w' ⟨rfl,⟨nd,rfl⟩⟩;refine ⟨_,rfl,?_⟩));go_meet;case rel=>exact ⟨_,(!false),xq,H',⟨by have:=HJ2.out;first|omega|exact Nat.le_refl _⟩,⟨xk⟩,⟨xb⟩⟩
     ·replace c21:=Bool.eq_false_iff.mpr c21;subst c21;have H1:(AV.j1 kj2 (!false) a0_0 a0_1 a0_2 a0_3 a0_4 a0_5 a0_6 a0_7 a0_8 a0_9 a0_10)=some r:=by rw [if_neg (show ¬(false=true) by decide)] at H;exact H
      clear H;have H:=H1;clear H1;have H':=AA.mk H;clear H;go_wp2;go_meet;case rel=>exact ⟨_,(!false),xq,H',⟨by have:=HJ2.out;first|omega|exact Nat.le_refl _⟩,⟨xk⟩,⟨xb⟩⟩
    case rest=>
     clear HC19;try clear c1
     try clear c2
     try clear p2
     try clear c3
     try clear p3
     try clear c5
     try clear c6
     try clear p6
     try clear c7
     try clear c8
     try clear c8b0
     try clear c8b1
     try clear c10
     try clear c17
     try clear c21
     try clear c23
     try clear hcz11_0
     try clear hcz11_1
     try clear hcz11_10
     try clear hcz11_2
     try clear hcz11_3
     try clear hcz11_4
     try clear hcz11_5
     try clear hcz11_6
     try clear hcz11_7
     try clear hcz11_8
     try clear hcz11_9
     try clear hcz13_0
     try clear hcz13_1
     try clear hcz13_10
     try clear hcz13_2
     try clear hcz13_3
     try clear hcz13_4
     try clear hcz13_5
     try clear hcz13_6
     try clear hcz13_7
     try clear hcz13_8
     try clear hcz13_9
     try clear hcz14_0
     try clear hcz14_1
     try clear hcz14_10
     try clear hcz14_2
     try clear hcz14_3
     try clear hcz14_4
     try clear hcz14_5
     try clear hcz14_6
     try clear hcz14_7
     try clear hcz14_8
     try clear hcz14_9
     try clear hcz16_0
     try clear hcz16_1
     try clear hcz16_10
     try clear hcz16_2
     try clear hcz16_3
     try clear hcz16_4
     try clear hcz16_5
     try clear hcz16_6
     try clear hcz16_7
     try clear hcz16_8
     try clear hcz16_9
     try clear hcz20_0
     try clear hcz20_1
     try clear hcz20_10
     try clear hcz20_2
     try clear hcz20_3
     try clear hcz20_4
     try clear hcz20_5
     try clear hcz20_6
     try clear hcz20_7
     try clear hcz20_8
     try clear hcz20_9
     try clear hcz24_0
     try clear hcz24_1
     try clear hcz24_10
     try clear hcz24_2
     try clear hcz24_3
     try clear hcz24_4
     try clear hcz24_5
     try clear hcz24_6
     try clear hcz24_7
     try clear hcz24_8
     try clear hcz24_9
     try clear hcz25_0
     try clear hcz25_1
     try clear hcz25_10
     try clear hcz25_2
     try clear hcz25_3
     try clear hcz25_4
     try clear hcz25_5
     try clear hcz25_6
     try clear hcz25_7
     try clear hcz25_8
     try clear hcz25_9
     try clear hcz5_0
     try clear hcz5_1
     try clear hcz5_10
     try clear hcz5_2
     try clear hcz5_3
     try clear hcz5_4
     try clear hcz5_5
     try clear hcz5_6
     try clear hcz5_7
     try clear hcz5_8
     try clear hcz5_9
     try clear hfz11_0
     try clear hfz13_0
     try clear hfz14_0
     try clear hfz16_0
     try clear hfz20_0
     try clear hfz24_0
     try clear hfz25_0
     try clear hfz5_0
     try clear p2
     try clear p3
     try clear p6
     obtain ⟨kq,x25_18,rfl,HA,HJ18,BK116,HB⟩:=hcut;cases kq with
     |zero=>exact absurd HA.out (by simp [AV.j1])
     |succ kj18=>
      have H:=HA.out;clear HA;simp only [AV.j1] at H;by_cases c26:x25_18=true
      ·subst c26;have H1:(some false)=some r:=by rw [if_pos rfl] at H;exact H
       clear H;have H:=H1;clear H1;obtain rfl:=Option.some.inj H;go_wp2;go_ret;exact ⟨xe,xb⟩
      ·replace c26:=Bool.eq_false_iff.mpr c26;subst c26;have H1:((Cw.f a0_3).bind λt122=>(if t122=true then (if (a0_3.size:Int)>128 then (some false) else ((DN.f 253402300799 a0_4 a0_5 a0_6).bind λt123=>(if t123=true then (if a0_10>=0 then (some (decide (a0_10<=3))) else (some false)) else (some false)))) else (some false)))=some r:=by rw [if_neg (show ¬(false=true) by decide)] at H;exact H
       clear H;have H:=H1;clear H1;replace H:=Option.bind_eq_some_iff.mp H;obtain ⟨t122,A270,H⟩:=H;replace H:(if t122=true then (if (a0_3.size:Int)>128 then (some false) else ((DN.f 253402300799 a0_4 a0_5 a0_6).bind λt123=>(if t123=true then (if a0_10>=0 then (some (decide (a0_10<=3))) else (some false)) else (some false)))) else (some false))=some r:=H;have A27:=AA.mk A270;clear A270;by_cases c28:t122=true
       ·subst c28;rw [if_pos rfl] at H;by_cases c29:(a0_3.size:Int)>128
        ·rw [if_pos c29] at H;have c29b0:decide (128<(a0_3.size:Int))=true:=decide_eq_true c29;have c29b1:decide (128<a0_3.size)=true:=decide_eq_true (by omega);clear c29;obtain rfl:=Option.some.inj H;obtain ⟨hcz30_0,hcz30_1,hcz30_2,hcz30_3,hcz30_4,hcz30_5,hcz30_6,hcz30_7,hcz30_8,hcz30_9,hcz30_10⟩:=Bv BK116.out;have hfz30_0:=AX BK116.out;go_wp2_with (first|((with_reducible refine AO (f:=68) rfl ?_);refine Ak (some 41) rfl rfl Tryz.func68 (by kernel_rfl) rfl #[.string a0_3] rfl xg ?_;(with_reducible refine (Cw.calls a0_3 true _ A27.out).mono ?_);rintro e w' ⟨rfl,⟨nd,rfl⟩⟩;refine ⟨_,rfl,?_⟩));go_ret;exact ⟨xe,xb⟩
        ·rw [if_neg c29] at H;have c29b0:decide (128<(a0_3.size:Int))=false:=decide_eq_false c29;have c29b1:decide (128<a0_3.size)=false:=decide_eq_false (by omega);clear c29;replace H:=Option.bind_eq_some_iff.mp H;obtain ⟨t123,A310,H⟩:=H;replace H:(if t123=true then (if a0_10>=0 then (some (decide (a0_10<=3))) else (some false)) else (some false))=some r:=H;have A31:=AA.mk A310;clear A310;by_cases c32:t123=true
         ·subst c32;rw [if_pos rfl] at H;by_cases c33:a0_10>=0
          ·rw [if_pos c33] at H;have c33b0:decide (0<=a0_10)=true:=decide_eq_true c33;clear c33;obtain rfl:=Option.some.inj H;obtain ⟨hcz34_0,hcz34_1,hcz34_2,hcz34_3,hcz34_4,hcz34_5,hcz34_6,hcz34_7,hcz34_8,hcz34_9,hcz34_10⟩:=Bv BK116.out;have hfz34_0:=AX BK116.out;go_wp2_with (first|((with_reducible refine AO (f:=68) rfl ?_);refine Ak (some 41) rfl rfl Tryz.func68 (by kernel_rfl) rfl #[.string a0_3] rfl xg ?_;(with_reducible refine (Cw.calls a0_3 true _ A27.out).mono ?_);rintro e w' ⟨rfl,⟨nd,rfl⟩⟩;refine ⟨_,rfl,?_⟩)|((with_reducible refine AO (f:=69) rfl ?_);refine Ak (some 54) rfl rfl Tryz.func69 (by kernel_rfl) rfl #[.int .i64 253402300799, .agg #[.int .i64 a0_4, .int .i64 a0_5, .int .i64 a0_6]] rfl xg ?_;(with_reducible refine (DN.calls 253402300799 a0_4 a0_5 a0_6 true _ A31.out).mono ?_);rintro e w35 ⟨rfl,hb⟩;refine ⟨_,rfl,?_⟩;replace BK116:=Bt BK116 hb;replace HB:=AA.mk (AP xb hb);(try clear hb);obtain ⟨hcz36_0,hcz36_1,hcz36_2,hcz36_3,hcz36_4,hcz36_5,hcz36_6,hcz36_7,hcz36_8,hcz36_9,hcz36_10⟩:=Bv BK116.out;have hfz36_0:=AX BK116.out));go_ret;exact ⟨xe,xb⟩
          ·rw [if_neg c33] at H;have c33b0:decide (0<=a0_10)=false:=decide_eq_false c33;clear c33;obtain rfl:=Option.some.inj H;obtain ⟨hcz37_0,hcz37_1,hcz37_2,hcz37_3,hcz37_4,hcz37_5,hcz37_6,hcz37_7,hcz37_8,hcz37_9,hcz37_10⟩:=Bv BK116.out;have hfz37_0:=AX BK116.out;go_wp2_with (first|((with_reducible refine AO (f:=68) rfl ?_);refine Ak (some 41) rfl rfl Tryz.func68 (by kernel_rfl) rfl #[.string a0_3] rfl xg ?_;(with_reducible refine (Cw.calls a0_3 true _ A27.out).mono ?_);rintro e w' ⟨rfl,⟨nd,rfl⟩⟩;refine ⟨_,rfl,?_⟩)|((with_reducible refine AO (f:=69) rfl ?_);refine Ak (some 54) rfl rfl Tryz.func69 (by kernel_rfl) rfl #[.int .i64 253402300799, .agg #[.int .i64 a0_4, .int .i64 a0_5, .int .i64 a0_6]] rfl xg ?_;(with_reducible refine (DN.calls 253402300799 a0_4 a0_5 a0_6 true _ A31.out).mono ?_);rintro e w38 ⟨rfl,hb⟩;refine ⟨_,rfl,?_⟩;replace BK116:=Bt BK116 hb;replace HB:=AA.mk (AP xb hb);(try clear hb);obtain ⟨hcz39_0,hcz39_1,hcz39_2,hcz39_3,hcz39_4,hcz39_5,hcz39_6,hcz39_7,hcz39_8,hcz39_9,hcz39_10⟩:=Bv BK116.out;have hfz39_0:=AX BK116.out));go_ret;exact ⟨xe,xb⟩
         ·replace c32:=Bool.eq_false_iff.mpr c32;subst c32;rw [if_neg Bool.false_ne_true] at H;obtain rfl:=Option.some.inj H;obtain ⟨hcz40_0,hcz40_1,hcz40_2,hcz40_3,hcz40_4,hcz40_5,hcz40_6,hcz40_7,hcz40_8,hcz40_9,hcz40_10⟩:=Bv BK116.out;have hfz40_0:=AX BK116.out;go_wp2_with (first|((with_reducible refine AO (f:=68) rfl ?_);refine Ak (some 41) rfl rfl Tryz.func68 (by kernel_rfl) rfl #[.string a0_3] rfl xg ?_;(with_reducible refine (Cw.calls a0_3 true _ A27.out).mono ?_);rintro e w' ⟨rfl,⟨nd,rfl⟩⟩;refine ⟨_,rfl,?_⟩)|((with_reducible refine AO (f:=69) rfl ?_);refine Ak (some 54) rfl rfl Tryz.func69 (by kernel_rfl) rfl #[.int .i64 253402300799, .agg #[.int .i64 a0_4, .int .i64 a0_5, .int .i64 a0_6]] rfl xg ?_;(with_reducible refine (DN.calls 253402300799 a0_4 a0_5 a0_6 false _ A31.out).mono ?_);rintro e w41 ⟨rfl,hb⟩;refine ⟨_,rfl,?_⟩;replace BK116:=Bt BK116 hb;replace HB:=AA.mk (AP xb hb);(try clear hb)));go_ret;exact ⟨xe,xb⟩
       ·replace c28:=Bool.eq_false_iff.mpr c28;subst c28;have H1:(some false)=some r:=by rw [if_neg (show ¬(false=true) by decide)] at H;exact H
        clear H;have H:=H1;clear H1;obtain rfl:=Option.some.inj H;obtain ⟨hcz42_0,hcz42_1,hcz42_2,hcz42_3,hcz42_4,hcz42_5,hcz42_6,hcz42_7,hcz42_8,hcz42_9,hcz42_10⟩:=Bv BK116.out;have hfz42_0:=AX BK116.out;go_wp2_with (first|((with_reducible refine AO (f:=68) rfl ?_);refine Ak (some 41) rfl rfl Tryz.func68 (by kernel_rfl) rfl #[.string a0_3] rfl xg ?_;(with_reducible refine (Cw.calls a0_3 false _ A27.out).mono ?_);rintro e w' ⟨rfl,⟨nd,rfl⟩⟩;refine ⟨_,rfl,?_⟩));go_ret;exact ⟨xe,xb⟩
end Go.Proofs.YtikggnalmidlhaaGreatDoor.Print
end
