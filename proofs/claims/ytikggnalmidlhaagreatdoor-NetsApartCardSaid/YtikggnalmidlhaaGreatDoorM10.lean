/- Several parts of the claim's proof in one text, said short by a program of this session. No condition. -/
import Derived.Test.YtikggnalmidlhaaGreatDoorM5
section
namespace Go.Proofs.YtikggnalmidlhaaGreatDoor.Print
open RowKit AR Aa Ad
attribute [local go_sem] BM BN Bo Bp BC BD BO BP
set_option linter.unusedVariables false
set_option linter.unusedSimpArgs false
def BA.l0:Nat->ByteArray->Int->Option (Bool)
 |0,_,_=>none
 |k+1,x0,x3=>if x3<(x0.size:Int) then (if 0<=x3 then ((Cr.f (bt x0 x3)).bind λt291=>(if t291=true then (BA.l0 k x0 (wrap64 (x3+1))) else (some false))) else (none)) else (some true)
def BA.f (k:Nat) (a0:ByteArray):Option (Bool):=BA.l0 k a0 0
set_option maxHeartbeats 8000000 in
set_option maxRecDepth 100000 in
theorem BA.calls (k:Nat) (a0:ByteArray) (r:Bool) (w:World) (h:BA.f k a0=some r):
 Calls Tryz.prog 96 #[.string a0] w λe w'=>e= .returned (.bool r)/\Ap w w':=by
 have H:(BA.l0 k a0 0)=some r:=h;clear h;have H':=AA.mk H;clear H;go_enter Tryz.func96,Tryz.ntmps96;go_wp2;go_loopg [3] k (λkq v3 w'=>∃ (x3_1:Int),v3= .int .i64 x3_1/\AA (BA.l0 kq a0 x3_1=some r)/\AA (kq<=k)/\Ap w w');case atStart=>exact ⟨(0),xq,H',⟨Nat.le_refl _⟩,xd⟩
 case round=>
  clear H';obtain ⟨x3_1,rfl,HA,HK1,⟨m1,rfl⟩⟩:=hrel;cases gk with
  |zero=>exact absurd HA.out (by simp [BA.l0])
  |succ k1=>
   have H:=HA.out;clear HA;simp only [BA.l0] at H;by_cases c2:x3_1<(a0.size:Int)
   ·rw [if_pos c2] at H;have c2b0:decide (x3_1<(a0.size:Int))=true:=decide_eq_true c2;clear c2;by_cases c3:0<=x3_1
    ·rw [if_pos c3] at H;have c3b0:decide (0<=x3_1)=true:=decide_eq_true c3;clear c3;replace H:=Option.bind_eq_some_iff.mp H;obtain ⟨t291,A50,H⟩:=H;replace H:(if t291=true then (BA.l0 k1 a0 (wrap64 (x3_1+1))) else (some false))=some r:=H;have A5:=AA.mk A50;clear A50;by_cases c6:t291=true
     ·subst c6;rw [if_pos rfl] at H;have H':=AA.mk H;clear H;have p4:0<=(x3_1:Int):=xa;have q4:x3_1<(a0.size:Int):=xa;have hx4:=Br a0 x3_1;replace p4:=eq_true p4;replace q4:=eq_true q4;go_wp2_with (first|((with_reducible refine AO (f:=122) rfl ?_);refine Ak (some 13) rfl rfl Tryz.func122 (by kernel_rfl) rfl #[.int .u8 (bt a0 x3_1)] rfl xg ?_;(with_reducible refine (Cr.calls (bt a0 x3_1) true _ A5.out).mono ?_);rintro e w' ⟨rfl,⟨nd,rfl⟩⟩;refine ⟨_,rfl,?_⟩));go_roundg k1;case measure=>have:=HK1.out;omega
      case rel=>exact ⟨(wrap64 (x3_1+1)),xq,H',⟨by have:=HK1.out;omega⟩,xd⟩
     ·replace c6:=Bool.eq_false_iff.mpr c6;subst c6;have H1:(some false)=some r:=by rw [if_neg (show ¬(false=true) by decide)] at H;exact H
      clear H;have H:=H1;clear H1;obtain rfl:=Option.some.inj H;have p4:0<=(x3_1:Int):=xa;have q4:x3_1<(a0.size:Int):=xa;have hx4:=Br a0 x3_1;replace p4:=eq_true p4;replace q4:=eq_true q4;go_wp2_with (first|((with_reducible refine AO (f:=122) rfl ?_);refine Ak (some 13) rfl rfl Tryz.func122 (by kernel_rfl) rfl #[.int .u8 (bt a0 x3_1)] rfl xg ?_;(with_reducible refine (Cr.calls (bt a0 x3_1) false _ A5.out).mono ?_);rintro e w' ⟨rfl,⟨nd,rfl⟩⟩;refine ⟨_,rfl,?_⟩));go_ret;exact ⟨xq,xd⟩
    ·rw [if_neg c3] at H;exact absurd H (by simp)
   ·rw [if_neg c2] at H;have c2b0:decide (x3_1<(a0.size:Int))=false:=decide_eq_false c2;clear c2;obtain rfl:=Option.some.inj H;go_wp2;go_ret;exact ⟨xq,xd⟩
end Go.Proofs.YtikggnalmidlhaaGreatDoor.Print
end
section
namespace Go.Proofs.YtikggnalmidlhaaGreatDoor.Print
open RowKit AR Aa Ad
attribute [local go_sem] BM BN Bo Bp BC BD BO BP
set_option linter.unusedVariables false
set_option linter.unusedSimpArgs false
def Bc.f (a0_0:ByteArray) (a0_1:ByteArray) (a0_2:ByteArray) (a0_3:ByteArray) (a0_4:Int) (a0_5:Int) (a0_6:Int) (a0_7:Bool) (a0_8:Bool) (a0_9:Bool) (a0_10:Int):Option (ByteArray×ByteArray×ByteArray):=some (a0_0,a0_1,a0_2)
set_option maxHeartbeats 8000000 in
set_option maxRecDepth 100000 in
theorem Bc.calls (a0_0:ByteArray) (a0_1:ByteArray) (a0_2:ByteArray) (a0_3:ByteArray) (a0_4:Int) (a0_5:Int) (a0_6:Int) (a0_7:Bool) (a0_8:Bool) (a0_9:Bool) (a0_10:Int) (r1:ByteArray) (r2:ByteArray) (r3:ByteArray) (w:World) (h:Bc.f a0_0 a0_1 a0_2 a0_3 a0_4 a0_5 a0_6 a0_7 a0_8 a0_9 a0_10=some (r1,r2,r3)):
 Calls Tryz.prog 98 #[.agg #[.string a0_0, .string a0_1, .string a0_2, .string a0_3, .int .i64 a0_4, .int .i64 a0_5, .int .i64 a0_6, .bool a0_7, .bool a0_8, .bool a0_9, .int .i64 a0_10]] w λe w'=>e= .returned (.agg #[.string r1, .string r2, .string r3])/\Below w.heap.size w w':=by
 have hu53:=Tryz.underlying53;have hu114:=Tryz.underlying114;have HB:=AA.mk (Below.refl w.heap.size w);have H:(some (a0_0,a0_1,a0_2))=some (r1,r2,r3):=h;clear h;simp only [Option.some.injEq,Prod.mk.injEq] at H;obtain ⟨rfl,rfl,rfl⟩:=H;go_enter Tryz.func98,Tryz.ntmps98;go_wp2_with (first|(refine Dk (N:=1) (cs:=#[.string a0_0, .string a0_1, .string a0_2, .string a0_3, .int .i64 a0_4, .int .i64 a0_5, .int .i64 a0_6, .bool a0_7, .bool a0_8, .bool a0_9, .int .i64 a0_10]) (t:=53) (λgb299 hg w2 hbox hb=>?_);have BK299:=AA.mk (hbox);have GW299:AA (w.heap.size<=gb299):=Dp hg xb;have GE299:AA (w.heap.size<=gb299):=Dp hg xb;replace HB:=AA.mk (AP xb hb);clear hb hbox hg)|(refine Dk (N:=2) (cs:=#[.string (⟨#[]⟩:ByteArray), .string (⟨#[]⟩:ByteArray), .string (⟨#[]⟩:ByteArray)]) (t:=114) (λgb300 hg w3 hbox hb=>?_);have BK300:=AA.mk (hbox);have GW300:AA (w.heap.size<=gb300):=Dp hg xb;have GE300:AA (w.heap.size<=gb300):=Dp hg xb;replace HB:=AA.mk (AP xb hb);have NB299_300:=G9 hg (Cz BK299);have NB300_299:=HZ hg (Cz BK299);replace BK299:=Bt BK299 hb;clear hb hbox hg;have hnb4:=NB299_300.out;have hnc4:=NB300_299.out;obtain ⟨hcz5_0,hcz5_1,hcz5_2,hcz5_3,hcz5_4,hcz5_5,hcz5_6,hcz5_7,hcz5_8,hcz5_9,hcz5_10⟩:=Bv BK299.out;have hfz5_0:=AX BK299.out;obtain ⟨hcz6_0,hcz6_1,hcz6_2⟩:=cells3 BK300.out;have hfz6_0:=AX BK300.out));refine bodyPost_ret (results_cell_row rfl _ _ gb300 114 #[.string a0_0, .string a0_1, .string a0_2] (0,0) _ rfl xk Tryz.underlying114 rfl (by kernel_rfl)) rfl ?_;exact ⟨xe,xb⟩
end Go.Proofs.YtikggnalmidlhaaGreatDoor.Print
end
section
namespace Go.Proofs.YtikggnalmidlhaaGreatDoor.Print
open RowKit AR Aa Ad
attribute [local go_sem] BM BN Bo Bp BC BD BO BP
set_option linter.unusedVariables false
set_option linter.unusedSimpArgs false
def CW.f (a0:Int) (a1:Int):Option (Int):=if a0<a1 then (some (-1)) else (if a0>a1 then (some 1) else (some 0))
set_option maxHeartbeats 8000000 in
set_option maxRecDepth 100000 in
theorem CW.calls (a0:Int) (a1:Int) (r:Int) (w:World) (h:CW.f a0 a1=some r):
 Calls Tryz.prog 136 #[.int .i64 a0, .int .i64 a1] w λe w'=>e= .returned (.int .i64 r)/\Ap w w':=by
 have H:(if a0<a1 then (some (-1)) else (if a0>a1 then (some 1) else (some 0)))=some r:=h;clear h;by_cases c3:a0<a1
 ·rw [if_pos c3] at H;have c3b0:decide (a0<a1)=true:=decide_eq_true c3;clear c3;obtain rfl:=Option.some.inj H;go_enter Tryz.func136,Tryz.ntmps136;go_wp2;go_ret;exact ⟨xq,xd⟩
 ·rw [if_neg c3] at H;have c3b0:decide (a0<a1)=false:=decide_eq_false c3;clear c3;by_cases c4:a0>a1
  ·rw [if_pos c4] at H;have c4b0:decide (a1<a0)=true:=decide_eq_true c4;clear c4;obtain rfl:=Option.some.inj H;go_enter Tryz.func136,Tryz.ntmps136;go_wp2;go_ret;exact ⟨xq,xd⟩
  ·rw [if_neg c4] at H;have c4b0:decide (a1<a0)=false:=decide_eq_false c4;clear c4;obtain rfl:=Option.some.inj H;go_enter Tryz.func136,Tryz.ntmps136;go_wp2;go_ret;exact ⟨xq,xd⟩
end Go.Proofs.YtikggnalmidlhaaGreatDoor.Print
end
section
namespace Go.Proofs.YtikggnalmidlhaaGreatDoor.Print
open RowKit AR Aa Ad
attribute [local go_sem] BM BN Bo Bp BC BD BO BP
set_option linter.unusedVariables false
set_option linter.unusedSimpArgs false
def BU.l0:Nat->List (CU)->ByteArray->Int->Int->Option (Int)
 |0,_,_,_,_=>none
 |k+1,x0,x1,x5,x6=>if x6<(x0.length:Int) then (if 0<=x6 then (if ((AB x0 x6).f0).toList=x1.toList then (BU.l0 k x0 x1 (wrap64 (x5+1)) (wrap64 (x6+1))) else (BU.l0 k x0 x1 x5 (wrap64 (x6+1)))) else (none)) else (some x5)
def BU.f (k:Nat) (l0:List (CU)) (a1:ByteArray):Option (Int):=BU.l0 k l0 a1 0 0
set_option maxHeartbeats 8000000 in
set_option maxRecDepth 100000 in
theorem BU.calls (k:Nat) (A0:Option Addr) (c0:Nat) (l0:List (CU)) (a1:ByteArray) (r:Int) (w:World) (hr0:Kd.C Fu w A0 l0.length l0) (hc0:l0.length<=c0) (h:BU.f k l0 a1=some r):
 Calls Tryz.prog 100 #[.slice A0 l0.length c0, .string a1] w λe w'=>e= .returned (.int .i64 r)/\Ap w w':=by
 have HR0:=AA.mk hr0;have HC0:=AA.mk hc0;clear hr0 hc0;have H:(BU.l0 k l0 a1 0 0)=some r:=h;clear h;have H':=AA.mk H;clear H;go_enter Tryz.func100,Tryz.ntmps100;go_wp2;go_loopg [5,6] k (λkq v5 v6 w'=>∃ (x5_1:Int) (x6_1:Int),v5= .int .i64 x5_1/\v6= .int .i64 x6_1/\AA (BU.l0 kq l0 a1 x5_1 x6_1=some r)/\AA (kq<=k)/\Ap w w');case atStart=>exact ⟨(0),(0),xq,xq,H',⟨Nat.le_refl _⟩,xd⟩
 case round=>
  clear H';try clear c1
  try clear p2
  obtain ⟨x5_1,x6_1,rfl,rfl,HA,HK1,⟨m1,rfl⟩⟩:=hrel;cases gk with
  |zero=>exact absurd HA.out (by simp [BU.l0])
  |succ k1=>
   have H:=HA.out;clear HA;simp only [BU.l0] at H;by_cases c3:x6_1<(l0.length:Int)
   ·rw [if_pos c3] at H;have c3b0:decide (x6_1<(l0.length:Int))=true:=decide_eq_true c3;clear c3;by_cases c4:0<=x6_1
    ·rw [if_pos c4] at H;have c4b0:decide (0<=x6_1)=true:=decide_eq_true c4;clear c4;by_cases c5:((AB l0 x6_1).f0).toList=a1.toList
     ·rw [if_pos c5] at H;have c5b0:(((AB l0 x6_1).f0).toList==a1.toList)=true:=beq_iff_eq.mpr c5;have c5b1:(((AB l0 x6_1).f0).toList != a1.toList)=false:=bne_eq_false_iff_eq.mpr c5;clear c5;have H':=AA.mk H;clear H;have p349:0<=(x6_1:Int):=xa;have q349:x6_1<(l0.length:Int):=xa;obtain ⟨ad349,e349,hx349_0,hx349_1,hx349_2,hx349_3,hx349_4,hx349_5,hx349_6,hx349_7,hx349_8,hx349_9,hx349_10⟩:=Ce HR0.out x6_1 p349 q349;cases e349;replace p349:=eq_true p349;replace q349:=eq_true q349;go_wp2;go_roundg k1;case measure=>have:=HK1.out;omega
      case rel=>exact ⟨(wrap64 (x5_1+1)),(wrap64 (x6_1+1)),xq,xq,H',⟨by have:=HK1.out;omega⟩,xd⟩
     ·rw [if_neg c5] at H;have c5b0:(((AB l0 x6_1).f0).toList==a1.toList)=false:=beq_eq_false_iff_ne.mpr c5;have c5b1:(((AB l0 x6_1).f0).toList != a1.toList)=true:=bne_iff_ne.mpr c5;have H':=AA.mk H;clear H;have p349:0<=(x6_1:Int):=xa;have q349:x6_1<(l0.length:Int):=xa;obtain ⟨ad349,e349,hx349_0,hx349_1,hx349_2,hx349_3,hx349_4,hx349_5,hx349_6,hx349_7,hx349_8,hx349_9,hx349_10⟩:=Ce HR0.out x6_1 p349 q349;cases e349;replace p349:=eq_true p349;replace q349:=eq_true q349;go_wp2;go_roundg k1;case measure=>have:=HK1.out;omega
      case rel=>exact ⟨(x5_1),(wrap64 (x6_1+1)),xq,xq,H',⟨by have:=HK1.out;omega⟩,xd⟩
    ·rw [if_neg c4] at H;exact absurd H (by simp)
   ·rw [if_neg c3] at H;have c3b0:decide (x6_1<(l0.length:Int))=false:=decide_eq_false c3;clear c3;obtain rfl:=Option.some.inj H;go_wp2;go_ret;exact ⟨xq,xd⟩
end Go.Proofs.YtikggnalmidlhaaGreatDoor.Print
end
section
namespace Go.Proofs.YtikggnalmidlhaaGreatDoor.Print
open RowKit AR Aa Ad
attribute [local go_sem] BM BN Bo Bp BC BD BO BP
set_option linter.unusedVariables false
set_option linter.unusedSimpArgs false
def Vb.l0:Nat->ByteArray->List ByteArray->Int->Int->Option (List ByteArray)
 |0,_,_,_,_=>none
 |k+1,x0,x3,x4,x5=>if x5<(x0.size:Int) then (if 0<=x5 then (if (bt x0 x5)=10 then (if x5>x4 then (if 0<=(wrap64 (x5 - 1)) then (if (wrap64 (x5 - 1))<(x0.size:Int) then (if (bt x0 (wrap64 (x5 - 1)))=13 then (if 0<=x4 then (if x4<=(wrap64 (x5 - 1)) then (if (wrap64 (x5 - 1))<=(x0.size:Int) then (if x3.length<8796093022208 then (Vb.l0 k x0 (x3++[x0.extract (x4:Int).toNat ((wrap64 (x5 - 1)):Int).toNat]) (wrap64 (x5+1)) (wrap64 (x5+1))) else (none)) else (none)) else (none)) else (none)) else (if 0<=x4 then (if x4<=x5 then (if x5<=(x0.size:Int) then (if x3.length<8796093022208 then (Vb.l0 k x0 (x3++[x0.extract (x4:Int).toNat (x5:Int).toNat]) (wrap64 (x5+1)) (wrap64 (x5+1))) else (none)) else (none)) else (none)) else (none))) else (none)) else (none)) else (if 0<=x4 then (if x4<=x5 then (if x5<=(x0.size:Int) then (if x3.length<8796093022208 then (Vb.l0 k x0 (x3++[x0.extract (x4:Int).toNat (x5:Int).toNat]) (wrap64 (x5+1)) (wrap64 (x5+1))) else (none)) else (none)) else (none)) else (none))) else (Vb.l0 k x0 x3 x4 (wrap64 (x5+1)))) else (none)) else (if x4<(x0.size:Int) then (if 0<=x4 then (if x4<=(x0.size:Int) then (if x3.length<8796093022208 then (some (x3++[x0.extract (x4:Int).toNat x0.size])) else (none)) else (none)) else (none)) else (some x3))
def Vb.f (k:Nat) (a0:ByteArray):Option (List ByteArray):=Vb.l0 k a0 ([]:List ByteArray) 0 0
set_option maxHeartbeats 8000000 in
set_option maxRecDepth 100000 in
theorem Vb.calls (k:Nat) (a0:ByteArray) (r:List ByteArray) (w:World) (h:Vb.f k a0=some r):
 Calls Tryz.prog 18 #[.string a0] w λe w'=>∃ v0_:Value,e= .returned (v0_)/\Kd.R Kd.string 9 w' w.heap.size (λ_=>True) v0_ r/\Below w.heap.size w w':=by
 have HB:=AA.mk (Below.refl w.heap.size w);have H:(Vb.l0 k a0 ([]:List ByteArray) 0 0)=some r:=h;clear h;have H':=AA.mk H;clear H;go_enter Tryz.func18,Tryz.ntmps18;go_wp2;go_loopg [3,4,5] k (λkq v3 v4 v5 w'=>∃ (x3_1:List ByteArray) (x4_1:Int) (x5_1:Int),v4= .int .i64 x4_1/\v5= .int .i64 x5_1/\AA (Vb.l0 kq a0 x3_1 x4_1 x5_1=some r)/\AA (kq<=k)/\AA (Kd.R Kd.string 9 w' w.heap.size (λ_=>True) v3 x3_1)/\AA (Below w.heap.size w w'));case atStart=>exact ⟨(([]:List ByteArray)),(0),(0),xq,xq,H',⟨Nat.le_refl _⟩,⟨by first|exact Kd.Eu _ _ _ _ _|exact Kd.F6 _ _ _ _ _|exact Kd.F7 _ _ _ _ _|exact Kd.F3 _ _ _ _ _|exact Kd.F5 _ _ _ _ _⟩,⟨xb⟩⟩
 case round=>
  clear H';try clear c1
  obtain ⟨x3_1,x4_1,x5_1,rfl,rfl,HA,HK1,HO_3,HB⟩:=hrel;cases gk with
  |zero=>exact absurd HA.out (by simp [Vb.l0])
  |succ k1=>
   have H:=HA.out;clear HA;simp only [Vb.l0] at H;by_cases c2:x5_1<(a0.size:Int)
   ·rw [if_pos c2] at H;have c2b0:decide (x5_1<(a0.size:Int))=true:=decide_eq_true c2;clear c2;by_cases c3:0<=x5_1
    ·rw [if_pos c3] at H;have c3b0:decide (0<=x5_1)=true:=decide_eq_true c3;clear c3;by_cases c5:(bt a0 x5_1)=10
     ·rw [if_pos c5] at H;have c5b0:((bt a0 x5_1)==10)=true:=beq_iff_eq.mpr c5;have c5b1:((bt a0 x5_1) != 10)=false:=bne_eq_false_iff_eq.mpr c5;clear c5;by_cases c6:x5_1>x4_1
      ·rw [if_pos c6] at H;have c6b0:decide (x4_1<x5_1)=true:=decide_eq_true c6;clear c6;obtain ⟨ji7,hji7⟩:∃ j_:Int,(wrap64 (x5_1 - 1))=j_:=⟨_,rfl⟩;replace H:(if 0<=(ji7) then (if (ji7)<(a0.size:Int) then (if (bt a0 (ji7))=13 then (if 0<=x4_1 then (if x4_1<=(ji7) then (if (ji7)<=(a0.size:Int) then (if x3_1.length<8796093022208 then (Vb.l0 k1 a0 (x3_1++[a0.extract (x4_1:Int).toNat ((ji7):Int).toNat]) (wrap64 (x5_1+1)) (wrap64 (x5_1+1))) else (none)) else (none)) else (none)) else (none)) else (if 0<=x4_1 then (if x4_1<=x5_1 then (if x5_1<=(a0.size:Int) then (if x3_1.length<8796093022208 then (Vb.l0 k1 a0 (x3_1++[a0.extract (x4_1:Int).toNat (x5_1:Int).toNat]) (wrap64 (x5_1+1)) (wrap64 (x5_1+1))) else (none)) else (none)) else (none)) else (none))) else (none)) else (none))=some r:=by first|(rw [hji7] at H;exact H)|(simp only [hji7] at H⊢;exact H)
       have hji7w:(IntKind.i64.wrap (x5_1 - 1))=ji7:=(DL _).trans hji7;by_cases c8:0<=(ji7)
       ·rw [if_pos c8] at H;have c8b0:decide (0<=(ji7))=true:=decide_eq_true c8;clear c8;by_cases c9:(ji7)<(a0.size:Int)
        ·rw [if_pos c9] at H;have c9b0:decide ((ji7)<(a0.size:Int))=true:=decide_eq_true c9;clear c9;by_cases c11:(bt a0 (ji7))=13
         ·rw [if_pos c11] at H;have c11b0:((bt a0 (ji7))==13)=true:=beq_iff_eq.mpr c11;have c11b1:((bt a0 (ji7)) != 13)=false:=bne_eq_false_iff_eq.mpr c11;clear c11;by_cases c12:0<=x4_1
          ·rw [if_pos c12] at H;have c12b0:=eq_true c12;have c12b1:decide (0<=x4_1)=true:=decide_eq_true c12;clear c12;by_cases c13:x4_1<=(ji7)
           ·rw [if_pos c13] at H;have c13b0:=eq_true c13;have c13b1:decide (x4_1<=(ji7))=true:=decide_eq_true c13;clear c13;by_cases c14:(ji7)<=(a0.size:Int)
            ·rw [if_pos c14] at H;have c14b0:=eq_true c14;have c14b1:decide ((ji7)<=(a0.size:Int))=true:=decide_eq_true c14;clear c14;by_cases c15:x3_1.length<8796093022208
             ·rw [if_pos c15] at H;have LMc15:=AA.mk c15;clear c15;obtain ⟨y388,hy388⟩:∃ y_:List ByteArray,y_=(x3_1++[a0.extract (x4_1:Int).toNat ((ji7):Int).toNat]):=⟨_,rfl⟩;replace H:(Vb.l0 k1 a0 y388 (wrap64 (x5_1+1)) (wrap64 (x5_1+1)))=some r:=by first|(rw [hy388];with_reducible exact H)|(have H2_:=(Option.bind_some _ _).symm.trans H;rw [hy388];with_reducible exact H2_)|(have H2_:=(Option.bind_some _ _).symm.trans H;with_reducible exact H2_)|with_reducible exact H|(rw [hy388];exact H)|exact H
              have Ny388:=AA.mk hy388;clear hy388;have H':=AA.mk H;clear H;have p4:0<=(x5_1:Int):=xa;have q4:x5_1<(a0.size:Int):=xa;have hx4:=Br a0 x5_1;replace p4:=eq_true p4;replace q4:=eq_true q4;have p10:0<=((ji7):Int):=xa;have q10:(ji7)<(a0.size:Int):=xa;have hx10:=Br a0 (ji7);replace p10:=eq_true p10;replace q10:=eq_true q10;go_wp2_with (first|((with_reducible refine DR (b:= .append) (xs:=#[.tmp 30, .tmp 35]) rfl ?_);at_builtin;refine Kd.Ej Kd.string (w0:=w) w.heap.size rfl (.tmp 30) (.tmp 35) 45 9 (.string ⟨#[]⟩) 16 rfl Tryz.underlying45 QG rfl (by decide) (by omega) u3 x3_1 (a0.extract (x4_1:Int).toNat ((ji7):Int).toNat) [.string (a0.extract (x4_1:Int).toNat ((ji7):Int).toNat)] (λ_=>True) (λ_=>False) rfl rfl ?aP (λ_ hk=>hk.elim) ?aF ?aO ?aB ?aS ?aL ?_;(case aP=>exact rfl);(case aB=>exact xb);(case aF=>exact (λ_ _=>trivial));(case aO=>exact (xR HO_3));(case aS=>exact (BF xb));(case aL=>have:=LMc15.out;omega);intro v389 w16 ho hb hg hat;rw [<-Ny388.out] at ho;have n0_:=AA.mk (hb);have n1_:=AA.mk (ho);clear HB;clear HO_3;have HB:=n0_;have HO390:=n1_;clear n0_ n1_;clear ho hb hg hat));go_roundg k1;case measure=>have:=HK1.out;omega
              case rel=>exact ⟨(y388),(wrap64 (x5_1+1)),(wrap64 (x5_1+1)),xq,xq,H',⟨by have:=HK1.out;omega⟩,⟨by (with_reducible repeat (first|apply Kd.Bd|apply Kd.Be|apply Kd.Bl));exact HO390.out⟩,⟨xb⟩⟩
             ·rw [if_neg c15] at H;exact absurd H (by simp)
            ·rw [if_neg c14] at H;exact absurd H (by simp)
           ·rw [if_neg c13] at H;exact absurd H (by simp)
          ·rw [if_neg c12] at H;exact absurd H (by simp)
         ·rw [if_neg c11] at H;have c11b0:((bt a0 (ji7))==13)=false:=beq_eq_false_iff_ne.mpr c11;have c11b1:((bt a0 (ji7)) != 13)=true:=bne_iff_ne.mpr c11;by_cases c17:0<=x4_1
          ·rw [if_pos c17] at H;have c17b0:=eq_true c17;have c17b1:decide (0<=x4_1)=true:=decide_eq_true c17;clear c17;by_cases c18:x4_1<=x5_1
           ·rw [if_pos c18] at H;have c18b0:=eq_true c18;have c18b1:decide (x4_1<=x5_1)=true:=decide_eq_true c18;clear c18;by_cases c19:x5_1<=(a0.size:Int)
            ·rw [if_pos c19] at H;have c19b0:=eq_true c19;have c19b1:decide (x5_1<=(a0.size:Int))=true:=decide_eq_true c19;clear c19;by_cases c20:x3_1.length<8796093022208
             ·rw [if_pos c20] at H;have LMc20:=AA.mk c20;clear c20;obtain ⟨y391,hy391⟩:∃ y_:List ByteArray,y_=(x3_1++[a0.extract (x4_1:Int).toNat (x5_1:Int).toNat]):=⟨_,rfl⟩;replace H:(Vb.l0 k1 a0 y391 (wrap64 (x5_1+1)) (wrap64 (x5_1+1)))=some r:=by first|(rw [hy391];with_reducible exact H)|(have H2_:=(Option.bind_some _ _).symm.trans H;rw [hy391];with_reducible exact H2_)|(have H2_:=(Option.bind_some _ _).symm.trans H;with_reducible exact H2_)|with_reducible exact H|(rw [hy391];exact H)|exact H
              have Ny391:=AA.mk hy391;clear hy391;have H':=AA.mk H;clear H;have p4:0<=(x5_1:Int):=xa;have q4:x5_1<(a0.size:Int):=xa;have hx4:=Br a0 x5_1;replace p4:=eq_true p4;replace q4:=eq_true q4;have p10:0<=((ji7):Int):=xa;have q10:(ji7)<(a0.size:Int):=xa;have hx10:=Br a0 (ji7);replace p10:=eq_true p10;replace q10:=eq_true q10;go_wp2_with (first|((with_reducible refine DR (b:= .append) (xs:=#[.tmp 30, .tmp 35]) rfl ?_);at_builtin;refine Kd.Ej Kd.string (w0:=w) w.heap.size rfl (.tmp 30) (.tmp 35) 45 9 (.string ⟨#[]⟩) 16 rfl Tryz.underlying45 QG rfl (by decide) (by omega) u3 x3_1 (a0.extract (x4_1:Int).toNat (x5_1:Int).toNat) [.string (a0.extract (x4_1:Int).toNat (x5_1:Int).toNat)] (λ_=>True) (λ_=>False) rfl rfl ?aP (λ_ hk=>hk.elim) ?aF ?aO ?aB ?aS ?aL ?_;(case aP=>exact rfl);(case aB=>exact xb);(case aF=>exact (λ_ _=>trivial));(case aO=>exact (xR HO_3));(case aS=>exact (BF xb));(case aL=>have:=LMc20.out;omega);intro v392 w21 ho hb hg hat;rw [<-Ny391.out] at ho;have n0_:=AA.mk (hb);have n1_:=AA.mk (ho);clear HB;clear HO_3;have HB:=n0_;have HO393:=n1_;clear n0_ n1_;clear ho hb hg hat));go_roundg k1;case measure=>have:=HK1.out;omega
              case rel=>exact ⟨(y391),(wrap64 (x5_1+1)),(wrap64 (x5_1+1)),xq,xq,H',⟨by have:=HK1.out;omega⟩,⟨by (with_reducible repeat (first|apply Kd.Bd|apply Kd.Be|apply Kd.Bl));exact HO393.out⟩,⟨xb⟩⟩
             ·rw [if_neg c20] at H;exact absurd H (by simp)
            ·rw [if_neg c19] at H;exact absurd H (by simp)
           ·rw [if_neg c18] at H;exact absurd H (by simp)
          ·rw [if_neg c17] at H;exact absurd H (by simp)
        ·rw [if_neg c9] at H;exact absurd H (by simp)
       ·rw [if_neg c8] at H;exact absurd H (by simp)
      ·rw [if_neg c6] at H;have c6b0:decide (x4_1<x5_1)=false:=decide_eq_false c6;clear c6;by_cases c22:0<=x4_1
       ·rw [if_pos c22] at H;have c22b0:=eq_true c22;have c22b1:decide (0<=x4_1)=true:=decide_eq_true c22;clear c22;by_cases c23:x4_1<=x5_1
        ·rw [if_pos c23] at H;have c23b0:=eq_true c23;have c23b1:decide (x4_1<=x5_1)=true:=decide_eq_true c23;clear c23;by_cases c24:x5_1<=(a0.size:Int)
         ·rw [if_pos c24] at H;have c24b0:=eq_true c24;have c24b1:decide (x5_1<=(a0.size:Int))=true:=decide_eq_true c24;clear c24;by_cases c25:x3_1.length<8796093022208
          ·rw [if_pos c25] at H;have LMc25:=AA.mk c25;clear c25;obtain ⟨y394,hy394⟩:∃ y_:List ByteArray,y_=(x3_1++[a0.extract (x4_1:Int).toNat (x5_1:Int).toNat]):=⟨_,rfl⟩;replace H:(Vb.l0 k1 a0 y394 (wrap64 (x5_1+1)) (wrap64 (x5_1+1)))=some r:=by first|(rw [hy394];with_reducible exact H)|(have H2_:=(Option.bind_some _ _).symm.trans H;rw [hy394];with_reducible exact H2_)|(have H2_:=(Option.bind_some _ _).symm.trans H;with_reducible exact H2_)|with_reducible exact H|(rw [hy394];exact H)|exact H
           have Ny394:=AA.mk hy394;clear hy394;have H':=AA.mk H;clear H;have p4:0<=(x5_1:Int):=xa;have q4:x5_1<(a0.size:Int):=xa;have hx4:=Br a0 x5_1;replace p4:=eq_true p4;replace q4:=eq_true q4;go_wp2_with (first|((with_reducible refine DR (b:= .append) (xs:=#[.tmp 30, .tmp 35]) rfl ?_);at_builtin;refine Kd.Ej Kd.string (w0:=w) w.heap.size rfl (.tmp 30) (.tmp 35) 45 9 (.string ⟨#[]⟩) 16 rfl Tryz.underlying45 QG rfl (by decide) (by omega) u3 x3_1 (a0.extract (x4_1:Int).toNat (x5_1:Int).toNat) [.string (a0.extract (x4_1:Int).toNat (x5_1:Int).toNat)] (λ_=>True) (λ_=>False) rfl rfl ?aP (λ_ hk=>hk.elim) ?aF ?aO ?aB ?aS ?aL ?_;(case aP=>exact rfl);(case aB=>exact xb);(case aF=>exact (λ_ _=>trivial));(case aO=>exact (xR HO_3));(case aS=>exact (BF xb));(case aL=>have:=LMc25.out;omega);intro v395 w26 ho hb hg hat;rw [<-Ny394.out] at ho;have n0_:=AA.mk (hb);have n1_:=AA.mk (ho);clear HB;clear HO_3;have HB:=n0_;have HO396:=n1_;clear n0_ n1_;clear ho hb hg hat));go_roundg k1;case measure=>have:=HK1.out;omega
           case rel=>exact ⟨(y394),(wrap64 (x5_1+1)),(wrap64 (x5_1+1)),xq,xq,H',⟨by have:=HK1.out;omega⟩,⟨by (with_reducible repeat (first|apply Kd.Bd|apply Kd.Be|apply Kd.Bl));exact HO396.out⟩,⟨xb⟩⟩
          ·rw [if_neg c25] at H;exact absurd H (by simp)
         ·rw [if_neg c24] at H;exact absurd H (by simp)
        ·rw [if_neg c23] at H;exact absurd H (by simp)
       ·rw [if_neg c22] at H;exact absurd H (by simp)
     ·rw [if_neg c5] at H;have c5b0:((bt a0 x5_1)==10)=false:=beq_eq_false_iff_ne.mpr c5;have c5b1:((bt a0 x5_1) != 10)=true:=bne_iff_ne.mpr c5;have H':=AA.mk H;clear H;have p4:0<=(x5_1:Int):=xa;have q4:x5_1<(a0.size:Int):=xa;have hx4:=Br a0 x5_1;replace p4:=eq_true p4;replace q4:=eq_true q4;go_wp2;go_roundg k1;case measure=>have:=HK1.out;omega
      case rel=>exact ⟨(x3_1),(x4_1),(wrap64 (x5_1+1)),xq,xq,H',⟨by have:=HK1.out;omega⟩,⟨by (with_reducible repeat (first|apply Kd.Bd|apply Kd.Be|apply Kd.Bl));exact HO_3.out⟩,⟨xb⟩⟩
    ·rw [if_neg c3] at H;exact absurd H (by simp)
   ·rw [if_neg c2] at H;have c2b0:decide (x5_1<(a0.size:Int))=false:=decide_eq_false c2;clear c2;by_cases c27:x4_1<(a0.size:Int)
    ·rw [if_pos c27] at H;have c27b0:decide (x4_1<(a0.size:Int))=true:=decide_eq_true c27;clear c27;by_cases c28:0<=x4_1
     ·rw [if_pos c28] at H;have c28b0:=eq_true c28;have c28b1:decide (0<=x4_1)=true:=decide_eq_true c28;clear c28;by_cases c29:x4_1<=(a0.size:Int)
      ·rw [if_pos c29] at H;have c29b0:=eq_true c29;have c29b1:decide (x4_1<=(a0.size:Int))=true:=decide_eq_true c29;clear c29;by_cases c30:x3_1.length<8796093022208
       ·rw [if_pos c30] at H;have LMc30:=AA.mk c30;clear c30;obtain ⟨y385,hy385⟩:∃ y_:List ByteArray,y_=(x3_1++[a0.extract (x4_1:Int).toNat a0.size]):=⟨_,rfl⟩;replace H:(some y385)=some r:=by first|(rw [hy385];with_reducible exact H)|(have H2_:=(Option.bind_some _ _).symm.trans H;rw [hy385];with_reducible exact H2_)|(have H2_:=(Option.bind_some _ _).symm.trans H;with_reducible exact H2_)|with_reducible exact H|(rw [hy385];exact H)|exact H
        have Ny385:=AA.mk hy385;clear hy385;obtain rfl:=Option.some.inj H;go_wp2_with (first|((with_reducible refine DR (b:= .append) (xs:=#[.tmp 43, .tmp 47]) rfl ?_);at_builtin;refine Kd.Ej Kd.string (w0:=w) w.heap.size rfl (.tmp 43) (.tmp 47) 45 9 (.string ⟨#[]⟩) 16 rfl Tryz.underlying45 QG rfl (by decide) (by omega) u3 x3_1 (a0.extract (x4_1:Int).toNat a0.size) [.string (a0.extract (x4_1:Int).toNat a0.size)] (λ_=>True) (λ_=>False) rfl rfl ?aP (λ_ hk=>hk.elim) ?aF ?aO ?aB ?aS ?aL ?_;(case aP=>exact rfl);(case aB=>exact xb);(case aF=>exact (λ_ _=>trivial));(case aO=>exact (xR HO_3));(case aS=>exact (BF xb));(case aL=>have:=LMc30.out;omega);intro v386 w31 ho hb hg hat;rw [<-Ny385.out] at ho;have n0_:=AA.mk (hb);have n1_:=AA.mk (ho);clear HB;clear HO_3;have HB:=n0_;have HO387:=n1_;clear n0_ n1_;clear ho hb hg hat));go_ret;exact ⟨_,xe,by (with_reducible repeat (first|apply Kd.Bd|apply Kd.Be|apply Kd.Bl));exact HO387.out,xb⟩
       ·rw [if_neg c30] at H;exact absurd H (by simp)
      ·rw [if_neg c29] at H;exact absurd H (by simp)
     ·rw [if_neg c28] at H;exact absurd H (by simp)
    ·rw [if_neg c27] at H;have c27b0:decide (x4_1<(a0.size:Int))=false:=decide_eq_false c27;clear c27;obtain rfl:=Option.some.inj H;go_wp2;go_ret;exact ⟨_,xe,by (with_reducible repeat (first|apply Kd.Bd|apply Kd.Be|apply Kd.Bl));exact HO_3.out,xb⟩
end Go.Proofs.YtikggnalmidlhaaGreatDoor.Print
end
