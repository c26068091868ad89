/- Several parts of the claim's proof in one text, said short by a program of this session. No condition. -/
import Derived.Test.YtikggnalmidlhaaGreatDoorM6
section
namespace Go.Proofs.YtikggnalmidlhaaGreatDoor.Print
open RowKit AR Aa Ad
attribute [local go_sem] BM BN Bo Bp BC BD BO BP
set_option linter.unusedVariables false
set_option linter.unusedSimpArgs false
def BR.l0:Nat->ByteArray->Int->Option (Bool)
 |0,_,_=>none
 |k+1,x0,x3=>if x3<(x0.size:Int) then (if 0<=x3 then (if (bt x0 x3)<33 then (some false) else (if (bt x0 x3)>126 then (some false) else (if (bt x0 x3)=59 then (some false) else (BR.l0 k x0 (wrap64 (x3+1)))))) else (none)) else (some true)
def BR.f (k:Nat) (a0:ByteArray):Option (Bool):=BR.l0 k a0 0
set_option maxHeartbeats 8000000 in
set_option maxRecDepth 100000 in
theorem BR.calls (k:Nat) (a0:ByteArray) (r:Bool) (w:World) (h:BR.f k a0=some r):
 Calls Tryz.prog 120 #[.string a0] w λe w'=>e= .returned (.bool r)/\Ap w w':=by
 have H:(BR.l0 k a0 0)=some r:=h;clear h;have H':=AA.mk H;clear H;go_enter Tryz.func120,Tryz.ntmps120;go_wp2;go_loopg [3] k (λkq v3 w'=>∃ (x3_1:Int),v3= .int .i64 x3_1/\AA (BR.l0 kq a0 x3_1=some r)/\AA (kq<=k)/\Ap w w');case atStart=>exact ⟨(0),xq,H',⟨Nat.le_refl _⟩,xd⟩
 case round=>
  clear H';try clear c1
  obtain ⟨x3_1,rfl,HA,HK1,⟨m1,rfl⟩⟩:=hrel;cases gk with
  |zero=>exact absurd HA.out (by simp [BR.l0])
  |succ k1=>
   have H:=HA.out;clear HA;simp only [BR.l0] at H;by_cases c2:x3_1<(a0.size:Int)
   ·rw [if_pos c2] at H;have c2b0:decide (x3_1<(a0.size:Int))=true:=decide_eq_true c2;clear c2;by_cases c3:0<=x3_1
    ·rw [if_pos c3] at H;have c3b0:decide (0<=x3_1)=true:=decide_eq_true c3;clear c3;by_cases c5:(bt a0 x3_1)<33
     ·rw [if_pos c5] at H;have c5b0:decide ((bt a0 x3_1)<33)=true:=decide_eq_true c5;clear c5;obtain rfl:=Option.some.inj H;have p4:0<=(x3_1:Int):=xa;have q4:x3_1<(a0.size:Int):=xa;have hx4:=Br a0 x3_1;replace p4:=eq_true p4;replace q4:=eq_true q4;go_wp2;go_ret;exact ⟨xq,xd⟩
     ·rw [if_neg c5] at H;have c5b0:decide ((bt a0 x3_1)<33)=false:=decide_eq_false c5;clear c5;by_cases c7:(bt a0 x3_1)>126
      ·rw [if_pos c7] at H;have c7b0:decide (126<(bt a0 x3_1))=true:=decide_eq_true c7;clear c7;obtain rfl:=Option.some.inj H;have p4:0<=(x3_1:Int):=xa;have q4:x3_1<(a0.size:Int):=xa;have hx4:=Br a0 x3_1;replace p4:=eq_true p4;replace q4:=eq_true q4;have p6:0<=(x3_1:Int):=xa;have q6:x3_1<(a0.size:Int):=xa;have hx6:=Br a0 x3_1;replace p6:=eq_true p6;replace q6:=eq_true q6;go_wp2;go_ret;exact ⟨xq,xd⟩
      ·rw [if_neg c7] at H;have c7b0:decide (126<(bt a0 x3_1))=false:=decide_eq_false c7;clear c7;by_cases c9:(bt a0 x3_1)=59
       ·rw [if_pos c9] at H;have c9b0:((bt a0 x3_1)==59)=true:=beq_iff_eq.mpr c9;have c9b1:((bt a0 x3_1) != 59)=false:=bne_eq_false_iff_eq.mpr c9;clear c9;obtain rfl:=Option.some.inj H;have p4:0<=(x3_1:Int):=xa;have q4:x3_1<(a0.size:Int):=xa;have hx4:=Br a0 x3_1;replace p4:=eq_true p4;replace q4:=eq_true q4;have p6:0<=(x3_1:Int):=xa;have q6:x3_1<(a0.size:Int):=xa;have hx6:=Br a0 x3_1;replace p6:=eq_true p6;replace q6:=eq_true q6;have p8:0<=(x3_1:Int):=xa;have q8:x3_1<(a0.size:Int):=xa;have hx8:=Br a0 x3_1;replace p8:=eq_true p8;replace q8:=eq_true q8;go_wp2;go_ret;exact ⟨xq,xd⟩
       ·rw [if_neg c9] at H;have c9b0:((bt a0 x3_1)==59)=false:=beq_eq_false_iff_ne.mpr c9;have c9b1:((bt a0 x3_1) != 59)=true:=bne_iff_ne.mpr c9;have H':=AA.mk H;clear H;have p4:0<=(x3_1:Int):=xa;have q4:x3_1<(a0.size:Int):=xa;have hx4:=Br a0 x3_1;replace p4:=eq_true p4;replace q4:=eq_true q4;have p6:0<=(x3_1:Int):=xa;have q6:x3_1<(a0.size:Int):=xa;have hx6:=Br a0 x3_1;replace p6:=eq_true p6;replace q6:=eq_true q6;have p8:0<=(x3_1:Int):=xa;have q8:x3_1<(a0.size:Int):=xa;have hx8:=Br a0 x3_1;replace p8:=eq_true p8;replace q8:=eq_true q8;go_wp2;go_roundg k1;case measure=>have:=HK1.out;omega
        case rel=>exact ⟨(wrap64 (x3_1+1)),xq,H',⟨by have:=HK1.out;omega⟩,xd⟩
    ·rw [if_neg c3] at H;exact absurd H (by simp)
   ·rw [if_neg c2] at H;have c2b0:decide (x3_1<(a0.size:Int))=false:=decide_eq_false c2;clear c2;obtain rfl:=Option.some.inj H;go_wp2;go_ret;exact ⟨xq,xd⟩
end Go.Proofs.YtikggnalmidlhaaGreatDoor.Print
end
section
namespace Go.Proofs.YtikggnalmidlhaaGreatDoor.Print
open RowKit AR Aa Ad
attribute [local go_sem] BM BN Bo Bp BC BD BO BP
set_option linter.unusedVariables false
set_option linter.unusedSimpArgs false
def Aw.l0:Nat->ByteArray->Int->Option (Bool)
 |0,_,_=>none
 |k+1,x0,x3=>if x3<(x0.size:Int) then (if 0<=x3 then ((Cy.f (bt x0 x3)).bind λt290=>(if t290=true then (Aw.l0 k x0 (wrap64 (x3+1))) else (some false))) else (none)) else (some (decide ((x0.size:Int)>0)))
def Aw.f (k:Nat) (a0:ByteArray):Option (Bool):=Aw.l0 k a0 0
set_option maxHeartbeats 8000000 in
set_option maxRecDepth 100000 in
theorem Aw.calls (k:Nat) (a0:ByteArray) (r:Bool) (w:World) (h:Aw.f k a0=some r):
 Calls Tryz.prog 95 #[.string a0] w λe w'=>e= .returned (.bool r)/\Ap w w':=by
 have H:(Aw.l0 k a0 0)=some r:=h;clear h;have H':=AA.mk H;clear H;go_enter Tryz.func95,Tryz.ntmps95;go_wp2;go_loopg [3] k (λkq v3 w'=>∃ (x3_1:Int),v3= .int .i64 x3_1/\AA (Aw.l0 kq a0 x3_1=some r)/\AA (kq<=k)/\Ap w w');case atStart=>exact ⟨(0),xq,H',⟨Nat.le_refl _⟩,xd⟩
 case round=>
  clear H';obtain ⟨x3_1,rfl,HA,HK1,⟨m1,rfl⟩⟩:=hrel;cases gk with
  |zero=>exact absurd HA.out (by simp [Aw.l0])
  |succ k1=>
   have H:=HA.out;clear HA;simp only [Aw.l0] at H;by_cases c2:x3_1<(a0.size:Int)
   ·rw [if_pos c2] at H;have c2b0:decide (x3_1<(a0.size:Int))=true:=decide_eq_true c2;clear c2;by_cases c3:0<=x3_1
    ·rw [if_pos c3] at H;have c3b0:decide (0<=x3_1)=true:=decide_eq_true c3;clear c3;replace H:=Option.bind_eq_some_iff.mp H;obtain ⟨t290,A50,H⟩:=H;replace H:(if t290=true then (Aw.l0 k1 a0 (wrap64 (x3_1+1))) else (some false))=some r:=H;have A5:=AA.mk A50;clear A50;by_cases c6:t290=true
     ·subst c6;rw [if_pos rfl] at H;have H':=AA.mk H;clear H;have p4:0<=(x3_1:Int):=xa;have q4:x3_1<(a0.size:Int):=xa;have hx4:=Br a0 x3_1;replace p4:=eq_true p4;replace q4:=eq_true q4;go_wp2_with (first|((with_reducible refine AO (f:=121) rfl ?_);refine Ak (some 13) rfl rfl Tryz.func121 (by kernel_rfl) rfl #[.int .u8 (bt a0 x3_1)] rfl xg ?_;(with_reducible refine (Cy.calls (bt a0 x3_1) true _ A5.out).mono ?_);rintro e w' ⟨rfl,⟨nd,rfl⟩⟩;refine ⟨_,rfl,?_⟩));go_roundg k1;case measure=>have:=HK1.out;omega
      case rel=>exact ⟨(wrap64 (x3_1+1)),xq,H',⟨by have:=HK1.out;omega⟩,xd⟩
     ·replace c6:=Bool.eq_false_iff.mpr c6;subst c6;have H1:(some false)=some r:=by rw [if_neg (show ¬(false=true) by decide)] at H;exact H
      clear H;have H:=H1;clear H1;obtain rfl:=Option.some.inj H;have p4:0<=(x3_1:Int):=xa;have q4:x3_1<(a0.size:Int):=xa;have hx4:=Br a0 x3_1;replace p4:=eq_true p4;replace q4:=eq_true q4;go_wp2_with (first|((with_reducible refine AO (f:=121) rfl ?_);refine Ak (some 13) rfl rfl Tryz.func121 (by kernel_rfl) rfl #[.int .u8 (bt a0 x3_1)] rfl xg ?_;(with_reducible refine (Cy.calls (bt a0 x3_1) false _ A5.out).mono ?_);rintro e w' ⟨rfl,⟨nd,rfl⟩⟩;refine ⟨_,rfl,?_⟩));go_ret;exact ⟨xq,xd⟩
    ·rw [if_neg c3] at H;exact absurd H (by simp)
   ·rw [if_neg c2] at H;have c2b0:decide (x3_1<(a0.size:Int))=false:=decide_eq_false c2;clear c2;obtain rfl:=Option.some.inj H;go_wp2;go_ret;exact ⟨xq,xd⟩
end Go.Proofs.YtikggnalmidlhaaGreatDoor.Print
end
section
namespace Go.Proofs.YtikggnalmidlhaaGreatDoor.Print
open RowKit AR Aa Ad
attribute [local go_sem] BM BN Bo Bp BC BD BO BP
set_option linter.unusedVariables false
set_option linter.unusedSimpArgs false
def BA.l0:Nat->ByteArray->Int->Option (Bool)
 |0,_,_=>none
 |k+1,x0,x3=>if x3<(x0.size:Int) then (if 0<=x3 then ((Cr.f (bt x0 x3)).bind λt291=>(if t291=true then (BA.l0 k x0 (wrap64 (x3+1))) else (some false))) else (none)) else (some true)
def BA.f (k:Nat) (a0:ByteArray):Option (Bool):=BA.l0 k a0 0
set_option maxHeartbeats 8000000 in
set_option maxRecDepth 100000 in
theorem BA.calls (k:Nat) (a0:ByteArray) (r:Bool) (w:World) (h:BA.f k a0=some r):
 Calls Tryz.prog 96 #[.string a0] w λe w'=>e= .returned (.bool r)/\Ap w w':=by
 have H:(BA.l0 k a0 0)=some r:=h;clear h;have H':=AA.mk H;clear H;go_enter Tryz.func96,Tryz.ntmps96;go_wp2;go_loopg [3] k (λkq v3 w'=>∃ (x3_1:Int),v3= .int .i64 x3_1/\AA (BA.l0 kq a0 x3_1=some r)/\AA (kq<=k)/\Ap w w');case atStart=>exact ⟨(0),xq,H',⟨Nat.le_refl _⟩,xd⟩
 case round=>
  clear H';obtain ⟨x3_1,rfl,HA,HK1,⟨m1,rfl⟩⟩:=hrel;cases gk with
  |zero=>exact absurd HA.out (by simp [BA.l0])
  |succ k1=>
   have H:=HA.out;clear HA;simp only [BA.l0] at H;by_cases c2:x3_1<(a0.size:Int)
   ·rw [if_pos c2] at H;have c2b0:decide (x3_1<(a0.size:Int))=true:=decide_eq_true c2;clear c2;by_cases c3:0<=x3_1
    ·rw [if_pos c3] at H;have c3b0:decide (0<=x3_1)=true:=decide_eq_true c3;clear c3;replace H:=Option.bind_eq_some_iff.mp H;obtain ⟨t291,A50,H⟩:=H;replace H:(if t291=true then (BA.l0 k1 a0 (wrap64 (x3_1+1))) else (some false))=some r:=H;have A5:=AA.mk A50;clear A50;by_cases c6:t291=true
     ·subst c6;rw [if_pos rfl] at H;have H':=AA.mk H;clear H;have p4:0<=(x3_1:Int):=xa;have q4:x3_1<(a0.size:Int):=xa;have hx4:=Br a0 x3_1;replace p4:=eq_true p4;replace q4:=eq_true q4;go_wp2_with (first|((with_reducible refine AO (f:=122) rfl ?_);refine Ak (some 13) rfl rfl Tryz.func122 (by kernel_rfl) rfl #[.int .u8 (bt a0 x3_1)] rfl xg ?_;(with_reducible refine (Cr.calls (bt a0 x3_1) true _ A5.out).mono ?_);rintro e w' ⟨rfl,⟨nd,rfl⟩⟩;refine ⟨_,rfl,?_⟩));go_roundg k1;case measure=>have:=HK1.out;omega
      case rel=>exact ⟨(wrap64 (x3_1+1)),xq,H',⟨by have:=HK1.out;omega⟩,xd⟩
     ·replace c6:=Bool.eq_false_iff.mpr c6;subst c6;have H1:(some false)=some r:=by rw [if_neg (show ¬(false=true) by decide)] at H;exact H
      clear H;have H:=H1;clear H1;obtain rfl:=Option.some.inj H;have p4:0<=(x3_1:Int):=xa;have q4:x3_1<(a0.size:Int):=xa;have hx4:=Br a0 x3_1;replace p4:=eq_true p4;replace q4:=eq_true q4;go_wp2_with (first|((with_reducible refine AO (f:=122) rfl ?_);refine Ak (some 13) rfl rfl Tryz.func122 (by kernel_rfl) rfl #[.int .u8 (bt a0 x3_1)] rfl xg ?_;(with_reducible refine (Cr.calls (bt a0 x3_1) false _ A5.out).mono ?_);rintro e w' ⟨rfl,⟨nd,rfl⟩⟩;refine ⟨_,rfl,?_⟩));go_ret;exact ⟨xq,xd⟩
    ·rw [if_neg c3] at H;exact absurd H (by simp)
   ·rw [if_neg c2] at H;have c2b0:decide (x3_1<(a0.size:Int))=false:=decide_eq_false c2;clear c2;obtain rfl:=Option.some.inj H;go_wp2;go_ret;exact ⟨xq,xd⟩
end Go.Proofs.YtikggnalmidlhaaGreatDoor.Print
end
section
namespace Go.Proofs.YtikggnalmidlhaaGreatDoor.Print
open RowKit AR Aa Ad
attribute [local go_sem] BM BN Bo Bp BC BD BO BP
set_option linter.unusedVariables false
set_option linter.unusedSimpArgs false
def Bc.f (a0_0:ByteArray) (a0_1:ByteArray) (a0_2:ByteArray) (a0_3:ByteArray) (a0_4:Int) (a0_5:Int) (a0_6:Int) (a0_7:Bool) (a0_8:Bool) (a0_9:Bool) (a0_10:Int):Option (ByteArray×ByteArray×ByteArray):=some (a0_0,a0_1,a0_2)
set_option maxHeartbeats 8000000 in
set_option maxRecDepth 100000 in
theorem Bc.calls (a0_0:ByteArray) (a0_1:ByteArray) (a0_2:ByteArray) (a0_3:ByteArray) (a0_4:Int) (a0_5:Int) (a0_6:Int) (a0_7:Bool) (a0_8:Bool) (a0_9:Bool) (a0_10:Int) (r1:ByteArray) (r2:ByteArray) (r3:ByteArray) (w:World) (h:Bc.f a0_0 a0_1 a0_2 a0_3 a0_4 a0_5 a0_6 a0_7 a0_8 a0_9 a0_10=some (r1,r2,r3)):
 Calls Tryz.prog 98 #[.agg #[.string a0_0, .string a0_1, .string a0_2, .string a0_3, .int .i64 a0_4, .int .i64 a0_5, .int .i64 a0_6, .bool a0_7, .bool a0_8, .bool a0_9, .int .i64 a0_10]] w λe w'=>e= .returned (.agg #[.string r1, .string r2, .string r3])/\Below w.heap.size w w':=by
 have hu53:=Tryz.underlying53;have hu114:=Tryz.underlying114;have HB:=AA.mk (Below.refl w.heap.size w);have H:(some (a0_0,a0_1,a0_2))=some (r1,r2,r3):=h;clear h;simp only [Option.some.injEq,Prod.mk.injEq] at H;obtain ⟨rfl,rfl,rfl⟩:=H;go_enter Tryz.func98,Tryz.ntmps98;go_wp2_with (first|(refine Dk (N:=1) (cs:=#[.string a0_0, .string a0_1, .string a0_2, .string a0_3, .int .i64 a0_4, .int .i64 a0_5, .int .i64 a0_6, .bool a0_7, .bool a0_8, .bool a0_9, .int .i64 a0_10]) (t:=53) (λgb299 hg w2 hbox hb=>?_);have BK299:=AA.mk (hbox);have GW299:AA (w.heap.size<=gb299):=Dp hg xb;have GE299:AA (w.heap.size<=gb299):=Dp hg xb;replace HB:=AA.mk (AP xb hb);clear hb hbox hg)|(refine Dk (N:=2) (cs:=#[.string (⟨#[]⟩:ByteArray), .string (⟨#[]⟩:ByteArray), .string (⟨#[]⟩:ByteArray)]) (t:=114) (λgb300 hg w3 hbox hb=>?_);have BK300:=AA.mk (hbox);have GW300:AA (w.heap.size<=gb300):=Dp hg xb;have GE300:AA (w.heap.size<=gb300):=Dp hg xb;replace HB:=AA.mk (AP xb hb);have NB299_300:=G9 hg (Cz BK299);have NB300_299:=HZ hg (Cz BK299);replace BK299:=Bt BK299 hb;clear hb hbox hg;have hnb4:=NB299_300.out;have hnc4:=NB300_299.out;obtain ⟨hcz5_0,hcz5_1,hcz5_2,hcz5_3,hcz5_4,hcz5_5,hcz5_6,hcz5_7,hcz5_8,hcz5_9,hcz5_10⟩:=Bv BK299.out;have hfz5_0:=AX BK299.out;obtain ⟨hcz6_0,hcz6_1,hcz6_2⟩:=cells3 BK300.out;have hfz6_0:=AX BK300.out));refine bodyPost_ret (results_cell_row rfl _ _ gb300 114 #[.string a0_0, .string a0_1, .string a0_2] (0,0) _ rfl xk Tryz.underlying114 rfl (by kernel_rfl)) rfl ?_;exact ⟨xe,xb⟩
end Go.Proofs.YtikggnalmidlhaaGreatDoor.Print
end
section
namespace Go.Proofs.YtikggnalmidlhaaGreatDoor.Print
open RowKit AR Aa Ad
attribute [local go_sem] BM BN Bo Bp BC BD BO BP
set_option linter.unusedVariables false
set_option linter.unusedSimpArgs false
def CW.f (a0:Int) (a1:Int):Option (Int):=if a0<a1 then (some (-1)) else (if a0>a1 then (some 1) else (some 0))
set_option maxHeartbeats 8000000 in
set_option maxRecDepth 100000 in
theorem CW.calls (a0:Int) (a1:Int) (r:Int) (w:World) (h:CW.f a0 a1=some r):
 Calls Tryz.prog 136 #[.int .i64 a0, .int .i64 a1] w λe w'=>e= .returned (.int .i64 r)/\Ap w w':=by
 have H:(if a0<a1 then (some (-1)) else (if a0>a1 then (some 1) else (some 0)))=some r:=h;clear h;by_cases c3:a0<a1
 ·rw [if_pos c3] at H;have c3b0:decide (a0<a1)=true:=decide_eq_true c3;clear c3;obtain rfl:=Option.some.inj H;go_enter Tryz.func136,Tryz.ntmps136;go_wp2;go_ret;exact ⟨xq,xd⟩
 ·rw [if_neg c3] at H;have c3b0:decide (a0<a1)=false:=decide_eq_false c3;clear c3;by_cases c4:a0>a1
  ·rw [if_pos c4] at H;have c4b0:decide (a1<a0)=true:=decide_eq_true c4;clear c4;obtain rfl:=Option.some.inj H;go_enter Tryz.func136,Tryz.ntmps136;go_wp2;go_ret;exact ⟨xq,xd⟩
  ·rw [if_neg c4] at H;have c4b0:decide (a1<a0)=false:=decide_eq_false c4;clear c4;obtain rfl:=Option.some.inj H;go_enter Tryz.func136,Tryz.ntmps136;go_wp2;go_ret;exact ⟨xq,xd⟩
end Go.Proofs.YtikggnalmidlhaaGreatDoor.Print
end
