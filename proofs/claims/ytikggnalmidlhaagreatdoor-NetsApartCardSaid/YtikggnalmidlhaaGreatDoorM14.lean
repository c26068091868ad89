/- Several parts of the claim's proof in one text, said short by a program of this session. No condition. -/
import Derived.Test.YtikggnalmidlhaaGreatDoorM10
import Derived.Test.YtikggnalmidlhaaGreatDoorM8
import Derived.Test.YtikggnalmidlhaaGreatDoorM9
section
namespace Go.Proofs.YtikggnalmidlhaaGreatDoor.Print
open RowKit AR Aa Ad
attribute [local go_sem] BM BN Bo Bp BC BD BO BP
set_option linter.unusedVariables false
set_option linter.unusedSimpArgs false
mutual
def Ai.j0:Nat->ByteArray->Bool->Option (ByteArray×Bool)
 |0,_,_=>none
 |k+1,x0,x15=>if x15=true then (some ((⟨#[]⟩:ByteArray),false)) else ((Av.f k x0).bind λt264=>(Ai.l0 k x0 t264 0))
def Ai.l0:Nat->ByteArray->List ByteArray->Int->Option (ByteArray×Bool)
 |0,_,_,_=>none
 |k+1,x0,x4,x5=>if x5<(x4.length:Int) then (if 0<=x5 then ((AZ.f k (Cf ByteArray.empty x4 x5)).bind λt268=>(if t268=true then (Ai.l0 k x0 x4 (wrap64 (x5+1))) else (some ((⟨#[]⟩:ByteArray),false)))) else (none)) else (some (x0,true))
end
def Ai.f (k:Nat) (a0:ByteArray):Option (ByteArray×Bool):=(Cg.f a0).bind λt263=>(if (t263.size:Int)<1 then (Ai.j0 k t263 true) else (Ai.j0 k t263 (decide ((t263.size:Int)>64))))
set_option maxHeartbeats 8000000 in
set_option maxRecDepth 100000 in
theorem Ai.calls (k:Nat) (a0:ByteArray) (r1:ByteArray) (r2:Bool) (w:World) (h:Ai.f k a0=some (r1,r2)):
 Calls Tryz.prog 60 #[.string a0] w λe w'=>e= .returned (.tuple #[.string r1, .bool r2])/\Below w.heap.size w w':=by
 have HB:=AA.mk (Below.refl w.heap.size w);have H:((Cg.f a0).bind λt263=>(if (t263.size:Int)<1 then (Ai.j0 k t263 true) else (Ai.j0 k t263 (decide ((t263.size:Int)>64)))))=some (r1,r2):=h;clear h;replace H:=Option.bind_eq_some_iff.mp H;obtain ⟨t263,A20,H⟩:=H;try dsimp only at H
 have A2:=AA.mk A20;clear A20;have HC3:=AA.mk H;clear H;go_enter Tryz.func60,Tryz.ntmps60;go_upto_region 2 with (first|((with_reducible refine AO (f:=89) rfl ?_);refine Ak (some 7) rfl rfl Tryz.func89 (by kernel_rfl) rfl #[.string a0] rfl xg ?_;(with_reducible refine (Cg.calls a0 t263 _ A2.out).mono ?_);rintro e w4 ⟨rfl,hb⟩;refine ⟨_,rfl,?_⟩;replace HB:=AA.mk (AP xb hb);(try clear hb)))
 (try simp only [Act.put,List.setIfInBounds_toArray,List.set_cons_zero,List.set_cons_succ]);go_cut [15] (λv15 wc=>∃ (kq:Nat) (x15_2:Bool),v15= .bool x15_2/\AA (Ai.j0 kq t263 x15_2=some (r1,r2))/\AA (kq<=k)/\AA (Below w.heap.size w wc));case first=>
  have H:=HC3.out;clear HC3;by_cases c5:(t263.size:Int)<1
  ·rw [if_pos c5] at H;have c5b0:decide ((t263.size:Int)<1)=true:=decide_eq_true c5;have c5b1:decide (t263.size<1)=true:=decide_eq_true (by omega);clear c5;(first|rw [c5b0]|(simp only [DL,DU];rw [c5b0])|skip);have H':=AA.mk H;clear H;go_wp2;go_meet;case rel=>exact ⟨_,(true),xq,H',⟨by first|omega|exact Nat.le_refl _⟩,⟨xb⟩⟩
  ·rw [if_neg c5] at H;have c5b0:decide ((t263.size:Int)<1)=false:=decide_eq_false c5;have c5b1:decide (t263.size<1)=false:=decide_eq_false (by omega);clear c5;(first|rw [c5b0]|(simp only [DL,DU];rw [c5b0])|skip);have H':=AA.mk H;clear H;go_wp2;go_meet;case rel=>exact ⟨_,(decide ((t263.size:Int)>64)),xq,H',⟨by first|omega|exact Nat.le_refl _⟩,⟨xb⟩⟩
 case rest=>
  clear HC3;try clear p2
  try clear p3
  try clear c5
  try clear c5b0
  try clear c5b1
  obtain ⟨kq,x15_2,rfl,HA,HJ2,HB⟩:=hcut;cases kq with
  |zero=>exact absurd HA.out (by simp [Ai.j0])
  |succ kj2=>
   have H:=HA.out;clear HA;simp only [Ai.j0] at H;by_cases c6:x15_2=true
   ·subst c6;have H1:(some ((⟨#[]⟩:ByteArray),false))=some (r1,r2):=by rw [if_pos rfl] at H;exact H
    clear H;have H:=H1;clear H1;simp only [Option.some.injEq,Prod.mk.injEq] at H;obtain ⟨rfl,rfl⟩:=H;go_wp2;go_ret2;exact ⟨xe,xb⟩
   ·replace c6:=Bool.eq_false_iff.mpr c6;subst c6;have H1:((Av.f kj2 t263).bind λt264=>(Ai.l0 kj2 t263 t264 0))=some (r1,r2):=by rw [if_neg (show ¬(false=true) by decide)] at H;exact H
    clear H;have H:=H1;clear H1;replace H:=Option.bind_eq_some_iff.mp H;obtain ⟨t264,A70,H⟩:=H;replace H:(Ai.l0 kj2 t263 t264 0)=some (r1,r2):=H;have A7:=AA.mk A70;clear A70;have H':=AA.mk H;clear H;go_wp2_with (first|((with_reducible refine AO (f:=90) rfl ?_);refine Ak (some 17) rfl rfl Tryz.func90 (by kernel_rfl) rfl #[.string t263] rfl xg ?_;(with_reducible refine (Av.calls kj2 t263 t264 _ A7.out).mono ?_);rintro e w8 ⟨v265,rfl,ho0,hb⟩;refine ⟨_,rfl,?_⟩;have HO266:=AA.mk (Kd.Cm ho0 (BF xb));replace HB:=AA.mk (AP xb hb);(try clear hb);(try clear ho0)));go_loopg [5] kj2 (λkq v5 w'=>∃ (x5_2:Int),v5= .int .i64 x5_2/\AA (Ai.l0 kq t263 t264 x5_2=some (r1,r2))/\AA (kq<=kj2)/\AA (Kd.R Kd.string 9 w' w.heap.size (λ_=>True) v265 t264)/\AA (Below w.heap.size w w'));case atStart=>exact ⟨(0),xq,H',⟨Nat.le_refl _⟩,⟨by (with_reducible repeat (first|apply Kd.Bd|apply Kd.Be|apply Kd.Bl));exact HO266.out⟩,⟨xb⟩⟩
    case round=>
     clear H';try clear p2
     try clear p3
     try clear c5
     try clear c5b0
     try clear c5b1
     try clear c6
     try clear p6
     try clear c8
     try clear p2
     try clear p3
     obtain ⟨x5_2,rfl,HA,HK2,HO_4,HB⟩:=hrel;cases gk with
     |zero=>exact absurd HA.out (by simp [Ai.l0])
     |succ k2=>
      have H:=HA.out;clear HA;simp only [Ai.l0] at H;by_cases c9:x5_2<(t264.length:Int)
      ·rw [if_pos c9] at H;have c9b0:decide (x5_2<(t264.length:Int))=true:=decide_eq_true c9;clear c9;by_cases c10:0<=x5_2
       ·rw [if_pos c10] at H;have c10b0:decide (0<=x5_2)=true:=decide_eq_true c10;clear c10;replace H:=Option.bind_eq_some_iff.mp H;obtain ⟨t268,A110,H⟩:=H;replace H:(if t268=true then (Ai.l0 k2 t263 t264 (wrap64 (x5_2+1))) else (some ((⟨#[]⟩:ByteArray),false)))=some (r1,r2):=H;have A11:=AA.mk A110;clear A110;by_cases c12:t268=true
        ·subst c12;rw [if_pos rfl] at H;have H':=AA.mk H;clear H;obtain ⟨Ao13,co13,eo13⟩:=Kd.CE HO_4.out;subst eo13;have p267:0<=(x5_2:Int):=xa;have q267:x5_2<(t264.length:Int):=xa;obtain ⟨ad267,e267,hx267_0⟩:=Kd.DF (Kd.BH HO_4.out).2.2 x5_2 p267 q267;cases e267;replace p267:=eq_true p267;replace q267:=eq_true q267;go_wp2_with (first|((with_reducible refine AO (f:=91) rfl ?_);refine Ak (some 28) rfl rfl Tryz.func91 (by kernel_rfl) rfl #[.string (Cf ByteArray.empty t264 x5_2)] rfl xg ?_;(with_reducible refine (AZ.calls k2 (Cf ByteArray.empty t264 x5_2) true _ A11.out).mono ?_);rintro e w' ⟨rfl,⟨nd,rfl⟩⟩;refine ⟨_,rfl,?_⟩));go_roundg k2;case measure=>have:=HJ2.out;have:=HK2.out;omega
         case rel=>exact ⟨(wrap64 (x5_2+1)),xq,H',⟨by have:=HJ2.out;have:=HK2.out;omega⟩,⟨by (with_reducible repeat (first|apply Kd.Bd|apply Kd.Be|apply Kd.Bl));exact HO_4.out⟩,⟨xb⟩⟩
        ·replace c12:=Bool.eq_false_iff.mpr c12;subst c12;have H1:(some ((⟨#[]⟩:ByteArray),false))=some (r1,r2):=by rw [if_neg (show ¬(false=true) by decide)] at H;exact H
         clear H;have H:=H1;clear H1;simp only [Option.some.injEq,Prod.mk.injEq] at H;obtain ⟨rfl,rfl⟩:=H;obtain ⟨Ao14,co14,eo14⟩:=Kd.CE HO_4.out;subst eo14;have p267:0<=(x5_2:Int):=xa;have q267:x5_2<(t264.length:Int):=xa;obtain ⟨ad267,e267,hx267_0⟩:=Kd.DF (Kd.BH HO_4.out).2.2 x5_2 p267 q267;cases e267;replace p267:=eq_true p267;replace q267:=eq_true q267;go_wp2_with (first|((with_reducible refine AO (f:=91) rfl ?_);refine Ak (some 28) rfl rfl Tryz.func91 (by kernel_rfl) rfl #[.string (Cf ByteArray.empty t264 x5_2)] rfl xg ?_;(with_reducible refine (AZ.calls k2 (Cf ByteArray.empty t264 x5_2) false _ A11.out).mono ?_);rintro e w' ⟨rfl,⟨nd,rfl⟩⟩;refine ⟨_,rfl,?_⟩));go_ret2;exact ⟨xe,xb⟩
       ·rw [if_neg c10] at H;exact absurd H (by simp)
      ·rw [if_neg c9] at H;have c9b0:decide (x5_2<(t264.length:Int))=false:=decide_eq_false c9;clear c9;simp only [Option.some.injEq,Prod.mk.injEq] at H;obtain ⟨rfl,rfl⟩:=H;obtain ⟨Ao15,co15,eo15⟩:=Kd.CE HO_4.out;subst eo15;go_wp2;go_ret2;exact ⟨xe,xb⟩
end Go.Proofs.YtikggnalmidlhaaGreatDoor.Print
end
section
namespace Go.Proofs.YtikggnalmidlhaaGreatDoor.Print
open RowKit AR Aa Ad
attribute [local go_sem] BM BN Bo Bp BC BD BO BP
set_option linter.unusedVariables false
set_option linter.unusedSimpArgs false
def Aq.f (k:Nat) (a0:Int):Option (ByteArray):=if a0<0 then ((Az.f k (IntKind.u64.wrap ((IntKind.u64.wrap (wrap64 (-(wrap64 (a0+1)))))+1))).bind λt275=>(if 1+t275.size<=9223372036854775807 then (some ((⟨#[45]⟩:ByteArray)++t275)) else (none))) else ((Az.f k (IntKind.u64.wrap (a0))).bind λt276=>(some t276))
set_option maxHeartbeats 8000000 in
set_option maxRecDepth 100000 in
theorem Aq.calls (k:Nat) (a0:Int) (r:ByteArray) (w:World) (h:Aq.f k a0=some r):
 Calls Tryz.prog 50 #[.int .i64 a0] w λe w'=>e= .returned (.string r)/\Below w.heap.size w w':=by
 have HB:=AA.mk (Below.refl w.heap.size w);have H:(if a0<0 then ((Az.f k (IntKind.u64.wrap ((IntKind.u64.wrap (wrap64 (-(wrap64 (a0+1)))))+1))).bind λt275=>(if 1+t275.size<=9223372036854775807 then (some ((⟨#[45]⟩:ByteArray)++t275)) else (none))) else ((Az.f k (IntKind.u64.wrap (a0))).bind λt276=>(some t276)))=some r:=h;clear h;by_cases c2:a0<0
 ·rw [if_pos c2] at H;have c2b0:decide (a0<0)=true:=decide_eq_true c2;clear c2;replace H:=Option.bind_eq_some_iff.mp H;obtain ⟨t275,A30,H⟩:=H;replace H:(if 1+t275.size<=9223372036854775807 then (some ((⟨#[45]⟩:ByteArray)++t275)) else (none))=some r:=H;have A3:=AA.mk A30;clear A30;by_cases c4:1+t275.size<=9223372036854775807
  ·rw [if_pos c4] at H;have c4b0:=eq_true c4;have c4b1:decide (1+t275.size<=9223372036854775807)=true:=decide_eq_true c4;try have c4b2:(9223372036854775807<1+t275.size)=False:=eq_false (Nat.not_lt.2 c4)
   obtain rfl:=Option.some.inj H;go_enter Tryz.func50,Tryz.ntmps50;go_wp2_with (first|((with_reducible refine AO (f:=79) rfl ?_);refine Ak (some 10) rfl rfl Tryz.func79 (by kernel_rfl) rfl #[.int .u64 (IntKind.u64.wrap ((IntKind.u64.wrap (wrap64 (-(wrap64 (a0+1)))))+1))] rfl xg ?_;(with_reducible refine (Az.calls k (IntKind.u64.wrap ((IntKind.u64.wrap (wrap64 (-(wrap64 (a0+1)))))+1)) t275 _ A3.out).mono ?_);rintro e w5 ⟨rfl,hb⟩;refine ⟨_,rfl,?_⟩;replace HB:=AA.mk (AP xb hb);(try clear hb)));go_ret;exact ⟨xe,xb⟩
  ·rw [if_neg c4] at H;exact absurd H (by simp)
 ·rw [if_neg c2] at H;have c2b0:decide (a0<0)=false:=decide_eq_false c2;clear c2;replace H:=Option.bind_eq_some_iff.mp H;obtain ⟨t276,A60,H⟩:=H;replace H:(some t276)=some r:=H;have A6:=AA.mk A60;clear A60;obtain rfl:=Option.some.inj H;go_enter Tryz.func50,Tryz.ntmps50;go_wp2_with (first|((with_reducible refine AO (f:=79) rfl ?_);refine Ak (some 14) rfl rfl Tryz.func79 (by kernel_rfl) rfl #[.int .u64 (IntKind.u64.wrap (a0))] rfl xg ?_;(with_reducible refine (Az.calls k (IntKind.u64.wrap (a0)) t276 _ A6.out).mono ?_);rintro e w7 ⟨rfl,hb⟩;refine ⟨_,rfl,?_⟩;replace HB:=AA.mk (AP xb hb);(try clear hb)));go_ret;exact ⟨xe,xb⟩
end Go.Proofs.YtikggnalmidlhaaGreatDoor.Print
end
section
namespace Go.Proofs.YtikggnalmidlhaaGreatDoor.Print
open RowKit AR Aa Ad
attribute [local go_sem] BM BN Bo Bp BC BD BO BP
set_option linter.unusedVariables false
set_option linter.unusedSimpArgs false
def CL.f (k:Nat) (a0:ByteArray):Option (Bool):=if (a0.size:Int)>=1 then (if (a0.size:Int)<=64 then (if 0<(a0.size:Int) then (if (bt a0 0)=47 then ((BR.f k a0).bind λt289=>(some t289)) else (some false)) else (none)) else (some false)) else (some false)
set_option maxHeartbeats 8000000 in
set_option maxRecDepth 100000 in
theorem CL.calls (k:Nat) (a0:ByteArray) (r:Bool) (w:World) (h:CL.f k a0=some r):
 Calls Tryz.prog 94 #[.string a0] w λe w'=>e= .returned (.bool r)/\Ap w w':=by
 have H:(if (a0.size:Int)>=1 then (if (a0.size:Int)<=64 then (if 0<(a0.size:Int) then (if (bt a0 0)=47 then ((BR.f k a0).bind λt289=>(some t289)) else (some false)) else (none)) else (some false)) else (some false))=some r:=h;clear h;by_cases c2:(a0.size:Int)>=1
 ·rw [if_pos c2] at H;have c2b0:decide (1<=(a0.size:Int))=true:=decide_eq_true c2;have c2b1:decide (1<=a0.size)=true:=decide_eq_true (by omega);clear c2;by_cases c3:(a0.size:Int)<=64
  ·rw [if_pos c3] at H;have c3b0:decide ((a0.size:Int)<=64)=true:=decide_eq_true c3;have c3b1:decide (a0.size<=64)=true:=decide_eq_true (by omega);clear c3;by_cases c4:0<(a0.size:Int)
   ·rw [if_pos c4] at H;have c4b0:decide (0<(a0.size:Int))=true:=decide_eq_true c4;have c4b1:decide (0<a0.size)=true:=decide_eq_true (by omega);clear c4;by_cases c6:(bt a0 0)=47
    ·rw [if_pos c6] at H;have c6b0:((bt a0 0)==47)=true:=beq_iff_eq.mpr c6;have c6b1:((bt a0 0) != 47)=false:=bne_eq_false_iff_eq.mpr c6;clear c6;replace H:=Option.bind_eq_some_iff.mp H;obtain ⟨t289,A70,H⟩:=H;replace H:(some t289)=some r:=H;have A7:=AA.mk A70;clear A70;obtain rfl:=Option.some.inj H;have p5:0<=(0:Int):=(by omega);have q5:0<a0.size:=(by have:(0:Int)<(a0.size:Int):=xa;omega);have hx5:∀ h:0<a0.size,((a0[0]'h).toNat:Int)=bt a0 0:=Br a0 0;clear p5;have qi5:(0<(a0.size:Int))=True:=eq_true (xa);replace q5:=eq_true q5;go_enter Tryz.func94,Tryz.ntmps94;go_wp2_with (first|(go_at_call 120;(with_reducible refine (BR.calls k a0 t289 _ A7.out).mono ?_);rintro e w' ⟨rfl,⟨nd,rfl⟩⟩));go_ret;exact ⟨xq,xd⟩
    ·rw [if_neg c6] at H;have c6b0:((bt a0 0)==47)=false:=beq_eq_false_iff_ne.mpr c6;have c6b1:((bt a0 0) != 47)=true:=bne_iff_ne.mpr c6;obtain rfl:=Option.some.inj H;have p5:0<=(0:Int):=(by omega);have q5:0<a0.size:=(by have:(0:Int)<(a0.size:Int):=xa;omega);have hx5:∀ h:0<a0.size,((a0[0]'h).toNat:Int)=bt a0 0:=Br a0 0;clear p5;have qi5:(0<(a0.size:Int))=True:=eq_true (xa);replace q5:=eq_true q5;go_enter Tryz.func94,Tryz.ntmps94;go_wp2;go_ret;exact ⟨xq,xd⟩
   ·rw [if_neg c4] at H;exact absurd H (by simp)
  ·rw [if_neg c3] at H;have c3b0:decide ((a0.size:Int)<=64)=false:=decide_eq_false c3;have c3b1:decide (a0.size<=64)=false:=decide_eq_false (by omega);clear c3;obtain rfl:=Option.some.inj H;go_enter Tryz.func94,Tryz.ntmps94;go_wp2;go_ret;exact ⟨xq,xd⟩
 ·rw [if_neg c2] at H;have c2b0:decide (1<=(a0.size:Int))=false:=decide_eq_false c2;have c2b1:decide (1<=a0.size)=false:=decide_eq_false (by omega);clear c2;obtain rfl:=Option.some.inj H;go_enter Tryz.func94,Tryz.ntmps94;go_wp2;go_ret;exact ⟨xq,xd⟩
end Go.Proofs.YtikggnalmidlhaaGreatDoor.Print
end
section
namespace Go.Proofs.YtikggnalmidlhaaGreatDoor.Print
open RowKit AR Aa Ad
attribute [local go_sem] BM BN Bo Bp BC BD BO BP
set_option linter.unusedVariables false
set_option linter.unusedSimpArgs false
attribute [local go_sem high] Ti
def BJ.l0:Nat->List (CU)->List (CU)->Int->ByteArray->ByteArray->ByteArray->Option ((List (CU)))
 |0,_,_,_,_,_,_=>none
 |k+1,x0,x5,x6,x302000,x302001,x302002=>if x6<(x0.length:Int) then (if 0<=x6 then ((Bc.f ((AB x0 x6).f0) ((AB x0 x6).f1) ((AB x0 x6).f2) ((AB x0 x6).f3) ((AB x0 x6).f4) ((AB x0 x6).f5) ((AB x0 x6).f6) ((AB x0 x6).f7) ((AB x0 x6).f8) ((AB x0 x6).f9) ((AB x0 x6).f10)).bind λbt303=>(if (!(bt303.1.toList==x302000.toList)||(!(bt303.2.1.toList==x302001.toList)||(!(bt303.2.2.toList==x302002.toList))))=true then (if x5.length<1353245080339 then (BJ.l0 k x0 (x5++[(⟨(AB x0 x6).f0,(AB x0 x6).f1,(AB x0 x6).f2,(AB x0 x6).f3,(AB x0 x6).f4,(AB x0 x6).f5,(AB x0 x6).f6,(AB x0 x6).f7,(AB x0 x6).f8,(AB x0 x6).f9,(AB x0 x6).f10⟩:CU)]) (wrap64 (x6+1)) x302000 x302001 x302002) else (none)) else (BJ.l0 k x0 x5 (wrap64 (x6+1)) x302000 x302001 x302002))) else (none)) else (some x5)
def BJ.f (k:Nat) (l0:List (CU)) (a1_0:ByteArray) (a1_1:ByteArray) (a1_2:ByteArray):Option ((List (CU))):=BJ.l0 k l0 ([]:List (CU)) 0 a1_0 a1_1 a1_2
set_option maxHeartbeats 8000000 in
set_option maxRecDepth 100000 in
theorem BJ.calls (k:Nat) (A0:Option Addr) (c0:Nat) (l0:List (CU)) (a1_0:ByteArray) (a1_1:ByteArray) (a1_2:ByteArray) (r:List (CU)) (w:World) (hr0:Kd.C Fu w A0 l0.length l0) (hc0:l0.length<=c0) (h:BJ.f k l0 a1_0 a1_1 a1_2=some r):
 Calls Tryz.prog 97 #[.slice A0 l0.length c0, .agg #[.string a1_0, .string a1_1, .string a1_2]] w λe w'=>∃ v0_:Value,e= .returned (v0_)/\Kd.R Fu 53 w' w.heap.size (λ_=>True) v0_ r/\Below w.heap.size w w':=by
 have hu114:=Tryz.underlying114;have hu53:=Tryz.underlying53;have HR0:=AA.mk hr0;have HC0:=AA.mk hc0;clear hr0 hc0;have HB:=AA.mk (Below.refl w.heap.size w);have H:(BJ.l0 k l0 ([]:List (CU)) 0 a1_0 a1_1 a1_2)=some r:=h;clear h;have H':=AA.mk H;clear H;go_enter Tryz.func97,Tryz.ntmps97;go_wp2_with (first|(refine Dk (N:=3) (cs:=#[.string a1_0, .string a1_1, .string a1_2]) (t:=114) (λgb301 hg w3 hbox hb=>?_);have BK301:=AA.mk (hbox);have GW301:AA (w.heap.size<=gb301):=Dp hg xb;have GE301:AA (w.heap.size<=gb301):=Dp hg xb;replace HB:=AA.mk (AP xb hb);clear hb hbox hg));go_loopg [5,6] k (λkq v5 v6 w'=>∃ (x5_1:List (CU)) (x6_1:Int),v6= .int .i64 x6_1/\AA (BJ.l0 kq l0 x5_1 x6_1 a1_0 a1_1 a1_2=some r)/\AA (kq<=k)/\AA (Kd.R Fu 53 w' w.heap.size (λ_=>True) v5 x5_1)/\AA (w'.heap[gb301]? =some (.cells #[.string a1_0, .string a1_1, .string a1_2] 114 (0,0)))/\AA (Below w.heap.size w w'));case atStart=>exact ⟨(([]:List (CU))),(0),xq,H',⟨Nat.le_refl _⟩,⟨by first|exact Kd.Eu _ _ _ _ _|exact Kd.F6 _ _ _ _ _|exact Kd.F7 _ _ _ _ _|exact Kd.F3 _ _ _ _ _|exact Kd.F5 _ _ _ _ _⟩,⟨xk⟩,⟨xb⟩⟩
 case round=>
  clear H';try clear p2
  obtain ⟨x5_1,x6_1,rfl,HA,HK1,HO_5,BK301,HB⟩:=hrel;cases gk with
  |zero=>exact absurd HA.out (by simp [BJ.l0])
  |succ k1=>
   have H:=HA.out;clear HA;simp only [BJ.l0] at H;by_cases c4:x6_1<(l0.length:Int)
   ·rw [if_pos c4] at H;have c4b0:decide (x6_1<(l0.length:Int))=true:=decide_eq_true c4;clear c4;by_cases c5:0<=x6_1
    ·rw [if_pos c5] at H;have c5b0:decide (0<=x6_1)=true:=decide_eq_true c5;clear c5;replace H:=Option.bind_eq_some_iff.mp H;obtain ⟨⟨t303,t304,t305⟩,A60,H⟩:=H;replace H:(if (!(t303.toList==a1_0.toList)||(!(t304.toList==a1_1.toList)||(!(t305.toList==a1_2.toList))))=true then (if x5_1.length<1353245080339 then (BJ.l0 k1 l0 (x5_1++[(⟨(AB l0 x6_1).f0,(AB l0 x6_1).f1,(AB l0 x6_1).f2,(AB l0 x6_1).f3,(AB l0 x6_1).f4,(AB l0 x6_1).f5,(AB l0 x6_1).f6,(AB l0 x6_1).f7,(AB l0 x6_1).f8,(AB l0 x6_1).f9,(AB l0 x6_1).f10⟩:CU)]) (wrap64 (x6_1+1)) a1_0 a1_1 a1_2) else (none)) else (BJ.l0 k1 l0 x5_1 (wrap64 (x6_1+1)) a1_0 a1_1 a1_2))=some r:=H;have A6:=AA.mk A60;clear A60;by_cases c7:(!(t303.toList==a1_0.toList)||(!(t304.toList==a1_1.toList)||(!(t305.toList==a1_2.toList))))=true
     ·rw [if_pos c7] at H;have c7b0:(!(t303.toList==a1_0.toList)||(!(t304.toList==a1_1.toList)||(!(t305.toList==a1_2.toList))))=true:=c7;clear c7;by_cases c8:x5_1.length<1353245080339
      ·rw [if_pos c8] at H;have LMc8:=AA.mk c8;clear c8;obtain ⟨y307,hy307⟩:∃ y_:List (CU),y_=(x5_1++[(⟨(AB l0 x6_1).f0,(AB l0 x6_1).f1,(AB l0 x6_1).f2,(AB l0 x6_1).f3,(AB l0 x6_1).f4,(AB l0 x6_1).f5,(AB l0 x6_1).f6,(AB l0 x6_1).f7,(AB l0 x6_1).f8,(AB l0 x6_1).f9,(AB l0 x6_1).f10⟩:CU)]):=⟨_,rfl⟩;replace H:(BJ.l0 k1 l0 y307 (wrap64 (x6_1+1)) a1_0 a1_1 a1_2)=some r:=by first|(rw [hy307];with_reducible exact H)|(have H2_:=(Option.bind_some _ _).symm.trans H;rw [hy307];with_reducible exact H2_)|(have H2_:=(Option.bind_some _ _).symm.trans H;with_reducible exact H2_)|with_reducible exact H|(rw [hy307];exact H)|exact H
       have Ny307:=AA.mk hy307;clear hy307;have H':=AA.mk H;clear H;try go_wp2
       replace HO_5:=AA.mk (Kd.Bl HO_5.out);replace BK301:=AA.mk (CX BK301.out);replace HB:=AA.mk (CK HB.out);have p302:0<=(x6_1:Int):=xa;have q302:x6_1<(l0.length:Int):=xa;obtain ⟨ad302,e302,hx302_0,hx302_1,hx302_2,hx302_3,hx302_4,hx302_5,hx302_6,hx302_7,hx302_8,hx302_9,hx302_10⟩:=Ce HR0.out x6_1 p302 q302;have hw302_10:=hx302_10;have hw302_9:=hx302_9;have hw302_8:=hx302_8;have hw302_7:=hx302_7;have hw302_6:=hx302_6;have hw302_5:=hx302_5;have hw302_4:=hx302_4;have hw302_3:=hx302_3;have hw302_2:=hx302_2;have hw302_1:=hx302_1;have hw302_0:=hx302_0;cases e302;replace hx302_0:=AJ HB.out hx302_0;replace hx302_1:=AJ HB.out hx302_1;replace hx302_2:=AJ HB.out hx302_2;replace hx302_3:=AJ HB.out hx302_3;replace hx302_4:=AJ HB.out hx302_4;replace hx302_5:=AJ HB.out hx302_5;replace hx302_6:=AJ HB.out hx302_6;replace hx302_7:=AJ HB.out hx302_7;replace hx302_8:=AJ HB.out hx302_8;replace hx302_9:=AJ HB.out hx302_9;replace hx302_10:=AJ HB.out hx302_10;replace p302:=eq_true p302;replace q302:=eq_true q302;refine Eg (n:=7) (S:=λw'=>w'.cell? ⟨gb301,0,none⟩=some (.string a1_0)/\w'.cell? ⟨gb301,1,none⟩=some (.string a1_1)/\w'.cell? ⟨gb301,2,none⟩=some (.string a1_2)/\w'.cell? (ad302.add ((x6_1).toNat*11))=some (.string ((AB l0 x6_1).f0))/\w'.cell? ⟨(ad302.add ((x6_1).toNat*11)).block,(ad302.add ((x6_1).toNat*11)).off+1,none⟩=some (.string ((AB l0 x6_1).f1))/\w'.cell? ⟨(ad302.add ((x6_1).toNat*11)).block,(ad302.add ((x6_1).toNat*11)).off+2,none⟩=some (.string ((AB l0 x6_1).f2))/\w'.cell? ⟨(ad302.add ((x6_1).toNat*11)).block,(ad302.add ((x6_1).toNat*11)).off+3,none⟩=some (.string ((AB l0 x6_1).f3))/\w'.cell? ⟨(ad302.add ((x6_1).toNat*11)).block,(ad302.add ((x6_1).toNat*11)).off+4,none⟩=some (.int .i64 ((AB l0 x6_1).f4))/\w'.cell? ⟨(ad302.add ((x6_1).toNat*11)).block,(ad302.add ((x6_1).toNat*11)).off+5,none⟩=some (.int .i64 ((AB l0 x6_1).f5))/\w'.cell? ⟨(ad302.add ((x6_1).toNat*11)).block,(ad302.add ((x6_1).toNat*11)).off+6,none⟩=some (.int .i64 ((AB l0 x6_1).f6))/\w'.cell? ⟨(ad302.add ((x6_1).toNat*11)).block,(ad302.add ((x6_1).toNat*11)).off+7,none⟩=some (.bool ((AB l0 x6_1).f7))/\w'.cell? ⟨(ad302.add ((x6_1).toNat*11)).block,(ad302.add ((x6_1).toNat*11)).off+8,none⟩=some (.bool ((AB l0 x6_1).f8))/\w'.cell? ⟨(ad302.add ((x6_1).toNat*11)).block,(ad302.add ((x6_1).toNat*11)).off+9,none⟩=some (.bool ((AB l0 x6_1).f9))/\w'.cell? ⟨(ad302.add ((x6_1).toNat*11)).block,(ad302.add ((x6_1).toNat*11)).off+10,none⟩=some (.int .i64 ((AB l0 x6_1).f10))) (ds:=[]) (bm 7 0) (by kernel_rfl) rfl rfl ⟨(AL BK301.out 0).trans rfl,(AL BK301.out 1).trans rfl,(AL BK301.out 2).trans rfl,((HB.out.cell (World.block_lt_of_cell? w _ hw302_0)).trans hw302_0),((HB.out.cell (World.block_lt_of_cell? w _ hw302_1)).trans hw302_1),((HB.out.cell (World.block_lt_of_cell? w _ hw302_2)).trans hw302_2),((HB.out.cell (World.block_lt_of_cell? w _ hw302_3)).trans hw302_3),((HB.out.cell (World.block_lt_of_cell? w _ hw302_4)).trans hw302_4),((HB.out.cell (World.block_lt_of_cell? w _ hw302_5)).trans hw302_5),((HB.out.cell (World.block_lt_of_cell? w _ hw302_6)).trans hw302_6),((HB.out.cell (World.block_lt_of_cell? w _ hw302_7)).trans hw302_7),((HB.out.cell (World.block_lt_of_cell? w _ hw302_8)).trans hw302_8),((HB.out.cell (World.block_lt_of_cell? w _ hw302_9)).trans hw302_9),((HB.out.cell (World.block_lt_of_cell? w _ hw302_10)).trans hw302_10)⟩ (λhHeld=>?_);generalize wr.drew=w9 at HO_5 BK301 HB hx302_0 hx302_1 hx302_10 hx302_2 hx302_3 hx302_4 hx302_5 hx302_6 hx302_7 hx302_8 hx302_9 hHeld⊢
       refine Ay (i:=0) (N:=some 13) (bm 7 1) rfl rfl (by kernel_rfl) (Or.inl ⟨by rfl,by intro w';go_simp;with_reducible rfl⟩) ?_;refine Ay (i:=1) (N:=some 14) (bm 7 3) rfl rfl (by kernel_rfl) (Or.inl ⟨by rfl,by intro w';go_simp;with_reducible rfl⟩) ?_;refine Ay (i:=2) (N:=some 15) (bm 7 7) rfl rfl (by kernel_rfl) (Or.inl ⟨by rfl,by intro w';go_simp;with_reducible rfl⟩) ?_;refine Cn (i:=3) (N:=some 16) (bm 7 15) rfl rfl (by kernel_rfl) (Or.inl ⟨by rfl,by rintro w' ⟨s0,s1,s2,s3,s4,s5,s6,s7,s8,s9,s10,s11,s12,s13⟩;go_simp;with_reducible rfl⟩) hHeld ?_;refine Cn (i:=5) (N:=some 18) (bm 7 47) rfl rfl (by kernel_rfl) (Or.inl ⟨by rfl,by rintro w' ⟨s0,s1,s2,s3,s4,s5,s6,s7,s8,s9,s10,s11,s12,s13⟩;go_simp;with_reducible rfl⟩) hHeld ?_;refine D8 (i:=4) (N:=some 17) (bm 7 63) rfl rfl (by kernel_rfl) (by decide) (λK hK=>?_);refine Dy Tryz.func98 (by kernel_rfl) rfl #[.agg #[.string ((AB l0 x6_1).f0), .string ((AB l0 x6_1).f1), .string ((AB l0 x6_1).f2), .string ((AB l0 x6_1).f3), .int .i64 ((AB l0 x6_1).f4), .int .i64 ((AB l0 x6_1).f5), .int .i64 ((AB l0 x6_1).f6), .bool ((AB l0 x6_1).f7), .bool ((AB l0 x6_1).f8), .bool ((AB l0 x6_1).f9), .int .i64 ((AB l0 x6_1).f10)]] (by rfl) rfl rfl xg ?_;with_reducible refine (Bc.calls ((AB l0 x6_1).f0) ((AB l0 x6_1).f1) ((AB l0 x6_1).f2) ((AB l0 x6_1).f3) ((AB l0 x6_1).f4) ((AB l0 x6_1).f5) ((AB l0 x6_1).f6) ((AB l0 x6_1).f7) ((AB l0 x6_1).f8) ((AB l0 x6_1).f9) ((AB l0 x6_1).f10) t303 t304 t305 _ A6.out).mono ?_
       rintro e w10 ⟨rfl,hb⟩;refine ⟨_,rfl,?_⟩;replace HO_5:=AA.mk (Kd.BX (xR HO_5) hb);replace BK301:=Bt BK301 hb;replace HB:=AA.mk (AP xb hb);(try clear hb);refine hK.out _ _ ⟨(AL BK301.out 0).trans rfl,(AL BK301.out 1).trans rfl,(AL BK301.out 2).trans rfl,((HB.out.cell (World.block_lt_of_cell? w _ hw302_0)).trans hw302_0),((HB.out.cell (World.block_lt_of_cell? w _ hw302_1)).trans hw302_1),((HB.out.cell (World.block_lt_of_cell? w _ hw302_2)).trans hw302_2),((HB.out.cell (World.block_lt_of_cell? w _ hw302_3)).trans hw302_3),((HB.out.cell (World.block_lt_of_cell? w _ hw302_4)).trans hw302_4),((HB.out.cell (World.block_lt_of_cell? w _ hw302_5)).trans hw302_5),((HB.out.cell (World.block_lt_of_cell? w _ hw302_6)).trans hw302_6),((HB.out.cell (World.block_lt_of_cell? w _ hw302_7)).trans hw302_7),((HB.out.cell (World.block_lt_of_cell? w _ hw302_8)).trans hw302_8),((HB.out.cell (World.block_lt_of_cell? w _ hw302_9)).trans hw302_9),((HB.out.cell (World.block_lt_of_cell? w _ hw302_10)).trans hw302_10)⟩ (λhHeld=>?_);clear hK K;refine DK (some 17) rfl ?_;refine Ay (i:=6) (N:=some 19) (bm 7 127) rfl rfl (by kernel_rfl) (Or.inl ⟨by rfl,by intro w';go_simp;with_reducible rfl⟩) ?_;refine Fe (by kernel_rfl) ?_;have p306:0<=(x6_1:Int):=xa;have q306:x6_1<(l0.length:Int):=xa;obtain ⟨ad306,e306,hx306_0,hx306_1,hx306_2,hx306_3,hx306_4,hx306_5,hx306_6,hx306_7,hx306_8,hx306_9,hx306_10⟩:=Ce HR0.out x6_1 p306 q306;obtain rfl:ad302=ad306:=(by injection e306);replace hx306_0:=AJ HB.out hx306_0;replace hx306_1:=AJ HB.out hx306_1;replace hx306_2:=AJ HB.out hx306_2;replace hx306_3:=AJ HB.out hx306_3;replace hx306_4:=AJ HB.out hx306_4;replace hx306_5:=AJ HB.out hx306_5;replace hx306_6:=AJ HB.out hx306_6;replace hx306_7:=AJ HB.out hx306_7;replace hx306_8:=AJ HB.out hx306_8;replace hx306_9:=AJ HB.out hx306_9;replace hx306_10:=AJ HB.out hx306_10;replace p306:=eq_true p306;replace q306:=eq_true q306;try go_wp2_with (first|((with_reducible refine DR (b:= .append) (xs:=#[.tmp 20, .tmp 25]) rfl ?_);at_builtin;refine Kd.Ej Fu (w0:=w) w.heap.size rfl (.tmp 20) (.tmp 25) 22 53 (.agg #[(.string ⟨#[]⟩),(.string ⟨#[]⟩),(.string ⟨#[]⟩),(.string ⟨#[]⟩),(.int .i64 0),(.int .i64 0),(.int .i64 0),(.bool false),(.bool false),(.bool false),(.int .i64 0)]) 104 rfl Tryz.underlying22 Ia rfl (by decide) (by omega) u5 x5_1 (⟨(AB l0 x6_1).f0,(AB l0 x6_1).f1,(AB l0 x6_1).f2,(AB l0 x6_1).f3,(AB l0 x6_1).f4,(AB l0 x6_1).f5,(AB l0 x6_1).f6,(AB l0 x6_1).f7,(AB l0 x6_1).f8,(AB l0 x6_1).f9,(AB l0 x6_1).f10⟩:CU) [.string ((AB l0 x6_1).f0), .string ((AB l0 x6_1).f1), .string ((AB l0 x6_1).f2), .string ((AB l0 x6_1).f3), .int .i64 ((AB l0 x6_1).f4), .int .i64 ((AB l0 x6_1).f5), .int .i64 ((AB l0 x6_1).f6), .bool ((AB l0 x6_1).f7), .bool ((AB l0 x6_1).f8), .bool ((AB l0 x6_1).f9), .int .i64 ((AB l0 x6_1).f10)] (λ_=>True) (λ_=>False) rfl rfl ?aP (λ_ hk=>hk.elim) ?aF ?aO ?aB ?aS ?aL ?_;(case aP=>exact Er _ _ _ (⟨(AB l0 x6_1).f0,(AB l0 x6_1).f1,(AB l0 x6_1).f2,(AB l0 x6_1).f3,(AB l0 x6_1).f4,(AB l0 x6_1).f5,(AB l0 x6_1).f6,(AB l0 x6_1).f7,(AB l0 x6_1).f8,(AB l0 x6_1).f9,(AB l0 x6_1).f10⟩:CU));(case aB=>exact xb);(case aF=>exact (λ_ _=>trivial));(case aO=>exact (xR HO_5));(case aS=>exact (BF xb));(case aL=>have:=LMc8.out;omega);intro v308 w11 ho hb hg hat;rw [<-Ny307.out] at ho;have n0_:=AA.mk (EY (g:=gb301) (o:= .cells #[.string a1_0, .string a1_1, .string a1_2] 114 (0,0)) xk hg (Kd.Tn HO_5.out BK301.out (by decide)));have n1_:=AA.mk (hb);have n2_:=AA.mk (ho);clear BK301;clear HB;clear HO_5;have BK301:=n0_;have HB:=n1_;have HO309:=n2_;clear n0_ n1_ n2_;clear ho hb hg hat))
       go_roundg k1;case measure=>have:=HK1.out;omega
       case rel=>exact ⟨(y307),(wrap64 (x6_1+1)),xq,H',⟨by have:=HK1.out;omega⟩,⟨by (with_reducible repeat (first|apply Kd.Bd|apply Kd.Be|apply Kd.Bl));exact HO309.out⟩,⟨xk⟩,⟨xb⟩⟩
      ·rw [if_neg c8] at H;exact absurd H (by simp)
     ·rw [if_neg c7] at H;have c7b0:(!(t303.toList==a1_0.toList)||(!(t304.toList==a1_1.toList)||(!(t305.toList==a1_2.toList))))=false:=by simpa using c7
      clear c7;have H':=AA.mk H;clear H;try go_wp2
      replace HO_5:=AA.mk (Kd.Bl HO_5.out);replace BK301:=AA.mk (CX BK301.out);replace HB:=AA.mk (CK HB.out);have p302:0<=(x6_1:Int):=xa;have q302:x6_1<(l0.length:Int):=xa;obtain ⟨ad302,e302,hx302_0,hx302_1,hx302_2,hx302_3,hx302_4,hx302_5,hx302_6,hx302_7,hx302_8,hx302_9,hx302_10⟩:=Ce HR0.out x6_1 p302 q302;have hw302_10:=hx302_10;have hw302_9:=hx302_9;have hw302_8:=hx302_8;have hw302_7:=hx302_7;have hw302_6:=hx302_6;have hw302_5:=hx302_5;have hw302_4:=hx302_4;have hw302_3:=hx302_3;have hw302_2:=hx302_2;have hw302_1:=hx302_1;have hw302_0:=hx302_0;cases e302;replace hx302_0:=AJ HB.out hx302_0;replace hx302_1:=AJ HB.out hx302_1;replace hx302_2:=AJ HB.out hx302_2;replace hx302_3:=AJ HB.out hx302_3;replace hx302_4:=AJ HB.out hx302_4;replace hx302_5:=AJ HB.out hx302_5;replace hx302_6:=AJ HB.out hx302_6;replace hx302_7:=AJ HB.out hx302_7;replace hx302_8:=AJ HB.out hx302_8;replace hx302_9:=AJ HB.out hx302_9;replace hx302_10:=AJ HB.out hx302_10;replace p302:=eq_true p302;replace q302:=eq_true q302;refine Eg (n:=7) (S:=λw'=>w'.cell? ⟨gb301,0,none⟩=some (.string a1_0)/\w'.cell? ⟨gb301,1,none⟩=some (.string a1_1)/\w'.cell? ⟨gb301,2,none⟩=some (.string a1_2)/\w'.cell? (ad302.add ((x6_1).toNat*11))=some (.string ((AB l0 x6_1).f0))/\w'.cell? ⟨(ad302.add ((x6_1).toNat*11)).block,(ad302.add ((x6_1).toNat*11)).off+1,none⟩=some (.string ((AB l0 x6_1).f1))/\w'.cell? ⟨(ad302.add ((x6_1).toNat*11)).block,(ad302.add ((x6_1).toNat*11)).off+2,none⟩=some (.string ((AB l0 x6_1).f2))/\w'.cell? ⟨(ad302.add ((x6_1).toNat*11)).block,(ad302.add ((x6_1).toNat*11)).off+3,none⟩=some (.string ((AB l0 x6_1).f3))/\w'.cell? ⟨(ad302.add ((x6_1).toNat*11)).block,(ad302.add ((x6_1).toNat*11)).off+4,none⟩=some (.int .i64 ((AB l0 x6_1).f4))/\w'.cell? ⟨(ad302.add ((x6_1).toNat*11)).block,(ad302.add ((x6_1).toNat*11)).off+5,none⟩=some (.int .i64 ((AB l0 x6_1).f5))/\w'.cell? ⟨(ad302.add ((x6_1).toNat*11)).block,(ad302.add ((x6_1).toNat*11)).off+6,none⟩=some (.int .i64 ((AB l0 x6_1).f6))/\w'.cell? ⟨(ad302.add ((x6_1).toNat*11)).block,(ad302.add ((x6_1).toNat*11)).off+7,none⟩=some (.bool ((AB l0 x6_1).f7))/\w'.cell? ⟨(ad302.add ((x6_1).toNat*11)).block,(ad302.add ((x6_1).toNat*11)).off+8,none⟩=some (.bool ((AB l0 x6_1).f8))/\w'.cell? ⟨(ad302.add ((x6_1).toNat*11)).block,(ad302.add ((x6_1).toNat*11)).off+9,none⟩=some (.bool ((AB l0 x6_1).f9))/\w'.cell? ⟨(ad302.add ((x6_1).toNat*11)).block,(ad302.add ((x6_1).toNat*11)).off+10,none⟩=some (.int .i64 ((AB l0 x6_1).f10))) (ds:=[]) (bm 7 0) (by kernel_rfl) rfl rfl ⟨(AL BK301.out 0).trans rfl,(AL BK301.out 1).trans rfl,(AL BK301.out 2).trans rfl,((HB.out.cell (World.block_lt_of_cell? w _ hw302_0)).trans hw302_0),((HB.out.cell (World.block_lt_of_cell? w _ hw302_1)).trans hw302_1),((HB.out.cell (World.block_lt_of_cell? w _ hw302_2)).trans hw302_2),((HB.out.cell (World.block_lt_of_cell? w _ hw302_3)).trans hw302_3),((HB.out.cell (World.block_lt_of_cell? w _ hw302_4)).trans hw302_4),((HB.out.cell (World.block_lt_of_cell? w _ hw302_5)).trans hw302_5),((HB.out.cell (World.block_lt_of_cell? w _ hw302_6)).trans hw302_6),((HB.out.cell (World.block_lt_of_cell? w _ hw302_7)).trans hw302_7),((HB.out.cell (World.block_lt_of_cell? w _ hw302_8)).trans hw302_8),((HB.out.cell (World.block_lt_of_cell? w _ hw302_9)).trans hw302_9),((HB.out.cell (World.block_lt_of_cell? w _ hw302_10)).trans hw302_10)⟩ (λhHeld=>?_);generalize wr.drew=w12 at HO_5 BK301 HB hx302_0 hx302_1 hx302_10 hx302_2 hx302_3 hx302_4 hx302_5 hx302_6 hx302_7 hx302_8 hx302_9 hHeld⊢
      refine Ay (i:=0) (N:=some 13) (bm 7 1) rfl rfl (by kernel_rfl) (Or.inl ⟨by rfl,by intro w';go_simp;with_reducible rfl⟩) ?_;refine Ay (i:=1) (N:=some 14) (bm 7 3) rfl rfl (by kernel_rfl) (Or.inl ⟨by rfl,by intro w';go_simp;with_reducible rfl⟩) ?_;refine Ay (i:=2) (N:=some 15) (bm 7 7) rfl rfl (by kernel_rfl) (Or.inl ⟨by rfl,by intro w';go_simp;with_reducible rfl⟩) ?_;refine Cn (i:=3) (N:=some 16) (bm 7 15) rfl rfl (by kernel_rfl) (Or.inl ⟨by rfl,by rintro w' ⟨s0,s1,s2,s3,s4,s5,s6,s7,s8,s9,s10,s11,s12,s13⟩;go_simp;with_reducible rfl⟩) hHeld ?_;refine Cn (i:=5) (N:=some 18) (bm 7 47) rfl rfl (by kernel_rfl) (Or.inl ⟨by rfl,by rintro w' ⟨s0,s1,s2,s3,s4,s5,s6,s7,s8,s9,s10,s11,s12,s13⟩;go_simp;with_reducible rfl⟩) hHeld ?_;refine D8 (i:=4) (N:=some 17) (bm 7 63) rfl rfl (by kernel_rfl) (by decide) (λK hK=>?_);refine Dy Tryz.func98 (by kernel_rfl) rfl #[.agg #[.string ((AB l0 x6_1).f0), .string ((AB l0 x6_1).f1), .string ((AB l0 x6_1).f2), .string ((AB l0 x6_1).f3), .int .i64 ((AB l0 x6_1).f4), .int .i64 ((AB l0 x6_1).f5), .int .i64 ((AB l0 x6_1).f6), .bool ((AB l0 x6_1).f7), .bool ((AB l0 x6_1).f8), .bool ((AB l0 x6_1).f9), .int .i64 ((AB l0 x6_1).f10)]] (by rfl) rfl rfl xg ?_;with_reducible refine (Bc.calls ((AB l0 x6_1).f0) ((AB l0 x6_1).f1) ((AB l0 x6_1).f2) ((AB l0 x6_1).f3) ((AB l0 x6_1).f4) ((AB l0 x6_1).f5) ((AB l0 x6_1).f6) ((AB l0 x6_1).f7) ((AB l0 x6_1).f8) ((AB l0 x6_1).f9) ((AB l0 x6_1).f10) t303 t304 t305 _ A6.out).mono ?_
      rintro e w13 ⟨rfl,hb⟩;refine ⟨_,rfl,?_⟩;replace HO_5:=AA.mk (Kd.BX (xR HO_5) hb);replace BK301:=Bt BK301 hb;replace HB:=AA.mk (AP xb hb);(try clear hb);refine hK.out _ _ ⟨(AL BK301.out 0).trans rfl,(AL BK301.out 1).trans rfl,(AL BK301.out 2).trans rfl,((HB.out.cell (World.block_lt_of_cell? w _ hw302_0)).trans hw302_0),((HB.out.cell (World.block_lt_of_cell? w _ hw302_1)).trans hw302_1),((HB.out.cell (World.block_lt_of_cell? w _ hw302_2)).trans hw302_2),((HB.out.cell (World.block_lt_of_cell? w _ hw302_3)).trans hw302_3),((HB.out.cell (World.block_lt_of_cell? w _ hw302_4)).trans hw302_4),((HB.out.cell (World.block_lt_of_cell? w _ hw302_5)).trans hw302_5),((HB.out.cell (World.block_lt_of_cell? w _ hw302_6)).trans hw302_6),((HB.out.cell (World.block_lt_of_cell? w _ hw302_7)).trans hw302_7),((HB.out.cell (World.block_lt_of_cell? w _ hw302_8)).trans hw302_8),((HB.out.cell (World.block_lt_of_cell? w _ hw302_9)).trans hw302_9),((HB.out.cell (World.block_lt_of_cell? w _ hw302_10)).trans hw302_10)⟩ (λhHeld=>?_);clear hK K;refine DK (some 17) rfl ?_;refine Ay (i:=6) (N:=some 19) (bm 7 127) rfl rfl (by kernel_rfl) (Or.inl ⟨by rfl,by intro w';go_simp;with_reducible rfl⟩) ?_;refine Fe (by kernel_rfl) ?_;try go_wp2
      go_roundg k1;case measure=>have:=HK1.out;omega
      case rel=>exact ⟨(x5_1),(wrap64 (x6_1+1)),xq,H',⟨by have:=HK1.out;omega⟩,⟨by (with_reducible repeat (first|apply Kd.Bd|apply Kd.Be|apply Kd.Bl));exact HO_5.out⟩,⟨xk⟩,⟨xb⟩⟩
    ·rw [if_neg c5] at H;exact absurd H (by simp)
   ·rw [if_neg c4] at H;have c4b0:decide (x6_1<(l0.length:Int))=false:=decide_eq_false c4;clear c4;obtain rfl:=Option.some.inj H;go_wp2;go_ret;exact ⟨_,xe,by (with_reducible repeat (first|apply Kd.Bd|apply Kd.Be|apply Kd.Bl));exact HO_5.out,xb⟩
end Go.Proofs.YtikggnalmidlhaaGreatDoor.Print
end
section
namespace Go.Proofs.YtikggnalmidlhaaGreatDoor.Print
open RowKit AR Aa Ad
attribute [local go_sem] BM BN Bo Bp BC BD BO BP
set_option linter.unusedVariables false
set_option linter.unusedSimpArgs false
mutual
def Ae.l0:Nat->ByteArray->ByteArray->Int->Option (Int)
 |0,_,_,_=>none
 |k+1,x0,x1,x5=>if x5<(x0.size:Int) then (Ae.j1 k x0 x1 x5 (decide (x5<(x1.size:Int)))) else (Ae.j1 k x0 x1 x5 false)
def Ae.j1:Nat->ByteArray->ByteArray->Int->Bool->Option (Int)
 |0,_,_,_,_=>none
 |k+1,x0,x1,x5,x15=>if x15=true then (if 0<=x5 then (if x5<(x0.size:Int) then (if x5<(x1.size:Int) then (if (bt x0 x5)<(bt x1 x5) then (some (-1)) else (if (bt x0 x5)>(bt x1 x5) then (some 1) else (Ae.l0 k x0 x1 (wrap64 (x5+1))))) else (none)) else (none)) else (none)) else ((CW.f (x0.size:Int) (x1.size:Int)).bind λt310=>(some t310))
end
def Ae.f (k:Nat) (a0:ByteArray) (a1:ByteArray):Option (Int):=Ae.l0 k a0 a1 0
set_option maxHeartbeats 8000000 in
set_option maxRecDepth 100000 in
theorem Ae.calls (k:Nat) (a0:ByteArray) (a1:ByteArray) (r:Int) (w:World) (h:Ae.f k a0 a1=some r):
 Calls Tryz.prog 123 #[.string a0, .string a1] w λe w'=>e= .returned (.int .i64 r)/\Ap w w':=by
 have H:(Ae.l0 k a0 a1 0)=some r:=h;clear h;have H':=AA.mk H;clear H;go_enter Tryz.func123,Tryz.ntmps123;go_wp2;repeat (go_quiet (fail);try go_wp2)
 go_loopg [5] k (λkq v5 w'=>∃ (x5_1:Int),v5= .int .i64 x5_1/\AA (Ae.l0 kq a0 a1 x5_1=some r)/\AA (kq<=k)/\Ap w w');case atStart=>exact ⟨(0),xq,H',⟨Nat.le_refl _⟩,xd⟩
 case round=>
  clear H';try clear c1
  try clear p2
  obtain ⟨x5_1,rfl,HA,HK1,⟨m1,rfl⟩⟩:=hrel;cases gk with
  |zero=>exact absurd HA.out (by simp [Ae.l0])
  |succ k1=>
   have H:=HA.out;clear HA;simp only [Ae.l0] at H;have HC3:=AA.mk H;clear H;go_upto_region 2 with (fail)
   repeat (go_quiet (fail);go_upto_region 2 with (fail))
   go_cut [15] (λv15 wc=>∃ (kq:Nat) (x15_2:Bool),v15= .bool x15_2/\AA (Ae.j1 kq a0 a1 x5_1 x15_2=some r)/\AA (kq<=k1)/\Ap w wc);case first=>
    have H:=HC3.out;clear HC3;by_cases c4:x5_1<(a0.size:Int)
    ·rw [if_pos c4] at H;have c4b0:decide (x5_1<(a0.size:Int))=true:=decide_eq_true c4;clear c4;(first|rw [c4b0]|(simp only [DL,DU];rw [c4b0])|skip);have H':=AA.mk H;clear H;go_wp2;repeat (go_quiet (fail);try go_wp2)
     go_meet;case rel=>exact ⟨_,(decide (x5_1<(a1.size:Int))),xq,H',⟨by have:=HK1.out;first|omega|exact Nat.le_refl _⟩,xd⟩
    ·rw [if_neg c4] at H;have c4b0:decide (x5_1<(a0.size:Int))=false:=decide_eq_false c4;clear c4;(first|rw [c4b0]|(simp only [DL,DU];rw [c4b0])|skip);have H':=AA.mk H;clear H;go_wp2;repeat (go_quiet (fail);try go_wp2)
     go_meet;case rel=>exact ⟨_,(false),xq,H',⟨by have:=HK1.out;first|omega|exact Nat.le_refl _⟩,xd⟩
   case rest=>
    clear HC3;try clear c1
    try clear p2
    try clear c4
    try clear c4b0
    try clear p2
    obtain ⟨kq,x15_2,rfl,HA,HJ2,⟨mc2,rfl⟩⟩:=hcut;cases kq with
    |zero=>exact absurd HA.out (by simp [Ae.j1])
    |succ kj2=>
     have H:=HA.out;clear HA;simp only [Ae.j1] at H;by_cases c5:x15_2=true
     ·subst c5;have H1:(if 0<=x5_1 then (if x5_1<(a0.size:Int) then (if x5_1<(a1.size:Int) then (if (bt a0 x5_1)<(bt a1 x5_1) then (some (-1)) else (if (bt a0 x5_1)>(bt a1 x5_1) then (some 1) else (Ae.l0 kj2 a0 a1 (wrap64 (x5_1+1))))) else (none)) else (none)) else (none))=some r:=by rw [if_pos rfl] at H;exact H
      clear H;have H:=H1;clear H1;by_cases c6:0<=x5_1
      ·rw [if_pos c6] at H;have c6b0:decide (0<=x5_1)=true:=decide_eq_true c6;clear c6;by_cases c7:x5_1<(a0.size:Int)
       ·rw [if_pos c7] at H;have c7b0:decide (x5_1<(a0.size:Int))=true:=decide_eq_true c7;clear c7;by_cases c9:x5_1<(a1.size:Int)
        ·rw [if_pos c9] at H;have c9b0:decide (x5_1<(a1.size:Int))=true:=decide_eq_true c9;clear c9;by_cases c11:(bt a0 x5_1)<(bt a1 x5_1)
         ·rw [if_pos c11] at H;have c11b0:decide ((bt a0 x5_1)<(bt a1 x5_1))=true:=decide_eq_true c11;clear c11;obtain rfl:=Option.some.inj H;have p8:0<=(x5_1:Int):=xa;have q8:x5_1<(a0.size:Int):=xa;have hx8:=Br a0 x5_1;replace p8:=eq_true p8;replace q8:=eq_true q8;have p10:0<=(x5_1:Int):=xa;have q10:x5_1<(a1.size:Int):=xa;have hx10:=Br a1 x5_1;replace p10:=eq_true p10;replace q10:=eq_true q10;go_wp2;repeat (go_quiet (fail);try go_wp2)
          go_ret;exact ⟨xq,xd⟩
         ·rw [if_neg c11] at H;have c11b0:decide ((bt a0 x5_1)<(bt a1 x5_1))=false:=decide_eq_false c11;clear c11;by_cases c14:(bt a0 x5_1)>(bt a1 x5_1)
          ·rw [if_pos c14] at H;have c14b0:decide ((bt a1 x5_1)<(bt a0 x5_1))=true:=decide_eq_true c14;clear c14;obtain rfl:=Option.some.inj H;have p8:0<=(x5_1:Int):=xa;have q8:x5_1<(a0.size:Int):=xa;have hx8:=Br a0 x5_1;replace p8:=eq_true p8;replace q8:=eq_true q8;have p10:0<=(x5_1:Int):=xa;have q10:x5_1<(a1.size:Int):=xa;have hx10:=Br a1 x5_1;replace p10:=eq_true p10;replace q10:=eq_true q10;have p12:0<=(x5_1:Int):=xa;have q12:x5_1<(a0.size:Int):=xa;have hx12:=Br a0 x5_1;replace p12:=eq_true p12;replace q12:=eq_true q12;have p13:0<=(x5_1:Int):=xa;have q13:x5_1<(a1.size:Int):=xa;have hx13:=Br a1 x5_1;replace p13:=eq_true p13;replace q13:=eq_true q13;go_wp2;repeat (go_quiet (fail);try go_wp2)
           go_ret;exact ⟨xq,xd⟩
          ·rw [if_neg c14] at H;have c14b0:decide ((bt a1 x5_1)<(bt a0 x5_1))=false:=decide_eq_false c14;clear c14;have H':=AA.mk H;clear H;have p8:0<=(x5_1:Int):=xa;have q8:x5_1<(a0.size:Int):=xa;have hx8:=Br a0 x5_1;replace p8:=eq_true p8;replace q8:=eq_true q8;have p10:0<=(x5_1:Int):=xa;have q10:x5_1<(a1.size:Int):=xa;have hx10:=Br a1 x5_1;replace p10:=eq_true p10;replace q10:=eq_true q10;have p12:0<=(x5_1:Int):=xa;have q12:x5_1<(a0.size:Int):=xa;have hx12:=Br a0 x5_1;replace p12:=eq_true p12;replace q12:=eq_true q12;have p13:0<=(x5_1:Int):=xa;have q13:x5_1<(a1.size:Int):=xa;have hx13:=Br a1 x5_1;replace p13:=eq_true p13;replace q13:=eq_true q13;go_wp2;repeat (go_quiet (fail);try go_wp2)
           go_roundg kj2;case measure=>have:=HK1.out;have:=HJ2.out;omega
           case rel=>exact ⟨(wrap64 (x5_1+1)),xq,H',⟨by have:=HK1.out;have:=HJ2.out;omega⟩,xd⟩
        ·rw [if_neg c9] at H;exact absurd H (by simp)
       ·rw [if_neg c7] at H;exact absurd H (by simp)
      ·rw [if_neg c6] at H;exact absurd H (by simp)
     ·replace c5:=Bool.eq_false_iff.mpr c5;subst c5;have H1:((CW.f (a0.size:Int) (a1.size:Int)).bind λt310=>(some t310))=some r:=by rw [if_neg (show ¬(false=true) by decide)] at H;exact H
      clear H;have H:=H1;clear H1;replace H:=Option.bind_eq_some_iff.mp H;obtain ⟨t310,A150,H⟩:=H;replace H:(some t310)=some r:=H;have A15:=AA.mk A150;clear A150;obtain rfl:=Option.some.inj H;go_wp2_with (first|(go_at_call 136;(with_reducible refine (CW.calls (a0.size:Int) (a1.size:Int) t310 _ A15.out).mono ?_);rintro e w' ⟨rfl,⟨nd,rfl⟩⟩;(try first|exact ⟨rfl,_,World.drewN_drewN _ _ _⟩|exact ⟨rfl,_,Eq.trans (World.drewN_drewN _ _ _) (congrArg (World.drewN _) (Nat.add_assoc _ _ _))⟩)));repeat (go_quiet (first|(go_at_call 136;(with_reducible refine (CW.calls (a0.size:Int) (a1.size:Int) t310 _ A15.out).mono ?_);rintro e w' ⟨rfl,⟨nd,rfl⟩⟩;(try first|exact ⟨rfl,_,World.drewN_drewN _ _ _⟩|exact ⟨rfl,_,Eq.trans (World.drewN_drewN _ _ _) (congrArg (World.drewN _) (Nat.add_assoc _ _ _))⟩)));try go_wp2_with (first|(go_at_call 136;(with_reducible refine (CW.calls (a0.size:Int) (a1.size:Int) t310 _ A15.out).mono ?_);rintro e w' ⟨rfl,⟨nd,rfl⟩⟩;(try first|exact ⟨rfl,_,World.drewN_drewN _ _ _⟩|exact ⟨rfl,_,Eq.trans (World.drewN_drewN _ _ _) (congrArg (World.drewN _) (Nat.add_assoc _ _ _))⟩))))
      go_ret;exact ⟨xq,xd⟩
end Go.Proofs.YtikggnalmidlhaaGreatDoor.Print
end
