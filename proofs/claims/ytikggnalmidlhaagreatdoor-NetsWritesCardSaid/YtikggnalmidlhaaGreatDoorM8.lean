/- Several parts of the claim's proof in one text, said short by a program of this session. No condition. -/
import Derived.Test.YtikggnalmidlhaaGreatDoorM6
section
namespace Go.Proofs.YtikggnalmidlhaaGreatDoor.Print
open RowKit AR Aa Ad
attribute [local go_sem] BM BN Bo Bp BC BD BO BP
set_option linter.unusedVariables false
set_option linter.unusedSimpArgs false
def De.f (l0_0:List (Cj)):Option (Int):=some (l0_0.length:Int)
set_option maxHeartbeats 8000000 in
set_option maxRecDepth 100000 in
theorem De.calls (A0_0:Option Addr) (c0_0:Nat) (l0_0:List (Cj)) (r:Int) (w:World) (hr0_0:Kd.C Ex w A0_0 l0_0.length l0_0) (hc0_0:l0_0.length<=c0_0) (h:De.f l0_0=some r):
 Calls Tryz.prog 38 #[.agg #[.slice A0_0 l0_0.length c0_0]] w λe w'=>e= .returned (.int .i64 r)/\Below w.heap.size w w':=by
 have hu25:=Tryz.underlying25;have HR0_0:=AA.mk hr0_0;have HC0_0:=AA.mk hc0_0;clear hr0_0 hc0_0;have HB:=AA.mk (Below.refl w.heap.size w);have H:(some (l0_0.length:Int))=some r:=h;clear h;obtain rfl:=Option.some.inj H;go_enter Tryz.func38,Tryz.ntmps38;go_wp2_with (first|(refine Dk (N:=1) (cs:=#[.slice A0_0 l0_0.length c0_0]) (t:=25) (λgb176 hg w2 hbox hb=>?_);have BK176:=AA.mk (hbox);have GW176:AA (w.heap.size<=gb176):=Dp hg xb;have GE176:AA (w.heap.size<=gb176):=Dp hg xb;replace HB:=AA.mk (AP xb hb);clear hb hbox hg;have hcz3_0:w2.cell? ⟨gb176,0,none⟩=some (.slice A0_0 l0_0.length c0_0):=(AL BK176.out 0).trans rfl;have hfz3_0:=AX BK176.out 0));go_ret;exact ⟨xe,xb⟩
end Go.Proofs.YtikggnalmidlhaaGreatDoor.Print
end
section
namespace Go.Proofs.YtikggnalmidlhaaGreatDoor.Print
open RowKit AR Aa Ad
attribute [local go_sem] BM BN Bo Bp BC BD BO BP
set_option linter.unusedVariables false
set_option linter.unusedSimpArgs false
def EA.f (a0:Bool):Option (ByteArray):=if a0=true then (some (⟨#[84,82,85,69]⟩:ByteArray)) else (some (⟨#[70,65,76,83,69]⟩:ByteArray))
set_option maxHeartbeats 8000000 in
set_option maxRecDepth 100000 in
theorem EA.calls (a0:Bool) (r:ByteArray) (w:World) (h:EA.f a0=some r):
 Calls Tryz.prog 42 #[.bool a0] w λe w'=>e= .returned (.string r)/\Ap w w':=by
 have H:(if a0=true then (some (⟨#[84,82,85,69]⟩:ByteArray)) else (some (⟨#[70,65,76,83,69]⟩:ByteArray)))=some r:=h;clear h;by_cases c2:a0=true
 ·subst c2;rw [if_pos rfl] at H;obtain rfl:=Option.some.inj H;go_enter Tryz.func42,Tryz.ntmps42;go_wp2;go_ret;exact ⟨xq,xd⟩
 ·replace c2:=Bool.eq_false_iff.mpr c2;subst c2;have H1:(some (⟨#[70,65,76,83,69]⟩:ByteArray))=some r:=by rw [if_neg (show ¬(false=true) by decide)] at H;exact H
  clear H;have H:=H1;clear H1;obtain rfl:=Option.some.inj H;go_enter Tryz.func42,Tryz.ntmps42;go_wp2;go_ret;exact ⟨xq,xd⟩
end Go.Proofs.YtikggnalmidlhaaGreatDoor.Print
end
section
namespace Go.Proofs.YtikggnalmidlhaaGreatDoor.Print
open RowKit AR Aa Ad
attribute [local go_sem] BM BN Bo Bp BC BD BO BP
set_option linter.unusedVariables false
set_option linter.unusedSimpArgs false
def stringslite_HasPrefix.f (a0:ByteArray) (a1:ByteArray):Option (Bool):=if (a0.size:Int)>=(a1.size:Int) then (if 0<=(a1.size:Int) then (if (a1.size:Int)<=(a0.size:Int) then (some ((a0.extract 0 ((a1.size:Int):Int).toNat).toList==a1.toList)) else (none)) else (none)) else (some false)
set_option maxHeartbeats 8000000 in
set_option maxRecDepth 100000 in
theorem stringslite_HasPrefix.calls (a0:ByteArray) (a1:ByteArray) (r:Bool) (w:World) (h:stringslite_HasPrefix.f a0 a1=some r):
 Calls Tryz.prog 83 #[.string a0, .string a1] w λe w'=>e= .returned (.bool r)/\Ap w w':=by
 have H:(if (a0.size:Int)>=(a1.size:Int) then (if 0<=(a1.size:Int) then (if (a1.size:Int)<=(a0.size:Int) then (some ((a0.extract 0 ((a1.size:Int):Int).toNat).toList==a1.toList)) else (none)) else (none)) else (some false))=some r:=h;clear h;by_cases c3:(a0.size:Int)>=(a1.size:Int)
 ·rw [if_pos c3] at H;have c3b0:decide ((a1.size:Int)<=(a0.size:Int))=true:=decide_eq_true c3;have c3b1:decide (a1.size<=a0.size)=true:=decide_eq_true (Int.ofNat_le.mp c3);clear c3;by_cases c4:0<=(a1.size:Int)
  ·rw [if_pos c4] at H;have c4b0:=eq_true c4;have c4b1:decide (0<=(a1.size:Int))=true:=decide_eq_true c4;clear c4;by_cases c5:(a1.size:Int)<=(a0.size:Int)
   ·rw [if_pos c5] at H;have c5b0:=eq_true c5;have c5b1:decide ((a1.size:Int)<=(a0.size:Int))=true:=decide_eq_true c5;clear c5;obtain rfl:=Option.some.inj H;go_enter Tryz.func83,Tryz.ntmps83;go_wp2;go_ret;exact ⟨xq,xd⟩
   ·rw [if_neg c5] at H;exact absurd H (by simp)
  ·rw [if_neg c4] at H;exact absurd H (by simp)
 ·rw [if_neg c3] at H;have c3b0:decide ((a1.size:Int)<=(a0.size:Int))=false:=decide_eq_false c3;have c3b1:decide (a1.size<=a0.size)=false:=decide_eq_false (λh=>c3 (Int.ofNat_le.mpr h));clear c3;obtain rfl:=Option.some.inj H;go_enter Tryz.func83,Tryz.ntmps83;go_wp2;go_ret;exact ⟨xq,xd⟩
def strings_HasPrefix.f (a0:ByteArray) (a1:ByteArray):Option (Bool):=(stringslite_HasPrefix.f a0 a1).bind λt216=>(some t216)
set_option maxHeartbeats 8000000 in
set_option maxRecDepth 100000 in
theorem strings_HasPrefix.calls (a0:ByteArray) (a1:ByteArray) (r:Bool) (w:World) (h:strings_HasPrefix.f a0 a1=some r):
 Calls Tryz.prog 53 #[.string a0, .string a1] w λe w'=>e= .returned (.bool r)/\Ap w w':=by
 have H:((stringslite_HasPrefix.f a0 a1).bind λt216=>(some t216))=some r:=h;clear h;replace H:=Option.bind_eq_some_iff.mp H;obtain ⟨t216,A30,H⟩:=H;try dsimp only at H
 have A3:=AA.mk A30;clear A30;obtain rfl:=Option.some.inj H;go_enter Tryz.func53,Tryz.ntmps53;go_wp2_with (first|((with_reducible refine AO (f:=83) rfl ?_);refine Ak (some 7) rfl rfl Tryz.func83 (by kernel_rfl) rfl #[.string a0, .string a1] rfl xg ?_;(with_reducible refine (stringslite_HasPrefix.calls a0 a1 t216 _ A3.out).mono ?_);rintro e w' ⟨rfl,⟨nd,rfl⟩⟩;refine ⟨_,rfl,?_⟩));go_ret;exact ⟨xq,xd⟩
def stringslite_CutPrefix.f (a0:ByteArray) (a1:ByteArray):Option (ByteArray×Bool):=(stringslite_HasPrefix.f a0 a1).bind λt217=>(if t217=true then (if 0<=(a1.size:Int) then (if (a1.size:Int)<=(a0.size:Int) then (some (a0.extract ((a1.size:Int):Int).toNat a0.size,true)) else (none)) else (none)) else (some (a0,false)))
set_option maxHeartbeats 8000000 in
set_option maxRecDepth 100000 in
theorem stringslite_CutPrefix.calls (a0:ByteArray) (a1:ByteArray) (r1:ByteArray) (r2:Bool) (w:World) (h:stringslite_CutPrefix.f a0 a1=some (r1,r2)):
 Calls Tryz.prog 84 #[.string a0, .string a1] w λe w'=>e= .returned (.tuple #[.string r1, .bool r2])/\Ap w w':=by
 have H:((stringslite_HasPrefix.f a0 a1).bind λt217=>(if t217=true then (if 0<=(a1.size:Int) then (if (a1.size:Int)<=(a0.size:Int) then (some (a0.extract ((a1.size:Int):Int).toNat a0.size,true)) else (none)) else (none)) else (some (a0,false))))=some (r1,r2):=h;clear h;replace H:=Option.bind_eq_some_iff.mp H;obtain ⟨t217,A30,H⟩:=H;try dsimp only at H
 have A3:=AA.mk A30;clear A30;by_cases c4:t217=true
 ·subst c4;rw [if_pos rfl] at H;by_cases c5:0<=(a1.size:Int)
  ·rw [if_pos c5] at H;have c5b0:=eq_true c5;have c5b1:decide (0<=(a1.size:Int))=true:=decide_eq_true c5;clear c5;by_cases c6:(a1.size:Int)<=(a0.size:Int)
   ·rw [if_pos c6] at H;have c6b0:=eq_true c6;have c6b1:decide ((a1.size:Int)<=(a0.size:Int))=true:=decide_eq_true c6;clear c6;simp only [Option.some.injEq,Prod.mk.injEq] at H;obtain ⟨rfl,rfl⟩:=H;go_enter Tryz.func84,Tryz.ntmps84;go_wp2_with (first|((with_reducible refine AO (f:=83) rfl ?_);refine Ak (some 8) rfl rfl Tryz.func83 (by kernel_rfl) rfl #[.string a0, .string a1] rfl xg ?_;(with_reducible refine (stringslite_HasPrefix.calls a0 a1 true _ A3.out).mono ?_);rintro e w' ⟨rfl,⟨nd,rfl⟩⟩;refine ⟨_,rfl,?_⟩));go_ret2;exact ⟨xq,xd⟩
   ·rw [if_neg c6] at H;exact absurd H (by simp)
  ·rw [if_neg c5] at H;exact absurd H (by simp)
 ·replace c4:=Bool.eq_false_iff.mpr c4;subst c4;have H1:(some (a0,false))=some (r1,r2):=by rw [if_neg (show ¬(false=true) by decide)] at H;exact H
  clear H;have H:=H1;clear H1;simp only [Option.some.injEq,Prod.mk.injEq] at H;obtain ⟨rfl,rfl⟩:=H;go_enter Tryz.func84,Tryz.ntmps84;go_wp2_with (first|((with_reducible refine AO (f:=83) rfl ?_);refine Ak (some 8) rfl rfl Tryz.func83 (by kernel_rfl) rfl #[.string a0, .string a1] rfl xg ?_;(with_reducible refine (stringslite_HasPrefix.calls a0 a1 false _ A3.out).mono ?_);rintro e w' ⟨rfl,⟨nd,rfl⟩⟩;refine ⟨_,rfl,?_⟩));go_ret2;exact ⟨xq,xd⟩
end Go.Proofs.YtikggnalmidlhaaGreatDoor.Print
end
section
namespace Go.Proofs.YtikggnalmidlhaaGreatDoor.Print
open RowKit AR Aa Ad
attribute [local go_sem] BM BN Bo Bp BC BD BO BP
set_option linter.unusedVariables false
set_option linter.unusedSimpArgs false
theorem Ti (d:Nat) (w:World) (x0 y0:ByteArray) (x1 y1:ByteArray) (x2 y2:ByteArray):
 (Op.equalIn (d+2) 114 (.agg #[.string x0, .string x1, .string x2]) (.agg #[.string y0, .string y1, .string y2])).run Tryz.prog w= .ok (x0.toList==y0.toList&&(x1.toList==y1.toList&&(x2.toList==y2.toList))) w:=by
 refine Qb Tryz.underlying114 (by kernel_rfl) ?_;refine D9 (by rfl) (by go_simp;rfl) (by go_simp;rfl) (by go_simp) ?_;refine D9 (by rfl) (by go_simp;rfl) (by go_simp;rfl) (by go_simp) ?_;exact Mg (by rfl) (by go_simp;rfl) (by go_simp;rfl) (by go_simp)
end Go.Proofs.YtikggnalmidlhaaGreatDoor.Print
end
section
namespace Go.Proofs.YtikggnalmidlhaaGreatDoor.Print
open RowKit AR Aa Ad
attribute [local go_sem] BM BN Bo Bp BC BD BO BP
set_option linter.unusedVariables false
set_option linter.unusedSimpArgs false
def Ba.l0:Nat->List (CU)->Int->Option (Bool)
 |0,_,_=>none
 |k+1,x0,x3=>if x3<(x0.length:Int) then (if 0<=x3 then (if (((AB x0 x3).f0).size:Int)>300 then (some false) else (if (((AB x0 x3).f1).size:Int)>300 then (some false) else (if (((AB x0 x3).f2).size:Int)>300 then (some false) else (if (((AB x0 x3).f3).size:Int)>300 then (some false) else (Ba.l0 k x0 (wrap64 (x3+1))))))) else (none)) else (some true)
def Ba.f (k:Nat) (l0:List (CU)):Option (Bool):=if (l0.length:Int)>100 then (some false) else (Ba.l0 k l0 0)
set_option maxHeartbeats 8000000 in
set_option maxRecDepth 100000 in
theorem Ba.calls (k:Nat) (A0:Option Addr) (c0:Nat) (l0:List (CU)) (r:Bool) (w:World) (hr0:Kd.C Fu w A0 l0.length l0) (hc0:l0.length<=c0) (h:Ba.f k l0=some r):
 Calls Tryz.prog 20 #[.slice A0 l0.length c0] w λe w'=>e= .returned (.bool r)/\Ap w w':=by
 have HR0:=AA.mk hr0;have HC0:=AA.mk hc0;clear hr0 hc0;have H:(if (l0.length:Int)>100 then (some false) else (Ba.l0 k l0 0))=some r:=h;clear h;by_cases c2:(l0.length:Int)>100
 ·rw [if_pos c2] at H;have c2b0:decide (100<(l0.length:Int))=true:=decide_eq_true c2;have c2b1:decide (100<l0.length)=true:=decide_eq_true (by omega);clear c2;obtain rfl:=Option.some.inj H;go_enter Tryz.func20,Tryz.ntmps20;go_wp2;go_ret;exact ⟨xq,xd⟩
 ·rw [if_neg c2] at H;have c2b0:decide (100<(l0.length:Int))=false:=decide_eq_false c2;have c2b1:decide (100<l0.length)=false:=decide_eq_false (by omega);clear c2;have H':=AA.mk H;clear H;go_enter Tryz.func20,Tryz.ntmps20;go_wp2;go_loopg [3] k (λkq v3 w'=>∃ (x3_1:Int),v3= .int .i64 x3_1/\AA (Ba.l0 kq l0 x3_1=some r)/\AA (kq<=k)/\Ap w w');case atStart=>exact ⟨(0),xq,H',⟨Nat.le_refl _⟩,xd⟩
  case round=>
   clear H';try clear c2
   try clear c2b0
   try clear c2b1
   try clear p2
   obtain ⟨x3_1,rfl,HA,HK1,⟨m1,rfl⟩⟩:=hrel;cases gk with
   |zero=>exact absurd HA.out (by simp [Ba.l0])
   |succ k1=>
    have H:=HA.out;clear HA;simp only [Ba.l0] at H;by_cases c3:x3_1<(l0.length:Int)
    ·rw [if_pos c3] at H;have c3b0:decide (x3_1<(l0.length:Int))=true:=decide_eq_true c3;clear c3;by_cases c4:0<=x3_1
     ·rw [if_pos c4] at H;have c4b0:decide (0<=x3_1)=true:=decide_eq_true c4;clear c4;by_cases c5:(((AB l0 x3_1).f0).size:Int)>300
      ·rw [if_pos c5] at H;have c5b0:decide (300<(((AB l0 x3_1).f0).size:Int))=true:=decide_eq_true c5;have c5b1:decide (300<((AB l0 x3_1).f0).size)=true:=decide_eq_true (by omega);clear c5;obtain rfl:=Option.some.inj H;have p251:0<=(x3_1:Int):=xa;have q251:x3_1<(l0.length:Int):=xa;obtain ⟨ad251,e251,hx251_0,hx251_1,hx251_2,hx251_3,hx251_4,hx251_5,hx251_6,hx251_7,hx251_8,hx251_9,hx251_10⟩:=Ce HR0.out x3_1 p251 q251;cases e251;replace p251:=eq_true p251;replace q251:=eq_true q251;go_wp2;go_ret;exact ⟨xq,xd⟩
      ·rw [if_neg c5] at H;have c5b0:decide (300<(((AB l0 x3_1).f0).size:Int))=false:=decide_eq_false c5;have c5b1:decide (300<((AB l0 x3_1).f0).size)=false:=decide_eq_false (by omega);clear c5;by_cases c6:(((AB l0 x3_1).f1).size:Int)>300
       ·rw [if_pos c6] at H;have c6b0:decide (300<(((AB l0 x3_1).f1).size:Int))=true:=decide_eq_true c6;have c6b1:decide (300<((AB l0 x3_1).f1).size)=true:=decide_eq_true (by omega);clear c6;obtain rfl:=Option.some.inj H;have p251:0<=(x3_1:Int):=xa;have q251:x3_1<(l0.length:Int):=xa;obtain ⟨ad251,e251,hx251_0,hx251_1,hx251_2,hx251_3,hx251_4,hx251_5,hx251_6,hx251_7,hx251_8,hx251_9,hx251_10⟩:=Ce HR0.out x3_1 p251 q251;cases e251;replace p251:=eq_true p251;replace q251:=eq_true q251;have p252:0<=(x3_1:Int):=xa;have q252:x3_1<(l0.length:Int):=xa;obtain ⟨ad252,e252,hx252_0,hx252_1,hx252_2,hx252_3,hx252_4,hx252_5,hx252_6,hx252_7,hx252_8,hx252_9,hx252_10⟩:=Ce HR0.out x3_1 p252 q252;obtain rfl:ad251=ad252:=(by injection e252);replace p252:=eq_true p252;replace q252:=eq_true q252;go_wp2;go_ret;exact ⟨xq,xd⟩
       ·rw [if_neg c6] at H;have c6b0:decide (300<(((AB l0 x3_1).f1).size:Int))=false:=decide_eq_false c6;have c6b1:decide (300<((AB l0 x3_1).f1).size)=false:=decide_eq_false (by omega);clear c6;by_cases c7:(((AB l0 x3_1).f2).size:Int)>300
        ·rw [if_pos c7] at H;have c7b0:decide (300<(((AB l0 x3_1).f2).size:Int))=true:=decide_eq_true c7;have c7b1:decide (300<((AB l0 x3_1).f2).size)=true:=decide_eq_true (by omega);clear c7;obtain rfl:=Option.some.inj H;have p251:0<=(x3_1:Int):=xa;have q251:x3_1<(l0.length:Int):=xa;obtain ⟨ad251,e251,hx251_0,hx251_1,hx251_2,hx251_3,hx251_4,hx251_5,hx251_6,hx251_7,hx251_8,hx251_9,hx251_10⟩:=Ce HR0.out x3_1 p251 q251;cases e251;replace p251:=eq_true p251;replace q251:=eq_true q251;have p252:0<=(x3_1:Int):=xa;have q252:x3_1<(l0.length:Int):=xa;obtain ⟨ad252,e252,hx252_0,hx252_1,hx252_2,hx252_3,hx252_4,hx252_5,hx252_6,hx252_7,hx252_8,hx252_9,hx252_10⟩:=Ce HR0.out x3_1 p252 q252;obtain rfl:ad251=ad252:=(by injection e252);replace p252:=eq_true p252;replace q252:=eq_true q252;have p253:0<=(x3_1:Int):=xa;have q253:x3_1<(l0.length:Int):=xa;obtain ⟨ad253,e253,hx253_0,hx253_1,hx253_2,hx253_3,hx253_4,hx253_5,hx253_6,hx253_7,hx253_8,hx253_9,hx253_10⟩:=Ce HR0.out x3_1 p253 q253;obtain rfl:ad251=ad253:=(by injection e253);replace p253:=eq_true p253;replace q253:=eq_true q253;go_wp2;go_ret;exact ⟨xq,xd⟩
        ·rw [if_neg c7] at H;have c7b0:decide (300<(((AB l0 x3_1).f2).size:Int))=false:=decide_eq_false c7;have c7b1:decide (300<((AB l0 x3_1).f2).size)=false:=decide_eq_false (by omega);clear c7;by_cases c8:(((AB l0 x3_1).f3).size:Int)>300
         ·rw [if_pos c8] at H;have c8b0:decide (300<(((AB l0 x3_1).f3).size:Int))=true:=decide_eq_true c8;have c8b1:decide (300<((AB l0 x3_1).f3).size)=true:=decide_eq_true (by omega);clear c8;obtain rfl:=Option.some.inj H;have p251:0<=(x3_1:Int):=xa;have q251:x3_1<(l0.length:Int):=xa;obtain ⟨ad251,e251,hx251_0,hx251_1,hx251_2,hx251_3,hx251_4,hx251_5,hx251_6,hx251_7,hx251_8,hx251_9,hx251_10⟩:=Ce HR0.out x3_1 p251 q251;cases e251;replace p251:=eq_true p251;replace q251:=eq_true q251;have p252:0<=(x3_1:Int):=xa;have q252:x3_1<(l0.length:Int):=xa;obtain ⟨ad252,e252,hx252_0,hx252_1,hx252_2,hx252_3,hx252_4,hx252_5,hx252_6,hx252_7,hx252_8,hx252_9,hx252_10⟩:=Ce HR0.out x3_1 p252 q252;obtain rfl:ad251=ad252:=(by injection e252);replace p252:=eq_true p252;replace q252:=eq_true q252;have p253:0<=(x3_1:Int):=xa;have q253:x3_1<(l0.length:Int):=xa;obtain ⟨ad253,e253,hx253_0,hx253_1,hx253_2,hx253_3,hx253_4,hx253_5,hx253_6,hx253_7,hx253_8,hx253_9,hx253_10⟩:=Ce HR0.out x3_1 p253 q253;obtain rfl:ad251=ad253:=(by injection e253);replace p253:=eq_true p253;replace q253:=eq_true q253;have p254:0<=(x3_1:Int):=xa;have q254:x3_1<(l0.length:Int):=xa;obtain ⟨ad254,e254,hx254_0,hx254_1,hx254_2,hx254_3,hx254_4,hx254_5,hx254_6,hx254_7,hx254_8,hx254_9,hx254_10⟩:=Ce HR0.out x3_1 p254 q254;obtain rfl:ad251=ad254:=(by injection e254);replace p254:=eq_true p254;replace q254:=eq_true q254;go_wp2;go_ret;exact ⟨xq,xd⟩
         ·rw [if_neg c8] at H;have c8b0:decide (300<(((AB l0 x3_1).f3).size:Int))=false:=decide_eq_false c8;have c8b1:decide (300<((AB l0 x3_1).f3).size)=false:=decide_eq_false (by omega);clear c8;have H':=AA.mk H;clear H;have p251:0<=(x3_1:Int):=xa;have q251:x3_1<(l0.length:Int):=xa;obtain ⟨ad251,e251,hx251_0,hx251_1,hx251_2,hx251_3,hx251_4,hx251_5,hx251_6,hx251_7,hx251_8,hx251_9,hx251_10⟩:=Ce HR0.out x3_1 p251 q251;cases e251;replace p251:=eq_true p251;replace q251:=eq_true q251;have p252:0<=(x3_1:Int):=xa;have q252:x3_1<(l0.length:Int):=xa;obtain ⟨ad252,e252,hx252_0,hx252_1,hx252_2,hx252_3,hx252_4,hx252_5,hx252_6,hx252_7,hx252_8,hx252_9,hx252_10⟩:=Ce HR0.out x3_1 p252 q252;obtain rfl:ad251=ad252:=(by injection e252);replace p252:=eq_true p252;replace q252:=eq_true q252;have p253:0<=(x3_1:Int):=xa;have q253:x3_1<(l0.length:Int):=xa;obtain ⟨ad253,e253,hx253_0,hx253_1,hx253_2,hx253_3,hx253_4,hx253_5,hx253_6,hx253_7,hx253_8,hx253_9,hx253_10⟩:=Ce HR0.out x3_1 p253 q253;obtain rfl:ad251=ad253:=(by injection e253);replace p253:=eq_true p253;replace q253:=eq_true q253;have p254:0<=(x3_1:Int):=xa;have q254:x3_1<(l0.length:Int):=xa;obtain ⟨ad254,e254,hx254_0,hx254_1,hx254_2,hx254_3,hx254_4,hx254_5,hx254_6,hx254_7,hx254_8,hx254_9,hx254_10⟩:=Ce HR0.out x3_1 p254 q254;obtain rfl:ad251=ad254:=(by injection e254);replace p254:=eq_true p254;replace q254:=eq_true q254;go_wp2;go_roundg k1;case measure=>have:=HK1.out;omega
          case rel=>exact ⟨(wrap64 (x3_1+1)),xq,H',⟨by have:=HK1.out;omega⟩,xd⟩
     ·rw [if_neg c4] at H;exact absurd H (by simp)
    ·rw [if_neg c3] at H;have c3b0:decide (x3_1<(l0.length:Int))=false:=decide_eq_false c3;clear c3;obtain rfl:=Option.some.inj H;go_wp2;go_ret;exact ⟨xq,xd⟩
end Go.Proofs.YtikggnalmidlhaaGreatDoor.Print
end
