/- Several parts of the claim's proof in one text, said short by a program of this session. No condition. -/
import Derived.Test.YtikggnalmidlhaaGreatDoorM5
section
namespace Go.Proofs.YtikggnalmidlhaaGreatDoor.Print
open RowKit AR Aa Ad
attribute [local go_sem] BM BN Bo Bp BC BD BO BP
set_option linter.unusedVariables false
set_option linter.unusedSimpArgs false
def stringslite_HasPrefix.f (a0:ByteArray) (a1:ByteArray):Option (Bool):=if (a0.size:Int)>=(a1.size:Int) then (if 0<=(a1.size:Int) then (if (a1.size:Int)<=(a0.size:Int) then (some ((a0.extract 0 ((a1.size:Int):Int).toNat).toList==a1.toList)) else (none)) else (none)) else (some false)
set_option maxHeartbeats 8000000 in
set_option maxRecDepth 100000 in
theorem stringslite_HasPrefix.calls (a0:ByteArray) (a1:ByteArray) (r:Bool) (w:World) (h:stringslite_HasPrefix.f a0 a1=some r):
 Calls Tryz.prog 83 #[.string a0, .string a1] w λe w'=>e= .returned (.bool r)/\Ap w w':=by
 have H:(if (a0.size:Int)>=(a1.size:Int) then (if 0<=(a1.size:Int) then (if (a1.size:Int)<=(a0.size:Int) then (some ((a0.extract 0 ((a1.size:Int):Int).toNat).toList==a1.toList)) else (none)) else (none)) else (some false))=some r:=h;clear h;by_cases c3:(a0.size:Int)>=(a1.size:Int)
 ·rw [if_pos c3] at H;have c3b0:decide ((a1.size:Int)<=(a0.size:Int))=true:=decide_eq_true c3;have c3b1:decide (a1.size<=a0.size)=true:=decide_eq_true (Int.ofNat_le.mp c3);clear c3;by_cases c4:0<=(a1.size:Int)
  ·rw [if_pos c4] at H;have c4b0:=eq_true c4;have c4b1:decide (0<=(a1.size:Int))=true:=decide_eq_true c4;clear c4;by_cases c5:(a1.size:Int)<=(a0.size:Int)
   ·rw [if_pos c5] at H;have c5b0:=eq_true c5;have c5b1:decide ((a1.size:Int)<=(a0.size:Int))=true:=decide_eq_true c5;clear c5;obtain rfl:=Option.some.inj H;go_enter Tryz.func83,Tryz.ntmps83;go_wp2;go_ret;exact ⟨xq,xd⟩
   ·rw [if_neg c5] at H;exact absurd H (by simp)
  ·rw [if_neg c4] at H;exact absurd H (by simp)
 ·rw [if_neg c3] at H;have c3b0:decide ((a1.size:Int)<=(a0.size:Int))=false:=decide_eq_false c3;have c3b1:decide (a1.size<=a0.size)=false:=decide_eq_false (λh=>c3 (Int.ofNat_le.mpr h));clear c3;obtain rfl:=Option.some.inj H;go_enter Tryz.func83,Tryz.ntmps83;go_wp2;go_ret;exact ⟨xq,xd⟩
def strings_HasPrefix.f (a0:ByteArray) (a1:ByteArray):Option (Bool):=(stringslite_HasPrefix.f a0 a1).bind λt216=>(some t216)
set_option maxHeartbeats 8000000 in
set_option maxRecDepth 100000 in
theorem strings_HasPrefix.calls (a0:ByteArray) (a1:ByteArray) (r:Bool) (w:World) (h:strings_HasPrefix.f a0 a1=some r):
 Calls Tryz.prog 53 #[.string a0, .string a1] w λe w'=>e= .returned (.bool r)/\Ap w w':=by
 have H:((stringslite_HasPrefix.f a0 a1).bind λt216=>(some t216))=some r:=h;clear h;replace H:=Option.bind_eq_some_iff.mp H;obtain ⟨t216,A30,H⟩:=H;try dsimp only at H
 have A3:=AA.mk A30;clear A30;obtain rfl:=Option.some.inj H;go_enter Tryz.func53,Tryz.ntmps53;go_wp2_with (first|((with_reducible refine AO (f:=83) rfl ?_);refine Ak (some 7) rfl rfl Tryz.func83 (by kernel_rfl) rfl #[.string a0, .string a1] rfl xg ?_;(with_reducible refine (stringslite_HasPrefix.calls a0 a1 t216 _ A3.out).mono ?_);rintro e w' ⟨rfl,⟨nd,rfl⟩⟩;refine ⟨_,rfl,?_⟩));go_ret;exact ⟨xq,xd⟩
def stringslite_CutPrefix.f (a0:ByteArray) (a1:ByteArray):Option (ByteArray×Bool):=(stringslite_HasPrefix.f a0 a1).bind λt217=>(if t217=true then (if 0<=(a1.size:Int) then (if (a1.size:Int)<=(a0.size:Int) then (some (a0.extract ((a1.size:Int):Int).toNat a0.size,true)) else (none)) else (none)) else (some (a0,false)))
set_option maxHeartbeats 8000000 in
set_option maxRecDepth 100000 in
theorem stringslite_CutPrefix.calls (a0:ByteArray) (a1:ByteArray) (r1:ByteArray) (r2:Bool) (w:World) (h:stringslite_CutPrefix.f a0 a1=some (r1,r2)):
 Calls Tryz.prog 84 #[.string a0, .string a1] w λe w'=>e= .returned (.tuple #[.string r1, .bool r2])/\Ap w w':=by
 have H:((stringslite_HasPrefix.f a0 a1).bind λt217=>(if t217=true then (if 0<=(a1.size:Int) then (if (a1.size:Int)<=(a0.size:Int) then (some (a0.extract ((a1.size:Int):Int).toNat a0.size,true)) else (none)) else (none)) else (some (a0,false))))=some (r1,r2):=h;clear h;replace H:=Option.bind_eq_some_iff.mp H;obtain ⟨t217,A30,H⟩:=H;try dsimp only at H
 have A3:=AA.mk A30;clear A30;by_cases c4:t217=true
 ·subst c4;rw [if_pos rfl] at H;by_cases c5:0<=(a1.size:Int)
  ·rw [if_pos c5] at H;have c5b0:=eq_true c5;have c5b1:decide (0<=(a1.size:Int))=true:=decide_eq_true c5;clear c5;by_cases c6:(a1.size:Int)<=(a0.size:Int)
   ·rw [if_pos c6] at H;have c6b0:=eq_true c6;have c6b1:decide ((a1.size:Int)<=(a0.size:Int))=true:=decide_eq_true c6;clear c6;simp only [Option.some.injEq,Prod.mk.injEq] at H;obtain ⟨rfl,rfl⟩:=H;go_enter Tryz.func84,Tryz.ntmps84;go_wp2_with (first|((with_reducible refine AO (f:=83) rfl ?_);refine Ak (some 8) rfl rfl Tryz.func83 (by kernel_rfl) rfl #[.string a0, .string a1] rfl xg ?_;(with_reducible refine (stringslite_HasPrefix.calls a0 a1 true _ A3.out).mono ?_);rintro e w' ⟨rfl,⟨nd,rfl⟩⟩;refine ⟨_,rfl,?_⟩));go_ret2;exact ⟨xq,xd⟩
   ·rw [if_neg c6] at H;exact absurd H (by simp)
  ·rw [if_neg c5] at H;exact absurd H (by simp)
 ·replace c4:=Bool.eq_false_iff.mpr c4;subst c4;have H1:(some (a0,false))=some (r1,r2):=by rw [if_neg (show ¬(false=true) by decide)] at H;exact H
  clear H;have H:=H1;clear H1;simp only [Option.some.injEq,Prod.mk.injEq] at H;obtain ⟨rfl,rfl⟩:=H;go_enter Tryz.func84,Tryz.ntmps84;go_wp2_with (first|((with_reducible refine AO (f:=83) rfl ?_);refine Ak (some 8) rfl rfl Tryz.func83 (by kernel_rfl) rfl #[.string a0, .string a1] rfl xg ?_;(with_reducible refine (stringslite_HasPrefix.calls a0 a1 false _ A3.out).mono ?_);rintro e w' ⟨rfl,⟨nd,rfl⟩⟩;refine ⟨_,rfl,?_⟩));go_ret2;exact ⟨xq,xd⟩
end Go.Proofs.YtikggnalmidlhaaGreatDoor.Print
end
section
namespace Go.Proofs.YtikggnalmidlhaaGreatDoor.Print
open RowKit AR Aa Ad
attribute [local go_sem] BM BN Bo Bp BC BD BO BP
set_option linter.unusedVariables false
set_option linter.unusedSimpArgs false
theorem Ti (d:Nat) (w:World) (x0 y0:ByteArray) (x1 y1:ByteArray) (x2 y2:ByteArray):
 (Op.equalIn (d+2) 114 (.agg #[.string x0, .string x1, .string x2]) (.agg #[.string y0, .string y1, .string y2])).run Tryz.prog w= .ok (x0.toList==y0.toList&&(x1.toList==y1.toList&&(x2.toList==y2.toList))) w:=by
 refine Qb Tryz.underlying114 (by kernel_rfl) ?_;refine D9 (by rfl) (by go_simp;rfl) (by go_simp;rfl) (by go_simp) ?_;refine D9 (by rfl) (by go_simp;rfl) (by go_simp;rfl) (by go_simp) ?_;exact Mg (by rfl) (by go_simp;rfl) (by go_simp;rfl) (by go_simp)
end Go.Proofs.YtikggnalmidlhaaGreatDoor.Print
end
section
namespace Go.Proofs.YtikggnalmidlhaaGreatDoor.Print
open RowKit AR Aa Ad
attribute [local go_sem] BM BN Bo Bp BC BD BO BP
set_option linter.unusedVariables false
set_option linter.unusedSimpArgs false
def Ba.l0:Nat->List (CU)->Int->Option (Bool)
 |0,_,_=>none
 |k+1,x0,x3=>if x3<(x0.length:Int) then (if 0<=x3 then (if (((AB x0 x3).f0).size:Int)>300 then (some false) else (if (((AB x0 x3).f1).size:Int)>300 then (some false) else (if (((AB x0 x3).f2).size:Int)>300 then (some false) else (if (((AB x0 x3).f3).size:Int)>300 then (some false) else (Ba.l0 k x0 (wrap64 (x3+1))))))) else (none)) else (some true)
def Ba.f (k:Nat) (l0:List (CU)):Option (Bool):=if (l0.length:Int)>100 then (some false) else (Ba.l0 k l0 0)
set_option maxHeartbeats 8000000 in
set_option maxRecDepth 100000 in
theorem Ba.calls (k:Nat) (A0:Option Addr) (c0:Nat) (l0:List (CU)) (r:Bool) (w:World) (hr0:Kd.C Fu w A0 l0.length l0) (hc0:l0.length<=c0) (h:Ba.f k l0=some r):
 Calls Tryz.prog 20 #[.slice A0 l0.length c0] w λe w'=>e= .returned (.bool r)/\Ap w w':=by
 have HR0:=AA.mk hr0;have HC0:=AA.mk hc0;clear hr0 hc0;have H:(if (l0.length:Int)>100 then (some false) else (Ba.l0 k l0 0))=some r:=h;clear h;by_cases c2:(l0.length:Int)>100
 ·rw [if_pos c2] at H;have c2b0:decide (100<(l0.length:Int))=true:=decide_eq_true c2;have c2b1:decide (100<l0.length)=true:=decide_eq_true (by omega);clear c2;obtain rfl:=Option.some.inj H;go_enter Tryz.func20,Tryz.ntmps20;go_wp2;go_ret;exact ⟨xq,xd⟩
 ·rw [if_neg c2] at H;have c2b0:decide (100<(l0.length:Int))=false:=decide_eq_false c2;have c2b1:decide (100<l0.length)=false:=decide_eq_false (by omega);clear c2;have H':=AA.mk H;clear H;go_enter Tryz.func20,Tryz.ntmps20;go_wp2;go_loopg [3] k (λkq v3 w'=>∃ (x3_1:Int),v3= .int .i64 x3_1/\AA (Ba.l0 kq l0 x3_1=some r)/\AA (kq<=k)/\Ap w w');case atStart=>exact ⟨(0),xq,H',⟨Nat.le_refl _⟩,xd⟩
  case round=>
   clear H';try clear c2
   try clear c2b0
   try clear c2b1
   try clear p2
   obtain ⟨x3_1,rfl,HA,HK1,⟨m1,rfl⟩⟩:=hrel;cases gk with
   |zero=>exact absurd HA.out (by simp [Ba.l0])
   |succ k1=>
    have H:=HA.out;clear HA;simp only [Ba.l0] at H;by_cases c3:x3_1<(l0.length:Int)
    ·rw [if_pos c3] at H;have c3b0:decide (x3_1<(l0.length:Int))=true:=decide_eq_true c3;clear c3;by_cases c4:0<=x3_1
     ·rw [if_pos c4] at H;have c4b0:decide (0<=x3_1)=true:=decide_eq_true c4;clear c4;by_cases c5:(((AB l0 x3_1).f0).size:Int)>300
      ·rw [if_pos c5] at H;have c5b0:decide (300<(((AB l0 x3_1).f0).size:Int))=true:=decide_eq_true c5;have c5b1:decide (300<((AB l0 x3_1).f0).size)=true:=decide_eq_true (by omega);clear c5;obtain rfl:=Option.some.inj H;have p251:0<=(x3_1:Int):=xa;have q251:x3_1<(l0.length:Int):=xa;obtain ⟨ad251,e251,hx251_0,hx251_1,hx251_2,hx251_3,hx251_4,hx251_5,hx251_6,hx251_7,hx251_8,hx251_9,hx251_10⟩:=Ce HR0.out x3_1 p251 q251;cases e251;replace p251:=eq_true p251;replace q251:=eq_true q251;go_wp2;go_ret;exact ⟨xq,xd⟩
      ·rw [if_neg c5] at H;have c5b0:decide (300<(((AB l0 x3_1).f0).size:Int))=false:=decide_eq_false c5;have c5b1:decide (300<((AB l0 x3_1).f0).size)=false:=decide_eq_false (by omega);clear c5;by_cases c6:(((AB l0 x3_1).f1).size:Int)>300
       ·rw [if_pos c6] at H;have c6b0:decide (300<(((AB l0 x3_1).f1).size:Int))=true:=decide_eq_true c6;have c6b1:decide (300<((AB l0 x3_1).f1).size)=true:=decide_eq_true (by omega);clear c6;obtain rfl:=Option.some.inj H;have p251:0<=(x3_1:Int):=xa;have q251:x3_1<(l0.length:Int):=xa;obtain ⟨ad251,e251,hx251_0,hx251_1,hx251_2,hx251_3,hx251_4,hx251_5,hx251_6,hx251_7,hx251_8,hx251_9,hx251_10⟩:=Ce HR0.out x3_1 p251 q251;cases e251;replace p251:=eq_true p251;replace q251:=eq_true q251;have p252:0<=(x3_1:Int):=xa;have q252:x3_1<(l0.length:Int):=xa;obtain ⟨ad252,e252,hx252_0,hx252_1,hx252_2,hx252_3,hx252_4,hx252_5,hx252_6,hx252_7,hx252_8,hx252_9,hx252_10⟩:=Ce HR0.out x3_1 p252 q252;obtain rfl:ad251=ad252:=(by injection e252);replace p252:=eq_true p252;replace q252:=eq_true q252;go_wp2;go_ret;exact ⟨xq,xd⟩
       ·rw [if_neg c6] at H;have c6b0:decide (300<(((AB l0 x3_1).f1).size:Int))=false:=decide_eq_false c6;have c6b1:decide (300<((AB l0 x3_1).f1).size)=false:=decide_eq_false (by omega);clear c6;by_cases c7:(((AB l0 x3_1).f2).size:Int)>300
        ·rw [if_pos c7] at H;have c7b0:decide (300<(((AB l0 x3_1).f2).size:Int))=true:=decide_eq_true c7;have c7b1:decide (300<((AB l0 x3_1).f2).size)=true:=decide_eq_true (by omega);clear c7;obtain rfl:=Option.some.inj H;have p251:0<=(x3_1:Int):=xa;have q251:x3_1<(l0.length:Int):=xa;obtain ⟨ad251,e251,hx251_0,hx251_1,hx251_2,hx251_3,hx251_4,hx251_5,hx251_6,hx251_7,hx251_8,hx251_9,hx251_10⟩:=Ce HR0.out x3_1 p251 q251;cases e251;replace p251:=eq_true p251;replace q251:=eq_true q251;have p252:0<=(x3_1:Int):=xa;have q252:x3_1<(l0.length:Int):=xa;obtain ⟨ad252,e252,hx252_0,hx252_1,hx252_2,hx252_3,hx252_4,hx252_5,hx252_6,hx252_7,hx252_8,hx252_9,hx252_10⟩:=Ce HR0.out x3_1 p252 q252;obtain rfl:ad251=ad252:=(by injection e252);replace p252:=eq_true p252;replace q252:=eq_true q252;have p253:0<=(x3_1:Int):=xa;have q253:x3_1<(l0.length:Int):=xa;obtain ⟨ad253,e253,hx253_0,hx253_1,hx253_2,hx253_3,hx253_4,hx253_5,hx253_6,hx253_7,hx253_8,hx253_9,hx253_10⟩:=Ce HR0.out x3_1 p253 q253;obtain rfl:ad251=ad253:=(by injection e253);replace p253:=eq_true p253;replace q253:=eq_true q253;go_wp2;go_ret;exact ⟨xq,xd⟩
        ·rw [if_neg c7] at H;have c7b0:decide (300<(((AB l0 x3_1).f2).size:Int))=false:=decide_eq_false c7;have c7b1:decide (300<((AB l0 x3_1).f2).size)=false:=decide_eq_false (by omega);clear c7;by_cases c8:(((AB l0 x3_1).f3).size:Int)>300
         ·rw [if_pos c8] at H;have c8b0:decide (300<(((AB l0 x3_1).f3).size:Int))=true:=decide_eq_true c8;have c8b1:decide (300<((AB l0 x3_1).f3).size)=true:=decide_eq_true (by omega);clear c8;obtain rfl:=Option.some.inj H;have p251:0<=(x3_1:Int):=xa;have q251:x3_1<(l0.length:Int):=xa;obtain ⟨ad251,e251,hx251_0,hx251_1,hx251_2,hx251_3,hx251_4,hx251_5,hx251_6,hx251_7,hx251_8,hx251_9,hx251_10⟩:=Ce HR0.out x3_1 p251 q251;cases e251;replace p251:=eq_true p251;replace q251:=eq_true q251;have p252:0<=(x3_1:Int):=xa;have q252:x3_1<(l0.length:Int):=xa;obtain ⟨ad252,e252,hx252_0,hx252_1,hx252_2,hx252_3,hx252_4,hx252_5,hx252_6,hx252_7,hx252_8,hx252_9,hx252_10⟩:=Ce HR0.out x3_1 p252 q252;obtain rfl:ad251=ad252:=(by injection e252);replace p252:=eq_true p252;replace q252:=eq_true q252;have p253:0<=(x3_1:Int):=xa;have q253:x3_1<(l0.length:Int):=xa;obtain ⟨ad253,e253,hx253_0,hx253_1,hx253_2,hx253_3,hx253_4,hx253_5,hx253_6,hx253_7,hx253_8,hx253_9,hx253_10⟩:=Ce HR0.out x3_1 p253 q253;obtain rfl:ad251=ad253:=(by injection e253);replace p253:=eq_true p253;replace q253:=eq_true q253;have p254:0<=(x3_1:Int):=xa;have q254:x3_1<(l0.length:Int):=xa;obtain ⟨ad254,e254,hx254_0,hx254_1,hx254_2,hx254_3,hx254_4,hx254_5,hx254_6,hx254_7,hx254_8,hx254_9,hx254_10⟩:=Ce HR0.out x3_1 p254 q254;obtain rfl:ad251=ad254:=(by injection e254);replace p254:=eq_true p254;replace q254:=eq_true q254;go_wp2;go_ret;exact ⟨xq,xd⟩
         ·rw [if_neg c8] at H;have c8b0:decide (300<(((AB l0 x3_1).f3).size:Int))=false:=decide_eq_false c8;have c8b1:decide (300<((AB l0 x3_1).f3).size)=false:=decide_eq_false (by omega);clear c8;have H':=AA.mk H;clear H;have p251:0<=(x3_1:Int):=xa;have q251:x3_1<(l0.length:Int):=xa;obtain ⟨ad251,e251,hx251_0,hx251_1,hx251_2,hx251_3,hx251_4,hx251_5,hx251_6,hx251_7,hx251_8,hx251_9,hx251_10⟩:=Ce HR0.out x3_1 p251 q251;cases e251;replace p251:=eq_true p251;replace q251:=eq_true q251;have p252:0<=(x3_1:Int):=xa;have q252:x3_1<(l0.length:Int):=xa;obtain ⟨ad252,e252,hx252_0,hx252_1,hx252_2,hx252_3,hx252_4,hx252_5,hx252_6,hx252_7,hx252_8,hx252_9,hx252_10⟩:=Ce HR0.out x3_1 p252 q252;obtain rfl:ad251=ad252:=(by injection e252);replace p252:=eq_true p252;replace q252:=eq_true q252;have p253:0<=(x3_1:Int):=xa;have q253:x3_1<(l0.length:Int):=xa;obtain ⟨ad253,e253,hx253_0,hx253_1,hx253_2,hx253_3,hx253_4,hx253_5,hx253_6,hx253_7,hx253_8,hx253_9,hx253_10⟩:=Ce HR0.out x3_1 p253 q253;obtain rfl:ad251=ad253:=(by injection e253);replace p253:=eq_true p253;replace q253:=eq_true q253;have p254:0<=(x3_1:Int):=xa;have q254:x3_1<(l0.length:Int):=xa;obtain ⟨ad254,e254,hx254_0,hx254_1,hx254_2,hx254_3,hx254_4,hx254_5,hx254_6,hx254_7,hx254_8,hx254_9,hx254_10⟩:=Ce HR0.out x3_1 p254 q254;obtain rfl:ad251=ad254:=(by injection e254);replace p254:=eq_true p254;replace q254:=eq_true q254;go_wp2;go_roundg k1;case measure=>have:=HK1.out;omega
          case rel=>exact ⟨(wrap64 (x3_1+1)),xq,H',⟨by have:=HK1.out;omega⟩,xd⟩
     ·rw [if_neg c4] at H;exact absurd H (by simp)
    ·rw [if_neg c3] at H;have c3b0:decide (x3_1<(l0.length:Int))=false:=decide_eq_false c3;clear c3;obtain rfl:=Option.some.inj H;go_wp2;go_ret;exact ⟨xq,xd⟩
end Go.Proofs.YtikggnalmidlhaaGreatDoor.Print
end
section
namespace Go.Proofs.YtikggnalmidlhaaGreatDoor.Print
open RowKit AR Aa Ad
attribute [local go_sem] BM BN Bo Bp BC BD BO BP
set_option linter.unusedVariables false
set_option linter.unusedSimpArgs false
def Av.l0:Nat->ByteArray->List ByteArray->Int->Int->Option (List ByteArray)
 |0,_,_,_,_=>none
 |k+1,x0,x3,x4,x5=>if x5<(x0.size:Int) then (if 0<=x5 then (if (bt x0 x5)=46 then (if 0<=x4 then (if x4<=x5 then (if x5<=(x0.size:Int) then (if x3.length<8796093022208 then (Av.l0 k x0 (x3++[x0.extract (x4:Int).toNat (x5:Int).toNat]) (wrap64 (x5+1)) (wrap64 (x5+1))) else (none)) else (none)) else (none)) else (none)) else (Av.l0 k x0 x3 x4 (wrap64 (x5+1)))) else (none)) else (if 0<=x4 then (if x4<=(x0.size:Int) then (if x3.length<8796093022208 then (some (x3++[x0.extract (x4:Int).toNat x0.size])) else (none)) else (none)) else (none))
def Av.f (k:Nat) (a0:ByteArray):Option (List ByteArray):=Av.l0 k a0 ([]:List ByteArray) 0 0
set_option maxHeartbeats 8000000 in
set_option maxRecDepth 100000 in
theorem Av.calls (k:Nat) (a0:ByteArray) (r:List ByteArray) (w:World) (h:Av.f k a0=some r):
 Calls Tryz.prog 90 #[.string a0] w λe w'=>∃ v0_:Value,e= .returned (v0_)/\Kd.R Kd.string 9 w' w.heap.size (λ_=>True) v0_ r/\Below w.heap.size w w':=by
 have HB:=AA.mk (Below.refl w.heap.size w);have H:(Av.l0 k a0 ([]:List ByteArray) 0 0)=some r:=h;clear h;have H':=AA.mk H;clear H;go_enter Tryz.func90,Tryz.ntmps90;go_wp2;go_loopg [3,4,5] k (λkq v3 v4 v5 w'=>∃ (x3_1:List ByteArray) (x4_1:Int) (x5_1:Int),v4= .int .i64 x4_1/\v5= .int .i64 x5_1/\AA (Av.l0 kq a0 x3_1 x4_1 x5_1=some r)/\AA (kq<=k)/\AA (Kd.R Kd.string 9 w' w.heap.size (λ_=>True) v3 x3_1)/\AA (Below w.heap.size w w'));case atStart=>exact ⟨(([]:List ByteArray)),(0),(0),xq,xq,H',⟨Nat.le_refl _⟩,⟨by first|exact Kd.Eu _ _ _ _ _|exact Kd.F6 _ _ _ _ _|exact Kd.F7 _ _ _ _ _|exact Kd.F3 _ _ _ _ _|exact Kd.F5 _ _ _ _ _⟩,⟨xb⟩⟩
 case round=>
  clear H';obtain ⟨x3_1,x4_1,x5_1,rfl,rfl,HA,HK1,HO_3,HB⟩:=hrel;cases gk with
  |zero=>exact absurd HA.out (by simp [Av.l0])
  |succ k1=>
   have H:=HA.out;clear HA;simp only [Av.l0] at H;by_cases c2:x5_1<(a0.size:Int)
   ·rw [if_pos c2] at H;have c2b0:decide (x5_1<(a0.size:Int))=true:=decide_eq_true c2;clear c2;by_cases c3:0<=x5_1
    ·rw [if_pos c3] at H;have c3b0:decide (0<=x5_1)=true:=decide_eq_true c3;clear c3;by_cases c5:(bt a0 x5_1)=46
     ·rw [if_pos c5] at H;have c5b0:((bt a0 x5_1)==46)=true:=beq_iff_eq.mpr c5;have c5b1:((bt a0 x5_1) != 46)=false:=bne_eq_false_iff_eq.mpr c5;clear c5;by_cases c6:0<=x4_1
      ·rw [if_pos c6] at H;have c6b0:=eq_true c6;have c6b1:decide (0<=x4_1)=true:=decide_eq_true c6;clear c6;by_cases c7:x4_1<=x5_1
       ·rw [if_pos c7] at H;have c7b0:=eq_true c7;have c7b1:decide (x4_1<=x5_1)=true:=decide_eq_true c7;clear c7;by_cases c8:x5_1<=(a0.size:Int)
        ·rw [if_pos c8] at H;have c8b0:=eq_true c8;have c8b1:decide (x5_1<=(a0.size:Int))=true:=decide_eq_true c8;clear c8;by_cases c9:x3_1.length<8796093022208
         ·rw [if_pos c9] at H;have LMc9:=AA.mk c9;clear c9;obtain ⟨y257,hy257⟩:∃ y_:List ByteArray,y_=(x3_1++[a0.extract (x4_1:Int).toNat (x5_1:Int).toNat]):=⟨_,rfl⟩;replace H:(Av.l0 k1 a0 y257 (wrap64 (x5_1+1)) (wrap64 (x5_1+1)))=some r:=by first|(rw [hy257];with_reducible exact H)|(have H2_:=(Option.bind_some _ _).symm.trans H;rw [hy257];with_reducible exact H2_)|(have H2_:=(Option.bind_some _ _).symm.trans H;with_reducible exact H2_)|with_reducible exact H|(rw [hy257];exact H)|exact H
          have Ny257:=AA.mk hy257;clear hy257;have H':=AA.mk H;clear H;have p4:0<=(x5_1:Int):=xa;have q4:x5_1<(a0.size:Int):=xa;have hx4:=Br a0 x5_1;replace p4:=eq_true p4;replace q4:=eq_true q4;go_wp2_with (first|((with_reducible refine DR (b:= .append) (xs:=#[.tmp 16, .tmp 21]) rfl ?_);at_builtin;refine Kd.Ej Kd.string (w0:=w) w.heap.size rfl (.tmp 16) (.tmp 21) 45 9 (.string ⟨#[]⟩) 16 rfl Tryz.underlying45 QG rfl (by decide) (by omega) u3 x3_1 (a0.extract (x4_1:Int).toNat (x5_1:Int).toNat) [.string (a0.extract (x4_1:Int).toNat (x5_1:Int).toNat)] (λ_=>True) (λ_=>False) rfl rfl ?aP (λ_ hk=>hk.elim) ?aF ?aO ?aB ?aS ?aL ?_;(case aP=>exact rfl);(case aB=>exact xb);(case aF=>exact (λ_ _=>trivial));(case aO=>exact (xR HO_3));(case aS=>exact (BF xb));(case aL=>have:=LMc9.out;omega);intro v258 w10 ho hb hg hat;rw [<-Ny257.out] at ho;have n0_:=AA.mk (hb);have n1_:=AA.mk (ho);clear HB;clear HO_3;have HB:=n0_;have HO259:=n1_;clear n0_ n1_;clear ho hb hg hat));go_roundg k1;case measure=>have:=HK1.out;omega
          case rel=>exact ⟨(y257),(wrap64 (x5_1+1)),(wrap64 (x5_1+1)),xq,xq,H',⟨by have:=HK1.out;omega⟩,⟨by (with_reducible repeat (first|apply Kd.Bd|apply Kd.Be|apply Kd.Bl));exact HO259.out⟩,⟨xb⟩⟩
         ·rw [if_neg c9] at H;exact absurd H (by simp)
        ·rw [if_neg c8] at H;exact absurd H (by simp)
       ·rw [if_neg c7] at H;exact absurd H (by simp)
      ·rw [if_neg c6] at H;exact absurd H (by simp)
     ·rw [if_neg c5] at H;have c5b0:((bt a0 x5_1)==46)=false:=beq_eq_false_iff_ne.mpr c5;have c5b1:((bt a0 x5_1) != 46)=true:=bne_iff_ne.mpr c5;have H':=AA.mk H;clear H;have p4:0<=(x5_1:Int):=xa;have q4:x5_1<(a0.size:Int):=xa;have hx4:=Br a0 x5_1;replace p4:=eq_true p4;replace q4:=eq_true q4;go_wp2;go_roundg k1;case measure=>have:=HK1.out;omega
      case rel=>exact ⟨(x3_1),(x4_1),(wrap64 (x5_1+1)),xq,xq,H',⟨by have:=HK1.out;omega⟩,⟨by (with_reducible repeat (first|apply Kd.Bd|apply Kd.Be|apply Kd.Bl));exact HO_3.out⟩,⟨xb⟩⟩
    ·rw [if_neg c3] at H;exact absurd H (by simp)
   ·rw [if_neg c2] at H;have c2b0:decide (x5_1<(a0.size:Int))=false:=decide_eq_false c2;clear c2;by_cases c11:0<=x4_1
    ·rw [if_pos c11] at H;have c11b0:=eq_true c11;have c11b1:decide (0<=x4_1)=true:=decide_eq_true c11;clear c11;by_cases c12:x4_1<=(a0.size:Int)
     ·rw [if_pos c12] at H;have c12b0:=eq_true c12;have c12b1:decide (x4_1<=(a0.size:Int))=true:=decide_eq_true c12;clear c12;by_cases c13:x3_1.length<8796093022208
      ·rw [if_pos c13] at H;have LMc13:=AA.mk c13;clear c13;obtain ⟨y260,hy260⟩:∃ y_:List ByteArray,y_=(x3_1++[a0.extract (x4_1:Int).toNat a0.size]):=⟨_,rfl⟩;replace H:(some y260)=some r:=by first|(rw [hy260];with_reducible exact H)|(have H2_:=(Option.bind_some _ _).symm.trans H;rw [hy260];with_reducible exact H2_)|(have H2_:=(Option.bind_some _ _).symm.trans H;with_reducible exact H2_)|with_reducible exact H|(rw [hy260];exact H)|exact H
       have Ny260:=AA.mk hy260;clear hy260;obtain rfl:=Option.some.inj H;go_wp2_with (first|((with_reducible refine DR (b:= .append) (xs:=#[.tmp 25, .tmp 29]) rfl ?_);at_builtin;refine Kd.Ej Kd.string (w0:=w) w.heap.size rfl (.tmp 25) (.tmp 29) 45 9 (.string ⟨#[]⟩) 16 rfl Tryz.underlying45 QG rfl (by decide) (by omega) u3 x3_1 (a0.extract (x4_1:Int).toNat a0.size) [.string (a0.extract (x4_1:Int).toNat a0.size)] (λ_=>True) (λ_=>False) rfl rfl ?aP (λ_ hk=>hk.elim) ?aF ?aO ?aB ?aS ?aL ?_;(case aP=>exact rfl);(case aB=>exact xb);(case aF=>exact (λ_ _=>trivial));(case aO=>exact (xR HO_3));(case aS=>exact (BF xb));(case aL=>have:=LMc13.out;omega);intro v261 w14 ho hb hg hat;rw [<-Ny260.out] at ho;have n0_:=AA.mk (hb);have n1_:=AA.mk (ho);clear HB;clear HO_3;have HB:=n0_;have HO262:=n1_;clear n0_ n1_;clear ho hb hg hat));go_ret;exact ⟨_,xe,by (with_reducible repeat (first|apply Kd.Bd|apply Kd.Be|apply Kd.Bl));exact HO262.out,xb⟩
      ·rw [if_neg c13] at H;exact absurd H (by simp)
     ·rw [if_neg c12] at H;exact absurd H (by simp)
    ·rw [if_neg c11] at H;exact absurd H (by simp)
end Go.Proofs.YtikggnalmidlhaaGreatDoor.Print
end
section
namespace Go.Proofs.YtikggnalmidlhaaGreatDoor.Print
open RowKit AR Aa Ad
attribute [local go_sem] BM BN Bo Bp BC BD BO BP
set_option linter.unusedVariables false
set_option linter.unusedSimpArgs false
mutual
def AZ.j0:Nat->ByteArray->Bool->Option (Bool)
 |0,_,_=>none
 |k+1,x0,x24=>if x24=true then (some false) else (AZ.l0 k x0 0)
def AZ.l0:Nat->ByteArray->Int->Option (Bool)
 |0,_,_=>none
 |k+1,x0,x3=>if x3<(x0.size:Int) then (if 0<=x3 then (if (bt x0 x3)>=97 then (if ((bt x0 x3)<=122) then (AZ.l0 k x0 (wrap64 (x3+1))) else (if (bt x0 x3)>=48 then (if ((bt x0 x3)<=57) then (AZ.l0 k x0 (wrap64 (x3+1))) else (if (bt x0 x3)=45 then (AZ.l0 k x0 (wrap64 (x3+1))) else (some false))) else (if (bt x0 x3)=45 then (AZ.l0 k x0 (wrap64 (x3+1))) else (some false)))) else (if (bt x0 x3)>=48 then (if ((bt x0 x3)<=57) then (AZ.l0 k x0 (wrap64 (x3+1))) else (if (bt x0 x3)=45 then (AZ.l0 k x0 (wrap64 (x3+1))) else (some false))) else (if (bt x0 x3)=45 then (AZ.l0 k x0 (wrap64 (x3+1))) else (some false)))) else (none)) else (some true)
end
def AZ.f (k:Nat) (a0:ByteArray):Option (Bool):=if (a0.size:Int)<1 then (AZ.j0 k a0 true) else (if (a0.size:Int)>63 then (AZ.j0 k a0 true) else (if 0<(a0.size:Int) then (if (bt a0 0)=45 then (AZ.j0 k a0 true) else (if 0<=(wrap64 ((a0.size:Int) - 1)) then (if (wrap64 ((a0.size:Int) - 1))<(a0.size:Int) then (AZ.j0 k a0 ((bt a0 (wrap64 ((a0.size:Int) - 1)))==45)) else (none)) else (none))) else (none)))
set_option maxHeartbeats 8000000 in
set_option maxRecDepth 100000 in
theorem AZ.calls (k:Nat) (a0:ByteArray) (r:Bool) (w:World) (h:AZ.f k a0=some r):
 Calls Tryz.prog 91 #[.string a0] w λe w'=>e= .returned (.bool r)/\Ap w w':=by
 have H:(if (a0.size:Int)<1 then (AZ.j0 k a0 true) else (if (a0.size:Int)>63 then (AZ.j0 k a0 true) else (if 0<(a0.size:Int) then (if (bt a0 0)=45 then (AZ.j0 k a0 true) else (if 0<=(wrap64 ((a0.size:Int) - 1)) then (if (wrap64 ((a0.size:Int) - 1))<(a0.size:Int) then (AZ.j0 k a0 ((bt a0 (wrap64 ((a0.size:Int) - 1)))==45)) else (none)) else (none))) else (none))))=some r:=h;clear h;have HC2:=AA.mk H;clear H;go_enter Tryz.func91,Tryz.ntmps91;go_upto_region 1 with (fail)
 go_cut [24] (λv24 wc=>∃ (kq:Nat) (x24_1:Bool),v24= .bool x24_1/\AA (AZ.j0 kq a0 x24_1=some r)/\AA (kq<=k)/\Ap w wc);case first=>
  have H:=HC2.out;clear HC2;by_cases c3:(a0.size:Int)<1
  ·rw [if_pos c3] at H;have c3b0:decide ((a0.size:Int)<1)=true:=decide_eq_true c3;have c3b1:decide (a0.size<1)=true:=decide_eq_true (by omega);clear c3;(first|rw [c3b0]|(simp only [DL,DU];rw [c3b0])|skip);have H':=AA.mk H;clear H;go_wp2;go_meet;case rel=>exact ⟨_,(true),xq,H',⟨by first|omega|exact Nat.le_refl _⟩,xd⟩
  ·rw [if_neg c3] at H;have c3b0:decide ((a0.size:Int)<1)=false:=decide_eq_false c3;have c3b1:decide (a0.size<1)=false:=decide_eq_false (by omega);clear c3;(first|rw [c3b0]|(simp only [DL,DU];rw [c3b0])|skip);by_cases c4:(a0.size:Int)>63
   ·rw [if_pos c4] at H;have c4b0:decide (63<(a0.size:Int))=true:=decide_eq_true c4;have c4b1:decide (63<a0.size)=true:=decide_eq_true (by omega);clear c4;have H':=AA.mk H;clear H;go_wp2;go_meet;case rel=>exact ⟨_,(true),xq,H',⟨by first|omega|exact Nat.le_refl _⟩,xd⟩
   ·rw [if_neg c4] at H;have c4b0:decide (63<(a0.size:Int))=false:=decide_eq_false c4;have c4b1:decide (63<a0.size)=false:=decide_eq_false (by omega);clear c4;by_cases c5:0<(a0.size:Int)
    ·rw [if_pos c5] at H;have c5b0:decide (0<(a0.size:Int))=true:=decide_eq_true c5;have c5b1:decide (0<a0.size)=true:=decide_eq_true (by omega);clear c5;by_cases c7:(bt a0 0)=45
     ·rw [if_pos c7] at H;have c7b0:((bt a0 0)==45)=true:=beq_iff_eq.mpr c7;have c7b1:((bt a0 0) != 45)=false:=bne_eq_false_iff_eq.mpr c7;clear c7;have H':=AA.mk H;clear H;have p6:0<=(0:Int):=(by omega);have q6:0<a0.size:=(by have:(0:Int)<(a0.size:Int):=xa;omega);have hx6:∀ h:0<a0.size,((a0[0]'h).toNat:Int)=bt a0 0:=Br a0 0;clear p6;have qi6:(0<(a0.size:Int))=True:=eq_true (xa);replace q6:=eq_true q6;go_wp2;go_meet;case rel=>exact ⟨_,(true),xq,H',⟨by first|omega|exact Nat.le_refl _⟩,xd⟩
     ·rw [if_neg c7] at H;have c7b0:((bt a0 0)==45)=false:=beq_eq_false_iff_ne.mpr c7;have c7b1:((bt a0 0) != 45)=true:=bne_iff_ne.mpr c7;obtain ⟨ji8,hji8⟩:∃ j_:Int,(wrap64 ((a0.size:Int) - 1))=j_:=⟨_,rfl⟩;replace H:(if 0<=(ji8) then (if (ji8)<(a0.size:Int) then (AZ.j0 k a0 ((bt a0 (ji8))==45)) else (none)) else (none))=some r:=by first|(rw [hji8] at H;exact H)|(simp only [hji8] at H⊢;exact H)
      have hji8w:(IntKind.i64.wrap ((a0.size:Int) - 1))=ji8:=(DL _).trans hji8;by_cases c9:0<=(ji8)
      ·rw [if_pos c9] at H;have c9b0:decide (0<=(ji8))=true:=decide_eq_true c9;clear c9;by_cases c10:(ji8)<(a0.size:Int)
       ·rw [if_pos c10] at H;have c10b0:decide ((ji8)<(a0.size:Int))=true:=decide_eq_true c10;clear c10;have H':=AA.mk H;clear H;have p6:0<=(0:Int):=(by omega);have q6:0<a0.size:=(by have:(0:Int)<(a0.size:Int):=xa;omega);have hx6:∀ h:0<a0.size,((a0[0]'h).toNat:Int)=bt a0 0:=Br a0 0;clear p6;have qi6:(0<(a0.size:Int))=True:=eq_true (xa);replace q6:=eq_true q6;have p11:0<=((ji8):Int):=xa;have q11:(ji8)<(a0.size:Int):=xa;have hx11:=Br a0 (ji8);replace p11:=eq_true p11;replace q11:=eq_true q11;go_wp2;go_meet;case rel=>exact ⟨_,(((bt a0 (ji8))==45)),(by first|rfl|(simp;done)|(simp only [<-hji8]<;>(first|rfl|simp))|(simp [*];done)),H',⟨by first|omega|exact Nat.le_refl _⟩,xd⟩
       ·rw [if_neg c10] at H;exact absurd H (by simp)
      ·rw [if_neg c9] at H;exact absurd H (by simp)
    ·rw [if_neg c5] at H;exact absurd H (by simp)
 case rest=>
  clear HC2;try clear c1
  try clear p1
  try clear q1
  try clear hx1
  try clear p2
  try clear c3
  try clear c3b0
  try clear c3b1
  try clear c4
  try clear c4b0
  try clear c4b1
  try clear c5
  try clear c5b0
  try clear c5b1
  try clear p6
  try clear q6
  try clear hx6
  try clear qi6
  try clear c7
  try clear c7b0
  try clear c7b1
  try clear c9
  try clear c9b0
  try clear c10
  try clear c10b0
  try clear p11
  try clear q11
  try clear hx11
  try clear p11
  try clear p6
  try clear q11
  try clear q6
  obtain ⟨kq,x24_1,rfl,HA,HJ1,⟨mc1,rfl⟩⟩:=hcut;cases kq with
  |zero=>exact absurd HA.out (by simp [AZ.j0])
  |succ kj1=>
   have H:=HA.out;clear HA;simp only [AZ.j0] at H;by_cases c12:x24_1=true
   ·subst c12;have H1:(some false)=some r:=by rw [if_pos rfl] at H;exact H
    clear H;have H:=H1;clear H1;obtain rfl:=Option.some.inj H;go_wp2;go_ret;exact ⟨xq,xd⟩
   ·replace c12:=Bool.eq_false_iff.mpr c12;subst c12;have H1:(AZ.l0 kj1 a0 0)=some r:=by rw [if_neg (show ¬(false=true) by decide)] at H;exact H
    clear H;have H:=H1;clear H1;have H':=AA.mk H;clear H;go_wp2;go_loopg [3] kj1 (λkq v3 w'=>∃ (x3_2:Int),v3= .int .i64 x3_2/\AA (AZ.l0 kq a0 x3_2=some r)/\AA (kq<=kj1)/\Ap w w');case atStart=>exact ⟨(0),xq,H',⟨Nat.le_refl _⟩,xd⟩
    case round=>
     clear H';try clear c1
     try clear p1
     try clear q1
     try clear hx1
     try clear p2
     try clear c3
     try clear c3b0
     try clear c3b1
     try clear c4
     try clear c4b0
     try clear c4b1
     try clear c5
     try clear c5b0
     try clear c5b1
     try clear p6
     try clear q6
     try clear hx6
     try clear qi6
     try clear c7
     try clear c7b0
     try clear c7b1
     try clear c9
     try clear c9b0
     try clear c10
     try clear c10b0
     try clear p11
     try clear q11
     try clear hx11
     try clear c12
     try clear p1
     try clear p11
     try clear p2
     try clear p6
     try clear q1
     try clear q11
     try clear q6
     obtain ⟨x3_2,rfl,HA,HK2,⟨m2,rfl⟩⟩:=hrel;cases gk with
     |zero=>exact absurd HA.out (by simp [AZ.l0])
     |succ k2=>
      have H:=HA.out;clear HA;simp only [AZ.l0] at H;by_cases c13:x3_2<(a0.size:Int)
      ·rw [if_pos c13] at H;have c13b0:decide (x3_2<(a0.size:Int))=true:=decide_eq_true c13;clear c13;by_cases c14:0<=x3_2
       ·rw [if_pos c14] at H;have c14b0:decide (0<=x3_2)=true:=decide_eq_true c14;clear c14;by_cases c16:(bt a0 x3_2)>=97
        ·rw [if_pos c16] at H;have c16b0:decide (97<=(bt a0 x3_2))=true:=decide_eq_true c16;clear c16;by_cases c18:((bt a0 x3_2)<=122)
         ·rw [if_pos c18] at H;have c18b0:decide ((bt a0 x3_2)<=122)=true:=decide_eq_true c18;clear c18;have H':=AA.mk H;clear H;have p15:0<=(x3_2:Int):=xa;have q15:x3_2<(a0.size:Int):=xa;have hx15:=Br a0 x3_2;replace p15:=eq_true p15;replace q15:=eq_true q15;have p17:0<=(x3_2:Int):=xa;have q17:x3_2<(a0.size:Int):=xa;have hx17:=Br a0 x3_2;replace p17:=eq_true p17;replace q17:=eq_true q17;go_wp2;go_roundg k2;case measure=>have:=HJ1.out;have:=HK2.out;omega
          case rel=>exact ⟨(wrap64 (x3_2+1)),xq,H',⟨by have:=HJ1.out;have:=HK2.out;omega⟩,xd⟩
         ·rw [if_neg c18] at H;have c18b0:decide ((bt a0 x3_2)<=122)=false:=decide_eq_false c18;clear c18;by_cases c20:(bt a0 x3_2)>=48
          ·rw [if_pos c20] at H;have c20b0:decide (48<=(bt a0 x3_2))=true:=decide_eq_true c20;clear c20;by_cases c22:((bt a0 x3_2)<=57)
           ·rw [if_pos c22] at H;have c22b0:decide ((bt a0 x3_2)<=57)=true:=decide_eq_true c22;clear c22;have H':=AA.mk H;clear H;have p15:0<=(x3_2:Int):=xa;have q15:x3_2<(a0.size:Int):=xa;have hx15:=Br a0 x3_2;replace p15:=eq_true p15;replace q15:=eq_true q15;have p17:0<=(x3_2:Int):=xa;have q17:x3_2<(a0.size:Int):=xa;have hx17:=Br a0 x3_2;replace p17:=eq_true p17;replace q17:=eq_true q17;have p19:0<=(x3_2:Int):=xa;have q19:x3_2<(a0.size:Int):=xa;have hx19:=Br a0 x3_2;replace p19:=eq_true p19;replace q19:=eq_true q19;have p21:0<=(x3_2:Int):=xa;have q21:x3_2<(a0.size:Int):=xa;have hx21:=Br a0 x3_2;replace p21:=eq_true p21;replace q21:=eq_true q21;go_wp2;go_roundg k2;case measure=>have:=HJ1.out;have:=HK2.out;omega
            case rel=>exact ⟨(wrap64 (x3_2+1)),xq,H',⟨by have:=HJ1.out;have:=HK2.out;omega⟩,xd⟩
           ·rw [if_neg c22] at H;have c22b0:decide ((bt a0 x3_2)<=57)=false:=decide_eq_false c22;clear c22;by_cases c24:(bt a0 x3_2)=45
            ·rw [if_pos c24] at H;have c24b0:((bt a0 x3_2)==45)=true:=beq_iff_eq.mpr c24;have c24b1:((bt a0 x3_2) != 45)=false:=bne_eq_false_iff_eq.mpr c24;clear c24;have H':=AA.mk H;clear H;have p15:0<=(x3_2:Int):=xa;have q15:x3_2<(a0.size:Int):=xa;have hx15:=Br a0 x3_2;replace p15:=eq_true p15;replace q15:=eq_true q15;have p17:0<=(x3_2:Int):=xa;have q17:x3_2<(a0.size:Int):=xa;have hx17:=Br a0 x3_2;replace p17:=eq_true p17;replace q17:=eq_true q17;have p19:0<=(x3_2:Int):=xa;have q19:x3_2<(a0.size:Int):=xa;have hx19:=Br a0 x3_2;replace p19:=eq_true p19;replace q19:=eq_true q19;have p21:0<=(x3_2:Int):=xa;have q21:x3_2<(a0.size:Int):=xa;have hx21:=Br a0 x3_2;replace p21:=eq_true p21;replace q21:=eq_true q21;have p23:0<=(x3_2:Int):=xa;have q23:x3_2<(a0.size:Int):=xa;have hx23:=Br a0 x3_2;replace p23:=eq_true p23;replace q23:=eq_true q23;go_wp2;go_roundg k2;case measure=>have:=HJ1.out;have:=HK2.out;omega
             case rel=>exact ⟨(wrap64 (x3_2+1)),xq,H',⟨by have:=HJ1.out;have:=HK2.out;omega⟩,xd⟩
            ·rw [if_neg c24] at H;have c24b0:((bt a0 x3_2)==45)=false:=beq_eq_false_iff_ne.mpr c24;have c24b1:((bt a0 x3_2) != 45)=true:=bne_iff_ne.mpr c24;obtain rfl:=Option.some.inj H;have p15:0<=(x3_2:Int):=xa;have q15:x3_2<(a0.size:Int):=xa;have hx15:=Br a0 x3_2;replace p15:=eq_true p15;replace q15:=eq_true q15;have p17:0<=(x3_2:Int):=xa;have q17:x3_2<(a0.size:Int):=xa;have hx17:=Br a0 x3_2;replace p17:=eq_true p17;replace q17:=eq_true q17;have p19:0<=(x3_2:Int):=xa;have q19:x3_2<(a0.size:Int):=xa;have hx19:=Br a0 x3_2;replace p19:=eq_true p19;replace q19:=eq_true q19;have p21:0<=(x3_2:Int):=xa;have q21:x3_2<(a0.size:Int):=xa;have hx21:=Br a0 x3_2;replace p21:=eq_true p21;replace q21:=eq_true q21;have p23:0<=(x3_2:Int):=xa;have q23:x3_2<(a0.size:Int):=xa;have hx23:=Br a0 x3_2;replace p23:=eq_true p23;replace q23:=eq_true q23;go_wp2;go_ret;exact ⟨xq,xd⟩
          ·rw [if_neg c20] at H;have c20b0:decide (48<=(bt a0 x3_2))=false:=decide_eq_false c20;clear c20;by_cases c26:(bt a0 x3_2)=45
           ·rw [if_pos c26] at H;have c26b0:((bt a0 x3_2)==45)=true:=beq_iff_eq.mpr c26;have c26b1:((bt a0 x3_2) != 45)=false:=bne_eq_false_iff_eq.mpr c26;clear c26;have H':=AA.mk H;clear H;have p15:0<=(x3_2:Int):=xa;have q15:x3_2<(a0.size:Int):=xa;have hx15:=Br a0 x3_2;replace p15:=eq_true p15;replace q15:=eq_true q15;have p17:0<=(x3_2:Int):=xa;have q17:x3_2<(a0.size:Int):=xa;have hx17:=Br a0 x3_2;replace p17:=eq_true p17;replace q17:=eq_true q17;have p19:0<=(x3_2:Int):=xa;have q19:x3_2<(a0.size:Int):=xa;have hx19:=Br a0 x3_2;replace p19:=eq_true p19;replace q19:=eq_true q19;have p25:0<=(x3_2:Int):=xa;have q25:x3_2<(a0.size:Int):=xa;have hx25:=Br a0 x3_2;replace p25:=eq_true p25;replace q25:=eq_true q25;go_wp2;go_roundg k2;case measure=>have:=HJ1.out;have:=HK2.out;omega
            case rel=>exact ⟨(wrap64 (x3_2+1)),xq,H',⟨by have:=HJ1.out;have:=HK2.out;omega⟩,xd⟩
           ·rw [if_neg c26] at H;have c26b0:((bt a0 x3_2)==45)=false:=beq_eq_false_iff_ne.mpr c26;have c26b1:((bt a0 x3_2) != 45)=true:=bne_iff_ne.mpr c26;obtain rfl:=Option.some.inj H;have p15:0<=(x3_2:Int):=xa;have q15:x3_2<(a0.size:Int):=xa;have hx15:=Br a0 x3_2;replace p15:=eq_true p15;replace q15:=eq_true q15;have p17:0<=(x3_2:Int):=xa;have q17:x3_2<(a0.size:Int):=xa;have hx17:=Br a0 x3_2;replace p17:=eq_true p17;replace q17:=eq_true q17;have p19:0<=(x3_2:Int):=xa;have q19:x3_2<(a0.size:Int):=xa;have hx19:=Br a0 x3_2;replace p19:=eq_true p19;replace q19:=eq_true q19;have p25:0<=(x3_2:Int):=xa;have q25:x3_2<(a0.size:Int):=xa;have hx25:=Br a0 x3_2;replace p25:=eq_true p25;replace q25:=eq_true q25;go_wp2;go_ret;exact ⟨xq,xd⟩
        ·rw [if_neg c16] at H;have c16b0:decide (97<=(bt a0 x3_2))=false:=decide_eq_false c16;clear c16;by_cases c28:(bt a0 x3_2)>=48
         ·rw [if_pos c28] at H;have c28b0:decide (48<=(bt a0 x3_2))=true:=decide_eq_true c28;clear c28;by_cases c30:((bt a0 x3_2)<=57)
          ·rw [if_pos c30] at H;have c30b0:decide ((bt a0 x3_2)<=57)=true:=decide_eq_true c30;clear c30;have H':=AA.mk H;clear H;have p15:0<=(x3_2:Int):=xa;have q15:x3_2<(a0.size:Int):=xa;have hx15:=Br a0 x3_2;replace p15:=eq_true p15;replace q15:=eq_true q15;have p27:0<=(x3_2:Int):=xa;have q27:x3_2<(a0.size:Int):=xa;have hx27:=Br a0 x3_2;replace p27:=eq_true p27;replace q27:=eq_true q27;have p29:0<=(x3_2:Int):=xa;have q29:x3_2<(a0.size:Int):=xa;have hx29:=Br a0 x3_2;replace p29:=eq_true p29;replace q29:=eq_true q29;go_wp2;go_roundg k2;case measure=>have:=HJ1.out;have:=HK2.out;omega
           case rel=>exact ⟨(wrap64 (x3_2+1)),xq,H',⟨by have:=HJ1.out;have:=HK2.out;omega⟩,xd⟩
          ·rw [if_neg c30] at H;have c30b0:decide ((bt a0 x3_2)<=57)=false:=decide_eq_false c30;clear c30;by_cases c32:(bt a0 x3_2)=45
           ·rw [if_pos c32] at H;have c32b0:((bt a0 x3_2)==45)=true:=beq_iff_eq.mpr c32;have c32b1:((bt a0 x3_2) != 45)=false:=bne_eq_false_iff_eq.mpr c32;clear c32;have H':=AA.mk H;clear H;have p15:0<=(x3_2:Int):=xa;have q15:x3_2<(a0.size:Int):=xa;have hx15:=Br a0 x3_2;replace p15:=eq_true p15;replace q15:=eq_true q15;have p27:0<=(x3_2:Int):=xa;have q27:x3_2<(a0.size:Int):=xa;have hx27:=Br a0 x3_2;replace p27:=eq_true p27;replace q27:=eq_true q27;have p29:0<=(x3_2:Int):=xa;have q29:x3_2<(a0.size:Int):=xa;have hx29:=Br a0 x3_2;replace p29:=eq_true p29;replace q29:=eq_true q29;have p31:0<=(x3_2:Int):=xa;have q31:x3_2<(a0.size:Int):=xa;have hx31:=Br a0 x3_2;replace p31:=eq_true p31;replace q31:=eq_true q31;go_wp2;go_roundg k2;case measure=>have:=HJ1.out;have:=HK2.out;omega
            case rel=>exact ⟨(wrap64 (x3_2+1)),xq,H',⟨by have:=HJ1.out;have:=HK2.out;omega⟩,xd⟩
           ·rw [if_neg c32] at H;have c32b0:((bt a0 x3_2)==45)=false:=beq_eq_false_iff_ne.mpr c32;have c32b1:((bt a0 x3_2) != 45)=true:=bne_iff_ne.mpr c32;obtain rfl:=Option.some.inj H;have p15:0<=(x3_2:Int):=xa;have q15:x3_2<(a0.size:Int):=xa;have hx15:=Br a0 x3_2;replace p15:=eq_true p15;replace q15:=eq_true q15;have p27:0<=(x3_2:Int):=xa;have q27:x3_2<(a0.size:Int):=xa;have hx27:=Br a0 x3_2;replace p27:=eq_true p27;replace q27:=eq_true q27;have p29:0<=(x3_2:Int):=xa;have q29:x3_2<(a0.size:Int):=xa;have hx29:=Br a0 x3_2;replace p29:=eq_true p29;replace q29:=eq_true q29;have p31:0<=(x3_2:Int):=xa;have q31:x3_2<(a0.size:Int):=xa;have hx31:=Br a0 x3_2;replace p31:=eq_true p31;replace q31:=eq_true q31;go_wp2;go_ret;exact ⟨xq,xd⟩
         ·rw [if_neg c28] at H;have c28b0:decide (48<=(bt a0 x3_2))=false:=decide_eq_false c28;clear c28;by_cases c34:(bt a0 x3_2)=45
          ·rw [if_pos c34] at H;have c34b0:((bt a0 x3_2)==45)=true:=beq_iff_eq.mpr c34;have c34b1:((bt a0 x3_2) != 45)=false:=bne_eq_false_iff_eq.mpr c34;clear c34;have H':=AA.mk H;clear H;have p15:0<=(x3_2:Int):=xa;have q15:x3_2<(a0.size:Int):=xa;have hx15:=Br a0 x3_2;replace p15:=eq_true p15;replace q15:=eq_true q15;have p27:0<=(x3_2:Int):=xa;have q27:x3_2<(a0.size:Int):=xa;have hx27:=Br a0 x3_2;replace p27:=eq_true p27;replace q27:=eq_true q27;have p33:0<=(x3_2:Int):=xa;have q33:x3_2<(a0.size:Int):=xa;have hx33:=Br a0 x3_2;replace p33:=eq_true p33;replace q33:=eq_true q33;go_wp2;go_roundg k2;case measure=>have:=HJ1.out;have:=HK2.out;omega
           case rel=>exact ⟨(wrap64 (x3_2+1)),xq,H',⟨by have:=HJ1.out;have:=HK2.out;omega⟩,xd⟩
          ·rw [if_neg c34] at H;have c34b0:((bt a0 x3_2)==45)=false:=beq_eq_false_iff_ne.mpr c34;have c34b1:((bt a0 x3_2) != 45)=true:=bne_iff_ne.mpr c34;obtain rfl:=Option.some.inj H;have p15:0<=(x3_2:Int):=xa;have q15:x3_2<(a0.size:Int):=xa;have hx15:=Br a0 x3_2;replace p15:=eq_true p15;replace q15:=eq_true q15;have p27:0<=(x3_2:Int):=xa;have q27:x3_2<(a0.size:Int):=xa;have hx27:=Br a0 x3_2;replace p27:=eq_true p27;replace q27:=eq_true q27;have p33:0<=(x3_2:Int):=xa;have q33:x3_2<(a0.size:Int):=xa;have hx33:=Br a0 x3_2;replace p33:=eq_true p33;replace q33:=eq_true q33;go_wp2;go_ret;exact ⟨xq,xd⟩
       ·rw [if_neg c14] at H;exact absurd H (by simp)
      ·rw [if_neg c13] at H;have c13b0:decide (x3_2<(a0.size:Int))=false:=decide_eq_false c13;clear c13;obtain rfl:=Option.some.inj H;go_wp2;go_ret;exact ⟨xq,xd⟩
end Go.Proofs.YtikggnalmidlhaaGreatDoor.Print
end
