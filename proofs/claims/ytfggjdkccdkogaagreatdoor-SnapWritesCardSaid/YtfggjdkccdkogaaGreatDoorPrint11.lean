/- Printed by a program of this claim's session (xprint.py): the machine's side: each Go function as a Lean function, and that a call of it comes to what that tells; the row of a statement. No condition. -/
import Derived.Test.YtfggjdkccdkogaaGreatDoorPrint0
namespace Go.Proofs.YtfggjdkccdkogaaGreatDoor.Print
open RowKit Ac Aq Aw
attribute [local go_sem] DC DD DX DY Co Cq DI DJ
set_option linter.unusedVariables false
set_option linter.unusedSimpArgs false
mutual
def BR.j1:Nat->ByteArray->Int->Int->Option (Int×Int×Int)
 |0,_,_,_=>none
 |k+1,x0,x5,x6=>if x6=10 then (BR.j2 k x0 x5 x6 (x6==10)) else (if x6=9 then (if 0<=x6 then (if x6<(x0.size:Int) then (BR.j2 k x0 x5 x6 (decide ((bt x0 x6)>1))) else (none)) else (none)) else (BR.j2 k x0 x5 x6 false))
def BR.j2:Nat->ByteArray->Int->Int->Bool->Option (Int×Int×Int)
 |0,_,_,_,_=>none
 |k+1,x0,x5,x6,x31=>if x31=true then (some (0,0,31)) else (if x6>0 then (if 0<=x6 then (if x6<(x0.size:Int) then (if (bt x0 x6)=0 then (some (0,0,32)) else (if 0<=(wrap64 (7*x6)) then (some (Go.bits .or .u64 x5 (shl .u64 (IntKind.u64.wrap (bt x0 x6)) (wrap64 (7*x6))),wrap64 (x6+1),0)) else (none))) else (none)) else (none)) else (if 0<=x6 then (if x6<(x0.size:Int) then (if 0<=(wrap64 (7*x6)) then (some (Go.bits .or .u64 x5 (shl .u64 (IntKind.u64.wrap (bt x0 x6)) (wrap64 (7*x6))),wrap64 (x6+1),0)) else (none)) else (none)) else (none)))
def BR.l0:Nat->ByteArray->Int->Int->Option (Int×Int×Int)
 |0,_,_,_=>none
 |k+1,x0,x5,x6=>if x6<10 then (if x6=(x0.size:Int) then (some (0,0,30)) else (if 0<=x6 then (if x6<(x0.size:Int) then (if (bt x0 x6)<128 then (BR.j1 k x0 x5 x6) else (if 0<=(wrap64 (7*x6)) then (BR.l0 k x0 (Go.bits .or .u64 x5 (shl .u64 (IntKind.u64.wrap (Go.bits .and .u8 (bt x0 x6) 127)) (wrap64 (7*x6)))) (wrap64 (x6+1))) else (none))) else (none)) else (none))) else (BR.j1 k x0 x5 x6)
end
def BR.f (k:Nat) (a0:ByteArray):Option (Int×Int×Int):=BR.l0 k a0 0 0
theorem BR.Et:∀ k,(∀ y0 y1 y2,CZ (BR.j1 k y0 y1 y2) (BR.j1 (k+1) y0 y1 y2))/\(∀ y0 y1 y2 y3,CZ (BR.j2 k y0 y1 y2 y3) (BR.j2 (k+1) y0 y1 y2 y3))/\(∀ y0 y1 y2,CZ (BR.l0 k y0 y1 y2) (BR.l0 (k+1) y0 y1 y2))
 |0=>⟨λ_ _ _ r h=>by simp [BR.j1] at h,λ_ _ _ _ r h=>by simp [BR.j2] at h,λ_ _ _ r h=>by simp [BR.l0] at h⟩
 |k+1=>by
  obtain ⟨ih0,ih1,ih2⟩:=BR.Et k;refine ⟨?_,?_,?_⟩
  ·intro y0 y1 y2;unfold BR.j1
   repeat' first|(with_reducible first|exact ih0 _ _ _|exact ih1 _ _ _ _|exact ih2 _ _ _|exact CZ.refl _|exact CZ.none _|refine CZ.ite ?_ ?_|refine CZ.bind ?_ (λ_=>?_))|exact ih0 _ _ _|exact ih1 _ _ _ _|exact ih2 _ _ _|exact CZ.none _|refine CZ.ite ?_ ?_|refine CZ.bind ?_ (λ_=>?_)
  ·intro y0 y1 y2 y3;unfold BR.j2
   repeat' first|(with_reducible first|exact ih0 _ _ _|exact ih1 _ _ _ _|exact ih2 _ _ _|exact CZ.refl _|exact CZ.none _|refine CZ.ite ?_ ?_|refine CZ.bind ?_ (λ_=>?_))|exact ih0 _ _ _|exact ih1 _ _ _ _|exact ih2 _ _ _|exact CZ.none _|refine CZ.ite ?_ ?_|refine CZ.bind ?_ (λ_=>?_)
  ·intro y0 y1 y2;unfold BR.l0
   repeat' first|(with_reducible first|exact ih0 _ _ _|exact ih1 _ _ _ _|exact ih2 _ _ _|exact CZ.refl _|exact CZ.none _|refine CZ.ite ?_ ?_|refine CZ.bind ?_ (λ_=>?_))|exact ih0 _ _ _|exact ih1 _ _ _ _|exact ih2 _ _ _|exact CZ.none _|refine CZ.ite ?_ ?_|refine CZ.bind ?_ (λ_=>?_)
theorem BR.mono:∀ a0 k,CZ (BR.f k a0) (BR.f (k+1) a0):=by
 intro a0 k;obtain ⟨ih0,ih1,ih2⟩:=BR.Et k;unfold BR.f
 repeat' first|(with_reducible first|exact ih0 _ _ _|exact ih1 _ _ _ _|exact ih2 _ _ _|exact CZ.refl _|exact CZ.none _|refine CZ.ite ?_ ?_|refine CZ.bind ?_ (λ_=>?_))|exact ih0 _ _ _|exact ih1 _ _ _ _|exact ih2 _ _ _|exact CZ.none _|refine CZ.ite ?_ ?_|refine CZ.bind ?_ (λ_=>?_)
set_option maxHeartbeats 8000000 in
set_option maxRecDepth 100000 in
theorem BR.calls (k:Nat) (a0:ByteArray) (r1:Int) (r2:Int) (r3:Int) (w:World) (h:BR.f k a0=some (r1,r2,r3)):
 Calls Tryz.prog 64 #[.string a0] w λe w'=>e= .returned (.tuple #[.int .u64 r1, .int .i64 r2, .int .i64 r3])/\BP w w':=by
 have H:(BR.l0 k a0 0 0)=some (r1,r2,r3):=h;clear h;have HL2:=AA.mk H;clear H;go_enter Tryz.func64,Tryz.ntmps64;try go_wp2
 go_step3;have H:=HL2.out;clear HL2;have HL3:=AA.mk H;clear H;try go_wp2
 go_step3;have H:=HL3.out;clear HL3;have HC4:=AA.mk H;clear H;go_upto_block 0 with (fail)
 go_cut [5,6] (λv5 v6 wc=>∃ (kq:Nat) (x5_3:Int) (x6_3:Int),v5= .int .u64 x5_3/\v6= .int .i64 x6_3/\AA (BR.j1 kq a0 x5_3 x6_3=some (r1,r2,r3))/\AA (kq<=k)/\BP w wc);case first=>
  have H:=HC4.out;clear HC4;have H':=AA.mk H;clear H;go_wp2;go_loopg [5,6] k (λkq v5 v6 w'=>∃ (x5_1:Int) (x6_1:Int),v5= .int .u64 x5_1/\v6= .int .i64 x6_1/\AA (BR.l0 kq a0 x5_1 x6_1=some (r1,r2,r3))/\AA (kq<=k)/\BP w w');case atStart=>exact ⟨(0),(0),xq,xq,H',⟨Nat.le_refl _⟩,xd⟩
  case round=>
   clear H';try clear p2
   try clear p3
   obtain ⟨x5_1,x6_1,rfl,rfl,HA,HK1,⟨m1,rfl⟩⟩:=hrel;cases gk with
   |zero=>exact absurd HA.out (by simp [BR.l0])
   |succ k1=>
    have H:=HA.out;clear HA;simp only [BR.l0] at H;by_cases c5:x6_1<10
    ·rw [if_pos c5] at H;have c5b0:decide (x6_1<10)=true:=decide_eq_true c5;clear c5;(first|rw [c5b0]|(simp only [CE,CU];rw [c5b0])|skip);by_cases c6:x6_1=(a0.size:Int)
     ·rw [if_pos c6] at H;have c6b0:(x6_1==(a0.size:Int))=true:=beq_iff_eq.mpr c6;have c6b1:(x6_1 != (a0.size:Int))=false:=bne_eq_false_iff_eq.mpr c6;clear c6;simp only [Option.some.injEq,Prod.mk.injEq] at H;obtain ⟨rfl,rfl,rfl⟩:=H;go_wp2;(try rw [Exit.noGoto_ret]);go_ret3;exact ⟨xq,xd⟩
     ·rw [if_neg c6] at H;have c6b0:(x6_1==(a0.size:Int))=false:=beq_eq_false_iff_ne.mpr c6;have c6b1:(x6_1 != (a0.size:Int))=true:=bne_iff_ne.mpr c6;by_cases c7:0<=x6_1
      ·rw [if_pos c7] at H;have c7b0:decide (0<=x6_1)=true:=decide_eq_true c7;clear c7;by_cases c8:x6_1<(a0.size:Int)
       ·rw [if_pos c8] at H;have c8b0:decide (x6_1<(a0.size:Int))=true:=decide_eq_true c8;clear c8;by_cases c10:(bt a0 x6_1)<128
        ·rw [if_pos c10] at H;have c10b0:decide ((bt a0 x6_1)<128)=true:=decide_eq_true c10;clear c10;have H':=AA.mk H;clear H;have p9:0<=(x6_1:Int):=xa;have q9:x6_1<(a0.size:Int):=xa;have hx9:=CV a0 x6_1;replace p9:=eq_true p9;replace q9:=eq_true q9;go_wp2;go_meet;case rel=>exact ⟨_,(x5_1),(x6_1),xq,xq,H',⟨by have:=HK1.out;first|omega|exact Nat.le_refl _⟩,xd⟩
        ·rw [if_neg c10] at H;have c10b0:decide ((bt a0 x6_1)<128)=false:=decide_eq_false c10;clear c10;obtain ⟨ji12,hji12⟩:∃ j_:Int,(wrap64 (7*x6_1))=j_:=⟨_,rfl⟩;replace H:(if 0<=(ji12) then (BR.l0 k1 a0 (Go.bits .or .u64 x5_1 (shl .u64 (IntKind.u64.wrap (Go.bits .and .u8 (bt a0 x6_1) 127)) (ji12))) (wrap64 (x6_1+1))) else (none))=some (r1,r2,r3):=by first|(rw [hji12] at H;exact H)|(simp only [hji12] at H⊢;exact H)
         have hji12w:(IntKind.i64.wrap (7*x6_1))=ji12:=(CE _).trans hji12;by_cases c13:0<=(ji12)
         ·rw [if_pos c13] at H;have c13b0:=eq_true c13;have c13b1:decide (0<=(ji12))=true:=decide_eq_true c13;clear c13;obtain ⟨ji14,hji14⟩:∃ j_:Int,(shl .u64 (IntKind.u64.wrap (Go.bits .and .u8 (bt a0 x6_1) 127)) (ji12))=j_:=⟨_,rfl⟩;replace H:(BR.l0 k1 a0 (Go.bits .or .u64 x5_1 (ji14)) (wrap64 (x6_1+1)))=some (r1,r2,r3):=by first|(rw [hji14] at H;exact H)|(simp only [hji14] at H⊢;exact H)
          have hji14_:(IntKind.u64.wrap ((IntKind.u64.wrap (Go.bits .and .u8 (bt a0 x6_1) 127))*2^min (ji12).toNat 64))=ji14:=hji14;have hji14z:(ji12)<=64->(IntKind.u64.wrap ((IntKind.u64.wrap (Go.bits .and .u8 (bt a0 x6_1) 127))*2^(ji12).toNat))=ji14:=LZ hji14;have H':=AA.mk H;clear H;have p9:0<=(x6_1:Int):=xa;have q9:x6_1<(a0.size:Int):=xa;have hx9:=CV a0 x6_1;replace p9:=eq_true p9;replace q9:=eq_true q9;have p11:0<=(x6_1:Int):=xa;have q11:x6_1<(a0.size:Int):=xa;have hx11:=CV a0 x6_1;replace p11:=eq_true p11;replace q11:=eq_true q11;go_wp2;go_roundg k1;case measure=>have:=HK1.out;omega
          case rel=>exact ⟨(Go.bits .or .u64 x5_1 (ji14)),(wrap64 (x6_1+1)),(by first|rfl|(simp;done)|(simp only [<-hji14]<;>(first|rfl|simp))|(simp [*];done)),xq,H',⟨by have:=HK1.out;omega⟩,xd⟩
         ·rw [if_neg c13] at H;exact absurd H (by simp)
       ·rw [if_neg c8] at H;exact absurd H (by simp)
      ·rw [if_neg c7] at H;exact absurd H (by simp)
    ·rw [if_neg c5] at H;have c5b0:decide (x6_1<10)=false:=decide_eq_false c5;clear c5;(first|rw [c5b0]|(simp only [CE,CU];rw [c5b0])|skip);have H':=AA.mk H;clear H;go_wp2;go_meet;case rel=>exact ⟨_,(x5_1),(x6_1),xq,xq,H',⟨by have:=HK1.out;first|omega|exact Nat.le_refl _⟩,xd⟩
 case rest=>
  clear HC4;try clear c1
  try clear p1
  try clear q1
  try clear hx1
  try clear p2
  try clear p3
  try clear c5
  try clear c5b0
  try clear c6
  try clear c6b0
  try clear c6b1
  try clear p6
  try clear c7
  try clear c7b0
  try clear c8
  try clear c8b0
  try clear p9
  try clear q9
  try clear hx9
  try clear c10
  try clear c10b0
  try clear p11
  try clear q11
  try clear hx11
  try clear c13
  try clear c13b0
  try clear c13b1
  try clear p11
  try clear p2
  try clear p3
  try clear p9
  try clear q11
  try clear q9
  obtain ⟨kq,x5_3,x6_3,rfl,rfl,HA,HJ3,⟨mc3,rfl⟩⟩:=hcut;cases kq with
  |zero=>exact absurd HA.out (by simp [BR.j1])
  |succ kj3=>
   have H:=HA.out;clear HA;simp only [BR.j1] at H;have HC15:=AA.mk H;clear H;go_upto_if 31 with (fail)
   go_cut [31] (λv31 wc=>∃ (kq:Nat) (x31_14:Bool),v31= .bool x31_14/\AA (BR.j2 kq a0 x5_3 x6_3 x31_14=some (r1,r2,r3))/\AA (kq<=kj3)/\BP w wc);case first=>
    have H:=HC15.out;clear HC15;by_cases c16:x6_3=10
    ·rw [if_pos c16] at H;have c16b0:(x6_3==10)=true:=beq_iff_eq.mpr c16;have c16b1:(x6_3 != 10)=false:=bne_eq_false_iff_eq.mpr c16;clear c16;(first|rw [c16b0]|(simp only [CE,CU];rw [c16b0])|skip);have H':=AA.mk H;clear H;go_wp2;go_meet;case rel=>exact ⟨_,((x6_3==10)),xq,H',⟨by have:=HJ3.out;first|omega|exact Nat.le_refl _⟩,xd⟩
    ·rw [if_neg c16] at H;have c16b0:(x6_3==10)=false:=beq_eq_false_iff_ne.mpr c16;have c16b1:(x6_3 != 10)=true:=bne_iff_ne.mpr c16;(first|rw [c16b0]|(simp only [CE,CU];rw [c16b0])|skip);by_cases c17:x6_3=9
     ·rw [if_pos c17] at H;have c17b0:(x6_3==9)=true:=beq_iff_eq.mpr c17;have c17b1:(x6_3 != 9)=false:=bne_eq_false_iff_eq.mpr c17;clear c17;by_cases c18:0<=x6_3
      ·rw [if_pos c18] at H;have c18b0:decide (0<=x6_3)=true:=decide_eq_true c18;clear c18;by_cases c19:x6_3<(a0.size:Int)
       ·rw [if_pos c19] at H;have c19b0:decide (x6_3<(a0.size:Int))=true:=decide_eq_true c19;clear c19;have H':=AA.mk H;clear H;have p20:0<=(x6_3:Int):=xa;have q20:x6_3<(a0.size:Int):=xa;have hx20:=CV a0 x6_3;replace p20:=eq_true p20;replace q20:=eq_true q20;go_wp2;go_meet;case rel=>exact ⟨_,(decide ((bt a0 x6_3)>1)),xq,H',⟨by have:=HJ3.out;first|omega|exact Nat.le_refl _⟩,xd⟩
       ·rw [if_neg c19] at H;exact absurd H (by simp)
      ·rw [if_neg c18] at H;exact absurd H (by simp)
     ·rw [if_neg c17] at H;have c17b0:(x6_3==9)=false:=beq_eq_false_iff_ne.mpr c17;have c17b1:(x6_3 != 9)=true:=bne_iff_ne.mpr c17;have H':=AA.mk H;clear H;go_wp2;go_meet;case rel=>exact ⟨_,(false),xq,H',⟨by have:=HJ3.out;first|omega|exact Nat.le_refl _⟩,xd⟩
   case rest=>
    clear HC15;try clear c1
    try clear p1
    try clear q1
    try clear hx1
    try clear p2
    try clear q2
    try clear hx2
    try clear c3
    try clear p3
    try clear c5
    try clear c5b0
    try clear c6
    try clear c6b0
    try clear c6b1
    try clear p6
    try clear c7
    try clear c7b0
    try clear c8
    try clear c8b0
    try clear p9
    try clear q9
    try clear hx9
    try clear c10
    try clear c10b0
    try clear p11
    try clear q11
    try clear hx11
    try clear c13
    try clear c13b0
    try clear c13b1
    try clear c16
    try clear c16b0
    try clear c16b1
    try clear c17
    try clear c17b0
    try clear c17b1
    try clear c18
    try clear c18b0
    try clear c19
    try clear c19b0
    try clear p20
    try clear q20
    try clear hx20
    try clear p1
    try clear p11
    try clear p2
    try clear p20
    try clear p3
    try clear p6
    try clear p9
    try clear q1
    try clear q11
    try clear q20
    try clear q9
    obtain ⟨kq,x31_14,rfl,HA,HJ14,⟨mc14,rfl⟩⟩:=hcut;cases kq with
    |zero=>exact absurd HA.out (by simp [BR.j2])
    |succ kj14=>
     have H:=HA.out;clear HA;simp only [BR.j2] at H;by_cases c21:x31_14=true
     ·subst c21;have H1:(some (0,0,31))=some (r1,r2,r3):=by rw [if_pos rfl] at H;exact H
      clear H;have H:=H1;clear H1;simp only [Option.some.injEq,Prod.mk.injEq] at H;obtain ⟨rfl,rfl,rfl⟩:=H;go_wp2;(try rw [Exit.noGoto_ret]);go_ret3;exact ⟨xq,xd⟩
     ·replace c21:=Bool.eq_false_iff.mpr c21;subst c21;have H1:(if x6_3>0 then (if 0<=x6_3 then (if x6_3<(a0.size:Int) then (if (bt a0 x6_3)=0 then (some (0,0,32)) else (if 0<=(wrap64 (7*x6_3)) then (some (Go.bits .or .u64 x5_3 (shl .u64 (IntKind.u64.wrap (bt a0 x6_3)) (wrap64 (7*x6_3))),wrap64 (x6_3+1),0)) else (none))) else (none)) else (none)) else (if 0<=x6_3 then (if x6_3<(a0.size:Int) then (if 0<=(wrap64 (7*x6_3)) then (some (Go.bits .or .u64 x5_3 (shl .u64 (IntKind.u64.wrap (bt a0 x6_3)) (wrap64 (7*x6_3))),wrap64 (x6_3+1),0)) else (none)) else (none)) else (none)))=some (r1,r2,r3):=by rw [if_neg (show ¬(false=true) by decide)] at H;exact H
      clear H;have H:=H1;clear H1;by_cases c22:x6_3>0
      ·rw [if_pos c22] at H;have c22b0:decide (0<x6_3)=true:=decide_eq_true c22;clear c22;by_cases c23:0<=x6_3
       ·rw [if_pos c23] at H;have c23b0:decide (0<=x6_3)=true:=decide_eq_true c23;clear c23;by_cases c24:x6_3<(a0.size:Int)
        ·rw [if_pos c24] at H;have c24b0:decide (x6_3<(a0.size:Int))=true:=decide_eq_true c24;clear c24;by_cases c26:(bt a0 x6_3)=0
         ·rw [if_pos c26] at H;have c26b0:((bt a0 x6_3)==0)=true:=beq_iff_eq.mpr c26;have c26b1:((bt a0 x6_3) != 0)=false:=bne_eq_false_iff_eq.mpr c26;clear c26;simp only [Option.some.injEq,Prod.mk.injEq] at H;obtain ⟨rfl,rfl,rfl⟩:=H;have p25:0<=(x6_3:Int):=xa;have q25:x6_3<(a0.size:Int):=xa;have hx25:=CV a0 x6_3;replace p25:=eq_true p25;replace q25:=eq_true q25;go_wp2;(try rw [Exit.noGoto_ret]);go_ret3;exact ⟨xq,xd⟩
         ·rw [if_neg c26] at H;have c26b0:((bt a0 x6_3)==0)=false:=beq_eq_false_iff_ne.mpr c26;have c26b1:((bt a0 x6_3) != 0)=true:=bne_iff_ne.mpr c26;obtain ⟨ji28,hji28⟩:∃ j_:Int,(wrap64 (7*x6_3))=j_:=⟨_,rfl⟩;replace H:(if 0<=(ji28) then (some (Go.bits .or .u64 x5_3 (shl .u64 (IntKind.u64.wrap (bt a0 x6_3)) (ji28)),wrap64 (x6_3+1),0)) else (none))=some (r1,r2,r3):=by first|(rw [hji28] at H;exact H)|(simp only [hji28] at H⊢;exact H)
          have hji28w:(IntKind.i64.wrap (7*x6_3))=ji28:=(CE _).trans hji28;by_cases c29:0<=(ji28)
          ·rw [if_pos c29] at H;have c29b0:=eq_true c29;have c29b1:decide (0<=(ji28))=true:=decide_eq_true c29;clear c29;obtain ⟨ji30,hji30⟩:∃ j_:Int,(shl .u64 (IntKind.u64.wrap (bt a0 x6_3)) (ji28))=j_:=⟨_,rfl⟩;replace H:(some (Go.bits .or .u64 x5_3 (ji30),wrap64 (x6_3+1),0))=some (r1,r2,r3):=by first|(rw [hji30] at H;exact H)|(simp only [hji30] at H⊢;exact H)
           have hji30_:(IntKind.u64.wrap ((IntKind.u64.wrap (bt a0 x6_3))*2^min (ji28).toNat 64))=ji30:=hji30;have hji30z:(ji28)<=64->(IntKind.u64.wrap ((IntKind.u64.wrap (bt a0 x6_3))*2^(ji28).toNat))=ji30:=LZ hji30;simp only [Option.some.injEq,Prod.mk.injEq] at H;obtain ⟨rfl,rfl,rfl⟩:=H;have p25:0<=(x6_3:Int):=xa;have q25:x6_3<(a0.size:Int):=xa;have hx25:=CV a0 x6_3;replace p25:=eq_true p25;replace q25:=eq_true q25;have p27:0<=(x6_3:Int):=xa;have q27:x6_3<(a0.size:Int):=xa;have hx27:=CV a0 x6_3;replace p27:=eq_true p27;replace q27:=eq_true q27;go_wp2;(try rw [Exit.noGoto_ret]);go_ret3;exact ⟨by first|rfl|(simp;done)|(simp only [<-hji28, <-hji30]<;>(first|rfl|simp))|(simp [*];done),xd⟩
          ·rw [if_neg c29] at H;exact absurd H (by simp)
        ·rw [if_neg c24] at H;exact absurd H (by simp)
       ·rw [if_neg c23] at H;exact absurd H (by simp)
      ·rw [if_neg c22] at H;have c22b0:decide (0<x6_3)=false:=decide_eq_false c22;clear c22;by_cases c31:0<=x6_3
       ·rw [if_pos c31] at H;have c31b0:decide (0<=x6_3)=true:=decide_eq_true c31;clear c31;by_cases c32:x6_3<(a0.size:Int)
        ·rw [if_pos c32] at H;have c32b0:decide (x6_3<(a0.size:Int))=true:=decide_eq_true c32;clear c32;obtain ⟨ji34,hji34⟩:∃ j_:Int,(wrap64 (7*x6_3))=j_:=⟨_,rfl⟩;replace H:(if 0<=(ji34) then (some (Go.bits .or .u64 x5_3 (shl .u64 (IntKind.u64.wrap (bt a0 x6_3)) (ji34)),wrap64 (x6_3+1),0)) else (none))=some (r1,r2,r3):=by first|(rw [hji34] at H;exact H)|(simp only [hji34] at H⊢;exact H)
         have hji34w:(IntKind.i64.wrap (7*x6_3))=ji34:=(CE _).trans hji34;by_cases c35:0<=(ji34)
         ·rw [if_pos c35] at H;have c35b0:=eq_true c35;have c35b1:decide (0<=(ji34))=true:=decide_eq_true c35;clear c35;obtain ⟨ji36,hji36⟩:∃ j_:Int,(shl .u64 (IntKind.u64.wrap (bt a0 x6_3)) (ji34))=j_:=⟨_,rfl⟩;replace H:(some (Go.bits .or .u64 x5_3 (ji36),wrap64 (x6_3+1),0))=some (r1,r2,r3):=by first|(rw [hji36] at H;exact H)|(simp only [hji36] at H⊢;exact H)
          have hji36_:(IntKind.u64.wrap ((IntKind.u64.wrap (bt a0 x6_3))*2^min (ji34).toNat 64))=ji36:=hji36;have hji36z:(ji34)<=64->(IntKind.u64.wrap ((IntKind.u64.wrap (bt a0 x6_3))*2^(ji34).toNat))=ji36:=LZ hji36;simp only [Option.some.injEq,Prod.mk.injEq] at H;obtain ⟨rfl,rfl,rfl⟩:=H;have p33:0<=(x6_3:Int):=xa;have q33:x6_3<(a0.size:Int):=xa;have hx33:=CV a0 x6_3;replace p33:=eq_true p33;replace q33:=eq_true q33;go_wp2;(try rw [Exit.noGoto_ret]);go_ret3;exact ⟨by first|rfl|(simp;done)|(simp only [<-hji34, <-hji36]<;>(first|rfl|simp))|(simp [*];done),xd⟩
         ·rw [if_neg c35] at H;exact absurd H (by simp)
        ·rw [if_neg c32] at H;exact absurd H (by simp)
       ·rw [if_neg c31] at H;exact absurd H (by simp)
def ER.f (k:Nat) (a0:ByteArray) (a1:Int):Option (ByteArray×Int×Int):=(BR.f k a0).bind λbt246=>(if bt246.2.2=0 then (if bt246.1>(IntKind.u64.wrap (mx a1 0)) then (some ((⟨#[]⟩:ByteArray),0,31)) else (if bt246.1>(IntKind.u64.wrap (wrap64 ((a0.size:Int) - bt246.2.1))) then (some ((⟨#[]⟩:ByteArray),0,30)) else (if 0<=bt246.2.1 then (if bt246.2.1<=(wrap64 (bt246.2.1+(wrap64 (bt246.1)))) then (if (wrap64 (bt246.2.1+(wrap64 (bt246.1))))<=(a0.size:Int) then (some (a0.extract (bt246.2.1:Int).toNat ((wrap64 (bt246.2.1+(wrap64 (bt246.1)))):Int).toNat,wrap64 (bt246.2.1+(wrap64 (bt246.1))),0)) else (none)) else (none)) else (none)))) else (some ((⟨#[]⟩:ByteArray),0,bt246.2.2)))
theorem ER.mono:∀ a0 a1 k,CZ (ER.f k a0 a1) (ER.f (k+1) a0 a1):=by
 intro a0 a1 k;unfold ER.f
 repeat' first|(with_reducible first|exact BR.mono _ _|exact CZ.refl _|exact CZ.none _|refine CZ.ite ?_ ?_|refine CZ.bind ?_ (λ_=>?_))|exact BR.mono _ _|exact CZ.none _|refine CZ.ite ?_ ?_|refine CZ.bind ?_ (λ_=>?_)
set_option maxHeartbeats 8000000 in
set_option maxRecDepth 100000 in
theorem ER.calls (k:Nat) (a0:ByteArray) (a1:Int) (r1:ByteArray) (r2:Int) (r3:Int) (w:World) (h:ER.f k a0 a1=some (r1,r2,r3)):
 Calls Tryz.prog 88 #[.string a0, .int .i64 a1] w λe w'=>e= .returned (.tuple #[.string r1, .int .i64 r2, .int .i64 r3])/\Below w.heap.size w w':=by
 have HB:=AA.mk (Below.refl w.heap.size w);have H:((BR.f k a0).bind λbt246=>(if bt246.2.2=0 then (if bt246.1>(IntKind.u64.wrap (mx a1 0)) then (some ((⟨#[]⟩:ByteArray),0,31)) else (if bt246.1>(IntKind.u64.wrap (wrap64 ((a0.size:Int) - bt246.2.1))) then (some ((⟨#[]⟩:ByteArray),0,30)) else (if 0<=bt246.2.1 then (if bt246.2.1<=(wrap64 (bt246.2.1+(wrap64 (bt246.1)))) then (if (wrap64 (bt246.2.1+(wrap64 (bt246.1))))<=(a0.size:Int) then (some (a0.extract (bt246.2.1:Int).toNat ((wrap64 (bt246.2.1+(wrap64 (bt246.1)))):Int).toNat,wrap64 (bt246.2.1+(wrap64 (bt246.1))),0)) else (none)) else (none)) else (none)))) else (some ((⟨#[]⟩:ByteArray),0,bt246.2.2))))=some (r1,r2,r3):=h;clear h;replace H:=Option.bind_eq_some_iff.mp H;obtain ⟨⟨t246,t247,t248⟩,A30,H⟩:=H;try dsimp only at H
 have A3:=AA.mk A30;clear A30;by_cases c4:t248=0
 ·rw [if_pos c4] at H;have c4b0:(t248==0)=true:=beq_iff_eq.mpr c4;have c4b1:(t248 != 0)=false:=bne_eq_false_iff_eq.mpr c4;clear c4;obtain ⟨ji5,hji5⟩:∃ j_:Int,(mx a1 0)=j_:=⟨_,rfl⟩;replace H:(if t246>(IntKind.u64.wrap (ji5)) then (some ((⟨#[]⟩:ByteArray),0,31)) else (if t246>(IntKind.u64.wrap (wrap64 ((a0.size:Int) - t247))) then (some ((⟨#[]⟩:ByteArray),0,30)) else (if 0<=t247 then (if t247<=(wrap64 (t247+(wrap64 (t246)))) then (if (wrap64 (t247+(wrap64 (t246))))<=(a0.size:Int) then (some (a0.extract (t247:Int).toNat ((wrap64 (t247+(wrap64 (t246)))):Int).toNat,wrap64 (t247+(wrap64 (t246))),0)) else (none)) else (none)) else (none))))=some (r1,r2,r3):=by first|(rw [hji5] at H;exact H)|(simp only [hji5] at H⊢;exact H)
  (try rw [hji5] at A3);(try (have hji5l:0<=ji5:=by (rw [<-hji5];unfold mx;(repeat' split)<;>omega)));(try (have hji5m:0<=ji5:=by omega));have hji5_:(if a1<0 then 0 else a1)=ji5:=hji5;by_cases c6:t246>(IntKind.u64.wrap (ji5))
  ·rw [if_pos c6] at H;have c6b0:decide ((IntKind.u64.wrap (ji5))<t246)=true:=decide_eq_true c6;clear c6;simp only [Option.some.injEq,Prod.mk.injEq] at H;obtain ⟨rfl,rfl,rfl⟩:=H;go_enter Tryz.func88,Tryz.ntmps88;go_wp2_with (first|((with_reducible refine AQ (f:=64) rfl ?_);refine Ag (some 13) rfl rfl Tryz.func64 (by kernel_rfl) rfl #[.string a0] rfl xg ?_;(with_reducible refine (BR.calls k a0 t246 t247 t248 _ A3.out).mono ?_);rintro e w' ⟨rfl,⟨nd,rfl⟩⟩;refine ⟨_,rfl,?_⟩));go_ret3;exact ⟨by first|rfl|(simp [EI,EJ]<;>rfl)|(simp only [<-hji5];first|rfl|(simp [EI,EJ]<;>rfl))|(simp [*,EI,EJ]<;>rfl),xb⟩
  ·rw [if_neg c6] at H;have c6b0:decide ((IntKind.u64.wrap (ji5))<t246)=false:=decide_eq_false c6;clear c6;by_cases c7:t246>(IntKind.u64.wrap (wrap64 ((a0.size:Int) - t247)))
   ·rw [if_pos c7] at H;have c7b0:decide ((IntKind.u64.wrap (wrap64 ((a0.size:Int) - t247)))<t246)=true:=decide_eq_true c7;clear c7;simp only [Option.some.injEq,Prod.mk.injEq] at H;obtain ⟨rfl,rfl,rfl⟩:=H;go_enter Tryz.func88,Tryz.ntmps88;go_wp2_with (first|((with_reducible refine AQ (f:=64) rfl ?_);refine Ag (some 13) rfl rfl Tryz.func64 (by kernel_rfl) rfl #[.string a0] rfl xg ?_;(with_reducible refine (BR.calls k a0 t246 t247 t248 _ A3.out).mono ?_);rintro e w' ⟨rfl,⟨nd,rfl⟩⟩;refine ⟨_,rfl,?_⟩));go_ret3;exact ⟨by first|rfl|(simp [EI,EJ]<;>rfl)|(simp only [<-hji5];first|rfl|(simp [EI,EJ]<;>rfl))|(simp [*,EI,EJ]<;>rfl),xb⟩
   ·rw [if_neg c7] at H;have c7b0:decide ((IntKind.u64.wrap (wrap64 ((a0.size:Int) - t247)))<t246)=false:=decide_eq_false c7;clear c7;by_cases c8:0<=t247
    ·rw [if_pos c8] at H;have c8b0:=eq_true c8;have c8b1:decide (0<=t247)=true:=decide_eq_true c8;clear c8;by_cases c9:t247<=(wrap64 (t247+(wrap64 (t246))))
     ·rw [if_pos c9] at H;have c9b0:=eq_true c9;have c9b1:decide (t247<=(wrap64 (t247+(wrap64 (t246)))))=true:=decide_eq_true c9;by_cases c10:(wrap64 (t247+(wrap64 (t246))))<=(a0.size:Int)
      ·rw [if_pos c10] at H;have c10b0:=eq_true c10;have c10b1:decide ((wrap64 (t247+(wrap64 (t246))))<=(a0.size:Int))=true:=decide_eq_true c10;simp only [Option.some.injEq,Prod.mk.injEq] at H;obtain ⟨rfl,rfl,rfl⟩:=H;go_enter Tryz.func88,Tryz.ntmps88;go_wp2_with (first|((with_reducible refine AQ (f:=64) rfl ?_);refine Ag (some 13) rfl rfl Tryz.func64 (by kernel_rfl) rfl #[.string a0] rfl xg ?_;(with_reducible refine (BR.calls k a0 t246 t247 t248 _ A3.out).mono ?_);rintro e w' ⟨rfl,⟨nd,rfl⟩⟩;refine ⟨_,rfl,?_⟩));go_ret3;exact ⟨by first|rfl|(simp [EI,EJ]<;>rfl)|(simp only [<-hji5];first|rfl|(simp [EI,EJ]<;>rfl))|(simp [*,EI,EJ]<;>rfl),xb⟩
      ·rw [if_neg c10] at H;exact absurd H (by simp)
     ·rw [if_neg c9] at H;exact absurd H (by simp)
    ·rw [if_neg c8] at H;exact absurd H (by simp)
 ·rw [if_neg c4] at H;have c4b0:(t248==0)=false:=beq_eq_false_iff_ne.mpr c4;have c4b1:(t248 != 0)=true:=bne_iff_ne.mpr c4;simp only [Option.some.injEq,Prod.mk.injEq] at H;obtain ⟨rfl,rfl,rfl⟩:=H;go_enter Tryz.func88,Tryz.ntmps88;go_wp2_with (first|((with_reducible refine AQ (f:=64) rfl ?_);refine Ag (some 13) rfl rfl Tryz.func64 (by kernel_rfl) rfl #[.string a0] rfl xg ?_;(with_reducible refine (BR.calls k a0 t246 t247 t248 _ A3.out).mono ?_);rintro e w' ⟨rfl,⟨nd,rfl⟩⟩;refine ⟨_,rfl,?_⟩));go_ret3;exact ⟨xe,xb⟩
end Go.Proofs.YtfggjdkccdkogaaGreatDoor.Print
