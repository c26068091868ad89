/- Several parts of the claim's proof in one text, said short by a program of this session. No condition. -/
import Derived.Test.YtikggnalmidlhaaGreatDoorGncook
import Derived.Test.YtikggnalmidlhaaGreatDoorM26
section
namespace Go.Proofs.YtikggnalmidlhaaGreatDoor.Print
open RowKit AR Aa Ad
attribute [local go_sem] BM BN Bo Bp BC BD BO BP
set_option linter.unusedVariables false
set_option linter.unusedSimpArgs false
mutual
def Yf.j0:Nat->ByteArray->Int->Bool->Option ((List (CU))×Int)
 |0,_,_,_=>none
 |k+1,x0,x1,x16=>if x16=true then (some (([]:List (CU)),1)) else ((Vb.f k x0).bind λt410=>(if (t410.length:Int)=0 then (Yf.j1 k x1 t410 true) else (if 0<(t410.length:Int) then (Yf.j1 k x1 t410 ((Cf ByteArray.empty t410 0).toList != ([35,32,78,101,116,115,99,97,112,101,32,72,84,84,80,32,67,111,111,107,105,101,32,70,105,108,101]:List UInt8))) else (none))))
def Yf.j1:Nat->Int->List ByteArray->Bool->Option ((List (CU))×Int)
 |0,_,_,_=>none
 |k+1,x1,x6,x27=>if x27=true then (some (([]:List (CU)),190)) else (Yf.l0 k x1 x6 ([]:List (CU)) 1)
def Yf.l0:Nat->Int->List ByteArray->List (CU)->Int->Option ((List (CU))×Int)
 |0,_,_,_,_=>none
 |k+1,x1,x6,x7,x8=>if x8<(x6.length:Int) then (if 0<=x8 then (if (Cf ByteArray.empty x6 x8).toList=([]:List UInt8) then (Yf.j3 k x1 x6 x7 x8 true) else (if 0<((Cf ByteArray.empty x6 x8).size:Int) then (if (bt (Cf ByteArray.empty x6 x8) 0)=35 then ((Vf.f (Cf ByteArray.empty x6 x8) (⟨#[35,72,116,116,112,79,110,108,121,95]⟩:ByteArray)).bind λt417=>(Yf.j3 k x1 x6 x7 x8 (!t417))) else (Yf.j3 k x1 x6 x7 x8 false)) else (none))) else (none)) else (some (x7,0))
def Yf.j3:Nat->Int->List ByteArray->List (CU)->Int->Bool->Option ((List (CU))×Int)
 |0,_,_,_,_,_=>none
 |k+1,x1,x6,x7,x8,x54=>if x54=true then (Yf.l0 k x1 x6 x7 (wrap64 (x8+1))) else (if 0<=x8 then (if x8<(x6.length:Int) then ((Ve.f k (Cf ByteArray.empty x6 x8) x1).bind λbt419=>(if bt419.2.2.2.2.2.2.2.2.2.2.2=0 then (if x7.length<1353245080339 then (Yf.l0 k x1 x6 (x7++[(⟨bt419.1,bt419.2.1,bt419.2.2.1,bt419.2.2.2.1,bt419.2.2.2.2.1,bt419.2.2.2.2.2.1,bt419.2.2.2.2.2.2.1,bt419.2.2.2.2.2.2.2.1,bt419.2.2.2.2.2.2.2.2.1,bt419.2.2.2.2.2.2.2.2.2.1,bt419.2.2.2.2.2.2.2.2.2.2.1⟩:CU)]) (wrap64 (x8+1))) else (none)) else (some (([]:List (CU)),bt419.2.2.2.2.2.2.2.2.2.2.2)))) else (none)) else (none))
end
def Yf.f (k:Nat) (a0:ByteArray) (a1:Int):Option ((List (CU))×Int):=if a1<0 then (Yf.j0 k a0 a1 true) else (Yf.j0 k a0 a1 (decide (a1>253402300799)))
set_option maxHeartbeats 8000000 in
set_option maxRecDepth 100000 in
theorem Yf.calls (k:Nat) (a0:ByteArray) (a1:Int) (r1:List (CU)) (r2:Int) (w:World) (h:Yf.f k a0 a1=some (r1,r2)):
 Calls Tryz.prog 14 #[.string a0, .int .i64 a1] w λe w'=>∃ v0_:Value,e= .returned (.tuple #[v0_, .int .i64 r2])/\Kd.R Fu 53 w' w.heap.size (λ_=>True) v0_ r1/\Below w.heap.size w w':=by
 have hu53:=Tryz.underlying53;have HB:=AA.mk (Below.refl w.heap.size w);have H:(if a1<0 then (Yf.j0 k a0 a1 true) else (Yf.j0 k a0 a1 (decide (a1>253402300799))))=some (r1,r2):=h;clear h;have HC3:=AA.mk H;clear H;go_enter Tryz.func14,Tryz.ntmps14;go_upto_region 1 with (fail)
 go_cut [16] (λv16 wc=>∃ (kq:Nat) (x16_2:Bool),v16= .bool x16_2/\AA (Yf.j0 kq a0 a1 x16_2=some (r1,r2))/\AA (kq<=k)/\AA (Below w.heap.size w wc));case first=>
  have H:=HC3.out;clear HC3;by_cases c4:a1<0
  ·rw [if_pos c4] at H;have c4b0:decide (a1<0)=true:=decide_eq_true c4;clear c4;(first|rw [c4b0]|(simp only [DL,DU];rw [c4b0])|skip);have H':=AA.mk H;clear H;go_wp2;go_meet;case rel=>exact ⟨_,(true),xq,H',⟨by first|omega|exact Nat.le_refl _⟩,⟨xb⟩⟩
  ·rw [if_neg c4] at H;have c4b0:decide (a1<0)=false:=decide_eq_false c4;clear c4;(first|rw [c4b0]|(simp only [DL,DU];rw [c4b0])|skip);have H':=AA.mk H;clear H;go_wp2;go_meet;case rel=>exact ⟨_,(decide (a1>253402300799)),xq,H',⟨by first|omega|exact Nat.le_refl _⟩,⟨xb⟩⟩
 case rest=>
  clear HC3;try clear c1
  try clear p2
  try clear c4
  try clear c4b0
  obtain ⟨kq,x16_2,rfl,HA,HJ2,HB⟩:=hcut;cases kq with
  |zero=>exact absurd HA.out (by simp [Yf.j0])
  |succ kj2=>
   have H:=HA.out;clear HA;simp only [Yf.j0] at H;by_cases c5:x16_2=true
   ·subst c5;have H1:(some (([]:List (CU)),1))=some (r1,r2):=by rw [if_pos rfl] at H;exact H
    clear H;have H:=H1;clear H1;simp only [Option.some.injEq,Prod.mk.injEq] at H;obtain ⟨rfl,rfl⟩:=H;go_wp2;go_ret2;exact ⟨_,xe,by first|exact Kd.Eu _ _ _ _ _|exact Kd.F6 _ _ _ _ _|exact Kd.F7 _ _ _ _ _|exact Kd.F3 _ _ _ _ _|exact Kd.F5 _ _ _ _ _,xb⟩
   ·replace c5:=Bool.eq_false_iff.mpr c5;subst c5;have H1:((Vb.f kj2 a0).bind λt410=>(if (t410.length:Int)=0 then (Yf.j1 kj2 a1 t410 true) else (if 0<(t410.length:Int) then (Yf.j1 kj2 a1 t410 ((Cf ByteArray.empty t410 0).toList != ([35,32,78,101,116,115,99,97,112,101,32,72,84,84,80,32,67,111,111,107,105,101,32,70,105,108,101]:List UInt8))) else (none))))=some (r1,r2):=by rw [if_neg (show ¬(false=true) by decide)] at H;exact H
    clear H;have H:=H1;clear H1;replace H:=Option.bind_eq_some_iff.mp H;obtain ⟨t410,A60,H⟩:=H;replace H:(if (t410.length:Int)=0 then (Yf.j1 kj2 a1 t410 true) else (if 0<(t410.length:Int) then (Yf.j1 kj2 a1 t410 ((Cf ByteArray.empty t410 0).toList != ([35,32,78,101,116,115,99,97,112,101,32,72,84,84,80,32,67,111,111,107,105,101,32,70,105,108,101]:List UInt8))) else (none)))=some (r1,r2):=H;have A6:=AA.mk A60;clear A60;have HC7:=AA.mk H;clear H;go_upto_region 4 with (first|((with_reducible refine AO (f:=18) rfl ?_);refine Ak (some 18) rfl rfl Tryz.func18 (by kernel_rfl) rfl #[.string a0] rfl xg ?_;(with_reducible refine (Vb.calls kj2 a0 t410 _ A6.out).mono ?_);rintro e w8 ⟨v411,rfl,ho0,hb⟩;refine ⟨_,rfl,?_⟩;have HO412:=AA.mk (Kd.Cm ho0 (BF xb));replace HB:=AA.mk (AP xb hb);(try clear hb);(try clear ho0)))
    (try simp only [Act.put,List.setIfInBounds_toArray,List.set_cons_zero,List.set_cons_succ]);go_cut [27] (λv27 wc=>∃ (kq:Nat) (x27_6:Bool),v27= .bool x27_6/\AA (Yf.j1 kq a1 t410 x27_6=some (r1,r2))/\AA (kq<=kj2)/\AA (Kd.R Kd.string 9 wc w.heap.size (λ_=>True) v411 t410)/\AA (Below w.heap.size w wc));case first=>
     have H:=HC7.out;clear HC7;by_cases c9:(t410.length:Int)=0
     ·rw [if_pos c9] at H;have c9b0:((t410.length:Int)==0)=true:=beq_iff_eq.mpr c9;have c9b1:((t410.length:Int) != 0)=false:=bne_eq_false_iff_eq.mpr c9;clear c9;(first|rw [c9b0]|(simp only [DL,DU];rw [c9b0])|skip);have H':=AA.mk H;clear H;obtain ⟨Ao10,co10,eo10⟩:=Kd.CE HO412.out;subst eo10;go_wp2;go_meet;case rel=>exact ⟨_,(true),xq,H',⟨by have:=HJ2.out;first|omega|exact Nat.le_refl _⟩,⟨by (with_reducible repeat (first|apply Kd.Bd|apply Kd.Be|apply Kd.Bl));exact HO412.out⟩,⟨xb⟩⟩
     ·rw [if_neg c9] at H;have c9b0:((t410.length:Int)==0)=false:=beq_eq_false_iff_ne.mpr c9;have c9b1:((t410.length:Int) != 0)=true:=bne_iff_ne.mpr c9;have c9b2:¬(t410=[]):=λh_=>c9 (by rw [h_];rfl)
      (first|rw [c9b0]|(simp only [DL,DU];rw [c9b0])|skip);by_cases c11:0<(t410.length:Int)
      ·rw [if_pos c11] at H;have c11b0:decide (0<(t410.length:Int))=true:=decide_eq_true c11;have c11b1:decide (0<t410.length)=true:=decide_eq_true (by omega);clear c11;have H':=AA.mk H;clear H;obtain ⟨Ao12,co12,eo12⟩:=Kd.CE HO412.out;subst eo12;have p413:0<=(0:Int):=(by omega);have q413:0<(t410.length:Int):=xa;obtain ⟨ad413,e413,hx413_0⟩:=Kd.DF (Kd.BH HO412.out).2.2 0 p413 q413;cases e413;have qi413:(0<t410.length)=True:=eq_true (by omega);(try rw [show ((0:Int)).toNat=0 from rfl] at hx413_0);(try rw [Addr.add_zero'] at hx413_0);replace p413:=eq_true p413;replace q413:=eq_true q413;go_wp2;go_meet;case rel=>exact ⟨_,(((Cf ByteArray.empty t410 0).toList != ([35,32,78,101,116,115,99,97,112,101,32,72,84,84,80,32,67,111,111,107,105,101,32,70,105,108,101]:List UInt8))),xq,H',⟨by have:=HJ2.out;first|omega|exact Nat.le_refl _⟩,⟨by (with_reducible repeat (first|apply Kd.Bd|apply Kd.Be|apply Kd.Bl));exact HO412.out⟩,⟨xb⟩⟩
      ·rw [if_neg c11] at H;exact absurd H (by simp)
    case rest=>
     clear HC7;try clear c1
     try clear p2
     try clear p3
     try clear c4
     try clear c4b0
     try clear p4
     try clear q4
     try clear hx4
     try clear qi4
     try clear c5
     try clear p6
     try clear c9
     try clear c9b0
     try clear c9b1
     try clear c9b2
     try clear c11
     try clear c11b0
     try clear c11b1
     try clear hx413_0
     try clear p2
     try clear p413
     try clear q413
     obtain ⟨kq,x27_6,rfl,HA,HJ6,HO_6,HB⟩:=hcut;cases kq with
     |zero=>exact absurd HA.out (by simp [Yf.j1])
     |succ kj6=>
      have H:=HA.out;clear HA;simp only [Yf.j1] at H;by_cases c13:x27_6=true
      ·subst c13;have H1:(some (([]:List (CU)),190))=some (r1,r2):=by rw [if_pos rfl] at H;exact H
       clear H;have H:=H1;clear H1;simp only [Option.some.injEq,Prod.mk.injEq] at H;obtain ⟨rfl,rfl⟩:=H;go_wp2;go_ret2;exact ⟨_,xe,by first|exact Kd.Eu _ _ _ _ _|exact Kd.F6 _ _ _ _ _|exact Kd.F7 _ _ _ _ _|exact Kd.F3 _ _ _ _ _|exact Kd.F5 _ _ _ _ _,xb⟩
      ·replace c13:=Bool.eq_false_iff.mpr c13;subst c13;have H1:(Yf.l0 kj6 a1 t410 ([]:List (CU)) 1)=some (r1,r2):=by rw [if_neg (show ¬(false=true) by decide)] at H;exact H
       clear H;have H:=H1;clear H1;have H':=AA.mk H;clear H;go_wp2;go_loopg [7,8] kj6 (λkq v7 v8 w'=>∃ (x7_3:List (CU)) (x8_3:Int),v8= .int .i64 x8_3/\AA (Yf.l0 kq a1 t410 x7_3 x8_3=some (r1,r2))/\AA (kq<=kj6)/\AA (Kd.R Kd.string 9 w' w.heap.size (λ_=>True) v411 t410)/\AA (Kd.R Fu 53 w' w.heap.size (λ_=>True) v7 x7_3)/\AA (Below w.heap.size w w'));case atStart=>exact ⟨(([]:List (CU))),(1),xq,H',⟨Nat.le_refl _⟩,⟨by (with_reducible repeat (first|apply Kd.Bd|apply Kd.Be|apply Kd.Bl));exact HO_6.out⟩,⟨by first|exact Kd.Eu _ _ _ _ _|exact Kd.F6 _ _ _ _ _|exact Kd.F7 _ _ _ _ _|exact Kd.F3 _ _ _ _ _|exact Kd.F5 _ _ _ _ _⟩,⟨xb⟩⟩
       case round=>
        clear H';try clear c1
        try clear p2
        try clear p3
        try clear c4
        try clear c4b0
        try clear p4
        try clear q4
        try clear hx4
        try clear qi4
        try clear c5
        try clear p6
        try clear c9
        try clear c9b0
        try clear c9b1
        try clear c9b2
        try clear c11
        try clear c11b0
        try clear c11b1
        try clear c13
        try clear hx413_0
        try clear p2
        try clear p3
        try clear p4
        try clear p413
        try clear p6
        try clear q4
        try clear q413
        obtain ⟨x7_3,x8_3,rfl,HA,HK3,HO_6,HO_7,HB⟩:=hrel;cases gk with
        |zero=>exact absurd HA.out (by simp [Yf.l0])
        |succ k3=>
         have H:=HA.out;clear HA;simp only [Yf.l0] at H;by_cases c14:x8_3<(t410.length:Int)
         ·rw [if_pos c14] at H;have c14b0:decide (x8_3<(t410.length:Int))=true:=decide_eq_true c14;clear c14;have HC15:=AA.mk H;clear H;obtain ⟨Ao16,co16,eo16⟩:=Kd.CE HO_6.out;subst eo16;go_upto_region 10 with (fail)
          go_cut [54] (λv54 wc=>∃ (kq:Nat) (x54_14:Bool),v54= .bool x54_14/\AA (Yf.j3 kq a1 t410 x7_3 x8_3 x54_14=some (r1,r2))/\AA (kq<=k3)/\AA (Kd.R Kd.string 9 wc w.heap.size (λ_=>True) (.slice Ao16 t410.length co16) t410)/\AA (Kd.R Fu 53 wc w.heap.size (λ_=>True) u7 x7_3)/\AA (Below w.heap.size w wc));case first=>
           have H:=HC15.out;clear HC15;by_cases c17:0<=x8_3
           ·rw [if_pos c17] at H;have c17b0:decide (0<=x8_3)=true:=decide_eq_true c17;clear c17;(first|rw [c17b0]|(simp only [DL,DU];rw [c17b0])|skip);by_cases c18:(Cf ByteArray.empty t410 x8_3).toList=([]:List UInt8)
            ·rw [if_pos c18] at H;have c18b0:((Cf ByteArray.empty t410 x8_3).toList==([]:List UInt8))=true:=beq_iff_eq.mpr c18;have c18b1:((Cf ByteArray.empty t410 x8_3).toList != ([]:List UInt8))=false:=bne_eq_false_iff_eq.mpr c18;clear c18;have H':=AA.mk H;clear H;have p414:0<=(x8_3:Int):=xa;have q414:x8_3<(t410.length:Int):=xa;obtain ⟨ad414,e414,hx414_0⟩:=Kd.DF (Kd.BH HO_6.out).2.2 x8_3 p414 q414;cases e414;replace p414:=eq_true p414;replace q414:=eq_true q414;go_wp2;go_meet;case rel=>exact ⟨_,(true),xq,H',⟨by have:=HJ2.out;have:=HJ6.out;have:=HK3.out;first|omega|exact Nat.le_refl _⟩,⟨by (with_reducible repeat (first|apply Kd.Bd|apply Kd.Be|apply Kd.Bl));exact HO_6.out⟩,⟨by (with_reducible repeat (first|apply Kd.Bd|apply Kd.Be|apply Kd.Bl));exact HO_7.out⟩,⟨xb⟩⟩
            ·rw [if_neg c18] at H;have c18b0:((Cf ByteArray.empty t410 x8_3).toList==([]:List UInt8))=false:=beq_eq_false_iff_ne.mpr c18;have c18b1:((Cf ByteArray.empty t410 x8_3).toList != ([]:List UInt8))=true:=bne_iff_ne.mpr c18;by_cases c19:0<((Cf ByteArray.empty t410 x8_3).size:Int)
             ·rw [if_pos c19] at H;have c19b0:decide (0<((Cf ByteArray.empty t410 x8_3).size:Int))=true:=decide_eq_true c19;have c19b1:decide (0<(Cf ByteArray.empty t410 x8_3).size)=true:=decide_eq_true (by omega);clear c19;by_cases c21:(bt (Cf ByteArray.empty t410 x8_3) 0)=35
              ·rw [if_pos c21] at H;have c21b0:((bt (Cf ByteArray.empty t410 x8_3) 0)==35)=true:=beq_iff_eq.mpr c21;have c21b1:((bt (Cf ByteArray.empty t410 x8_3) 0) != 35)=false:=bne_eq_false_iff_eq.mpr c21;clear c21;replace H:=Option.bind_eq_some_iff.mp H;obtain ⟨t417,A220,H⟩:=H;replace H:(Yf.j3 k3 a1 t410 x7_3 x8_3 (!t417))=some (r1,r2):=H;have A22:=AA.mk A220;clear A220;have H':=AA.mk H;clear H;have p414:0<=(x8_3:Int):=xa;have q414:x8_3<(t410.length:Int):=xa;obtain ⟨ad414,e414,hx414_0⟩:=Kd.DF (Kd.BH HO_6.out).2.2 x8_3 p414 q414;cases e414;replace p414:=eq_true p414;replace q414:=eq_true q414;have p415:0<=(x8_3:Int):=xa;have q415:x8_3<(t410.length:Int):=xa;obtain ⟨ad415,e415,hx415_0⟩:=Kd.DF (Kd.BH HO_6.out).2.2 x8_3 p415 q415;obtain rfl:ad414=ad415:=(by injection e415);replace p415:=eq_true p415;replace q415:=eq_true q415;have p20:0<=(0:Int):=(by omega);have q20:0<(Cf ByteArray.empty t410 x8_3).size:=(by have:(0:Int)<((Cf ByteArray.empty t410 x8_3).size:Int):=xa;omega);have hx20:∀ h:0<(Cf ByteArray.empty t410 x8_3).size,(((Cf ByteArray.empty t410 x8_3)[0]'h).toNat:Int)=bt (Cf ByteArray.empty t410 x8_3) 0:=Br (Cf ByteArray.empty t410 x8_3) 0;clear p20;have qi20:(0<((Cf ByteArray.empty t410 x8_3).size:Int))=True:=eq_true (xa);replace q20:=eq_true q20;have p416:0<=(x8_3:Int):=xa;have q416:x8_3<(t410.length:Int):=xa;obtain ⟨ad416,e416,hx416_0⟩:=Kd.DF (Kd.BH HO_6.out).2.2 x8_3 p416 q416;obtain rfl:ad414=ad416:=(by injection e416);replace p416:=eq_true p416;replace q416:=eq_true q416;go_wp2_with (first|(go_at_call 17;(with_reducible refine (Vf.calls (Cf ByteArray.empty t410 x8_3) (⟨#[35,72,116,116,112,79,110,108,121,95]⟩:ByteArray) t417 _ A22.out).mono ?_);rintro e w' ⟨rfl,⟨nd,rfl⟩⟩));go_meet;case rel=>exact ⟨_,(!t417),xq,H',⟨by have:=HJ2.out;have:=HJ6.out;have:=HK3.out;first|omega|exact Nat.le_refl _⟩,⟨by (with_reducible repeat (first|apply Kd.Bd|apply Kd.Be|apply Kd.Bl));exact HO_6.out⟩,⟨by (with_reducible repeat (first|apply Kd.Bd|apply Kd.Be|apply Kd.Bl));exact HO_7.out⟩,⟨xb⟩⟩
              ·rw [if_neg c21] at H;have c21b0:((bt (Cf ByteArray.empty t410 x8_3) 0)==35)=false:=beq_eq_false_iff_ne.mpr c21;have c21b1:((bt (Cf ByteArray.empty t410 x8_3) 0) != 35)=true:=bne_iff_ne.mpr c21;have H':=AA.mk H;clear H;have p414:0<=(x8_3:Int):=xa;have q414:x8_3<(t410.length:Int):=xa;obtain ⟨ad414,e414,hx414_0⟩:=Kd.DF (Kd.BH HO_6.out).2.2 x8_3 p414 q414;cases e414;replace p414:=eq_true p414;replace q414:=eq_true q414;have p415:0<=(x8_3:Int):=xa;have q415:x8_3<(t410.length:Int):=xa;obtain ⟨ad415,e415,hx415_0⟩:=Kd.DF (Kd.BH HO_6.out).2.2 x8_3 p415 q415;obtain rfl:ad414=ad415:=(by injection e415);replace p415:=eq_true p415;replace q415:=eq_true q415;have p20:0<=(0:Int):=(by omega);have q20:0<(Cf ByteArray.empty t410 x8_3).size:=(by have:(0:Int)<((Cf ByteArray.empty t410 x8_3).size:Int):=xa;omega);have hx20:∀ h:0<(Cf ByteArray.empty t410 x8_3).size,(((Cf ByteArray.empty t410 x8_3)[0]'h).toNat:Int)=bt (Cf ByteArray.empty t410 x8_3) 0:=Br (Cf ByteArray.empty t410 x8_3) 0;clear p20;have qi20:(0<((Cf ByteArray.empty t410 x8_3).size:Int))=True:=eq_true (xa);replace q20:=eq_true q20;go_wp2;go_meet;case rel=>exact ⟨_,(false),xq,H',⟨by have:=HJ2.out;have:=HJ6.out;have:=HK3.out;first|omega|exact Nat.le_refl _⟩,⟨by (with_reducible repeat (first|apply Kd.Bd|apply Kd.Be|apply Kd.Bl));exact HO_6.out⟩,⟨by (with_reducible repeat (first|apply Kd.Bd|apply Kd.Be|apply Kd.Bl));exact HO_7.out⟩,⟨xb⟩⟩
             ·rw [if_neg c19] at H;exact absurd H (by simp)
           ·rw [if_neg c17] at H;exact absurd H (by simp)
          case rest=>
           clear HC15;try clear c1
           try clear c2
           try clear p2
           try clear q2
           try clear hx2
           try clear qi2
           try clear p3
           try clear c4
           try clear c4b0
           try clear p4
           try clear q4
           try clear hx4
           try clear qi4
           try clear c5
           try clear p6
           try clear c9
           try clear c9b0
           try clear c9b1
           try clear c9b2
           try clear c11
           try clear c11b0
           try clear c11b1
           try clear c13
           try clear c14
           try clear c14b0
           try clear c17
           try clear c17b0
           try clear c18
           try clear c18b0
           try clear c18b1
           try clear c19
           try clear c19b0
           try clear c19b1
           try clear p20
           try clear q20
           try clear hx20
           try clear qi20
           try clear c21
           try clear c21b0
           try clear c21b1
           try clear hx413_0
           try clear hx414_0
           try clear hx415_0
           try clear hx416_0
           try clear p2
           try clear p20
           try clear p3
           try clear p4
           try clear p413
           try clear p414
           try clear p415
           try clear p416
           try clear p6
           try clear q20
           try clear q4
           try clear q413
           try clear q414
           try clear q415
           try clear q416
           obtain ⟨kq,x54_14,rfl,HA,HJ14,HO_6,HO_7,HB⟩:=hcut;cases kq with
           |zero=>exact absurd HA.out (by simp [Yf.j3])
           |succ kj14=>
            have H:=HA.out;clear HA;simp only [Yf.j3] at H;by_cases c23:x54_14=true
            ·subst c23;have H1:(Yf.l0 kj14 a1 t410 x7_3 (wrap64 (x8_3+1)))=some (r1,r2):=by rw [if_pos rfl] at H;exact H
             clear H;have H:=H1;clear H1;have H':=AA.mk H;clear H;go_wp2;go_roundg kj14;case measure=>have:=HJ2.out;have:=HJ6.out;have:=HK3.out;have:=HJ14.out;omega
             case rel=>exact ⟨(x7_3),(wrap64 (x8_3+1)),xq,H',⟨by have:=HJ2.out;have:=HJ6.out;have:=HK3.out;have:=HJ14.out;omega⟩,⟨by (with_reducible repeat (first|apply Kd.Bd|apply Kd.Be|apply Kd.Bl));exact HO_6.out⟩,⟨by (with_reducible repeat (first|apply Kd.Bd|apply Kd.Be|apply Kd.Bl));exact HO_7.out⟩,⟨xb⟩⟩
            ·replace c23:=Bool.eq_false_iff.mpr c23;subst c23;have H1:(if 0<=x8_3 then (if x8_3<(t410.length:Int) then ((Ve.f kj14 (Cf ByteArray.empty t410 x8_3) a1).bind λbt419=>(if bt419.2.2.2.2.2.2.2.2.2.2.2=0 then (if x7_3.length<1353245080339 then (Yf.l0 kj14 a1 t410 (x7_3++[(⟨bt419.1,bt419.2.1,bt419.2.2.1,bt419.2.2.2.1,bt419.2.2.2.2.1,bt419.2.2.2.2.2.1,bt419.2.2.2.2.2.2.1,bt419.2.2.2.2.2.2.2.1,bt419.2.2.2.2.2.2.2.2.1,bt419.2.2.2.2.2.2.2.2.2.1,bt419.2.2.2.2.2.2.2.2.2.2.1⟩:CU)]) (wrap64 (x8_3+1))) else (none)) else (some (([]:List (CU)),bt419.2.2.2.2.2.2.2.2.2.2.2)))) else (none)) else (none))=some (r1,r2):=by rw [if_neg (show ¬(false=true) by decide)] at H;exact H
             clear H;have H:=H1;clear H1;by_cases c24:0<=x8_3
             ·rw [if_pos c24] at H;have c24b0:decide (0<=x8_3)=true:=decide_eq_true c24;clear c24;by_cases c25:x8_3<(t410.length:Int)
              ·rw [if_pos c25] at H;have c25b0:decide (x8_3<(t410.length:Int))=true:=decide_eq_true c25;clear c25;replace H:=Option.bind_eq_some_iff.mp H;obtain ⟨⟨t419,t420,t421,t422,t423,t424,t425,t426,t427,t428,t429,t430⟩,A260,H⟩:=H;replace H:(if t430=0 then (if x7_3.length<1353245080339 then (Yf.l0 kj14 a1 t410 (x7_3++[(⟨t419,t420,t421,t422,t423,t424,t425,t426,t427,t428,t429⟩:CU)]) (wrap64 (x8_3+1))) else (none)) else (some (([]:List (CU)),t430)))=some (r1,r2):=H;have A26:=AA.mk A260;clear A260;by_cases c27:t430=0
               ·rw [if_pos c27] at H;have c27b0:(t430==0)=true:=beq_iff_eq.mpr c27;have c27b1:(t430 != 0)=false:=bne_eq_false_iff_eq.mpr c27;clear c27;by_cases c28:x7_3.length<1353245080339
                ·rw [if_pos c28] at H;have LMc28:=AA.mk c28;clear c28;obtain ⟨y432,hy432⟩:∃ y_:List (CU),y_=(x7_3++[(⟨t419,t420,t421,t422,t423,t424,t425,t426,t427,t428,t429⟩:CU)]):=⟨_,rfl⟩;replace H:(Yf.l0 kj14 a1 t410 y432 (wrap64 (x8_3+1)))=some (r1,r2):=by first|(rw [hy432];with_reducible exact H)|(have H2_:=(Option.bind_some _ _).symm.trans H;rw [hy432];with_reducible exact H2_)|(have H2_:=(Option.bind_some _ _).symm.trans H;with_reducible exact H2_)|with_reducible exact H|(rw [hy432];exact H)|exact H
                 have Ny432:=AA.mk hy432;clear hy432;have H':=AA.mk H;clear H;have p418:0<=(x8_3:Int):=xa;have q418:x8_3<(t410.length:Int):=xa;obtain ⟨ad418,e418,hx418_0⟩:=Kd.DF (Kd.BH HO_6.out).2.2 x8_3 p418 q418;cases e418;replace p418:=eq_true p418;replace q418:=eq_true q418;go_wp2_with (first|((with_reducible refine AO (f:=30) rfl ?_);refine Ak (some 61) rfl rfl Tryz.func30 (by kernel_rfl) rfl #[.string (Cf ByteArray.empty t410 x8_3), .int .i64 a1] rfl xg ?_;(with_reducible refine (Ve.calls kj14 (Cf ByteArray.empty t410 x8_3) a1 t419 t420 t421 t422 t423 t424 t425 t426 t427 t428 t429 t430 _ A26.out).mono ?_);rintro e w29 ⟨rfl,hb⟩;refine ⟨_,rfl,?_⟩;replace HO_6:=AA.mk (Kd.BX (xR HO_6) hb);replace HO_7:=AA.mk (Kd.BX (xR HO_7) hb);replace HB:=AA.mk (AP xb hb);(try clear hb))|(refine Dk (N:=9) (cs:=#[.string (⟨#[]⟩:ByteArray), .string (⟨#[]⟩:ByteArray), .string (⟨#[]⟩:ByteArray), .string (⟨#[]⟩:ByteArray), .int .i64 0, .int .i64 0, .int .i64 0, .bool false, .bool false, .bool false, .int .i64 0]) (t:=53) (λgb431 hg w30 hbox hb=>?_);replace HO_6:=AA.mk (Kd.BX (xR HO_6) hb);replace HO_7:=AA.mk (Kd.BX (Kd.QW (xR HO_7) gb431 (Nat.le_of_eq hg.symm)) hb);have BK431:=AA.mk (hbox);have GW431:AA (w.heap.size<=gb431):=Dp hg xb;have GE431:AA (w.heap.size<=gb431):=Dp hg xb;replace HB:=AA.mk (AP xb hb);clear hb hbox hg;obtain ⟨hcz31_0,hcz31_1,hcz31_2,hcz31_3,hcz31_4,hcz31_5,hcz31_6,hcz31_7,hcz31_8,hcz31_9,hcz31_10⟩:=Bv BK431.out;have hfz31_0:=AX BK431.out)|((with_reducible refine DR (b:= .append) (xs:=#[.tmp 67, .tmp 69]) rfl ?_);at_builtin;refine Kd.Ej Fu (w0:=w) w.heap.size rfl (.tmp 67) (.tmp 69) 22 53 (.agg #[(.string ⟨#[]⟩),(.string ⟨#[]⟩),(.string ⟨#[]⟩),(.string ⟨#[]⟩),(.int .i64 0),(.int .i64 0),(.int .i64 0),(.bool false),(.bool false),(.bool false),(.int .i64 0)]) 104 rfl Tryz.underlying22 Ia rfl (by decide) (by omega) u7 x7_3 (⟨t419,t420,t421,t422,t423,t424,t425,t426,t427,t428,t429⟩:CU) [.string t419, .string t420, .string t421, .string t422, .int .i64 t423, .int .i64 t424, .int .i64 t425, .bool t426, .bool t427, .bool t428, .int .i64 t429] (λk_=>k_≠gb431) (λ_=>False) rfl (by first|(go_simp;done)|(go_simp;rfl)) ?aP (λ_ hk=>hk.elim) ?aF ?aO ?aB ?aS ?aL ?_;(case aP=>exact Er _ _ _ (⟨t419,t420,t421,t422,t423,t424,t425,t426,t427,t428,t429⟩:CU));(case aB=>exact xb);(case aF=>exact (λk_ hk=>Kd.Ep (g:=gb431) (o:= .cells #[.string t419, .string t420, .string t421, .string t422, .int .i64 t423, .int .i64 t424, .int .i64 t425, .bool t426, .bool t427, .bool t428, .int .i64 t429] 53 (0,0)) xk k_ hk));(case aO=>exact (by (with_reducible repeat (first|apply Kd.Bd|apply Kd.Be|apply Kd.Bl));exact Kd.CQ (Kd.CY (p:=⟨gb431,10,none⟩) (Kd.CY (p:=⟨gb431,9,none⟩) (Kd.CY (p:=⟨gb431,8,none⟩) (Kd.CY (p:=⟨gb431,7,none⟩) (Kd.CY (p:=⟨gb431,6,none⟩) (Kd.CY (p:=⟨gb431,5,none⟩) (Kd.CY (p:=⟨gb431,4,none⟩) (Kd.CY (p:=⟨gb431,3,none⟩) (Kd.CY (p:=⟨gb431,2,none⟩) (Kd.CY (p:=⟨gb431,1,none⟩) (Kd.CY (p:=⟨gb431,0,none⟩) (Kd.CQ HO_7.out (λk_ hk=>(⟨hk,hk.2⟩:_/\k_≠gb431))) (λ_ hk=>hk.2) (.string t419)) (λ_ hk=>hk.2) (.string t420)) (λ_ hk=>hk.2) (.string t421)) (λ_ hk=>hk.2) (.string t422)) (λ_ hk=>hk.2) (.int .i64 t423)) (λ_ hk=>hk.2) (.int .i64 t424)) (λ_ hk=>hk.2) (.int .i64 t425)) (λ_ hk=>hk.2) (.bool t426)) (λ_ hk=>hk.2) (.bool t427)) (λ_ hk=>hk.2) (.bool t428)) (λ_ hk=>hk.2) (.int .i64 t429)) (λ_ hk=>hk.1.2)));(case aS=>exact (BF xb));(case aL=>have:=LMc28.out;omega);intro v433 w32 ho hb hg hat;rw [<-Ny432.out] at ho;have n0_:=AA.mk (Kd.Ru (by (with_reducible repeat (first|apply Kd.Bd|apply Kd.Be|apply Kd.Bl));exact (Kd.CQ (Kd.CY (p:=⟨gb431,10,none⟩) (Kd.CY (p:=⟨gb431,9,none⟩) (Kd.CY (p:=⟨gb431,8,none⟩) (Kd.CY (p:=⟨gb431,7,none⟩) (Kd.CY (p:=⟨gb431,6,none⟩) (Kd.CY (p:=⟨gb431,5,none⟩) (Kd.CY (p:=⟨gb431,4,none⟩) (Kd.CY (p:=⟨gb431,3,none⟩) (Kd.CY (p:=⟨gb431,2,none⟩) (Kd.CY (p:=⟨gb431,1,none⟩) (Kd.CY (p:=⟨gb431,0,none⟩) (Kd.CS HO_6.out BK431.out (by decide)) (λ_ hk=>hk.2) (.string t419)) (λ_ hk=>hk.2) (.string t420)) (λ_ hk=>hk.2) (.string t421)) (λ_ hk=>hk.2) (.string t422)) (λ_ hk=>hk.2) (.int .i64 t423)) (λ_ hk=>hk.2) (.int .i64 t424)) (λ_ hk=>hk.2) (.int .i64 t425)) (λ_ hk=>hk.2) (.bool t426)) (λ_ hk=>hk.2) (.bool t427)) (λ_ hk=>hk.2) (.bool t428)) (λ_ hk=>hk.2) (.int .i64 t429)) (λ_ h_=>h_.1))) (Kd.Rt (by (with_reducible repeat (first|apply Kd.Bd|apply Kd.Be|apply Kd.Bl));exact (Kd.CQ (Kd.CY (p:=⟨gb431,10,none⟩) (Kd.CY (p:=⟨gb431,9,none⟩) (Kd.CY (p:=⟨gb431,8,none⟩) (Kd.CY (p:=⟨gb431,7,none⟩) (Kd.CY (p:=⟨gb431,6,none⟩) (Kd.CY (p:=⟨gb431,5,none⟩) (Kd.CY (p:=⟨gb431,4,none⟩) (Kd.CY (p:=⟨gb431,3,none⟩) (Kd.CY (p:=⟨gb431,2,none⟩) (Kd.CY (p:=⟨gb431,1,none⟩) (Kd.CY (p:=⟨gb431,0,none⟩) (Kd.CQ HO_7.out (λk_ hk=>(⟨hk,hk.2⟩:_/\k_≠gb431))) (λ_ hk=>hk.2) (.string t419)) (λ_ hk=>hk.2) (.string t420)) (λ_ hk=>hk.2) (.string t421)) (λ_ hk=>hk.2) (.string t422)) (λ_ hk=>hk.2) (.int .i64 t423)) (λ_ hk=>hk.2) (.int .i64 t424)) (λ_ hk=>hk.2) (.int .i64 t425)) (λ_ hk=>hk.2) (.bool t426)) (λ_ hk=>hk.2) (.bool t427)) (λ_ hk=>hk.2) (.bool t428)) (λ_ hk=>hk.2) (.int .i64 t429)) (λ_ h_=>h_.1)))) (by decide) hg);have n1_:=AA.mk (EY (g:=gb431) (o:= .cells #[.string t419, .string t420, .string t421, .string t422, .int .i64 t423, .int .i64 t424, .int .i64 t425, .bool t426, .bool t427, .bool t428, .int .i64 t429] 53 (0,0)) xk hg (Kd.Jk HO_7.out (λ_ hk=>hk.2)));have n2_:=AA.mk (hb);have n3_:=AA.mk (ho);clear HO_6;clear BK431;clear HB;clear HO_7;have HO_6:=n0_;have BK431:=n1_;have HB:=n2_;have HO434:=n3_;clear n0_ n1_ n2_ n3_;clear ho hb hg hat));go_roundg kj14;case measure=>have:=HJ2.out;have:=HJ6.out;have:=HK3.out;have:=HJ14.out;omega
                 case rel=>exact ⟨(y432),(wrap64 (x8_3+1)),xq,H',⟨by have:=HJ2.out;have:=HJ6.out;have:=HK3.out;have:=HJ14.out;omega⟩,⟨by (with_reducible repeat (first|apply Kd.Bd|apply Kd.Be|apply Kd.Bl));exact HO_6.out⟩,⟨by (with_reducible repeat (first|apply Kd.Bd|apply Kd.Be|apply Kd.Bl));exact Kd.CQ HO434.out (λ_ hk=>trivial)⟩,⟨xb⟩⟩
                ·rw [if_neg c28] at H;exact absurd H (by simp)
               ·rw [if_neg c27] at H;have c27b0:(t430==0)=false:=beq_eq_false_iff_ne.mpr c27;have c27b1:(t430 != 0)=true:=bne_iff_ne.mpr c27;simp only [Option.some.injEq,Prod.mk.injEq] at H;obtain ⟨rfl,rfl⟩:=H;have p418:0<=(x8_3:Int):=xa;have q418:x8_3<(t410.length:Int):=xa;obtain ⟨ad418,e418,hx418_0⟩:=Kd.DF (Kd.BH HO_6.out).2.2 x8_3 p418 q418;cases e418;replace p418:=eq_true p418;replace q418:=eq_true q418;go_wp2_with (first|((with_reducible refine AO (f:=30) rfl ?_);refine Ak (some 61) rfl rfl Tryz.func30 (by kernel_rfl) rfl #[.string (Cf ByteArray.empty t410 x8_3), .int .i64 a1] rfl xg ?_;(with_reducible refine (Ve.calls kj14 (Cf ByteArray.empty t410 x8_3) a1 t419 t420 t421 t422 t423 t424 t425 t426 t427 t428 t429 t430 _ A26.out).mono ?_);rintro e w33 ⟨rfl,hb⟩;refine ⟨_,rfl,?_⟩;replace HO_6:=AA.mk (Kd.BX (xR HO_6) hb);replace HO_7:=AA.mk (Kd.BX (xR HO_7) hb);replace HB:=AA.mk (AP xb hb);(try clear hb))|(refine Dk (N:=9) (cs:=#[.string (⟨#[]⟩:ByteArray), .string (⟨#[]⟩:ByteArray), .string (⟨#[]⟩:ByteArray), .string (⟨#[]⟩:ByteArray), .int .i64 0, .int .i64 0, .int .i64 0, .bool false, .bool false, .bool false, .int .i64 0]) (t:=53) (λgb431 hg w34 hbox hb=>?_);replace HO_6:=AA.mk (Kd.BX (xR HO_6) hb);replace HO_7:=AA.mk (Kd.BX (Kd.QW (xR HO_7) gb431 (Nat.le_of_eq hg.symm)) hb);have BK431:=AA.mk (hbox);have GW431:AA (w.heap.size<=gb431):=Dp hg xb;have GE431:AA (w.heap.size<=gb431):=Dp hg xb;replace HB:=AA.mk (AP xb hb);clear hb hbox hg;obtain ⟨hcz35_0,hcz35_1,hcz35_2,hcz35_3,hcz35_4,hcz35_5,hcz35_6,hcz35_7,hcz35_8,hcz35_9,hcz35_10⟩:=Bv BK431.out;have hfz35_0:=AX BK431.out));go_ret2;exact ⟨_,xe,by first|exact Kd.Eu _ _ _ _ _|exact Kd.F6 _ _ _ _ _|exact Kd.F7 _ _ _ _ _|exact Kd.F3 _ _ _ _ _|exact Kd.F5 _ _ _ _ _,xb⟩
              ·rw [if_neg c25] at H;exact absurd H (by simp)
             ·rw [if_neg c24] at H;exact absurd H (by simp)
         ·rw [if_neg c14] at H;have c14b0:decide (x8_3<(t410.length:Int))=false:=decide_eq_false c14;clear c14;simp only [Option.some.injEq,Prod.mk.injEq] at H;obtain ⟨rfl,rfl⟩:=H;obtain ⟨Ao36,co36,eo36⟩:=Kd.CE HO_6.out;subst eo36;go_wp2;go_ret2;exact ⟨_,xe,by (with_reducible repeat (first|apply Kd.Bd|apply Kd.Be|apply Kd.Bl));exact HO_7.out,xb⟩
end Go.Proofs.YtikggnalmidlhaaGreatDoor.Print
end
section
namespace Go.Proofs.YtikggnalmidlhaaGreatDoor.Print
open RowKit AR Aa Ad
attribute [local go_sem] BM BN Bo Bp BC BD BO BP
set_option linter.unusedVariables false
set_option linter.unusedSimpArgs false
def XV.l0:Nat->Int->Int->List (CU)->List (CU)->Int->Option ((List (CU))×Bool)
 |0,_,_,_,_,_=>none
 |k+1,x0,x1,x2,x8,x9=>if x9<(x2.length:Int) then (if 0<=x9 then ((XU.f k x0 x1 ((AB x2 x9).f0) ((AB x2 x9).f1) ((AB x2 x9).f2) ((AB x2 x9).f3) ((AB x2 x9).f4) ((AB x2 x9).f5) ((AB x2 x9).f6) ((AB x2 x9).f7) ((AB x2 x9).f8) ((AB x2 x9).f9) ((AB x2 x9).f10)).bind λbt368=>(if x8.length<1353245080339 then (XV.l0 k x0 x1 x2 (x8++[(⟨bt368.1,bt368.2.1,bt368.2.2.1,bt368.2.2.2.1,bt368.2.2.2.2.1,bt368.2.2.2.2.2.1,bt368.2.2.2.2.2.2.1,bt368.2.2.2.2.2.2.2.1,bt368.2.2.2.2.2.2.2.2.1,bt368.2.2.2.2.2.2.2.2.2.1,bt368.2.2.2.2.2.2.2.2.2.2.1⟩:CU)]) (wrap64 (x9+1))) else (none))) else (none)) else ((XX.f x0 x1).bind λt384=>(if t384=true then (some (x8,true)) else (some (([]:List (CU)),false))))
def XV.f (k:Nat) (a0:Int) (a1:Int) (l2:List (CU)):Option ((List (CU))×Bool):=XV.l0 k a0 a1 l2 ([]:List (CU)) 0
set_option maxHeartbeats 8000000 in
set_option maxRecDepth 100000 in
theorem XV.calls (k:Nat) (a0:Int) (a1:Int) (A2:Option Addr) (c2:Nat) (l2:List (CU)) (r1:List (CU)) (r2:Bool) (w:World) (hr2:Kd.C Fu w A2 l2.length l2) (hc2:l2.length<=c2) (h:XV.f k a0 a1 l2=some (r1,r2)):
 Calls Tryz.prog 16 #[.int .i64 a0, .int .i64 a1, .slice A2 l2.length c2] w λe w'=>∃ v0_:Value,e= .returned (.tuple #[v0_, .bool r2])/\Kd.R Fu 53 w' w.heap.size (λ_=>True) v0_ r1/\Below w.heap.size w w':=by
 have hu53:=Tryz.underlying53;have HR2:=AA.mk hr2;have HC2:=AA.mk hc2;clear hr2 hc2;have HB:=AA.mk (Below.refl w.heap.size w);have H:(XV.l0 k a0 a1 l2 ([]:List (CU)) 0)=some (r1,r2):=h;clear h;have H':=AA.mk H;clear H;go_enter Tryz.func16,Tryz.ntmps16;go_wp2;go_loopg [8,9] k (λkq v8 v9 w'=>∃ (x8_1:List (CU)) (x9_1:Int),v9= .int .i64 x9_1/\AA (XV.l0 kq a0 a1 l2 x8_1 x9_1=some (r1,r2))/\AA (kq<=k)/\AA (Kd.R Fu 53 w' w.heap.size (λ_=>True) v8 x8_1)/\AA (Below w.heap.size w w'));case atStart=>exact ⟨(([]:List (CU))),(0),xq,H',⟨Nat.le_refl _⟩,⟨by first|exact Kd.Eu _ _ _ _ _|exact Kd.F6 _ _ _ _ _|exact Kd.F7 _ _ _ _ _|exact Kd.F3 _ _ _ _ _|exact Kd.F5 _ _ _ _ _⟩,⟨xb⟩⟩
 case round=>
  clear H';try clear c1
  try clear c2
  try clear p2
  obtain ⟨x8_1,x9_1,rfl,HA,HK1,HO_8,HB⟩:=hrel;cases gk with
  |zero=>exact absurd HA.out (by simp [XV.l0])
  |succ k1=>
   have H:=HA.out;clear HA;simp only [XV.l0] at H;by_cases c4:x9_1<(l2.length:Int)
   ·rw [if_pos c4] at H;have c4b0:decide (x9_1<(l2.length:Int))=true:=decide_eq_true c4;clear c4;by_cases c5:0<=x9_1
    ·rw [if_pos c5] at H;have c5b0:decide (0<=x9_1)=true:=decide_eq_true c5;clear c5;replace H:=Option.bind_eq_some_iff.mp H;obtain ⟨⟨t368,t369,t370,t371,t372,t373,t374,t375,t376,t377,t378,t379⟩,A60,H⟩:=H;replace H:(if x8_1.length<1353245080339 then (XV.l0 k1 a0 a1 l2 (x8_1++[(⟨t368,t369,t370,t371,t372,t373,t374,t375,t376,t377,t378⟩:CU)]) (wrap64 (x9_1+1))) else (none))=some (r1,r2):=H;have A6:=AA.mk A60;clear A60;by_cases c7:x8_1.length<1353245080339
     ·rw [if_pos c7] at H;have LMc7:=AA.mk c7;clear c7;obtain ⟨y381,hy381⟩:∃ y_:List (CU),y_=(x8_1++[(⟨t368,t369,t370,t371,t372,t373,t374,t375,t376,t377,t378⟩:CU)]):=⟨_,rfl⟩;replace H:(XV.l0 k1 a0 a1 l2 y381 (wrap64 (x9_1+1)))=some (r1,r2):=by first|(rw [hy381];with_reducible exact H)|(have H2_:=(Option.bind_some _ _).symm.trans H;rw [hy381];with_reducible exact H2_)|(have H2_:=(Option.bind_some _ _).symm.trans H;with_reducible exact H2_)|with_reducible exact H|(rw [hy381];exact H)|exact H
      have Ny381:=AA.mk hy381;clear hy381;have H':=AA.mk H;clear H;have p367:0<=(x9_1:Int):=xa;have q367:x9_1<(l2.length:Int):=xa;obtain ⟨ad367,e367,hx367_0,hx367_1,hx367_2,hx367_3,hx367_4,hx367_5,hx367_6,hx367_7,hx367_8,hx367_9,hx367_10⟩:=Ce HR2.out x9_1 p367 q367;cases e367;replace hx367_0:=AJ HB.out hx367_0;replace hx367_1:=AJ HB.out hx367_1;replace hx367_2:=AJ HB.out hx367_2;replace hx367_3:=AJ HB.out hx367_3;replace hx367_4:=AJ HB.out hx367_4;replace hx367_5:=AJ HB.out hx367_5;replace hx367_6:=AJ HB.out hx367_6;replace hx367_7:=AJ HB.out hx367_7;replace hx367_8:=AJ HB.out hx367_8;replace hx367_9:=AJ HB.out hx367_9;replace hx367_10:=AJ HB.out hx367_10;replace p367:=eq_true p367;replace q367:=eq_true q367;go_wp2_with (first|((with_reducible refine AO (f:=31) rfl ?_);refine Ak (some 25) rfl rfl Tryz.func31 (by kernel_rfl) rfl #[.int .i64 a0, .int .i64 a1, .agg #[.string ((AB l2 x9_1).f0), .string ((AB l2 x9_1).f1), .string ((AB l2 x9_1).f2), .string ((AB l2 x9_1).f3), .int .i64 ((AB l2 x9_1).f4), .int .i64 ((AB l2 x9_1).f5), .int .i64 ((AB l2 x9_1).f6), .bool ((AB l2 x9_1).f7), .bool ((AB l2 x9_1).f8), .bool ((AB l2 x9_1).f9), .int .i64 ((AB l2 x9_1).f10)]] rfl xg ?_;(with_reducible refine (XU.calls k1 a0 a1 ((AB l2 x9_1).f0) ((AB l2 x9_1).f1) ((AB l2 x9_1).f2) ((AB l2 x9_1).f3) ((AB l2 x9_1).f4) ((AB l2 x9_1).f5) ((AB l2 x9_1).f6) ((AB l2 x9_1).f7) ((AB l2 x9_1).f8) ((AB l2 x9_1).f9) ((AB l2 x9_1).f10) t368 t369 t370 t371 t372 t373 t374 t375 t376 t377 t378 t379 _ A6.out).mono ?_);rintro e w8 ⟨rfl,hb⟩;refine ⟨_,rfl,?_⟩;replace HO_8:=AA.mk (Kd.BX (xR HO_8) hb);replace HB:=AA.mk (AP xb hb);(try clear hb))|(refine Dk (N:=10) (cs:=#[.string (⟨#[]⟩:ByteArray), .string (⟨#[]⟩:ByteArray), .string (⟨#[]⟩:ByteArray), .string (⟨#[]⟩:ByteArray), .int .i64 0, .int .i64 0, .int .i64 0, .bool false, .bool false, .bool false, .int .i64 0]) (t:=53) (λgb380 hg w9 hbox hb=>?_);replace HO_8:=AA.mk (Kd.BX (Kd.QW (xR HO_8) gb380 (Nat.le_of_eq hg.symm)) hb);have BK380:=AA.mk (hbox);have GW380:AA (w.heap.size<=gb380):=Dp hg xb;have GE380:AA (w.heap.size<=gb380):=Dp hg xb;replace HB:=AA.mk (AP xb hb);clear hb hbox hg;obtain ⟨hcz10_0,hcz10_1,hcz10_2,hcz10_3,hcz10_4,hcz10_5,hcz10_6,hcz10_7,hcz10_8,hcz10_9,hcz10_10⟩:=Bv BK380.out;have hfz10_0:=AX BK380.out)|((with_reducible refine DR (b:= .append) (xs:=#[.tmp 28, .tmp 30]) rfl ?_);at_builtin;refine Kd.Ej Fu (w0:=w) w.heap.size rfl (.tmp 28) (.tmp 30) 22 53 (.agg #[(.string ⟨#[]⟩),(.string ⟨#[]⟩),(.string ⟨#[]⟩),(.string ⟨#[]⟩),(.int .i64 0),(.int .i64 0),(.int .i64 0),(.bool false),(.bool false),(.bool false),(.int .i64 0)]) 104 rfl Tryz.underlying22 Ia rfl (by decide) (by omega) u8 x8_1 (⟨t368,t369,t370,t371,t372,t373,t374,t375,t376,t377,t378⟩:CU) [.string t368, .string t369, .string t370, .string t371, .int .i64 t372, .int .i64 t373, .int .i64 t374, .bool t375, .bool t376, .bool t377, .int .i64 t378] (λk_=>k_≠gb380) (λ_=>False) rfl (by first|(go_simp;done)|(go_simp;rfl)) ?aP (λ_ hk=>hk.elim) ?aF ?aO ?aB ?aS ?aL ?_;(case aP=>exact Er _ _ _ (⟨t368,t369,t370,t371,t372,t373,t374,t375,t376,t377,t378⟩:CU));(case aB=>exact xb);(case aF=>exact (λk_ hk=>Kd.Ep (g:=gb380) (o:= .cells #[.string t368, .string t369, .string t370, .string t371, .int .i64 t372, .int .i64 t373, .int .i64 t374, .bool t375, .bool t376, .bool t377, .int .i64 t378] 53 (0,0)) xk k_ hk));(case aO=>exact (by (with_reducible repeat (first|apply Kd.Bd|apply Kd.Be|apply Kd.Bl));exact Kd.CQ (Kd.CY (p:=⟨gb380,10,none⟩) (Kd.CY (p:=⟨gb380,9,none⟩) (Kd.CY (p:=⟨gb380,8,none⟩) (Kd.CY (p:=⟨gb380,7,none⟩) (Kd.CY (p:=⟨gb380,6,none⟩) (Kd.CY (p:=⟨gb380,5,none⟩) (Kd.CY (p:=⟨gb380,4,none⟩) (Kd.CY (p:=⟨gb380,3,none⟩) (Kd.CY (p:=⟨gb380,2,none⟩) (Kd.CY (p:=⟨gb380,1,none⟩) (Kd.CY (p:=⟨gb380,0,none⟩) (Kd.CQ HO_8.out (λk_ hk=>(⟨hk,hk.2⟩:_/\k_≠gb380))) (λ_ hk=>hk.2) (.string t368)) (λ_ hk=>hk.2) (.string t369)) (λ_ hk=>hk.2) (.string t370)) (λ_ hk=>hk.2) (.string t371)) (λ_ hk=>hk.2) (.int .i64 t372)) (λ_ hk=>hk.2) (.int .i64 t373)) (λ_ hk=>hk.2) (.int .i64 t374)) (λ_ hk=>hk.2) (.bool t375)) (λ_ hk=>hk.2) (.bool t376)) (λ_ hk=>hk.2) (.bool t377)) (λ_ hk=>hk.2) (.int .i64 t378)) (λ_ hk=>hk.1.2)));(case aS=>exact (BF xb));(case aL=>have:=LMc7.out;omega);intro v382 w11 ho hb hg hat;rw [<-Ny381.out] at ho;have n0_:=AA.mk (EY (g:=gb380) (o:= .cells #[.string t368, .string t369, .string t370, .string t371, .int .i64 t372, .int .i64 t373, .int .i64 t374, .bool t375, .bool t376, .bool t377, .int .i64 t378] 53 (0,0)) xk hg (Kd.Jk HO_8.out (λ_ hk=>hk.2)));have n1_:=AA.mk (hb);have n2_:=AA.mk (ho);clear BK380;clear HB;clear HO_8;have BK380:=n0_;have HB:=n1_;have HO383:=n2_;clear n0_ n1_ n2_;clear ho hb hg hat));go_roundg k1;case measure=>have:=HK1.out;omega
      case rel=>exact ⟨(y381),(wrap64 (x9_1+1)),xq,H',⟨by have:=HK1.out;omega⟩,⟨by (with_reducible repeat (first|apply Kd.Bd|apply Kd.Be|apply Kd.Bl));exact Kd.CQ HO383.out (λ_ hk=>trivial)⟩,⟨xb⟩⟩
     ·rw [if_neg c7] at H;exact absurd H (by simp)
    ·rw [if_neg c5] at H;exact absurd H (by simp)
   ·rw [if_neg c4] at H;have c4b0:decide (x9_1<(l2.length:Int))=false:=decide_eq_false c4;clear c4;replace H:=Option.bind_eq_some_iff.mp H;obtain ⟨t384,A120,H⟩:=H;replace H:(if t384=true then (some (x8_1,true)) else (some (([]:List (CU)),false)))=some (r1,r2):=H;have A12:=AA.mk A120;clear A120;by_cases c13:t384=true
    ·subst c13;rw [if_pos rfl] at H;simp only [Option.some.injEq,Prod.mk.injEq] at H;obtain ⟨rfl,rfl⟩:=H;go_wp2_with (first|((with_reducible refine AO (f:=32) rfl ?_);refine Ak (some 34) rfl rfl Tryz.func32 (by kernel_rfl) rfl #[.int .i64 a0, .int .i64 a1] rfl xg ?_;(with_reducible refine (XX.calls a0 a1 true _ A12.out).mono ?_);rintro e w' ⟨rfl,⟨nd,rfl⟩⟩;refine ⟨_,rfl,?_⟩));go_ret2;exact ⟨_,xe,by (with_reducible repeat (first|apply Kd.Bd|apply Kd.Be|apply Kd.Bl));exact HO_8.out,xb⟩
    ·replace c13:=Bool.eq_false_iff.mpr c13;subst c13;have H1:(some (([]:List (CU)),false))=some (r1,r2):=by rw [if_neg (show ¬(false=true) by decide)] at H;exact H
     clear H;have H:=H1;clear H1;simp only [Option.some.injEq,Prod.mk.injEq] at H;obtain ⟨rfl,rfl⟩:=H;go_wp2_with (first|((with_reducible refine AO (f:=32) rfl ?_);refine Ak (some 34) rfl rfl Tryz.func32 (by kernel_rfl) rfl #[.int .i64 a0, .int .i64 a1] rfl xg ?_;(with_reducible refine (XX.calls a0 a1 false _ A12.out).mono ?_);rintro e w' ⟨rfl,⟨nd,rfl⟩⟩;refine ⟨_,rfl,?_⟩));go_ret2;exact ⟨_,xe,by first|exact Kd.Eu _ _ _ _ _|exact Kd.F6 _ _ _ _ _|exact Kd.F7 _ _ _ _ _|exact Kd.F3 _ _ _ _ _|exact Kd.F5 _ _ _ _ _,xb⟩
end Go.Proofs.YtikggnalmidlhaaGreatDoor.Print
end
