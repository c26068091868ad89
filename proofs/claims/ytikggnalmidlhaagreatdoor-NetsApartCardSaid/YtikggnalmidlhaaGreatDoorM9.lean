/- Several parts of the claim's proof in one text, said short by a program of this session. No condition. -/
import Derived.Test.YtikggnalmidlhaaGreatDoorM5
section
namespace Go.Proofs.YtikggnalmidlhaaGreatDoor.Print
open RowKit AR Aa Ad
attribute [local go_sem] BM BN Bo Bp BC BD BO BP
set_option linter.unusedVariables false
set_option linter.unusedSimpArgs false
def Az.l0:Nat->Int->ByteArray->Option (ByteArray)
 |0,_,_=>none
 |k+1,x0,x3=>if x0>=10 then ((some (([(IntKind.u64.wrap (48+(Int.tmod x0 10)))%256]:List Int):List Int)).bind λy269=>(if (strOfNums y269).size+x3.size<=9223372036854775807 then (Az.l0 k (IntKind.u64.wrap (Int.tdiv x0 10)) ((strOfNums y269)++x3)) else (none))) else ((some (([(IntKind.u64.wrap (48+x0))%256]:List Int):List Int)).bind λy272=>(if (strOfNums y272).size+x3.size<=9223372036854775807 then (some ((strOfNums y272)++x3)) else (none)))
def Az.f (k:Nat) (a0:Int):Option (ByteArray):=Az.l0 k a0 (⟨#[]⟩:ByteArray)
set_option maxHeartbeats 8000000 in
set_option maxRecDepth 100000 in
theorem Az.calls (k:Nat) (a0:Int) (r:ByteArray) (w:World) (h:Az.f k a0=some r):
 Calls Tryz.prog 79 #[.int .u64 a0] w λe w'=>e= .returned (.string r)/\Below w.heap.size w w':=by
 have HB:=AA.mk (Below.refl w.heap.size w);have H:(Az.l0 k a0 (⟨#[]⟩:ByteArray))=some r:=h;clear h;have H':=AA.mk H;clear H;go_enter Tryz.func79,Tryz.ntmps79;go_wp2;go_loopg [0,3] k (λkq v0 v3 w'=>∃ (x0_1:Int) (x3_1:ByteArray),v0= .int .u64 x0_1/\v3= .string x3_1/\AA (Az.l0 kq x0_1 x3_1=some r)/\AA (kq<=k)/\AA (Below w.heap.size w w'));case atStart=>exact ⟨(a0),((⟨#[]⟩:ByteArray)),xq,xq,H',⟨Nat.le_refl _⟩,⟨xb⟩⟩
 case round=>
  clear H';obtain ⟨x0_1,x3_1,rfl,rfl,HA,HK1,HB⟩:=hrel;cases gk with
  |zero=>exact absurd HA.out (by simp [Az.l0])
  |succ k1=>
   have H:=HA.out;clear HA;simp only [Az.l0] at H;by_cases c2:x0_1>=10
   ·rw [if_pos c2] at H;have c2b0:decide (10<=x0_1)=true:=decide_eq_true c2;clear c2;obtain ⟨y269,hy269⟩:∃ y_:List Int,y_=(([(IntKind.u64.wrap (48+(Int.tmod x0_1 10)))%256]:List Int)):=⟨_,rfl⟩;replace H:(if (strOfNums y269).size+x3_1.size<=9223372036854775807 then (Az.l0 k1 (IntKind.u64.wrap (Int.tdiv x0_1 10)) ((strOfNums y269)++x3_1)) else (none))=some r:=by first|(rw [hy269];with_reducible exact H)|(have H2_:=(Option.bind_some _ _).symm.trans H;rw [hy269];with_reducible exact H2_)|(have H2_:=(Option.bind_some _ _).symm.trans H;with_reducible exact H2_)|with_reducible exact H|(rw [hy269];exact H)|exact H
    have Ny269:=AA.mk hy269;clear hy269;by_cases c3:(strOfNums y269).size+x3_1.size<=9223372036854775807
    ·rw [if_pos c3] at H;have c3b0:=eq_true c3;have c3b1:decide ((strOfNums y269).size+x3_1.size<=9223372036854775807)=true:=decide_eq_true c3;try have c3b2:(9223372036854775807<(strOfNums y269).size+x3_1.size)=False:=eq_false (Nat.not_lt.2 c3)
     have H':=AA.mk H;clear H;go_wp2_with (first|((with_reducible refine F4 (N:=10) rfl ?_);refine Kd.OV (Kd.int .u8) _ 5 ?hg (N:=10) ?hd (xs:=([(IntKind.u64.wrap (48+(Int.tmod x0_1 10)))%256]:List Int)) (inner:=[.int .u8 ((IntKind.u64.wrap (48+(Int.tmod x0_1 10)))%256)]) (ok:=λ_=>True) (okp:=λ_=>True) ?hr ?hp (λ_ hk=>hk) trivial (Below.refl _ _) (Nat.le_refl _) (by simp) ?_;(case hd=>rfl);(case hg=>rfl);(case hr=>first|(go_simp;done)|(go_simp;rfl));(case hp=>exact (CG.one (show Kd.M (Kd.int .u8) _ _ _ ((IntKind.u64.wrap (48+(Int.tmod x0_1 10)))%256) [.int .u8 ((IntKind.u64.wrap (48+(Int.tmod x0_1 10)))%256)] from rfl) (CG.none _ _)));intro v270 w4 ho5 hb hg_ hnew_;clear hg_ hnew_;(first|rw [<-Ny269.out] at ho5|(simp only [Int.reduceToNat] at ho5;rw [<-Ny269.out] at ho5));have HO271:=AA.mk (Kd.Cm ho5 (BF xb));replace HB:=AA.mk (AP xb hb);clear hb ho5;have hcv6:=Jg (P:=Tryz.prog) Tryz.underlying76 Tryz.underlying5 Tryz.underlying9 (Kd.Ji HO271.out)));go_roundg k1;case measure=>have:=HK1.out;omega
     case rel=>exact ⟨(IntKind.u64.wrap (Int.tdiv x0_1 10)),((strOfNums y269)++x3_1),xq,xq,H',⟨by have:=HK1.out;omega⟩,⟨xb⟩⟩
    ·rw [if_neg c3] at H;exact absurd H (by simp)
   ·rw [if_neg c2] at H;have c2b0:decide (10<=x0_1)=false:=decide_eq_false c2;clear c2;obtain ⟨y272,hy272⟩:∃ y_:List Int,y_=(([(IntKind.u64.wrap (48+x0_1))%256]:List Int)):=⟨_,rfl⟩;replace H:(if (strOfNums y272).size+x3_1.size<=9223372036854775807 then (some ((strOfNums y272)++x3_1)) else (none))=some r:=by first|(rw [hy272];with_reducible exact H)|(have H2_:=(Option.bind_some _ _).symm.trans H;rw [hy272];with_reducible exact H2_)|(have H2_:=(Option.bind_some _ _).symm.trans H;with_reducible exact H2_)|with_reducible exact H|(rw [hy272];exact H)|exact H
    have Ny272:=AA.mk hy272;clear hy272;by_cases c7:(strOfNums y272).size+x3_1.size<=9223372036854775807
    ·rw [if_pos c7] at H;have c7b0:=eq_true c7;have c7b1:decide ((strOfNums y272).size+x3_1.size<=9223372036854775807)=true:=decide_eq_true c7;try have c7b2:(9223372036854775807<(strOfNums y272).size+x3_1.size)=False:=eq_false (Nat.not_lt.2 c7)
     obtain rfl:=Option.some.inj H;go_wp2_with (first|((with_reducible refine F4 (N:=19) rfl ?_);refine Kd.OV (Kd.int .u8) _ 5 ?hg (N:=19) ?hd (xs:=([(IntKind.u64.wrap (48+x0_1))%256]:List Int)) (inner:=[.int .u8 ((IntKind.u64.wrap (48+x0_1))%256)]) (ok:=λ_=>True) (okp:=λ_=>True) ?hr ?hp (λ_ hk=>hk) trivial (Below.refl _ _) (Nat.le_refl _) (by simp) ?_;(case hd=>rfl);(case hg=>rfl);(case hr=>first|(go_simp;done)|(go_simp;rfl));(case hp=>exact (CG.one (show Kd.M (Kd.int .u8) _ _ _ ((IntKind.u64.wrap (48+x0_1))%256) [.int .u8 ((IntKind.u64.wrap (48+x0_1))%256)] from rfl) (CG.none _ _)));intro v273 w8 ho9 hb hg_ hnew_;clear hg_ hnew_;(first|rw [<-Ny272.out] at ho9|(simp only [Int.reduceToNat] at ho9;rw [<-Ny272.out] at ho9));have HO274:=AA.mk (Kd.Cm ho9 (BF xb));replace HB:=AA.mk (AP xb hb);clear hb ho9;have hcv10:=Jg (P:=Tryz.prog) Tryz.underlying76 Tryz.underlying5 Tryz.underlying9 (Kd.Ji HO274.out)));go_ret;exact ⟨xe,xb⟩
    ·rw [if_neg c7] at H;exact absurd H (by simp)
end Go.Proofs.YtikggnalmidlhaaGreatDoor.Print
end
section
namespace Go.Proofs.YtikggnalmidlhaaGreatDoor.Print
open RowKit AR Aa Ad
attribute [local go_sem] BM BN Bo Bp BC BD BO BP
set_option linter.unusedVariables false
set_option linter.unusedSimpArgs false
mutual
def Af.j0:Nat->ByteArray->Bool->Option (Int×Bool)
 |0,_,_=>none
 |k+1,x0,x16=>if x16=true then (some (0,false)) else (Af.l0 k x0 0 0)
def Af.l0:Nat->ByteArray->Int->Int->Option (Int×Bool)
 |0,_,_,_=>none
 |k+1,x0,x6,x7=>if x7<(x0.size:Int) then (if 0<=x7 then (if (bt x0 x7)<48 then (some (0,false)) else (if (bt x0 x7)>57 then (some (0,false)) else (Af.l0 k x0 (IntKind.u64.wrap ((IntKind.u64.wrap ((IntKind.u64.wrap (10*x6))+(IntKind.u64.wrap (bt x0 x7)))) - 48)) (wrap64 (x7+1))))) else (none)) else (some (x6,true))
end
def Af.f (k:Nat) (a0:ByteArray) (a1:Int):Option (Int×Bool):=if (a0.size:Int)<1 then (Af.j0 k a0 true) else (Af.j0 k a0 (decide ((a0.size:Int)>a1)))
set_option maxHeartbeats 8000000 in
set_option maxRecDepth 100000 in
theorem Af.calls (k:Nat) (a0:ByteArray) (a1:Int) (r1:Int) (r2:Bool) (w:World) (h:Af.f k a0 a1=some (r1,r2)):
 Calls Tryz.prog 92 #[.string a0, .int .i64 a1] w λe w'=>e= .returned (.tuple #[.int .u64 r1, .bool r2])/\Ap w w':=by
 have H:(if (a0.size:Int)<1 then (Af.j0 k a0 true) else (Af.j0 k a0 (decide ((a0.size:Int)>a1))))=some (r1,r2):=h;clear h;have HC3:=AA.mk H;clear H;go_enter Tryz.func92,Tryz.ntmps92;go_upto_region 1 with (fail)
 go_cut [16] (λv16 wc=>∃ (kq:Nat) (x16_2:Bool),v16= .bool x16_2/\AA (Af.j0 kq a0 x16_2=some (r1,r2))/\AA (kq<=k)/\Ap w wc);case first=>
  have H:=HC3.out;clear HC3;by_cases c4:(a0.size:Int)<1
  ·rw [if_pos c4] at H;have c4b0:decide ((a0.size:Int)<1)=true:=decide_eq_true c4;have c4b1:decide (a0.size<1)=true:=decide_eq_true (by omega);clear c4;(first|rw [c4b0]|(simp only [DL,DU];rw [c4b0])|skip);have H':=AA.mk H;clear H;go_wp2;go_meet;case rel=>exact ⟨_,(true),xq,H',⟨by first|omega|exact Nat.le_refl _⟩,xd⟩
  ·rw [if_neg c4] at H;have c4b0:decide ((a0.size:Int)<1)=false:=decide_eq_false c4;have c4b1:decide (a0.size<1)=false:=decide_eq_false (by omega);clear c4;(first|rw [c4b0]|(simp only [DL,DU];rw [c4b0])|skip);have H':=AA.mk H;clear H;go_wp2;go_meet;case rel=>exact ⟨_,(decide ((a0.size:Int)>a1)),xq,H',⟨by first|omega|exact Nat.le_refl _⟩,xd⟩
 case rest=>
  clear HC3;try clear p2
  try clear c4
  try clear c4b0
  try clear c4b1
  obtain ⟨kq,x16_2,rfl,HA,HJ2,⟨mc2,rfl⟩⟩:=hcut;cases kq with
  |zero=>exact absurd HA.out (by simp [Af.j0])
  |succ kj2=>
   have H:=HA.out;clear HA;simp only [Af.j0] at H;by_cases c5:x16_2=true
   ·subst c5;have H1:(some (0,false))=some (r1,r2):=by rw [if_pos rfl] at H;exact H
    clear H;have H:=H1;clear H1;simp only [Option.some.injEq,Prod.mk.injEq] at H;obtain ⟨rfl,rfl⟩:=H;go_wp2;go_ret2;exact ⟨xq,xd⟩
   ·replace c5:=Bool.eq_false_iff.mpr c5;subst c5;have H1:(Af.l0 kj2 a0 0 0)=some (r1,r2):=by rw [if_neg (show ¬(false=true) by decide)] at H;exact H
    clear H;have H:=H1;clear H1;have H':=AA.mk H;clear H;go_wp2;go_loopg [6,7] kj2 (λkq v6 v7 w'=>∃ (x6_2:Int) (x7_2:Int),v6= .int .u64 x6_2/\v7= .int .i64 x7_2/\AA (Af.l0 kq a0 x6_2 x7_2=some (r1,r2))/\AA (kq<=kj2)/\Ap w w');case atStart=>exact ⟨(0),(0),xq,xq,H',⟨Nat.le_refl _⟩,xd⟩
    case round=>
     clear H';try clear c2
     try clear p2
     try clear c4
     try clear c4b0
     try clear c4b1
     try clear c5
     try clear p2
     obtain ⟨x6_2,x7_2,rfl,rfl,HA,HK2,⟨m2,rfl⟩⟩:=hrel;cases gk with
     |zero=>exact absurd HA.out (by simp [Af.l0])
     |succ k2=>
      have H:=HA.out;clear HA;simp only [Af.l0] at H;by_cases c6:x7_2<(a0.size:Int)
      ·rw [if_pos c6] at H;have c6b0:decide (x7_2<(a0.size:Int))=true:=decide_eq_true c6;clear c6;by_cases c7:0<=x7_2
       ·rw [if_pos c7] at H;have c7b0:decide (0<=x7_2)=true:=decide_eq_true c7;clear c7;by_cases c9:(bt a0 x7_2)<48
        ·rw [if_pos c9] at H;have c9b0:decide ((bt a0 x7_2)<48)=true:=decide_eq_true c9;clear c9;simp only [Option.some.injEq,Prod.mk.injEq] at H;obtain ⟨rfl,rfl⟩:=H;have p8:0<=(x7_2:Int):=xa;have q8:x7_2<(a0.size:Int):=xa;have hx8:=Br a0 x7_2;replace p8:=eq_true p8;replace q8:=eq_true q8;go_wp2;go_ret2;exact ⟨xq,xd⟩
        ·rw [if_neg c9] at H;have c9b0:decide ((bt a0 x7_2)<48)=false:=decide_eq_false c9;clear c9;by_cases c11:(bt a0 x7_2)>57
         ·rw [if_pos c11] at H;have c11b0:decide (57<(bt a0 x7_2))=true:=decide_eq_true c11;clear c11;simp only [Option.some.injEq,Prod.mk.injEq] at H;obtain ⟨rfl,rfl⟩:=H;have p8:0<=(x7_2:Int):=xa;have q8:x7_2<(a0.size:Int):=xa;have hx8:=Br a0 x7_2;replace p8:=eq_true p8;replace q8:=eq_true q8;have p10:0<=(x7_2:Int):=xa;have q10:x7_2<(a0.size:Int):=xa;have hx10:=Br a0 x7_2;replace p10:=eq_true p10;replace q10:=eq_true q10;go_wp2;go_ret2;exact ⟨xq,xd⟩
         ·rw [if_neg c11] at H;have c11b0:decide (57<(bt a0 x7_2))=false:=decide_eq_false c11;clear c11;have H':=AA.mk H;clear H;have p8:0<=(x7_2:Int):=xa;have q8:x7_2<(a0.size:Int):=xa;have hx8:=Br a0 x7_2;replace p8:=eq_true p8;replace q8:=eq_true q8;have p10:0<=(x7_2:Int):=xa;have q10:x7_2<(a0.size:Int):=xa;have hx10:=Br a0 x7_2;replace p10:=eq_true p10;replace q10:=eq_true q10;have p12:0<=(x7_2:Int):=xa;have q12:x7_2<(a0.size:Int):=xa;have hx12:=Br a0 x7_2;replace p12:=eq_true p12;replace q12:=eq_true q12;go_wp2;go_roundg k2;case measure=>have:=HJ2.out;have:=HK2.out;omega
          case rel=>exact ⟨(IntKind.u64.wrap ((IntKind.u64.wrap ((IntKind.u64.wrap (10*x6_2))+(IntKind.u64.wrap (bt a0 x7_2)))) - 48)),(wrap64 (x7_2+1)),xq,xq,H',⟨by have:=HJ2.out;have:=HK2.out;omega⟩,xd⟩
       ·rw [if_neg c7] at H;exact absurd H (by simp)
      ·rw [if_neg c6] at H;have c6b0:decide (x7_2<(a0.size:Int))=false:=decide_eq_false c6;clear c6;simp only [Option.some.injEq,Prod.mk.injEq] at H;obtain ⟨rfl,rfl⟩:=H;go_wp2;go_ret2;exact ⟨xq,xd⟩
end Go.Proofs.YtikggnalmidlhaaGreatDoor.Print
end
section
namespace Go.Proofs.YtikggnalmidlhaaGreatDoor.Print
open RowKit AR Aa Ad
attribute [local go_sem] BM BN Bo Bp BC BD BO BP
set_option linter.unusedVariables false
set_option linter.unusedSimpArgs false
def EF.f (a0:Int) (a1:Bool):Option (Bool):=if a0>=97 then (if a0<=122 then (some true) else (if a0>=48 then (if a0<=57 then (some true) else (if a0=45 then (some (!a1)) else (some false))) else (if a0=45 then (some (!a1)) else (some false)))) else (if a0>=48 then (if a0<=57 then (some true) else (if a0=45 then (some (!a1)) else (some false))) else (if a0=45 then (some (!a1)) else (some false)))
set_option maxHeartbeats 8000000 in
set_option maxRecDepth 100000 in
theorem EF.calls (a0:Int) (a1:Bool) (r:Bool) (w:World) (h:EF.f a0 a1=some r):
 Calls Tryz.prog 117 #[.int .u8 a0, .bool a1] w λe w'=>e= .returned (.bool r)/\Ap w w':=by
 have H:(if a0>=97 then (if a0<=122 then (some true) else (if a0>=48 then (if a0<=57 then (some true) else (if a0=45 then (some (!a1)) else (some false))) else (if a0=45 then (some (!a1)) else (some false)))) else (if a0>=48 then (if a0<=57 then (some true) else (if a0=45 then (some (!a1)) else (some false))) else (if a0=45 then (some (!a1)) else (some false))))=some r:=h;clear h;by_cases c3:a0>=97
 ·rw [if_pos c3] at H;have c3b0:decide (97<=a0)=true:=decide_eq_true c3;clear c3;by_cases c4:a0<=122
  ·rw [if_pos c4] at H;have c4b0:decide (a0<=122)=true:=decide_eq_true c4;clear c4;obtain rfl:=Option.some.inj H;go_enter Tryz.func117,Tryz.ntmps117;go_wp2;go_ret;exact ⟨xq,xd⟩
  ·rw [if_neg c4] at H;have c4b0:decide (a0<=122)=false:=decide_eq_false c4;clear c4;by_cases c5:a0>=48
   ·rw [if_pos c5] at H;have c5b0:decide (48<=a0)=true:=decide_eq_true c5;clear c5;by_cases c6:a0<=57
    ·rw [if_pos c6] at H;have c6b0:decide (a0<=57)=true:=decide_eq_true c6;clear c6;obtain rfl:=Option.some.inj H;go_enter Tryz.func117,Tryz.ntmps117;go_wp2;go_ret;exact ⟨xq,xd⟩
    ·rw [if_neg c6] at H;have c6b0:decide (a0<=57)=false:=decide_eq_false c6;clear c6;by_cases c7:a0=45
     ·rw [if_pos c7] at H;have c7b0:(a0==45)=true:=beq_iff_eq.mpr c7;have c7b1:(a0 != 45)=false:=bne_eq_false_iff_eq.mpr c7;clear c7;obtain rfl:=Option.some.inj H;go_enter Tryz.func117,Tryz.ntmps117;go_wp2;go_ret;exact ⟨xq,xd⟩
     ·rw [if_neg c7] at H;have c7b0:(a0==45)=false:=beq_eq_false_iff_ne.mpr c7;have c7b1:(a0 != 45)=true:=bne_iff_ne.mpr c7;obtain rfl:=Option.some.inj H;go_enter Tryz.func117,Tryz.ntmps117;go_wp2;go_ret;exact ⟨xq,xd⟩
   ·rw [if_neg c5] at H;have c5b0:decide (48<=a0)=false:=decide_eq_false c5;clear c5;by_cases c8:a0=45
    ·rw [if_pos c8] at H;have c8b0:(a0==45)=true:=beq_iff_eq.mpr c8;have c8b1:(a0 != 45)=false:=bne_eq_false_iff_eq.mpr c8;clear c8;obtain rfl:=Option.some.inj H;go_enter Tryz.func117,Tryz.ntmps117;go_wp2;go_ret;exact ⟨xq,xd⟩
    ·rw [if_neg c8] at H;have c8b0:(a0==45)=false:=beq_eq_false_iff_ne.mpr c8;have c8b1:(a0 != 45)=true:=bne_iff_ne.mpr c8;obtain rfl:=Option.some.inj H;go_enter Tryz.func117,Tryz.ntmps117;go_wp2;go_ret;exact ⟨xq,xd⟩
 ·rw [if_neg c3] at H;have c3b0:decide (97<=a0)=false:=decide_eq_false c3;clear c3;by_cases c9:a0>=48
  ·rw [if_pos c9] at H;have c9b0:decide (48<=a0)=true:=decide_eq_true c9;clear c9;by_cases c10:a0<=57
   ·rw [if_pos c10] at H;have c10b0:decide (a0<=57)=true:=decide_eq_true c10;clear c10;obtain rfl:=Option.some.inj H;go_enter Tryz.func117,Tryz.ntmps117;go_wp2;go_ret;exact ⟨xq,xd⟩
   ·rw [if_neg c10] at H;have c10b0:decide (a0<=57)=false:=decide_eq_false c10;clear c10;by_cases c11:a0=45
    ·rw [if_pos c11] at H;have c11b0:(a0==45)=true:=beq_iff_eq.mpr c11;have c11b1:(a0 != 45)=false:=bne_eq_false_iff_eq.mpr c11;clear c11;obtain rfl:=Option.some.inj H;go_enter Tryz.func117,Tryz.ntmps117;go_wp2;go_ret;exact ⟨xq,xd⟩
    ·rw [if_neg c11] at H;have c11b0:(a0==45)=false:=beq_eq_false_iff_ne.mpr c11;have c11b1:(a0 != 45)=true:=bne_iff_ne.mpr c11;obtain rfl:=Option.some.inj H;go_enter Tryz.func117,Tryz.ntmps117;go_wp2;go_ret;exact ⟨xq,xd⟩
  ·rw [if_neg c9] at H;have c9b0:decide (48<=a0)=false:=decide_eq_false c9;clear c9;by_cases c12:a0=45
   ·rw [if_pos c12] at H;have c12b0:(a0==45)=true:=beq_iff_eq.mpr c12;have c12b1:(a0 != 45)=false:=bne_eq_false_iff_eq.mpr c12;clear c12;obtain rfl:=Option.some.inj H;go_enter Tryz.func117,Tryz.ntmps117;go_wp2;go_ret;exact ⟨xq,xd⟩
   ·rw [if_neg c12] at H;have c12b0:(a0==45)=false:=beq_eq_false_iff_ne.mpr c12;have c12b1:(a0 != 45)=true:=bne_iff_ne.mpr c12;obtain rfl:=Option.some.inj H;go_enter Tryz.func117,Tryz.ntmps117;go_wp2;go_ret;exact ⟨xq,xd⟩
end Go.Proofs.YtikggnalmidlhaaGreatDoor.Print
end
section
namespace Go.Proofs.YtikggnalmidlhaaGreatDoor.Print
open RowKit AR Aa Ad
attribute [local go_sem] BM BN Bo Bp BC BD BO BP
set_option linter.unusedVariables false
set_option linter.unusedSimpArgs false
def BR.l0:Nat->ByteArray->Int->Option (Bool)
 |0,_,_=>none
 |k+1,x0,x3=>if x3<(x0.size:Int) then (if 0<=x3 then (if (bt x0 x3)<33 then (some false) else (if (bt x0 x3)>126 then (some false) else (if (bt x0 x3)=59 then (some false) else (BR.l0 k x0 (wrap64 (x3+1)))))) else (none)) else (some true)
def BR.f (k:Nat) (a0:ByteArray):Option (Bool):=BR.l0 k a0 0
set_option maxHeartbeats 8000000 in
set_option maxRecDepth 100000 in
theorem BR.calls (k:Nat) (a0:ByteArray) (r:Bool) (w:World) (h:BR.f k a0=some r):
 Calls Tryz.prog 120 #[.string a0] w λe w'=>e= .returned (.bool r)/\Ap w w':=by
 have H:(BR.l0 k a0 0)=some r:=h;clear h;have H':=AA.mk H;clear H;go_enter Tryz.func120,Tryz.ntmps120;go_wp2;go_loopg [3] k (λkq v3 w'=>∃ (x3_1:Int),v3= .int .i64 x3_1/\AA (BR.l0 kq a0 x3_1=some r)/\AA (kq<=k)/\Ap w w');case atStart=>exact ⟨(0),xq,H',⟨Nat.le_refl _⟩,xd⟩
 case round=>
  clear H';try clear c1
  obtain ⟨x3_1,rfl,HA,HK1,⟨m1,rfl⟩⟩:=hrel;cases gk with
  |zero=>exact absurd HA.out (by simp [BR.l0])
  |succ k1=>
   have H:=HA.out;clear HA;simp only [BR.l0] at H;by_cases c2:x3_1<(a0.size:Int)
   ·rw [if_pos c2] at H;have c2b0:decide (x3_1<(a0.size:Int))=true:=decide_eq_true c2;clear c2;by_cases c3:0<=x3_1
    ·rw [if_pos c3] at H;have c3b0:decide (0<=x3_1)=true:=decide_eq_true c3;clear c3;by_cases c5:(bt a0 x3_1)<33
     ·rw [if_pos c5] at H;have c5b0:decide ((bt a0 x3_1)<33)=true:=decide_eq_true c5;clear c5;obtain rfl:=Option.some.inj H;have p4:0<=(x3_1:Int):=xa;have q4:x3_1<(a0.size:Int):=xa;have hx4:=Br a0 x3_1;replace p4:=eq_true p4;replace q4:=eq_true q4;go_wp2;go_ret;exact ⟨xq,xd⟩
     ·rw [if_neg c5] at H;have c5b0:decide ((bt a0 x3_1)<33)=false:=decide_eq_false c5;clear c5;by_cases c7:(bt a0 x3_1)>126
      ·rw [if_pos c7] at H;have c7b0:decide (126<(bt a0 x3_1))=true:=decide_eq_true c7;clear c7;obtain rfl:=Option.some.inj H;have p4:0<=(x3_1:Int):=xa;have q4:x3_1<(a0.size:Int):=xa;have hx4:=Br a0 x3_1;replace p4:=eq_true p4;replace q4:=eq_true q4;have p6:0<=(x3_1:Int):=xa;have q6:x3_1<(a0.size:Int):=xa;have hx6:=Br a0 x3_1;replace p6:=eq_true p6;replace q6:=eq_true q6;go_wp2;go_ret;exact ⟨xq,xd⟩
      ·rw [if_neg c7] at H;have c7b0:decide (126<(bt a0 x3_1))=false:=decide_eq_false c7;clear c7;by_cases c9:(bt a0 x3_1)=59
       ·rw [if_pos c9] at H;have c9b0:((bt a0 x3_1)==59)=true:=beq_iff_eq.mpr c9;have c9b1:((bt a0 x3_1) != 59)=false:=bne_eq_false_iff_eq.mpr c9;clear c9;obtain rfl:=Option.some.inj H;have p4:0<=(x3_1:Int):=xa;have q4:x3_1<(a0.size:Int):=xa;have hx4:=Br a0 x3_1;replace p4:=eq_true p4;replace q4:=eq_true q4;have p6:0<=(x3_1:Int):=xa;have q6:x3_1<(a0.size:Int):=xa;have hx6:=Br a0 x3_1;replace p6:=eq_true p6;replace q6:=eq_true q6;have p8:0<=(x3_1:Int):=xa;have q8:x3_1<(a0.size:Int):=xa;have hx8:=Br a0 x3_1;replace p8:=eq_true p8;replace q8:=eq_true q8;go_wp2;go_ret;exact ⟨xq,xd⟩
       ·rw [if_neg c9] at H;have c9b0:((bt a0 x3_1)==59)=false:=beq_eq_false_iff_ne.mpr c9;have c9b1:((bt a0 x3_1) != 59)=true:=bne_iff_ne.mpr c9;have H':=AA.mk H;clear H;have p4:0<=(x3_1:Int):=xa;have q4:x3_1<(a0.size:Int):=xa;have hx4:=Br a0 x3_1;replace p4:=eq_true p4;replace q4:=eq_true q4;have p6:0<=(x3_1:Int):=xa;have q6:x3_1<(a0.size:Int):=xa;have hx6:=Br a0 x3_1;replace p6:=eq_true p6;replace q6:=eq_true q6;have p8:0<=(x3_1:Int):=xa;have q8:x3_1<(a0.size:Int):=xa;have hx8:=Br a0 x3_1;replace p8:=eq_true p8;replace q8:=eq_true q8;go_wp2;go_roundg k1;case measure=>have:=HK1.out;omega
        case rel=>exact ⟨(wrap64 (x3_1+1)),xq,H',⟨by have:=HK1.out;omega⟩,xd⟩
    ·rw [if_neg c3] at H;exact absurd H (by simp)
   ·rw [if_neg c2] at H;have c2b0:decide (x3_1<(a0.size:Int))=false:=decide_eq_false c2;clear c2;obtain rfl:=Option.some.inj H;go_wp2;go_ret;exact ⟨xq,xd⟩
end Go.Proofs.YtikggnalmidlhaaGreatDoor.Print
end
section
namespace Go.Proofs.YtikggnalmidlhaaGreatDoor.Print
open RowKit AR Aa Ad
attribute [local go_sem] BM BN Bo Bp BC BD BO BP
set_option linter.unusedVariables false
set_option linter.unusedSimpArgs false
def Aw.l0:Nat->ByteArray->Int->Option (Bool)
 |0,_,_=>none
 |k+1,x0,x3=>if x3<(x0.size:Int) then (if 0<=x3 then ((Cy.f (bt x0 x3)).bind λt290=>(if t290=true then (Aw.l0 k x0 (wrap64 (x3+1))) else (some false))) else (none)) else (some (decide ((x0.size:Int)>0)))
def Aw.f (k:Nat) (a0:ByteArray):Option (Bool):=Aw.l0 k a0 0
set_option maxHeartbeats 8000000 in
set_option maxRecDepth 100000 in
theorem Aw.calls (k:Nat) (a0:ByteArray) (r:Bool) (w:World) (h:Aw.f k a0=some r):
 Calls Tryz.prog 95 #[.string a0] w λe w'=>e= .returned (.bool r)/\Ap w w':=by
 have H:(Aw.l0 k a0 0)=some r:=h;clear h;have H':=AA.mk H;clear H;go_enter Tryz.func95,Tryz.ntmps95;go_wp2;go_loopg [3] k (λkq v3 w'=>∃ (x3_1:Int),v3= .int .i64 x3_1/\AA (Aw.l0 kq a0 x3_1=some r)/\AA (kq<=k)/\Ap w w');case atStart=>exact ⟨(0),xq,H',⟨Nat.le_refl _⟩,xd⟩
 case round=>
  clear H';obtain ⟨x3_1,rfl,HA,HK1,⟨m1,rfl⟩⟩:=hrel;cases gk with
  |zero=>exact absurd HA.out (by simp [Aw.l0])
  |succ k1=>
   have H:=HA.out;clear HA;simp only [Aw.l0] at H;by_cases c2:x3_1<(a0.size:Int)
   ·rw [if_pos c2] at H;have c2b0:decide (x3_1<(a0.size:Int))=true:=decide_eq_true c2;clear c2;by_cases c3:0<=x3_1
    ·rw [if_pos c3] at H;have c3b0:decide (0<=x3_1)=true:=decide_eq_true c3;clear c3;replace H:=Option.bind_eq_some_iff.mp H;obtain ⟨t290,A50,H⟩:=H;replace H:(if t290=true then (Aw.l0 k1 a0 (wrap64 (x3_1+1))) else (some false))=some r:=H;have A5:=AA.mk A50;clear A50;by_cases c6:t290=true
     ·subst c6;rw [if_pos rfl] at H;have H':=AA.mk H;clear H;have p4:0<=(x3_1:Int):=xa;have q4:x3_1<(a0.size:Int):=xa;have hx4:=Br a0 x3_1;replace p4:=eq_true p4;replace q4:=eq_true q4;go_wp2_with (first|((with_reducible refine AO (f:=121) rfl ?_);refine Ak (some 13) rfl rfl Tryz.func121 (by kernel_rfl) rfl #[.int .u8 (bt a0 x3_1)] rfl xg ?_;(with_reducible refine (Cy.calls (bt a0 x3_1) true _ A5.out).mono ?_);rintro e w' ⟨rfl,⟨nd,rfl⟩⟩;refine ⟨_,rfl,?_⟩));go_roundg k1;case measure=>have:=HK1.out;omega
      case rel=>exact ⟨(wrap64 (x3_1+1)),xq,H',⟨by have:=HK1.out;omega⟩,xd⟩
     ·replace c6:=Bool.eq_false_iff.mpr c6;subst c6;have H1:(some false)=some r:=by rw [if_neg (show ¬(false=true) by decide)] at H;exact H
      clear H;have H:=H1;clear H1;obtain rfl:=Option.some.inj H;have p4:0<=(x3_1:Int):=xa;have q4:x3_1<(a0.size:Int):=xa;have hx4:=Br a0 x3_1;replace p4:=eq_true p4;replace q4:=eq_true q4;go_wp2_with (first|((with_reducible refine AO (f:=121) rfl ?_);refine Ak (some 13) rfl rfl Tryz.func121 (by kernel_rfl) rfl #[.int .u8 (bt a0 x3_1)] rfl xg ?_;(with_reducible refine (Cy.calls (bt a0 x3_1) false _ A5.out).mono ?_);rintro e w' ⟨rfl,⟨nd,rfl⟩⟩;refine ⟨_,rfl,?_⟩));go_ret;exact ⟨xq,xd⟩
    ·rw [if_neg c3] at H;exact absurd H (by simp)
   ·rw [if_neg c2] at H;have c2b0:decide (x3_1<(a0.size:Int))=false:=decide_eq_false c2;clear c2;obtain rfl:=Option.some.inj H;go_wp2;go_ret;exact ⟨xq,xd⟩
end Go.Proofs.YtikggnalmidlhaaGreatDoor.Print
end
