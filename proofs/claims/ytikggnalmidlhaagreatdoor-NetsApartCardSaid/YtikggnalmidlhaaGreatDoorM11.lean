/- Several parts of the claim's proof in one text, said short by a program of this session. No condition. -/
import Derived.Test.YtikggnalmidlhaaGreatDoorM6
section
namespace Go.Proofs.YtikggnalmidlhaaGreatDoor.Print
open RowKit AR Aa Ad
attribute [local go_sem] BM BN Bo Bp BC BD BO BP
set_option linter.unusedVariables false
set_option linter.unusedSimpArgs false
def BU.l0:Nat->List (CU)->ByteArray->Int->Int->Option (Int)
 |0,_,_,_,_=>none
 |k+1,x0,x1,x5,x6=>if x6<(x0.length:Int) then (if 0<=x6 then (if ((AB x0 x6).f0).toList=x1.toList then (BU.l0 k x0 x1 (wrap64 (x5+1)) (wrap64 (x6+1))) else (BU.l0 k x0 x1 x5 (wrap64 (x6+1)))) else (none)) else (some x5)
def BU.f (k:Nat) (l0:List (CU)) (a1:ByteArray):Option (Int):=BU.l0 k l0 a1 0 0
set_option maxHeartbeats 8000000 in
set_option maxRecDepth 100000 in
theorem BU.calls (k:Nat) (A0:Option Addr) (c0:Nat) (l0:List (CU)) (a1:ByteArray) (r:Int) (w:World) (hr0:Kd.C Fu w A0 l0.length l0) (hc0:l0.length<=c0) (h:BU.f k l0 a1=some r):
 Calls Tryz.prog 100 #[.slice A0 l0.length c0, .string a1] w λe w'=>e= .returned (.int .i64 r)/\Ap w w':=by
 have HR0:=AA.mk hr0;have HC0:=AA.mk hc0;clear hr0 hc0;have H:(BU.l0 k l0 a1 0 0)=some r:=h;clear h;have H':=AA.mk H;clear H;go_enter Tryz.func100,Tryz.ntmps100;go_wp2;go_loopg [5,6] k (λkq v5 v6 w'=>∃ (x5_1:Int) (x6_1:Int),v5= .int .i64 x5_1/\v6= .int .i64 x6_1/\AA (BU.l0 kq l0 a1 x5_1 x6_1=some r)/\AA (kq<=k)/\Ap w w');case atStart=>exact ⟨(0),(0),xq,xq,H',⟨Nat.le_refl _⟩,xd⟩
 case round=>
  clear H';try clear c1
  try clear p2
  obtain ⟨x5_1,x6_1,rfl,rfl,HA,HK1,⟨m1,rfl⟩⟩:=hrel;cases gk with
  |zero=>exact absurd HA.out (by simp [BU.l0])
  |succ k1=>
   have H:=HA.out;clear HA;simp only [BU.l0] at H;by_cases c3:x6_1<(l0.length:Int)
   ·rw [if_pos c3] at H;have c3b0:decide (x6_1<(l0.length:Int))=true:=decide_eq_true c3;clear c3;by_cases c4:0<=x6_1
    ·rw [if_pos c4] at H;have c4b0:decide (0<=x6_1)=true:=decide_eq_true c4;clear c4;by_cases c5:((AB l0 x6_1).f0).toList=a1.toList
     ·rw [if_pos c5] at H;have c5b0:(((AB l0 x6_1).f0).toList==a1.toList)=true:=beq_iff_eq.mpr c5;have c5b1:(((AB l0 x6_1).f0).toList != a1.toList)=false:=bne_eq_false_iff_eq.mpr c5;clear c5;have H':=AA.mk H;clear H;have p349:0<=(x6_1:Int):=xa;have q349:x6_1<(l0.length:Int):=xa;obtain ⟨ad349,e349,hx349_0,hx349_1,hx349_2,hx349_3,hx349_4,hx349_5,hx349_6,hx349_7,hx349_8,hx349_9,hx349_10⟩:=Ce HR0.out x6_1 p349 q349;cases e349;replace p349:=eq_true p349;replace q349:=eq_true q349;go_wp2;go_roundg k1;case measure=>have:=HK1.out;omega
      case rel=>exact ⟨(wrap64 (x5_1+1)),(wrap64 (x6_1+1)),xq,xq,H',⟨by have:=HK1.out;omega⟩,xd⟩
     ·rw [if_neg c5] at H;have c5b0:(((AB l0 x6_1).f0).toList==a1.toList)=false:=beq_eq_false_iff_ne.mpr c5;have c5b1:(((AB l0 x6_1).f0).toList != a1.toList)=true:=bne_iff_ne.mpr c5;have H':=AA.mk H;clear H;have p349:0<=(x6_1:Int):=xa;have q349:x6_1<(l0.length:Int):=xa;obtain ⟨ad349,e349,hx349_0,hx349_1,hx349_2,hx349_3,hx349_4,hx349_5,hx349_6,hx349_7,hx349_8,hx349_9,hx349_10⟩:=Ce HR0.out x6_1 p349 q349;cases e349;replace p349:=eq_true p349;replace q349:=eq_true q349;go_wp2;go_roundg k1;case measure=>have:=HK1.out;omega
      case rel=>exact ⟨(x5_1),(wrap64 (x6_1+1)),xq,xq,H',⟨by have:=HK1.out;omega⟩,xd⟩
    ·rw [if_neg c4] at H;exact absurd H (by simp)
   ·rw [if_neg c3] at H;have c3b0:decide (x6_1<(l0.length:Int))=false:=decide_eq_false c3;clear c3;obtain rfl:=Option.some.inj H;go_wp2;go_ret;exact ⟨xq,xd⟩
end Go.Proofs.YtikggnalmidlhaaGreatDoor.Print
end
section
namespace Go.Proofs.YtikggnalmidlhaaGreatDoor.Print
open RowKit AR Aa Ad
attribute [local go_sem] BM BN Bo Bp BC BD BO BP
set_option linter.unusedVariables false
set_option linter.unusedSimpArgs false
def Vb.l0:Nat->ByteArray->List ByteArray->Int->Int->Option (List ByteArray)
 |0,_,_,_,_=>none
 |k+1,x0,x3,x4,x5=>if x5<(x0.size:Int) then (if 0<=x5 then (if (bt x0 x5)=10 then (if x5>x4 then (if 0<=(wrap64 (x5 - 1)) then (if (wrap64 (x5 - 1))<(x0.size:Int) then (if (bt x0 (wrap64 (x5 - 1)))=13 then (if 0<=x4 then (if x4<=(wrap64 (x5 - 1)) then (if (wrap64 (x5 - 1))<=(x0.size:Int) then (if x3.length<8796093022208 then (Vb.l0 k x0 (x3++[x0.extract (x4:Int).toNat ((wrap64 (x5 - 1)):Int).toNat]) (wrap64 (x5+1)) (wrap64 (x5+1))) else (none)) else (none)) else (none)) else (none)) else (if 0<=x4 then (if x4<=x5 then (if x5<=(x0.size:Int) then (if x3.length<8796093022208 then (Vb.l0 k x0 (x3++[x0.extract (x4:Int).toNat (x5:Int).toNat]) (wrap64 (x5+1)) (wrap64 (x5+1))) else (none)) else (none)) else (none)) else (none))) else (none)) else (none)) else (if 0<=x4 then (if x4<=x5 then (if x5<=(x0.size:Int) then (if x3.length<8796093022208 then (Vb.l0 k x0 (x3++[x0.extract (x4:Int).toNat (x5:Int).toNat]) (wrap64 (x5+1)) (wrap64 (x5+1))) else (none)) else (none)) else (none)) else (none))) else (Vb.l0 k x0 x3 x4 (wrap64 (x5+1)))) else (none)) else (if x4<(x0.size:Int) then (if 0<=x4 then (if x4<=(x0.size:Int) then (if x3.length<8796093022208 then (some (x3++[x0.extract (x4:Int).toNat x0.size])) else (none)) else (none)) else (none)) else (some x3))
def Vb.f (k:Nat) (a0:ByteArray):Option (List ByteArray):=Vb.l0 k a0 ([]:List ByteArray) 0 0
set_option maxHeartbeats 8000000 in
set_option maxRecDepth 100000 in
theorem Vb.calls (k:Nat) (a0:ByteArray) (r:List ByteArray) (w:World) (h:Vb.f k a0=some r):
 Calls Tryz.prog 18 #[.string a0] w λe w'=>∃ v0_:Value,e= .returned (v0_)/\Kd.R Kd.string 9 w' w.heap.size (λ_=>True) v0_ r/\Below w.heap.size w w':=by
 have HB:=AA.mk (Below.refl w.heap.size w);have H:(Vb.l0 k a0 ([]:List ByteArray) 0 0)=some r:=h;clear h;have H':=AA.mk H;clear H;go_enter Tryz.func18,Tryz.ntmps18;go_wp2;go_loopg [3,4,5] k (λkq v3 v4 v5 w'=>∃ (x3_1:List ByteArray) (x4_1:Int) (x5_1:Int),v4= .int .i64 x4_1/\v5= .int .i64 x5_1/\AA (Vb.l0 kq a0 x3_1 x4_1 x5_1=some r)/\AA (kq<=k)/\AA (Kd.R Kd.string 9 w' w.heap.size (λ_=>True) v3 x3_1)/\AA (Below w.heap.size w w'));case atStart=>exact ⟨(([]:List ByteArray)),(0),(0),xq,xq,H',⟨Nat.le_refl _⟩,⟨by first|exact Kd.Eu _ _ _ _ _|exact Kd.F6 _ _ _ _ _|exact Kd.F7 _ _ _ _ _|exact Kd.F3 _ _ _ _ _|exact Kd.F5 _ _ _ _ _⟩,⟨xb⟩⟩
 case round=>
  clear H';try clear c1
  obtain ⟨x3_1,x4_1,x5_1,rfl,rfl,HA,HK1,HO_3,HB⟩:=hrel;cases gk with
  |zero=>exact absurd HA.out (by simp [Vb.l0])
  |succ k1=>
   have H:=HA.out;clear HA;simp only [Vb.l0] at H;by_cases c2:x5_1<(a0.size:Int)
   ·rw [if_pos c2] at H;have c2b0:decide (x5_1<(a0.size:Int))=true:=decide_eq_true c2;clear c2;by_cases c3:0<=x5_1
    ·rw [if_pos c3] at H;have c3b0:decide (0<=x5_1)=true:=decide_eq_true c3;clear c3;by_cases c5:(bt a0 x5_1)=10
     ·rw [if_pos c5] at H;have c5b0:((bt a0 x5_1)==10)=true:=beq_iff_eq.mpr c5;have c5b1:((bt a0 x5_1) != 10)=false:=bne_eq_false_iff_eq.mpr c5;clear c5;by_cases c6:x5_1>x4_1
      ·rw [if_pos c6] at H;have c6b0:decide (x4_1<x5_1)=true:=decide_eq_true c6;clear c6;obtain ⟨ji7,hji7⟩:∃ j_:Int,(wrap64 (x5_1 - 1))=j_:=⟨_,rfl⟩;replace H:(if 0<=(ji7) then (if (ji7)<(a0.size:Int) then (if (bt a0 (ji7))=13 then (if 0<=x4_1 then (if x4_1<=(ji7) then (if (ji7)<=(a0.size:Int) then (if x3_1.length<8796093022208 then (Vb.l0 k1 a0 (x3_1++[a0.extract (x4_1:Int).toNat ((ji7):Int).toNat]) (wrap64 (x5_1+1)) (wrap64 (x5_1+1))) else (none)) else (none)) else (none)) else (none)) else (if 0<=x4_1 then (if x4_1<=x5_1 then (if x5_1<=(a0.size:Int) then (if x3_1.length<8796093022208 then (Vb.l0 k1 a0 (x3_1++[a0.extract (x4_1:Int).toNat (x5_1:Int).toNat]) (wrap64 (x5_1+1)) (wrap64 (x5_1+1))) else (none)) else (none)) else (none)) else (none))) else (none)) else (none))=some r:=by first|(rw [hji7] at H;exact H)|(simp only [hji7] at H⊢;exact H)
       have hji7w:(IntKind.i64.wrap (x5_1 - 1))=ji7:=(DL _).trans hji7;by_cases c8:0<=(ji7)
       ·rw [if_pos c8] at H;have c8b0:decide (0<=(ji7))=true:=decide_eq_true c8;clear c8;by_cases c9:(ji7)<(a0.size:Int)
        ·rw [if_pos c9] at H;have c9b0:decide ((ji7)<(a0.size:Int))=true:=decide_eq_true c9;clear c9;by_cases c11:(bt a0 (ji7))=13
         ·rw [if_pos c11] at H;have c11b0:((bt a0 (ji7))==13)=true:=beq_iff_eq.mpr c11;have c11b1:((bt a0 (ji7)) != 13)=false:=bne_eq_false_iff_eq.mpr c11;clear c11;by_cases c12:0<=x4_1
          ·rw [if_pos c12] at H;have c12b0:=eq_true c12;have c12b1:decide (0<=x4_1)=true:=decide_eq_true c12;clear c12;by_cases c13:x4_1<=(ji7)
           ·rw [if_pos c13] at H;have c13b0:=eq_true c13;have c13b1:decide (x4_1<=(ji7))=true:=decide_eq_true c13;clear c13;by_cases c14:(ji7)<=(a0.size:Int)
            ·rw [if_pos c14] at H;have c14b0:=eq_true c14;have c14b1:decide ((ji7)<=(a0.size:Int))=true:=decide_eq_true c14;clear c14;by_cases c15:x3_1.length<8796093022208
             ·rw [if_pos c15] at H;have LMc15:=AA.mk c15;clear c15;obtain ⟨y388,hy388⟩:∃ y_:List ByteArray,y_=(x3_1++[a0.extract (x4_1:Int).toNat ((ji7):Int).toNat]):=⟨_,rfl⟩;replace H:(Vb.l0 k1 a0 y388 (wrap64 (x5_1+1)) (wrap64 (x5_1+1)))=some r:=by first|(rw [hy388];with_reducible exact H)|(have H2_:=(Option.bind_some _ _).symm.trans H;rw [hy388];with_reducible exact H2_)|(have H2_:=(Option.bind_some _ _).symm.trans H;with_reducible exact H2_)|with_reducible exact H|(rw [hy388];exact H)|exact H
              have Ny388:=AA.mk hy388;clear hy388;have H':=AA.mk H;clear H;have p4:0<=(x5_1:Int):=xa;have q4:x5_1<(a0.size:Int):=xa;have hx4:=Br a0 x5_1;replace p4:=eq_true p4;replace q4:=eq_true q4;have p10:0<=((ji7):Int):=xa;have q10:(ji7)<(a0.size:Int):=xa;have hx10:=Br a0 (ji7);replace p10:=eq_true p10;replace q10:=eq_true q10;go_wp2_with (first|((with_reducible refine DR (b:= .append) (xs:=#[.tmp 30, .tmp 35]) rfl ?_);at_builtin;refine Kd.Ej Kd.string (w0:=w) w.heap.size rfl (.tmp 30) (.tmp 35) 45 9 (.string ⟨#[]⟩) 16 rfl Tryz.underlying45 QG rfl (by decide) (by omega) u3 x3_1 (a0.extract (x4_1:Int).toNat ((ji7):Int).toNat) [.string (a0.extract (x4_1:Int).toNat ((ji7):Int).toNat)] (λ_=>True) (λ_=>False) rfl rfl ?aP (λ_ hk=>hk.elim) ?aF ?aO ?aB ?aS ?aL ?_;(case aP=>exact rfl);(case aB=>exact xb);(case aF=>exact (λ_ _=>trivial));(case aO=>exact (xR HO_3));(case aS=>exact (BF xb));(case aL=>have:=LMc15.out;omega);intro v389 w16 ho hb hg hat;rw [<-Ny388.out] at ho;have n0_:=AA.mk (hb);have n1_:=AA.mk (ho);clear HB;clear HO_3;have HB:=n0_;have HO390:=n1_;clear n0_ n1_;clear ho hb hg hat));go_roundg k1;case measure=>have:=HK1.out;omega
              case rel=>exact ⟨(y388),(wrap64 (x5_1+1)),(wrap64 (x5_1+1)),xq,xq,H',⟨by have:=HK1.out;omega⟩,⟨by (with_reducible repeat (first|apply Kd.Bd|apply Kd.Be|apply Kd.Bl));exact HO390.out⟩,⟨xb⟩⟩
             ·rw [if_neg c15] at H;exact absurd H (by simp)
            ·rw [if_neg c14] at H;exact absurd H (by simp)
           ·rw [if_neg c13] at H;exact absurd H (by simp)
          ·rw [if_neg c12] at H;exact absurd H (by simp)
         ·rw [if_neg c11] at H;have c11b0:((bt a0 (ji7))==13)=false:=beq_eq_false_iff_ne.mpr c11;have c11b1:((bt a0 (ji7)) != 13)=true:=bne_iff_ne.mpr c11;by_cases c17:0<=x4_1
          ·rw [if_pos c17] at H;have c17b0:=eq_true c17;have c17b1:decide (0<=x4_1)=true:=decide_eq_true c17;clear c17;by_cases c18:x4_1<=x5_1
           ·rw [if_pos c18] at H;have c18b0:=eq_true c18;have c18b1:decide (x4_1<=x5_1)=true:=decide_eq_true c18;clear c18;by_cases c19:x5_1<=(a0.size:Int)
            ·rw [if_pos c19] at H;have c19b0:=eq_true c19;have c19b1:decide (x5_1<=(a0.size:Int))=true:=decide_eq_true c19;clear c19;by_cases c20:x3_1.length<8796093022208
             ·rw [if_pos c20] at H;have LMc20:=AA.mk c20;clear c20;obtain ⟨y391,hy391⟩:∃ y_:List ByteArray,y_=(x3_1++[a0.extract (x4_1:Int).toNat (x5_1:Int).toNat]):=⟨_,rfl⟩;replace H:(Vb.l0 k1 a0 y391 (wrap64 (x5_1+1)) (wrap64 (x5_1+1)))=some r:=by first|(rw [hy391];with_reducible exact H)|(have H2_:=(Option.bind_some _ _).symm.trans H;rw [hy391];with_reducible exact H2_)|(have H2_:=(Option.bind_some _ _).symm.trans H;with_reducible exact H2_)|with_reducible exact H|(rw [hy391];exact H)|exact H
              have Ny391:=AA.mk hy391;clear hy391;have H':=AA.mk H;clear H;have p4:0<=(x5_1:Int):=xa;have q4:x5_1<(a0.size:Int):=xa;have hx4:=Br a0 x5_1;replace p4:=eq_true p4;replace q4:=eq_true q4;have p10:0<=((ji7):Int):=xa;have q10:(ji7)<(a0.size:Int):=xa;have hx10:=Br a0 (ji7);replace p10:=eq_true p10;replace q10:=eq_true q10;go_wp2_with (first|((with_reducible refine DR (b:= .append) (xs:=#[.tmp 30, .tmp 35]) rfl ?_);at_builtin;refine Kd.Ej Kd.string (w0:=w) w.heap.size rfl (.tmp 30) (.tmp 35) 45 9 (.string ⟨#[]⟩) 16 rfl Tryz.underlying45 QG rfl (by decide) (by omega) u3 x3_1 (a0.extract (x4_1:Int).toNat (x5_1:Int).toNat) [.string (a0.extract (x4_1:Int).toNat (x5_1:Int).toNat)] (λ_=>True) (λ_=>False) rfl rfl ?aP (λ_ hk=>hk.elim) ?aF ?aO ?aB ?aS ?aL ?_;(case aP=>exact rfl);(case aB=>exact xb);(case aF=>exact (λ_ _=>trivial));(case aO=>exact (xR HO_3));(case aS=>exact (BF xb));(case aL=>have:=LMc20.out;omega);intro v392 w21 ho hb hg hat;rw [<-Ny391.out] at ho;have n0_:=AA.mk (hb);have n1_:=AA.mk (ho);clear HB;clear HO_3;have HB:=n0_;have HO393:=n1_;clear n0_ n1_;clear ho hb hg hat));go_roundg k1;case measure=>have:=HK1.out;omega
              case rel=>exact ⟨(y391),(wrap64 (x5_1+1)),(wrap64 (x5_1+1)),xq,xq,H',⟨by have:=HK1.out;omega⟩,⟨by (with_reducible repeat (first|apply Kd.Bd|apply Kd.Be|apply Kd.Bl));exact HO393.out⟩,⟨xb⟩⟩
             ·rw [if_neg c20] at H;exact absurd H (by simp)
            ·rw [if_neg c19] at H;exact absurd H (by simp)
           ·rw [if_neg c18] at H;exact absurd H (by simp)
          ·rw [if_neg c17] at H;exact absurd H (by simp)
        ·rw [if_neg c9] at H;exact absurd H (by simp)
       ·rw [if_neg c8] at H;exact absurd H (by simp)
      ·rw [if_neg c6] at H;have c6b0:decide (x4_1<x5_1)=false:=decide_eq_false c6;clear c6;by_cases c22:0<=x4_1
       ·rw [if_pos c22] at H;have c22b0:=eq_true c22;have c22b1:decide (0<=x4_1)=true:=decide_eq_true c22;clear c22;by_cases c23:x4_1<=x5_1
        ·rw [if_pos c23] at H;have c23b0:=eq_true c23;have c23b1:decide (x4_1<=x5_1)=true:=decide_eq_true c23;clear c23;by_cases c24:x5_1<=(a0.size:Int)
         ·rw [if_pos c24] at H;have c24b0:=eq_true c24;have c24b1:decide (x5_1<=(a0.size:Int))=true:=decide_eq_true c24;clear c24;by_cases c25:x3_1.length<8796093022208
          ·rw [if_pos c25] at H;have LMc25:=AA.mk c25;clear c25;obtain ⟨y394,hy394⟩:∃ y_:List ByteArray,y_=(x3_1++[a0.extract (x4_1:Int).toNat (x5_1:Int).toNat]):=⟨_,rfl⟩;replace H:(Vb.l0 k1 a0 y394 (wrap64 (x5_1+1)) (wrap64 (x5_1+1)))=some r:=by first|(rw [hy394];with_reducible exact H)|(have H2_:=(Option.bind_some _ _).symm.trans H;rw [hy394];with_reducible exact H2_)|(have H2_:=(Option.bind_some _ _).symm.trans H;with_reducible exact H2_)|with_reducible exact H|(rw [hy394];exact H)|exact H
           have Ny394:=AA.mk hy394;clear hy394;have H':=AA.mk H;clear H;have p4:0<=(x5_1:Int):=xa;have q4:x5_1<(a0.size:Int):=xa;have hx4:=Br a0 x5_1;replace p4:=eq_true p4;replace q4:=eq_true q4;go_wp2_with (first|((with_reducible refine DR (b:= .append) (xs:=#[.tmp 30, .tmp 35]) rfl ?_);at_builtin;refine Kd.Ej Kd.string (w0:=w) w.heap.size rfl (.tmp 30) (.tmp 35) 45 9 (.string ⟨#[]⟩) 16 rfl Tryz.underlying45 QG rfl (by decide) (by omega) u3 x3_1 (a0.extract (x4_1:Int).toNat (x5_1:Int).toNat) [.string (a0.extract (x4_1:Int).toNat (x5_1:Int).toNat)] (λ_=>True) (λ_=>False) rfl rfl ?aP (λ_ hk=>hk.elim) ?aF ?aO ?aB ?aS ?aL ?_;(case aP=>exact rfl);(case aB=>exact xb);(case aF=>exact (λ_ _=>trivial));(case aO=>exact (xR HO_3));(case aS=>exact (BF xb));(case aL=>have:=LMc25.out;omega);intro v395 w26 ho hb hg hat;rw [<-Ny394.out] at ho;have n0_:=AA.mk (hb);have n1_:=AA.mk (ho);clear HB;clear HO_3;have HB:=n0_;have HO396:=n1_;clear n0_ n1_;clear ho hb hg hat));go_roundg k1;case measure=>have:=HK1.out;omega
           case rel=>exact ⟨(y394),(wrap64 (x5_1+1)),(wrap64 (x5_1+1)),xq,xq,H',⟨by have:=HK1.out;omega⟩,⟨by (with_reducible repeat (first|apply Kd.Bd|apply Kd.Be|apply Kd.Bl));exact HO396.out⟩,⟨xb⟩⟩
          ·rw [if_neg c25] at H;exact absurd H (by simp)
         ·rw [if_neg c24] at H;exact absurd H (by simp)
        ·rw [if_neg c23] at H;exact absurd H (by simp)
       ·rw [if_neg c22] at H;exact absurd H (by simp)
     ·rw [if_neg c5] at H;have c5b0:((bt a0 x5_1)==10)=false:=beq_eq_false_iff_ne.mpr c5;have c5b1:((bt a0 x5_1) != 10)=true:=bne_iff_ne.mpr c5;have H':=AA.mk H;clear H;have p4:0<=(x5_1:Int):=xa;have q4:x5_1<(a0.size:Int):=xa;have hx4:=Br a0 x5_1;replace p4:=eq_true p4;replace q4:=eq_true q4;go_wp2;go_roundg k1;case measure=>have:=HK1.out;omega
      case rel=>exact ⟨(x3_1),(x4_1),(wrap64 (x5_1+1)),xq,xq,H',⟨by have:=HK1.out;omega⟩,⟨by (with_reducible repeat (first|apply Kd.Bd|apply Kd.Be|apply Kd.Bl));exact HO_3.out⟩,⟨xb⟩⟩
    ·rw [if_neg c3] at H;exact absurd H (by simp)
   ·rw [if_neg c2] at H;have c2b0:decide (x5_1<(a0.size:Int))=false:=decide_eq_false c2;clear c2;by_cases c27:x4_1<(a0.size:Int)
    ·rw [if_pos c27] at H;have c27b0:decide (x4_1<(a0.size:Int))=true:=decide_eq_true c27;clear c27;by_cases c28:0<=x4_1
     ·rw [if_pos c28] at H;have c28b0:=eq_true c28;have c28b1:decide (0<=x4_1)=true:=decide_eq_true c28;clear c28;by_cases c29:x4_1<=(a0.size:Int)
      ·rw [if_pos c29] at H;have c29b0:=eq_true c29;have c29b1:decide (x4_1<=(a0.size:Int))=true:=decide_eq_true c29;clear c29;by_cases c30:x3_1.length<8796093022208
       ·rw [if_pos c30] at H;have LMc30:=AA.mk c30;clear c30;obtain ⟨y385,hy385⟩:∃ y_:List ByteArray,y_=(x3_1++[a0.extract (x4_1:Int).toNat a0.size]):=⟨_,rfl⟩;replace H:(some y385)=some r:=by first|(rw [hy385];with_reducible exact H)|(have H2_:=(Option.bind_some _ _).symm.trans H;rw [hy385];with_reducible exact H2_)|(have H2_:=(Option.bind_some _ _).symm.trans H;with_reducible exact H2_)|with_reducible exact H|(rw [hy385];exact H)|exact H
        have Ny385:=AA.mk hy385;clear hy385;obtain rfl:=Option.some.inj H;go_wp2_with (first|((with_reducible refine DR (b:= .append) (xs:=#[.tmp 43, .tmp 47]) rfl ?_);at_builtin;refine Kd.Ej Kd.string (w0:=w) w.heap.size rfl (.tmp 43) (.tmp 47) 45 9 (.string ⟨#[]⟩) 16 rfl Tryz.underlying45 QG rfl (by decide) (by omega) u3 x3_1 (a0.extract (x4_1:Int).toNat a0.size) [.string (a0.extract (x4_1:Int).toNat a0.size)] (λ_=>True) (λ_=>False) rfl rfl ?aP (λ_ hk=>hk.elim) ?aF ?aO ?aB ?aS ?aL ?_;(case aP=>exact rfl);(case aB=>exact xb);(case aF=>exact (λ_ _=>trivial));(case aO=>exact (xR HO_3));(case aS=>exact (BF xb));(case aL=>have:=LMc30.out;omega);intro v386 w31 ho hb hg hat;rw [<-Ny385.out] at ho;have n0_:=AA.mk (hb);have n1_:=AA.mk (ho);clear HB;clear HO_3;have HB:=n0_;have HO387:=n1_;clear n0_ n1_;clear ho hb hg hat));go_ret;exact ⟨_,xe,by (with_reducible repeat (first|apply Kd.Bd|apply Kd.Be|apply Kd.Bl));exact HO387.out,xb⟩
       ·rw [if_neg c30] at H;exact absurd H (by simp)
      ·rw [if_neg c29] at H;exact absurd H (by simp)
     ·rw [if_neg c28] at H;exact absurd H (by simp)
    ·rw [if_neg c27] at H;have c27b0:decide (x4_1<(a0.size:Int))=false:=decide_eq_false c27;clear c27;obtain rfl:=Option.some.inj H;go_wp2;go_ret;exact ⟨_,xe,by (with_reducible repeat (first|apply Kd.Bd|apply Kd.Be|apply Kd.Bl));exact HO_3.out,xb⟩
end Go.Proofs.YtikggnalmidlhaaGreatDoor.Print
end
section
namespace Go.Proofs.YtikggnalmidlhaaGreatDoor.Print
open RowKit AR Aa Ad
attribute [local go_sem] BM BN Bo Bp BC BD BO BP
set_option linter.unusedVariables false
set_option linter.unusedSimpArgs false
def YE.l0:Nat->ByteArray->Int->Int->Option (Bool)
 |0,_,_,_=>none
 |k+1,x0,x1,x5=>if x5<(x0.size:Int) then (if 0<=x5 then (if (bt x0 x5)=x1 then (some true) else (YE.l0 k x0 x1 (wrap64 (x5+1)))) else (none)) else (some false)
def YE.f (k:Nat) (a0:ByteArray) (a1:Int):Option (Bool):=YE.l0 k a0 a1 0
set_option maxHeartbeats 8000000 in
set_option maxRecDepth 100000 in
theorem YE.calls (k:Nat) (a0:ByteArray) (a1:Int) (r:Bool) (w:World) (h:YE.f k a0 a1=some r):
 Calls Tryz.prog 33 #[.string a0, .int .u8 a1] w λe w'=>e= .returned (.bool r)/\Ap w w':=by
 have H:(YE.l0 k a0 a1 0)=some r:=h;clear h;have H':=AA.mk H;clear H;go_enter Tryz.func33,Tryz.ntmps33;go_wp2;go_loopg [5] k (λkq v5 w'=>∃ (x5_1:Int),v5= .int .i64 x5_1/\AA (YE.l0 kq a0 a1 x5_1=some r)/\AA (kq<=k)/\Ap w w');case atStart=>exact ⟨(0),xq,H',⟨Nat.le_refl _⟩,xd⟩
 case round=>
  clear H';try clear p2
  obtain ⟨x5_1,rfl,HA,HK1,⟨m1,rfl⟩⟩:=hrel;cases gk with
  |zero=>exact absurd HA.out (by simp [YE.l0])
  |succ k1=>
   have H:=HA.out;clear HA;simp only [YE.l0] at H;by_cases c3:x5_1<(a0.size:Int)
   ·rw [if_pos c3] at H;have c3b0:decide (x5_1<(a0.size:Int))=true:=decide_eq_true c3;clear c3;by_cases c4:0<=x5_1
    ·rw [if_pos c4] at H;have c4b0:decide (0<=x5_1)=true:=decide_eq_true c4;clear c4;by_cases c6:(bt a0 x5_1)=a1
     ·rw [if_pos c6] at H;have c6b0:((bt a0 x5_1)==a1)=true:=beq_iff_eq.mpr c6;have c6b1:((bt a0 x5_1) != a1)=false:=bne_eq_false_iff_eq.mpr c6;clear c6;obtain rfl:=Option.some.inj H;have p5:0<=(x5_1:Int):=xa;have q5:x5_1<(a0.size:Int):=xa;have hx5:=Br a0 x5_1;replace p5:=eq_true p5;replace q5:=eq_true q5;go_wp2;go_ret;exact ⟨xq,xd⟩
     ·rw [if_neg c6] at H;have c6b0:((bt a0 x5_1)==a1)=false:=beq_eq_false_iff_ne.mpr c6;have c6b1:((bt a0 x5_1) != a1)=true:=bne_iff_ne.mpr c6;have H':=AA.mk H;clear H;have p5:0<=(x5_1:Int):=xa;have q5:x5_1<(a0.size:Int):=xa;have hx5:=Br a0 x5_1;replace p5:=eq_true p5;replace q5:=eq_true q5;go_wp2;go_roundg k1;case measure=>have:=HK1.out;omega
      case rel=>exact ⟨(wrap64 (x5_1+1)),xq,H',⟨by have:=HK1.out;omega⟩,xd⟩
    ·rw [if_neg c4] at H;exact absurd H (by simp)
   ·rw [if_neg c3] at H;have c3b0:decide (x5_1<(a0.size:Int))=false:=decide_eq_false c3;clear c3;obtain rfl:=Option.some.inj H;go_wp2;go_ret;exact ⟨xq,xd⟩
end Go.Proofs.YtikggnalmidlhaaGreatDoor.Print
end
section
namespace Go.Proofs.YtikggnalmidlhaaGreatDoor.Print
open RowKit AR Aa Ad
attribute [local go_sem] BM BN Bo Bp BC BD BO BP
set_option linter.unusedVariables false
set_option linter.unusedSimpArgs false
def Vf.f (a0:ByteArray) (a1:ByteArray):Option (Bool):=if (a0.size:Int)>=(a1.size:Int) then (if 0<=(a1.size:Int) then (if (a1.size:Int)<=(a0.size:Int) then (some ((a0.extract 0 ((a1.size:Int):Int).toNat).toList==a1.toList)) else (none)) else (none)) else (some false)
set_option maxHeartbeats 8000000 in
set_option maxRecDepth 100000 in
theorem Vf.calls (a0:ByteArray) (a1:ByteArray) (r:Bool) (w:World) (h:Vf.f a0 a1=some r):
 Calls Tryz.prog 17 #[.string a0, .string a1] w λe w'=>e= .returned (.bool r)/\Ap w w':=by
 have H:(if (a0.size:Int)>=(a1.size:Int) then (if 0<=(a1.size:Int) then (if (a1.size:Int)<=(a0.size:Int) then (some ((a0.extract 0 ((a1.size:Int):Int).toNat).toList==a1.toList)) else (none)) else (none)) else (some false))=some r:=h;clear h;by_cases c3:(a0.size:Int)>=(a1.size:Int)
 ·rw [if_pos c3] at H;have c3b0:decide ((a1.size:Int)<=(a0.size:Int))=true:=decide_eq_true c3;have c3b1:decide (a1.size<=a0.size)=true:=decide_eq_true (Int.ofNat_le.mp c3);clear c3;by_cases c4:0<=(a1.size:Int)
  ·rw [if_pos c4] at H;have c4b0:=eq_true c4;have c4b1:decide (0<=(a1.size:Int))=true:=decide_eq_true c4;clear c4;by_cases c5:(a1.size:Int)<=(a0.size:Int)
   ·rw [if_pos c5] at H;have c5b0:=eq_true c5;have c5b1:decide ((a1.size:Int)<=(a0.size:Int))=true:=decide_eq_true c5;clear c5;obtain rfl:=Option.some.inj H;go_enter Tryz.func17,Tryz.ntmps17;go_wp2;go_ret;exact ⟨xq,xd⟩
   ·rw [if_neg c5] at H;exact absurd H (by simp)
  ·rw [if_neg c4] at H;exact absurd H (by simp)
 ·rw [if_neg c3] at H;have c3b0:decide ((a1.size:Int)<=(a0.size:Int))=false:=decide_eq_false c3;have c3b1:decide (a1.size<=a0.size)=false:=decide_eq_false (λh=>c3 (Int.ofNat_le.mpr h));clear c3;obtain rfl:=Option.some.inj H;go_enter Tryz.func17,Tryz.ntmps17;go_wp2;go_ret;exact ⟨xq,xd⟩
end Go.Proofs.YtikggnalmidlhaaGreatDoor.Print
end
section
namespace Go.Proofs.YtikggnalmidlhaaGreatDoor.Print
open RowKit AR Aa Ad
attribute [local go_sem] BM BN Bo Bp BC BD BO BP
set_option linter.unusedVariables false
set_option linter.unusedSimpArgs false
def Va.l0:Nat->ByteArray->List ByteArray->Int->Int->Option (List ByteArray)
 |0,_,_,_,_=>none
 |k+1,x0,x3,x4,x5=>if x5<(x0.size:Int) then (if 0<=x5 then (if (bt x0 x5)=9 then (if 0<=x4 then (if x4<=x5 then (if x5<=(x0.size:Int) then (if x3.length<8796093022208 then (Va.l0 k x0 (x3++[x0.extract (x4:Int).toNat (x5:Int).toNat]) (wrap64 (x5+1)) (wrap64 (x5+1))) else (none)) else (none)) else (none)) else (none)) else (Va.l0 k x0 x3 x4 (wrap64 (x5+1)))) else (none)) else (if 0<=x4 then (if x4<=(x0.size:Int) then (if x3.length<8796093022208 then (some (x3++[x0.extract (x4:Int).toNat x0.size])) else (none)) else (none)) else (none))
def Va.f (k:Nat) (a0:ByteArray):Option (List ByteArray):=Va.l0 k a0 ([]:List ByteArray) 0 0
set_option maxHeartbeats 8000000 in
set_option maxRecDepth 100000 in
theorem Va.calls (k:Nat) (a0:ByteArray) (r:List ByteArray) (w:World) (h:Va.f k a0=some r):
 Calls Tryz.prog 59 #[.string a0] w λe w'=>∃ v0_:Value,e= .returned (v0_)/\Kd.R Kd.string 9 w' w.heap.size (λ_=>True) v0_ r/\Below w.heap.size w w':=by
 have HB:=AA.mk (Below.refl w.heap.size w);have H:(Va.l0 k a0 ([]:List ByteArray) 0 0)=some r:=h;clear h;have H':=AA.mk H;clear H;go_enter Tryz.func59,Tryz.ntmps59;go_wp2;go_loopg [3,4,5] k (λkq v3 v4 v5 w'=>∃ (x3_1:List ByteArray) (x4_1:Int) (x5_1:Int),v4= .int .i64 x4_1/\v5= .int .i64 x5_1/\AA (Va.l0 kq a0 x3_1 x4_1 x5_1=some r)/\AA (kq<=k)/\AA (Kd.R Kd.string 9 w' w.heap.size (λ_=>True) v3 x3_1)/\AA (Below w.heap.size w w'));case atStart=>exact ⟨(([]:List ByteArray)),(0),(0),xq,xq,H',⟨Nat.le_refl _⟩,⟨by first|exact Kd.Eu _ _ _ _ _|exact Kd.F6 _ _ _ _ _|exact Kd.F7 _ _ _ _ _|exact Kd.F3 _ _ _ _ _|exact Kd.F5 _ _ _ _ _⟩,⟨xb⟩⟩
 case round=>
  clear H';obtain ⟨x3_1,x4_1,x5_1,rfl,rfl,HA,HK1,HO_3,HB⟩:=hrel;cases gk with
  |zero=>exact absurd HA.out (by simp [Va.l0])
  |succ k1=>
   have H:=HA.out;clear HA;simp only [Va.l0] at H;by_cases c2:x5_1<(a0.size:Int)
   ·rw [if_pos c2] at H;have c2b0:decide (x5_1<(a0.size:Int))=true:=decide_eq_true c2;clear c2;by_cases c3:0<=x5_1
    ·rw [if_pos c3] at H;have c3b0:decide (0<=x5_1)=true:=decide_eq_true c3;clear c3;by_cases c5:(bt a0 x5_1)=9
     ·rw [if_pos c5] at H;have c5b0:((bt a0 x5_1)==9)=true:=beq_iff_eq.mpr c5;have c5b1:((bt a0 x5_1) != 9)=false:=bne_eq_false_iff_eq.mpr c5;clear c5;by_cases c6:0<=x4_1
      ·rw [if_pos c6] at H;have c6b0:=eq_true c6;have c6b1:decide (0<=x4_1)=true:=decide_eq_true c6;clear c6;by_cases c7:x4_1<=x5_1
       ·rw [if_pos c7] at H;have c7b0:=eq_true c7;have c7b1:decide (x4_1<=x5_1)=true:=decide_eq_true c7;clear c7;by_cases c8:x5_1<=(a0.size:Int)
        ·rw [if_pos c8] at H;have c8b0:=eq_true c8;have c8b1:decide (x5_1<=(a0.size:Int))=true:=decide_eq_true c8;clear c8;by_cases c9:x3_1.length<8796093022208
         ·rw [if_pos c9] at H;have LMc9:=AA.mk c9;clear c9;obtain ⟨y404,hy404⟩:∃ y_:List ByteArray,y_=(x3_1++[a0.extract (x4_1:Int).toNat (x5_1:Int).toNat]):=⟨_,rfl⟩;replace H:(Va.l0 k1 a0 y404 (wrap64 (x5_1+1)) (wrap64 (x5_1+1)))=some r:=by first|(rw [hy404];with_reducible exact H)|(have H2_:=(Option.bind_some _ _).symm.trans H;rw [hy404];with_reducible exact H2_)|(have H2_:=(Option.bind_some _ _).symm.trans H;with_reducible exact H2_)|with_reducible exact H|(rw [hy404];exact H)|exact H
          have Ny404:=AA.mk hy404;clear hy404;have H':=AA.mk H;clear H;have p4:0<=(x5_1:Int):=xa;have q4:x5_1<(a0.size:Int):=xa;have hx4:=Br a0 x5_1;replace p4:=eq_true p4;replace q4:=eq_true q4;go_wp2_with (first|((with_reducible refine DR (b:= .append) (xs:=#[.tmp 16, .tmp 21]) rfl ?_);at_builtin;refine Kd.Ej Kd.string (w0:=w) w.heap.size rfl (.tmp 16) (.tmp 21) 45 9 (.string ⟨#[]⟩) 16 rfl Tryz.underlying45 QG rfl (by decide) (by omega) u3 x3_1 (a0.extract (x4_1:Int).toNat (x5_1:Int).toNat) [.string (a0.extract (x4_1:Int).toNat (x5_1:Int).toNat)] (λ_=>True) (λ_=>False) rfl rfl ?aP (λ_ hk=>hk.elim) ?aF ?aO ?aB ?aS ?aL ?_;(case aP=>exact rfl);(case aB=>exact xb);(case aF=>exact (λ_ _=>trivial));(case aO=>exact (xR HO_3));(case aS=>exact (BF xb));(case aL=>have:=LMc9.out;omega);intro v405 w10 ho hb hg hat;rw [<-Ny404.out] at ho;have n0_:=AA.mk (hb);have n1_:=AA.mk (ho);clear HB;clear HO_3;have HB:=n0_;have HO406:=n1_;clear n0_ n1_;clear ho hb hg hat));go_roundg k1;case measure=>have:=HK1.out;omega
          case rel=>exact ⟨(y404),(wrap64 (x5_1+1)),(wrap64 (x5_1+1)),xq,xq,H',⟨by have:=HK1.out;omega⟩,⟨by (with_reducible repeat (first|apply Kd.Bd|apply Kd.Be|apply Kd.Bl));exact HO406.out⟩,⟨xb⟩⟩
         ·rw [if_neg c9] at H;exact absurd H (by simp)
        ·rw [if_neg c8] at H;exact absurd H (by simp)
       ·rw [if_neg c7] at H;exact absurd H (by simp)
      ·rw [if_neg c6] at H;exact absurd H (by simp)
     ·rw [if_neg c5] at H;have c5b0:((bt a0 x5_1)==9)=false:=beq_eq_false_iff_ne.mpr c5;have c5b1:((bt a0 x5_1) != 9)=true:=bne_iff_ne.mpr c5;have H':=AA.mk H;clear H;have p4:0<=(x5_1:Int):=xa;have q4:x5_1<(a0.size:Int):=xa;have hx4:=Br a0 x5_1;replace p4:=eq_true p4;replace q4:=eq_true q4;go_wp2;go_roundg k1;case measure=>have:=HK1.out;omega
      case rel=>exact ⟨(x3_1),(x4_1),(wrap64 (x5_1+1)),xq,xq,H',⟨by have:=HK1.out;omega⟩,⟨by (with_reducible repeat (first|apply Kd.Bd|apply Kd.Be|apply Kd.Bl));exact HO_3.out⟩,⟨xb⟩⟩
    ·rw [if_neg c3] at H;exact absurd H (by simp)
   ·rw [if_neg c2] at H;have c2b0:decide (x5_1<(a0.size:Int))=false:=decide_eq_false c2;clear c2;by_cases c11:0<=x4_1
    ·rw [if_pos c11] at H;have c11b0:=eq_true c11;have c11b1:decide (0<=x4_1)=true:=decide_eq_true c11;clear c11;by_cases c12:x4_1<=(a0.size:Int)
     ·rw [if_pos c12] at H;have c12b0:=eq_true c12;have c12b1:decide (x4_1<=(a0.size:Int))=true:=decide_eq_true c12;clear c12;by_cases c13:x3_1.length<8796093022208
      ·rw [if_pos c13] at H;have LMc13:=AA.mk c13;clear c13;obtain ⟨y407,hy407⟩:∃ y_:List ByteArray,y_=(x3_1++[a0.extract (x4_1:Int).toNat a0.size]):=⟨_,rfl⟩;replace H:(some y407)=some r:=by first|(rw [hy407];with_reducible exact H)|(have H2_:=(Option.bind_some _ _).symm.trans H;rw [hy407];with_reducible exact H2_)|(have H2_:=(Option.bind_some _ _).symm.trans H;with_reducible exact H2_)|with_reducible exact H|(rw [hy407];exact H)|exact H
       have Ny407:=AA.mk hy407;clear hy407;obtain rfl:=Option.some.inj H;go_wp2_with (first|((with_reducible refine DR (b:= .append) (xs:=#[.tmp 25, .tmp 29]) rfl ?_);at_builtin;refine Kd.Ej Kd.string (w0:=w) w.heap.size rfl (.tmp 25) (.tmp 29) 45 9 (.string ⟨#[]⟩) 16 rfl Tryz.underlying45 QG rfl (by decide) (by omega) u3 x3_1 (a0.extract (x4_1:Int).toNat a0.size) [.string (a0.extract (x4_1:Int).toNat a0.size)] (λ_=>True) (λ_=>False) rfl rfl ?aP (λ_ hk=>hk.elim) ?aF ?aO ?aB ?aS ?aL ?_;(case aP=>exact rfl);(case aB=>exact xb);(case aF=>exact (λ_ _=>trivial));(case aO=>exact (xR HO_3));(case aS=>exact (BF xb));(case aL=>have:=LMc13.out;omega);intro v408 w14 ho hb hg hat;rw [<-Ny407.out] at ho;have n0_:=AA.mk (hb);have n1_:=AA.mk (ho);clear HB;clear HO_3;have HB:=n0_;have HO409:=n1_;clear n0_ n1_;clear ho hb hg hat));go_ret;exact ⟨_,xe,by (with_reducible repeat (first|apply Kd.Bd|apply Kd.Be|apply Kd.Bl));exact HO409.out,xb⟩
      ·rw [if_neg c13] at H;exact absurd H (by simp)
     ·rw [if_neg c12] at H;exact absurd H (by simp)
    ·rw [if_neg c11] at H;exact absurd H (by simp)
end Go.Proofs.YtikggnalmidlhaaGreatDoor.Print
end
