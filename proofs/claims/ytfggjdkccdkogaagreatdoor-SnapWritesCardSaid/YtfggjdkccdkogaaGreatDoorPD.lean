/- Several parts of the claim's proof in one text, said short by a program of this session. No condition. -/
import Derived.Test.YtfggjdkccdkogaaGreatDoorPrint0
section
namespace Go.Proofs.YtfggjdkccdkogaaGreatDoor.Print
open RowKit Ac Aq Aw
attribute [local go_sem] DC DD DX DY Co Cq DI DJ
set_option linter.unusedVariables false
set_option linter.unusedSimpArgs false
def CW.l0:Nat->List (Cz)->ByteArray->Int->Int->Option (Int)
 |0,_,_,_,_=>none
 |k+1,x0,x1,x5,x6=>if x6<(x0.length:Int) then (if 0<=x6 then (if ((AB x0 x6).f0).toList=x1.toList then (CW.l0 k x0 x1 (wrap64 (x5+1)) (wrap64 (x6+1))) else (CW.l0 k x0 x1 x5 (wrap64 (x6+1)))) else (none)) else (some x5)
def CW.f (k:Nat) (l0:List (Cz)) (a1:ByteArray):Option (Int):=CW.l0 k l0 a1 0 0
set_option maxHeartbeats 8000000 in
set_option maxRecDepth 100000 in
theorem CW.calls (k:Nat) (A0:Option Addr) (c0:Nat) (l0:List (Cz)) (a1:ByteArray) (r:Int) (w:World) (hr0:Kd.C k25 w A0 l0.length l0) (hc0:l0.length<=c0) (h:CW.f k l0 a1=some r):
 Calls Tryz.prog 74 #[.slice A0 l0.length c0, .string a1] w λe w'=>e= .returned (.int .i64 r)/\BP w w':=by
 have HR0:=AA.mk hr0;have HC0:=AA.mk hc0;clear hr0 hc0;have H:(CW.l0 k l0 a1 0 0)=some r:=h;clear h;have H':=AA.mk H;clear H;go_enter Tryz.func74,Tryz.ntmps74;go_wp2;go_loopg [5,6] k (λkq v5 v6 w'=>∃ (x5_1:Int) (x6_1:Int),v5= .int .i64 x5_1/\v6= .int .i64 x6_1/\AA (CW.l0 kq l0 a1 x5_1 x6_1=some r)/\AA (kq<=k)/\BP w w');case atStart=>exact ⟨(0),(0),xq,xq,H',⟨Nat.le_refl _⟩,xd⟩
 case round=>
  clear H';try clear p2
  obtain ⟨x5_1,x6_1,rfl,rfl,HA,HK1,⟨m1,rfl⟩⟩:=hrel;cases gk with
  |zero=>exact absurd HA.out (by simp [CW.l0])
  |succ k1=>
   have H:=HA.out;clear HA;simp only [CW.l0] at H;by_cases c3:x6_1<(l0.length:Int)
   ·rw [if_pos c3] at H;have c3b0:decide (x6_1<(l0.length:Int))=true:=decide_eq_true c3;clear c3;by_cases c4:0<=x6_1
    ·rw [if_pos c4] at H;have c4b0:decide (0<=x6_1)=true:=decide_eq_true c4;clear c4;by_cases c5:((AB l0 x6_1).f0).toList=a1.toList
     ·rw [if_pos c5] at H;have c5b0:(((AB l0 x6_1).f0).toList==a1.toList)=true:=beq_iff_eq.mpr c5;have c5b1:(((AB l0 x6_1).f0).toList != a1.toList)=false:=bne_eq_false_iff_eq.mpr c5;clear c5;have H':=AA.mk H;clear H;have p337:0<=(x6_1:Int):=xa;have q337:x6_1<(l0.length:Int):=xa;obtain ⟨ad337,e337,hx337_0,hx337_1,hx337_2,hx337_3,hx337_4,hx337_5,hx337_6,hx337_7,hx337_8,hx337_9,hx337_10⟩:=Dw HR0.out x6_1 p337 q337;cases e337;replace p337:=eq_true p337;replace q337:=eq_true q337;go_wp2;go_roundg k1;case measure=>have:=HK1.out;omega
      case rel=>exact ⟨(wrap64 (x5_1+1)),(wrap64 (x6_1+1)),xq,xq,H',⟨by have:=HK1.out;omega⟩,xd⟩
     ·rw [if_neg c5] at H;have c5b0:(((AB l0 x6_1).f0).toList==a1.toList)=false:=beq_eq_false_iff_ne.mpr c5;have c5b1:(((AB l0 x6_1).f0).toList != a1.toList)=true:=bne_iff_ne.mpr c5;have H':=AA.mk H;clear H;have p337:0<=(x6_1:Int):=xa;have q337:x6_1<(l0.length:Int):=xa;obtain ⟨ad337,e337,hx337_0,hx337_1,hx337_2,hx337_3,hx337_4,hx337_5,hx337_6,hx337_7,hx337_8,hx337_9,hx337_10⟩:=Dw HR0.out x6_1 p337 q337;cases e337;replace p337:=eq_true p337;replace q337:=eq_true q337;go_wp2;go_roundg k1;case measure=>have:=HK1.out;omega
      case rel=>exact ⟨(x5_1),(wrap64 (x6_1+1)),xq,xq,H',⟨by have:=HK1.out;omega⟩,xd⟩
    ·rw [if_neg c4] at H;exact absurd H (by simp)
   ·rw [if_neg c3] at H;have c3b0:decide (x6_1<(l0.length:Int))=false:=decide_eq_false c3;clear c3;obtain rfl:=Option.some.inj H;go_wp2;go_ret;exact ⟨xq,xd⟩
def Br.l0:Nat->List (Cz)->Int->Option (Bool)
 |0,_,_=>none
 |k+1,x0,x3=>if x3<(x0.length:Int) then (if 0<=x3 then ((CW.f k x0 ((AB x0 x3).f0)).bind λt339=>(if t339>12 then (some true) else (Br.l0 k x0 (wrap64 (x3+1))))) else (none)) else (some (decide ((x0.length:Int)>60)))
def Br.f (k:Nat) (l0:List (Cz)):Option (Bool):=Br.l0 k l0 0
set_option maxHeartbeats 8000000 in
set_option maxRecDepth 100000 in
theorem Br.calls (k:Nat) (A0:Option Addr) (c0:Nat) (l0:List (Cz)) (r:Bool) (w:World) (hr0:Kd.C k25 w A0 l0.length l0) (hc0:l0.length<=c0) (h:Br.f k l0=some r):
 Calls Tryz.prog 47 #[.slice A0 l0.length c0] w λe w'=>e= .returned (.bool r)/\BP w w':=by
 have HR0:=AA.mk hr0;have HC0:=AA.mk hc0;clear hr0 hc0;have H:(Br.l0 k l0 0)=some r:=h;clear h;have H':=AA.mk H;clear H;go_enter Tryz.func47,Tryz.ntmps47;go_wp2;go_loopg [3] k (λkq v3 w'=>∃ (x3_1:Int),v3= .int .i64 x3_1/\AA (Br.l0 kq l0 x3_1=some r)/\AA (kq<=k)/\BP w w');case atStart=>exact ⟨(0),xq,H',⟨Nat.le_refl _⟩,xd⟩
 case round=>
  clear H';obtain ⟨x3_1,rfl,HA,HK1,⟨m1,rfl⟩⟩:=hrel;cases gk with
  |zero=>exact absurd HA.out (by simp [Br.l0])
  |succ k1=>
   have H:=HA.out;clear HA;simp only [Br.l0] at H;by_cases c2:x3_1<(l0.length:Int)
   ·rw [if_pos c2] at H;have c2b0:decide (x3_1<(l0.length:Int))=true:=decide_eq_true c2;clear c2;by_cases c3:0<=x3_1
    ·rw [if_pos c3] at H;have c3b0:decide (0<=x3_1)=true:=decide_eq_true c3;clear c3;replace H:=Option.bind_eq_some_iff.mp H;obtain ⟨t339,A40,H⟩:=H;replace H:(if t339>12 then (some true) else (Br.l0 k1 l0 (wrap64 (x3_1+1))))=some r:=H;have A4:=AA.mk A40;clear A40;by_cases c5:t339>12
     ·rw [if_pos c5] at H;have c5b0:decide (12<t339)=true:=decide_eq_true c5;clear c5;obtain rfl:=Option.some.inj H;have p338:0<=(x3_1:Int):=xa;have q338:x3_1<(l0.length:Int):=xa;obtain ⟨ad338,e338,hx338_0,hx338_1,hx338_2,hx338_3,hx338_4,hx338_5,hx338_6,hx338_7,hx338_8,hx338_9,hx338_10⟩:=Dw HR0.out x3_1 p338 q338;cases e338;replace p338:=eq_true p338;replace q338:=eq_true q338;go_wp2_with (first|((with_reducible refine AQ (f:=74) rfl ?_);refine Ag (some 16) rfl rfl Tryz.func74 (by kernel_rfl) rfl #[.slice (some ad338) l0.length c0, .string ((AB l0 x3_1).f0)] rfl xg ?_;(with_reducible refine (CW.calls k1 _ _ l0 ((AB l0 x3_1).f0) t339 _ ?side1 ?side2 A4.out).mono ?_);(case side1=>repeat (first|exact HR0.out|(with_reducible refine Kd.Cy ?_ _)|(with_reducible refine Kd.C8 ?_ _)|(with_reducible refine Kd.Da ?_)));(case side2=>exact HC0.out);rintro e w' ⟨rfl,⟨nd,rfl⟩⟩;refine ⟨_,rfl,?_⟩));go_ret;exact ⟨xq,xd⟩
     ·rw [if_neg c5] at H;have c5b0:decide (12<t339)=false:=decide_eq_false c5;clear c5;have H':=AA.mk H;clear H;have p338:0<=(x3_1:Int):=xa;have q338:x3_1<(l0.length:Int):=xa;obtain ⟨ad338,e338,hx338_0,hx338_1,hx338_2,hx338_3,hx338_4,hx338_5,hx338_6,hx338_7,hx338_8,hx338_9,hx338_10⟩:=Dw HR0.out x3_1 p338 q338;cases e338;replace p338:=eq_true p338;replace q338:=eq_true q338;go_wp2_with (first|((with_reducible refine AQ (f:=74) rfl ?_);refine Ag (some 16) rfl rfl Tryz.func74 (by kernel_rfl) rfl #[.slice (some ad338) l0.length c0, .string ((AB l0 x3_1).f0)] rfl xg ?_;(with_reducible refine (CW.calls k1 _ _ l0 ((AB l0 x3_1).f0) t339 _ ?side1 ?side2 A4.out).mono ?_);(case side1=>repeat (first|exact HR0.out|(with_reducible refine Kd.Cy ?_ _)|(with_reducible refine Kd.C8 ?_ _)|(with_reducible refine Kd.Da ?_)));(case side2=>exact HC0.out);rintro e w' ⟨rfl,⟨nd,rfl⟩⟩;refine ⟨_,rfl,?_⟩));go_roundg k1;case measure=>have:=HK1.out;omega
      case rel=>exact ⟨(wrap64 (x3_1+1)),xq,H',⟨by have:=HK1.out;omega⟩,xd⟩
    ·rw [if_neg c3] at H;exact absurd H (by simp)
   ·rw [if_neg c2] at H;have c2b0:decide (x3_1<(l0.length:Int))=false:=decide_eq_false c2;clear c2;obtain rfl:=Option.some.inj H;go_wp2;go_ret;exact ⟨xq,xd⟩
def Bh.l0:Nat->ByteArray->List ByteArray->Int->Int->Option (List ByteArray)
 |0,_,_,_,_=>none
 |k+1,x0,x3,x4,x5=>if x5<(x0.size:Int) then (if 0<=x5 then (if (bt x0 x5)=46 then (if 0<=x4 then (if x4<=x5 then (if x5<=(x0.size:Int) then (if x3.length<8796093022208 then (Bh.l0 k x0 (x3++[x0.extract (x4:Int).toNat (x5:Int).toNat]) (wrap64 (x5+1)) (wrap64 (x5+1))) else (none)) else (none)) else (none)) else (none)) else (Bh.l0 k x0 x3 x4 (wrap64 (x5+1)))) else (none)) else (if 0<=x4 then (if x4<=(x0.size:Int) then (if x3.length<8796093022208 then (some (x3++[x0.extract (x4:Int).toNat x0.size])) else (none)) else (none)) else (none))
def Bh.f (k:Nat) (a0:ByteArray):Option (List ByteArray):=Bh.l0 k a0 ([]:List ByteArray) 0 0
set_option maxHeartbeats 8000000 in
set_option maxRecDepth 100000 in
theorem Bh.calls (k:Nat) (a0:ByteArray) (r:List ByteArray) (w:World) (h:Bh.f k a0=some r):
 Calls Tryz.prog 114 #[.string a0] w λe w'=>∃ v0_:Value,e= .returned (v0_)/\Kd.R Kd.string 9 w' w.heap.size (λ_=>True) v0_ r/\Below w.heap.size w w':=by
 have HB:=AA.mk (Below.refl w.heap.size w);have H:(Bh.l0 k a0 ([]:List ByteArray) 0 0)=some r:=h;clear h;have H':=AA.mk H;clear H;go_enter Tryz.func114,Tryz.ntmps114;go_wp2;go_loopg [3,4,5] k (λkq v3 v4 v5 w'=>∃ (x3_1:List ByteArray) (x4_1:Int) (x5_1:Int),v4= .int .i64 x4_1/\v5= .int .i64 x5_1/\AA (Bh.l0 kq a0 x3_1 x4_1 x5_1=some r)/\AA (kq<=k)/\AA (Kd.R Kd.string 9 w' w.heap.size (λ_=>True) v3 x3_1)/\AA (Below w.heap.size w w'));case atStart=>exact ⟨(([]:List ByteArray)),(0),(0),xq,xq,H',⟨Nat.le_refl _⟩,⟨by first|exact Kd.Em _ _ _ _ _|exact Kd.GA _ _ _ _ _|exact Kd.GD _ _ _ _ _|exact Kd.F8 _ _ _ _ _|exact Kd.F9 _ _ _ _ _⟩,⟨xb⟩⟩
 case round=>
  clear H';try clear c1
  obtain ⟨x3_1,x4_1,x5_1,rfl,rfl,HA,HK1,HO_3,HB⟩:=hrel;cases gk with
  |zero=>exact absurd HA.out (by simp [Bh.l0])
  |succ k1=>
   have H:=HA.out;clear HA;simp only [Bh.l0] at H;by_cases c2:x5_1<(a0.size:Int)
   ·rw [if_pos c2] at H;have c2b0:decide (x5_1<(a0.size:Int))=true:=decide_eq_true c2;clear c2;by_cases c3:0<=x5_1
    ·rw [if_pos c3] at H;have c3b0:decide (0<=x5_1)=true:=decide_eq_true c3;clear c3;by_cases c5:(bt a0 x5_1)=46
     ·rw [if_pos c5] at H;have c5b0:((bt a0 x5_1)==46)=true:=beq_iff_eq.mpr c5;have c5b1:((bt a0 x5_1) != 46)=false:=bne_eq_false_iff_eq.mpr c5;clear c5;by_cases c6:0<=x4_1
      ·rw [if_pos c6] at H;have c6b0:=eq_true c6;have c6b1:decide (0<=x4_1)=true:=decide_eq_true c6;clear c6;by_cases c7:x4_1<=x5_1
       ·rw [if_pos c7] at H;have c7b0:=eq_true c7;have c7b1:decide (x4_1<=x5_1)=true:=decide_eq_true c7;clear c7;by_cases c8:x5_1<=(a0.size:Int)
        ·rw [if_pos c8] at H;have c8b0:=eq_true c8;have c8b1:decide (x5_1<=(a0.size:Int))=true:=decide_eq_true c8;clear c8;by_cases c9:x3_1.length<8796093022208
         ·rw [if_pos c9] at H;have LMc9:=AA.mk c9;clear c9;obtain ⟨y340,hy340⟩:∃ y_:List ByteArray,y_=(x3_1++[a0.extract (x4_1:Int).toNat (x5_1:Int).toNat]):=⟨_,rfl⟩;replace H:(Bh.l0 k1 a0 y340 (wrap64 (x5_1+1)) (wrap64 (x5_1+1)))=some r:=by first|(rw [hy340];with_reducible exact H)|(have H2_:=(Option.bind_some _ _).symm.trans H;rw [hy340];with_reducible exact H2_)|(have H2_:=(Option.bind_some _ _).symm.trans H;with_reducible exact H2_)|with_reducible exact H|(rw [hy340];exact H)|exact H
          have Ny340:=AA.mk hy340;clear hy340;have H':=AA.mk H;clear H;have p4:0<=(x5_1:Int):=xa;have q4:x5_1<(a0.size:Int):=xa;have hx4:=CV a0 x5_1;replace p4:=eq_true p4;replace q4:=eq_true q4;go_wp2_with (first|((with_reducible refine DV (b:= .append) (xs:=#[.tmp 16, .tmp 21]) rfl ?_);at_builtin;refine Kd.Eb Kd.string (w0:=w) w.heap.size rfl (.tmp 16) (.tmp 21) 107 9 (.string ⟨#[]⟩) 16 rfl Tryz.underlying107 Xe rfl (by decide) (by omega) u3 x3_1 (a0.extract (x4_1:Int).toNat (x5_1:Int).toNat) [.string (a0.extract (x4_1:Int).toNat (x5_1:Int).toNat)] (λ_=>True) (λ_=>False) rfl rfl ?aP (λ_ hk=>hk.elim) ?aF ?aO ?aB ?aS ?aL ?_;(case aP=>exact rfl);(case aB=>exact xb);(case aF=>exact (λ_ _=>trivial));(case aO=>exact (xR HO_3));(case aS=>exact (Ai xb));(case aL=>have:=LMc9.out;omega);intro v341 w10 ho hb hg hat;rw [<-Ny340.out] at ho;have n0_:=AA.mk (hb);have n1_:=AA.mk (ho);clear HB;clear HO_3;have HB:=n0_;have HO342:=n1_;clear n0_ n1_;clear ho hb hg hat));go_roundg k1;case measure=>have:=HK1.out;omega
          case rel=>exact ⟨(y340),(wrap64 (x5_1+1)),(wrap64 (x5_1+1)),xq,xq,H',⟨by have:=HK1.out;omega⟩,⟨by (with_reducible repeat (first|apply Kd.BX|apply Kd.BZ|apply Kd.Bc));exact HO342.out⟩,⟨xb⟩⟩
         ·rw [if_neg c9] at H;exact absurd H (by simp)
        ·rw [if_neg c8] at H;exact absurd H (by simp)
       ·rw [if_neg c7] at H;exact absurd H (by simp)
      ·rw [if_neg c6] at H;exact absurd H (by simp)
     ·rw [if_neg c5] at H;have c5b0:((bt a0 x5_1)==46)=false:=beq_eq_false_iff_ne.mpr c5;have c5b1:((bt a0 x5_1) != 46)=true:=bne_iff_ne.mpr c5;have H':=AA.mk H;clear H;have p4:0<=(x5_1:Int):=xa;have q4:x5_1<(a0.size:Int):=xa;have hx4:=CV a0 x5_1;replace p4:=eq_true p4;replace q4:=eq_true q4;go_wp2;go_roundg k1;case measure=>have:=HK1.out;omega
      case rel=>exact ⟨(x3_1),(x4_1),(wrap64 (x5_1+1)),xq,xq,H',⟨by have:=HK1.out;omega⟩,⟨by (with_reducible repeat (first|apply Kd.BX|apply Kd.BZ|apply Kd.Bc));exact HO_3.out⟩,⟨xb⟩⟩
    ·rw [if_neg c3] at H;exact absurd H (by simp)
   ·rw [if_neg c2] at H;have c2b0:decide (x5_1<(a0.size:Int))=false:=decide_eq_false c2;clear c2;by_cases c11:0<=x4_1
    ·rw [if_pos c11] at H;have c11b0:=eq_true c11;have c11b1:decide (0<=x4_1)=true:=decide_eq_true c11;clear c11;by_cases c12:x4_1<=(a0.size:Int)
     ·rw [if_pos c12] at H;have c12b0:=eq_true c12;have c12b1:decide (x4_1<=(a0.size:Int))=true:=decide_eq_true c12;clear c12;by_cases c13:x3_1.length<8796093022208
      ·rw [if_pos c13] at H;have LMc13:=AA.mk c13;clear c13;obtain ⟨y343,hy343⟩:∃ y_:List ByteArray,y_=(x3_1++[a0.extract (x4_1:Int).toNat a0.size]):=⟨_,rfl⟩;replace H:(some y343)=some r:=by first|(rw [hy343];with_reducible exact H)|(have H2_:=(Option.bind_some _ _).symm.trans H;rw [hy343];with_reducible exact H2_)|(have H2_:=(Option.bind_some _ _).symm.trans H;with_reducible exact H2_)|with_reducible exact H|(rw [hy343];exact H)|exact H
       have Ny343:=AA.mk hy343;clear hy343;obtain rfl:=Option.some.inj H;go_wp2_with (first|((with_reducible refine DV (b:= .append) (xs:=#[.tmp 25, .tmp 29]) rfl ?_);at_builtin;refine Kd.Eb Kd.string (w0:=w) w.heap.size rfl (.tmp 25) (.tmp 29) 107 9 (.string ⟨#[]⟩) 16 rfl Tryz.underlying107 Xe rfl (by decide) (by omega) u3 x3_1 (a0.extract (x4_1:Int).toNat a0.size) [.string (a0.extract (x4_1:Int).toNat a0.size)] (λ_=>True) (λ_=>False) rfl rfl ?aP (λ_ hk=>hk.elim) ?aF ?aO ?aB ?aS ?aL ?_;(case aP=>exact rfl);(case aB=>exact xb);(case aF=>exact (λ_ _=>trivial));(case aO=>exact (xR HO_3));(case aS=>exact (Ai xb));(case aL=>have:=LMc13.out;omega);intro v344 w14 ho hb hg hat;rw [<-Ny343.out] at ho;have n0_:=AA.mk (hb);have n1_:=AA.mk (ho);clear HB;clear HO_3;have HB:=n0_;have HO345:=n1_;clear n0_ n1_;clear ho hb hg hat));go_ret;exact ⟨_,xe,by (with_reducible repeat (first|apply Kd.BX|apply Kd.BZ|apply Kd.Bc));exact HO345.out,xb⟩
      ·rw [if_neg c13] at H;exact absurd H (by simp)
     ·rw [if_neg c12] at H;exact absurd H (by simp)
    ·rw [if_neg c11] at H;exact absurd H (by simp)
end Go.Proofs.YtfggjdkccdkogaaGreatDoor.Print
end
section
namespace Go.Proofs.YtfggjdkccdkogaaGreatDoor.Print
open RowKit Ac Aq Aw
attribute [local go_sem] DC DD DX DY Co Cq DI DJ
set_option linter.unusedVariables false
set_option linter.unusedSimpArgs false
mutual
def Ap.j0:Nat->ByteArray->Bool->Option (Bool)
 |0,_,_=>none
 |k+1,x0,x24=>if x24=true then (some false) else (Ap.l0 k x0 0)
def Ap.l0:Nat->ByteArray->Int->Option (Bool)
 |0,_,_=>none
 |k+1,x0,x3=>if x3<(x0.size:Int) then (if 0<=x3 then (if (bt x0 x3)>=97 then (if ((bt x0 x3)<=122) then (Ap.l0 k x0 (wrap64 (x3+1))) else (if (bt x0 x3)>=48 then (if ((bt x0 x3)<=57) then (Ap.l0 k x0 (wrap64 (x3+1))) else (if (bt x0 x3)=45 then (Ap.l0 k x0 (wrap64 (x3+1))) else (some false))) else (if (bt x0 x3)=45 then (Ap.l0 k x0 (wrap64 (x3+1))) else (some false)))) else (if (bt x0 x3)>=48 then (if ((bt x0 x3)<=57) then (Ap.l0 k x0 (wrap64 (x3+1))) else (if (bt x0 x3)=45 then (Ap.l0 k x0 (wrap64 (x3+1))) else (some false))) else (if (bt x0 x3)=45 then (Ap.l0 k x0 (wrap64 (x3+1))) else (some false)))) else (none)) else (some true)
end
def Ap.f (k:Nat) (a0:ByteArray):Option (Bool):=if (a0.size:Int)<1 then (Ap.j0 k a0 true) else (if (a0.size:Int)>63 then (Ap.j0 k a0 true) else (if 0<(a0.size:Int) then (if (bt a0 0)=45 then (Ap.j0 k a0 true) else (if 0<=(wrap64 ((a0.size:Int) - 1)) then (if (wrap64 ((a0.size:Int) - 1))<(a0.size:Int) then (Ap.j0 k a0 ((bt a0 (wrap64 ((a0.size:Int) - 1)))==45)) else (none)) else (none))) else (none)))
set_option maxHeartbeats 8000000 in
set_option maxRecDepth 100000 in
theorem Ap.calls (k:Nat) (a0:ByteArray) (r:Bool) (w:World) (h:Ap.f k a0=some r):
 Calls Tryz.prog 115 #[.string a0] w λe w'=>e= .returned (.bool r)/\BP w w':=by
 have H:(if (a0.size:Int)<1 then (Ap.j0 k a0 true) else (if (a0.size:Int)>63 then (Ap.j0 k a0 true) else (if 0<(a0.size:Int) then (if (bt a0 0)=45 then (Ap.j0 k a0 true) else (if 0<=(wrap64 ((a0.size:Int) - 1)) then (if (wrap64 ((a0.size:Int) - 1))<(a0.size:Int) then (Ap.j0 k a0 ((bt a0 (wrap64 ((a0.size:Int) - 1)))==45)) else (none)) else (none))) else (none))))=some r:=h;clear h;have HC2:=AA.mk H;clear H;go_enter Tryz.func115,Tryz.ntmps115;go_upto_region 1 with (fail)
 go_cut [24] (λv24 wc=>∃ (kq:Nat) (x24_1:Bool),v24= .bool x24_1/\AA (Ap.j0 kq a0 x24_1=some r)/\AA (kq<=k)/\BP w wc);case first=>
  have H:=HC2.out;clear HC2;by_cases c3:(a0.size:Int)<1
  ·rw [if_pos c3] at H;have c3b0:decide ((a0.size:Int)<1)=true:=decide_eq_true c3;have c3b1:decide (a0.size<1)=true:=decide_eq_true (by omega);clear c3;(first|rw [c3b0]|(simp only [CE,CU];rw [c3b0])|skip);have H':=AA.mk H;clear H;go_wp2;go_meet;case rel=>exact ⟨_,(true),xq,H',⟨by first|omega|exact Nat.le_refl _⟩,xd⟩
  ·rw [if_neg c3] at H;have c3b0:decide ((a0.size:Int)<1)=false:=decide_eq_false c3;have c3b1:decide (a0.size<1)=false:=decide_eq_false (by omega);clear c3;(first|rw [c3b0]|(simp only [CE,CU];rw [c3b0])|skip);by_cases c4:(a0.size:Int)>63
   ·rw [if_pos c4] at H;have c4b0:decide (63<(a0.size:Int))=true:=decide_eq_true c4;have c4b1:decide (63<a0.size)=true:=decide_eq_true (by omega);clear c4;have H':=AA.mk H;clear H;go_wp2;go_meet;case rel=>exact ⟨_,(true),xq,H',⟨by first|omega|exact Nat.le_refl _⟩,xd⟩
   ·rw [if_neg c4] at H;have c4b0:decide (63<(a0.size:Int))=false:=decide_eq_false c4;have c4b1:decide (63<a0.size)=false:=decide_eq_false (by omega);clear c4;by_cases c5:0<(a0.size:Int)
    ·rw [if_pos c5] at H;have c5b0:decide (0<(a0.size:Int))=true:=decide_eq_true c5;have c5b1:decide (0<a0.size)=true:=decide_eq_true (by omega);clear c5;by_cases c7:(bt a0 0)=45
     ·rw [if_pos c7] at H;have c7b0:((bt a0 0)==45)=true:=beq_iff_eq.mpr c7;have c7b1:((bt a0 0) != 45)=false:=bne_eq_false_iff_eq.mpr c7;clear c7;have H':=AA.mk H;clear H;have p6:0<=(0:Int):=(by omega);have q6:0<a0.size:=(by have:(0:Int)<(a0.size:Int):=xa;omega);have hx6:∀ h:0<a0.size,((a0[0]'h).toNat:Int)=bt a0 0:=CV a0 0;clear p6;have qi6:(0<(a0.size:Int))=True:=eq_true (xa);replace q6:=eq_true q6;go_wp2;go_meet;case rel=>exact ⟨_,(true),xq,H',⟨by first|omega|exact Nat.le_refl _⟩,xd⟩
     ·rw [if_neg c7] at H;have c7b0:((bt a0 0)==45)=false:=beq_eq_false_iff_ne.mpr c7;have c7b1:((bt a0 0) != 45)=true:=bne_iff_ne.mpr c7;obtain ⟨ji8,hji8⟩:∃ j_:Int,(wrap64 ((a0.size:Int) - 1))=j_:=⟨_,rfl⟩;replace H:(if 0<=(ji8) then (if (ji8)<(a0.size:Int) then (Ap.j0 k a0 ((bt a0 (ji8))==45)) else (none)) else (none))=some r:=by first|(rw [hji8] at H;exact H)|(simp only [hji8] at H⊢;exact H)
      have hji8w:(IntKind.i64.wrap ((a0.size:Int) - 1))=ji8:=(CE _).trans hji8;by_cases c9:0<=(ji8)
      ·rw [if_pos c9] at H;have c9b0:decide (0<=(ji8))=true:=decide_eq_true c9;clear c9;by_cases c10:(ji8)<(a0.size:Int)
       ·rw [if_pos c10] at H;have c10b0:decide ((ji8)<(a0.size:Int))=true:=decide_eq_true c10;clear c10;have H':=AA.mk H;clear H;have p6:0<=(0:Int):=(by omega);have q6:0<a0.size:=(by have:(0:Int)<(a0.size:Int):=xa;omega);have hx6:∀ h:0<a0.size,((a0[0]'h).toNat:Int)=bt a0 0:=CV a0 0;clear p6;have qi6:(0<(a0.size:Int))=True:=eq_true (xa);replace q6:=eq_true q6;have p11:0<=((ji8):Int):=xa;have q11:(ji8)<(a0.size:Int):=xa;have hx11:=CV a0 (ji8);replace p11:=eq_true p11;replace q11:=eq_true q11;go_wp2;go_meet;case rel=>exact ⟨_,(((bt a0 (ji8))==45)),(by first|rfl|(simp;done)|(simp only [<-hji8]<;>(first|rfl|simp))|(simp [*];done)),H',⟨by first|omega|exact Nat.le_refl _⟩,xd⟩
       ·rw [if_neg c10] at H;exact absurd H (by simp)
      ·rw [if_neg c9] at H;exact absurd H (by simp)
    ·rw [if_neg c5] at H;exact absurd H (by simp)
 case rest=>
  clear HC2;try clear c1
  try clear p1
  try clear q1
  try clear hx1
  try clear p2
  try clear c3
  try clear c3b0
  try clear c3b1
  try clear c4
  try clear c4b0
  try clear c4b1
  try clear c5
  try clear c5b0
  try clear c5b1
  try clear p6
  try clear q6
  try clear hx6
  try clear qi6
  try clear c7
  try clear c7b0
  try clear c7b1
  try clear c9
  try clear c9b0
  try clear c10
  try clear c10b0
  try clear c11
  try clear p11
  try clear q11
  try clear hx11
  try clear p11
  try clear p6
  try clear q11
  try clear q6
  obtain ⟨kq,x24_1,rfl,HA,HJ1,⟨mc1,rfl⟩⟩:=hcut;cases kq with
  |zero=>exact absurd HA.out (by simp [Ap.j0])
  |succ kj1=>
   have H:=HA.out;clear HA;simp only [Ap.j0] at H;by_cases c12:x24_1=true
   ·subst c12;have H1:(some false)=some r:=by rw [if_pos rfl] at H;exact H
    clear H;have H:=H1;clear H1;obtain rfl:=Option.some.inj H;go_wp2;go_ret;exact ⟨xq,xd⟩
   ·replace c12:=Bool.eq_false_iff.mpr c12;subst c12;have H1:(Ap.l0 kj1 a0 0)=some r:=by rw [if_neg (show ¬(false=true) by decide)] at H;exact H
    clear H;have H:=H1;clear H1;have H':=AA.mk H;clear H;go_wp2;go_loopg [3] kj1 (λkq v3 w'=>∃ (x3_2:Int),v3= .int .i64 x3_2/\AA (Ap.l0 kq a0 x3_2=some r)/\AA (kq<=kj1)/\BP w w');case atStart=>exact ⟨(0),xq,H',⟨Nat.le_refl _⟩,xd⟩
    case round=>
     clear H';try clear c1
     try clear p1
     try clear q1
     try clear hx1
     try clear p2
     try clear c3
     try clear c3b0
     try clear c3b1
     try clear c4
     try clear c4b0
     try clear c4b1
     try clear c5
     try clear c5b0
     try clear c5b1
     try clear p6
     try clear q6
     try clear hx6
     try clear qi6
     try clear c7
     try clear c7b0
     try clear c7b1
     try clear c9
     try clear c9b0
     try clear c10
     try clear c10b0
     try clear c11
     try clear p11
     try clear q11
     try clear hx11
     try clear c12
     try clear p1
     try clear p11
     try clear p2
     try clear p6
     try clear q1
     try clear q11
     try clear q6
     obtain ⟨x3_2,rfl,HA,HK2,⟨m2,rfl⟩⟩:=hrel;cases gk with
     |zero=>exact absurd HA.out (by simp [Ap.l0])
     |succ k2=>
      have H:=HA.out;clear HA;simp only [Ap.l0] at H;by_cases c13:x3_2<(a0.size:Int)
      ·rw [if_pos c13] at H;have c13b0:decide (x3_2<(a0.size:Int))=true:=decide_eq_true c13;clear c13;by_cases c14:0<=x3_2
       ·rw [if_pos c14] at H;have c14b0:decide (0<=x3_2)=true:=decide_eq_true c14;clear c14;by_cases c16:(bt a0 x3_2)>=97
        ·rw [if_pos c16] at H;have c16b0:decide (97<=(bt a0 x3_2))=true:=decide_eq_true c16;clear c16;by_cases c18:((bt a0 x3_2)<=122)
         ·rw [if_pos c18] at H;have c18b0:decide ((bt a0 x3_2)<=122)=true:=decide_eq_true c18;clear c18;have H':=AA.mk H;clear H;have p15:0<=(x3_2:Int):=xa;have q15:x3_2<(a0.size:Int):=xa;have hx15:=CV a0 x3_2;replace p15:=eq_true p15;replace q15:=eq_true q15;have p17:0<=(x3_2:Int):=xa;have q17:x3_2<(a0.size:Int):=xa;have hx17:=CV a0 x3_2;replace p17:=eq_true p17;replace q17:=eq_true q17;go_wp2;go_roundg k2;case measure=>have:=HJ1.out;have:=HK2.out;omega
          case rel=>exact ⟨(wrap64 (x3_2+1)),xq,H',⟨by have:=HJ1.out;have:=HK2.out;omega⟩,xd⟩
         ·rw [if_neg c18] at H;have c18b0:decide ((bt a0 x3_2)<=122)=false:=decide_eq_false c18;clear c18;by_cases c20:(bt a0 x3_2)>=48
          ·rw [if_pos c20] at H;have c20b0:decide (48<=(bt a0 x3_2))=true:=decide_eq_true c20;clear c20;by_cases c22:((bt a0 x3_2)<=57)
           ·rw [if_pos c22] at H;have c22b0:decide ((bt a0 x3_2)<=57)=true:=decide_eq_true c22;clear c22;have H':=AA.mk H;clear H;have p15:0<=(x3_2:Int):=xa;have q15:x3_2<(a0.size:Int):=xa;have hx15:=CV a0 x3_2;replace p15:=eq_true p15;replace q15:=eq_true q15;have p17:0<=(x3_2:Int):=xa;have q17:x3_2<(a0.size:Int):=xa;have hx17:=CV a0 x3_2;replace p17:=eq_true p17;replace q17:=eq_true q17;have p19:0<=(x3_2:Int):=xa;have q19:x3_2<(a0.size:Int):=xa;have hx19:=CV a0 x3_2;replace p19:=eq_true p19;replace q19:=eq_true q19;have p21:0<=(x3_2:Int):=xa;have q21:x3_2<(a0.size:Int):=xa;have hx21:=CV a0 x3_2;replace p21:=eq_true p21;replace q21:=eq_true q21;go_wp2;go_roundg k2;case measure=>have:=HJ1.out;have:=HK2.out;omega
            case rel=>exact ⟨(wrap64 (x3_2+1)),xq,H',⟨by have:=HJ1.out;have:=HK2.out;omega⟩,xd⟩
           ·rw [if_neg c22] at H;have c22b0:decide ((bt a0 x3_2)<=57)=false:=decide_eq_false c22;clear c22;by_cases c24:(bt a0 x3_2)=45
            ·rw [if_pos c24] at H;have c24b0:((bt a0 x3_2)==45)=true:=beq_iff_eq.mpr c24;have c24b1:((bt a0 x3_2) != 45)=false:=bne_eq_false_iff_eq.mpr c24;clear c24;have H':=AA.mk H;clear H;have p15:0<=(x3_2:Int):=xa;have q15:x3_2<(a0.size:Int):=xa;have hx15:=CV a0 x3_2;replace p15:=eq_true p15;replace q15:=eq_true q15;have p17:0<=(x3_2:Int):=xa;have q17:x3_2<(a0.size:Int):=xa;have hx17:=CV a0 x3_2;replace p17:=eq_true p17;replace q17:=eq_true q17;have p19:0<=(x3_2:Int):=xa;have q19:x3_2<(a0.size:Int):=xa;have hx19:=CV a0 x3_2;replace p19:=eq_true p19;replace q19:=eq_true q19;have p21:0<=(x3_2:Int):=xa;have q21:x3_2<(a0.size:Int):=xa;have hx21:=CV a0 x3_2;replace p21:=eq_true p21;replace q21:=eq_true q21;have p23:0<=(x3_2:Int):=xa;have q23:x3_2<(a0.size:Int):=xa;have hx23:=CV a0 x3_2;replace p23:=eq_true p23;replace q23:=eq_true q23;go_wp2;go_roundg k2;case measure=>have:=HJ1.out;have:=HK2.out;omega
             case rel=>exact ⟨(wrap64 (x3_2+1)),xq,H',⟨by have:=HJ1.out;have:=HK2.out;omega⟩,xd⟩
            ·rw [if_neg c24] at H;have c24b0:((bt a0 x3_2)==45)=false:=beq_eq_false_iff_ne.mpr c24;have c24b1:((bt a0 x3_2) != 45)=true:=bne_iff_ne.mpr c24;obtain rfl:=Option.some.inj H;have p15:0<=(x3_2:Int):=xa;have q15:x3_2<(a0.size:Int):=xa;have hx15:=CV a0 x3_2;replace p15:=eq_true p15;replace q15:=eq_true q15;have p17:0<=(x3_2:Int):=xa;have q17:x3_2<(a0.size:Int):=xa;have hx17:=CV a0 x3_2;replace p17:=eq_true p17;replace q17:=eq_true q17;have p19:0<=(x3_2:Int):=xa;have q19:x3_2<(a0.size:Int):=xa;have hx19:=CV a0 x3_2;replace p19:=eq_true p19;replace q19:=eq_true q19;have p21:0<=(x3_2:Int):=xa;have q21:x3_2<(a0.size:Int):=xa;have hx21:=CV a0 x3_2;replace p21:=eq_true p21;replace q21:=eq_true q21;have p23:0<=(x3_2:Int):=xa;have q23:x3_2<(a0.size:Int):=xa;have hx23:=CV a0 x3_2;replace p23:=eq_true p23;replace q23:=eq_true q23;go_wp2;go_ret;exact ⟨xq,xd⟩
          ·rw [if_neg c20] at H;have c20b0:decide (48<=(bt a0 x3_2))=false:=decide_eq_false c20;clear c20;by_cases c26:(bt a0 x3_2)=45
           ·rw [if_pos c26] at H;have c26b0:((bt a0 x3_2)==45)=true:=beq_iff_eq.mpr c26;have c26b1:((bt a0 x3_2) != 45)=false:=bne_eq_false_iff_eq.mpr c26;clear c26;have H':=AA.mk H;clear H;have p15:0<=(x3_2:Int):=xa;have q15:x3_2<(a0.size:Int):=xa;have hx15:=CV a0 x3_2;replace p15:=eq_true p15;replace q15:=eq_true q15;have p17:0<=(x3_2:Int):=xa;have q17:x3_2<(a0.size:Int):=xa;have hx17:=CV a0 x3_2;replace p17:=eq_true p17;replace q17:=eq_true q17;have p19:0<=(x3_2:Int):=xa;have q19:x3_2<(a0.size:Int):=xa;have hx19:=CV a0 x3_2;replace p19:=eq_true p19;replace q19:=eq_true q19;have p25:0<=(x3_2:Int):=xa;have q25:x3_2<(a0.size:Int):=xa;have hx25:=CV a0 x3_2;replace p25:=eq_true p25;replace q25:=eq_true q25;go_wp2;go_roundg k2;case measure=>have:=HJ1.out;have:=HK2.out;omega
            case rel=>exact ⟨(wrap64 (x3_2+1)),xq,H',⟨by have:=HJ1.out;have:=HK2.out;omega⟩,xd⟩
           ·rw [if_neg c26] at H;have c26b0:((bt a0 x3_2)==45)=false:=beq_eq_false_iff_ne.mpr c26;have c26b1:((bt a0 x3_2) != 45)=true:=bne_iff_ne.mpr c26;obtain rfl:=Option.some.inj H;have p15:0<=(x3_2:Int):=xa;have q15:x3_2<(a0.size:Int):=xa;have hx15:=CV a0 x3_2;replace p15:=eq_true p15;replace q15:=eq_true q15;have p17:0<=(x3_2:Int):=xa;have q17:x3_2<(a0.size:Int):=xa;have hx17:=CV a0 x3_2;replace p17:=eq_true p17;replace q17:=eq_true q17;have p19:0<=(x3_2:Int):=xa;have q19:x3_2<(a0.size:Int):=xa;have hx19:=CV a0 x3_2;replace p19:=eq_true p19;replace q19:=eq_true q19;have p25:0<=(x3_2:Int):=xa;have q25:x3_2<(a0.size:Int):=xa;have hx25:=CV a0 x3_2;replace p25:=eq_true p25;replace q25:=eq_true q25;go_wp2;go_ret;exact ⟨xq,xd⟩
        ·rw [if_neg c16] at H;have c16b0:decide (97<=(bt a0 x3_2))=false:=decide_eq_false c16;clear c16;by_cases c28:(bt a0 x3_2)>=48
         ·rw [if_pos c28] at H;have c28b0:decide (48<=(bt a0 x3_2))=true:=decide_eq_true c28;clear c28;by_cases c30:((bt a0 x3_2)<=57)
          ·rw [if_pos c30] at H;have c30b0:decide ((bt a0 x3_2)<=57)=true:=decide_eq_true c30;clear c30;have H':=AA.mk H;clear H;have p15:0<=(x3_2:Int):=xa;have q15:x3_2<(a0.size:Int):=xa;have hx15:=CV a0 x3_2;replace p15:=eq_true p15;replace q15:=eq_true q15;have p27:0<=(x3_2:Int):=xa;have q27:x3_2<(a0.size:Int):=xa;have hx27:=CV a0 x3_2;replace p27:=eq_true p27;replace q27:=eq_true q27;have p29:0<=(x3_2:Int):=xa;have q29:x3_2<(a0.size:Int):=xa;have hx29:=CV a0 x3_2;replace p29:=eq_true p29;replace q29:=eq_true q29;go_wp2;go_roundg k2;case measure=>have:=HJ1.out;have:=HK2.out;omega
           case rel=>exact ⟨(wrap64 (x3_2+1)),xq,H',⟨by have:=HJ1.out;have:=HK2.out;omega⟩,xd⟩
          ·rw [if_neg c30] at H;have c30b0:decide ((bt a0 x3_2)<=57)=false:=decide_eq_false c30;clear c30;by_cases c32:(bt a0 x3_2)=45
           ·rw [if_pos c32] at H;have c32b0:((bt a0 x3_2)==45)=true:=beq_iff_eq.mpr c32;have c32b1:((bt a0 x3_2) != 45)=false:=bne_eq_false_iff_eq.mpr c32;clear c32;have H':=AA.mk H;clear H;have p15:0<=(x3_2:Int):=xa;have q15:x3_2<(a0.size:Int):=xa;have hx15:=CV a0 x3_2;replace p15:=eq_true p15;replace q15:=eq_true q15;have p27:0<=(x3_2:Int):=xa;have q27:x3_2<(a0.size:Int):=xa;have hx27:=CV a0 x3_2;replace p27:=eq_true p27;replace q27:=eq_true q27;have p29:0<=(x3_2:Int):=xa;have q29:x3_2<(a0.size:Int):=xa;have hx29:=CV a0 x3_2;replace p29:=eq_true p29;replace q29:=eq_true q29;have p31:0<=(x3_2:Int):=xa;have q31:x3_2<(a0.size:Int):=xa;have hx31:=CV a0 x3_2;replace p31:=eq_true p31;replace q31:=eq_true q31;go_wp2;go_roundg k2;case measure=>have:=HJ1.out;have:=HK2.out;omega
            case rel=>exact ⟨(wrap64 (x3_2+1)),xq,H',⟨by have:=HJ1.out;have:=HK2.out;omega⟩,xd⟩
           ·rw [if_neg c32] at H;have c32b0:((bt a0 x3_2)==45)=false:=beq_eq_false_iff_ne.mpr c32;have c32b1:((bt a0 x3_2) != 45)=true:=bne_iff_ne.mpr c32;obtain rfl:=Option.some.inj H;have p15:0<=(x3_2:Int):=xa;have q15:x3_2<(a0.size:Int):=xa;have hx15:=CV a0 x3_2;replace p15:=eq_true p15;replace q15:=eq_true q15;have p27:0<=(x3_2:Int):=xa;have q27:x3_2<(a0.size:Int):=xa;have hx27:=CV a0 x3_2;replace p27:=eq_true p27;replace q27:=eq_true q27;have p29:0<=(x3_2:Int):=xa;have q29:x3_2<(a0.size:Int):=xa;have hx29:=CV a0 x3_2;replace p29:=eq_true p29;replace q29:=eq_true q29;have p31:0<=(x3_2:Int):=xa;have q31:x3_2<(a0.size:Int):=xa;have hx31:=CV a0 x3_2;replace p31:=eq_true p31;replace q31:=eq_true q31;go_wp2;go_ret;exact ⟨xq,xd⟩
         ·rw [if_neg c28] at H;have c28b0:decide (48<=(bt a0 x3_2))=false:=decide_eq_false c28;clear c28;by_cases c34:(bt a0 x3_2)=45
          ·rw [if_pos c34] at H;have c34b0:((bt a0 x3_2)==45)=true:=beq_iff_eq.mpr c34;have c34b1:((bt a0 x3_2) != 45)=false:=bne_eq_false_iff_eq.mpr c34;clear c34;have H':=AA.mk H;clear H;have p15:0<=(x3_2:Int):=xa;have q15:x3_2<(a0.size:Int):=xa;have hx15:=CV a0 x3_2;replace p15:=eq_true p15;replace q15:=eq_true q15;have p27:0<=(x3_2:Int):=xa;have q27:x3_2<(a0.size:Int):=xa;have hx27:=CV a0 x3_2;replace p27:=eq_true p27;replace q27:=eq_true q27;have p33:0<=(x3_2:Int):=xa;have q33:x3_2<(a0.size:Int):=xa;have hx33:=CV a0 x3_2;replace p33:=eq_true p33;replace q33:=eq_true q33;go_wp2;go_roundg k2;case measure=>have:=HJ1.out;have:=HK2.out;omega
           case rel=>exact ⟨(wrap64 (x3_2+1)),xq,H',⟨by have:=HJ1.out;have:=HK2.out;omega⟩,xd⟩
          ·rw [if_neg c34] at H;have c34b0:((bt a0 x3_2)==45)=false:=beq_eq_false_iff_ne.mpr c34;have c34b1:((bt a0 x3_2) != 45)=true:=bne_iff_ne.mpr c34;obtain rfl:=Option.some.inj H;have p15:0<=(x3_2:Int):=xa;have q15:x3_2<(a0.size:Int):=xa;have hx15:=CV a0 x3_2;replace p15:=eq_true p15;replace q15:=eq_true q15;have p27:0<=(x3_2:Int):=xa;have q27:x3_2<(a0.size:Int):=xa;have hx27:=CV a0 x3_2;replace p27:=eq_true p27;replace q27:=eq_true q27;have p33:0<=(x3_2:Int):=xa;have q33:x3_2<(a0.size:Int):=xa;have hx33:=CV a0 x3_2;replace p33:=eq_true p33;replace q33:=eq_true q33;go_wp2;go_ret;exact ⟨xq,xd⟩
       ·rw [if_neg c14] at H;exact absurd H (by simp)
      ·rw [if_neg c13] at H;have c13b0:decide (x3_2<(a0.size:Int))=false:=decide_eq_false c13;clear c13;obtain rfl:=Option.some.inj H;go_wp2;go_ret;exact ⟨xq,xd⟩
end Go.Proofs.YtfggjdkccdkogaaGreatDoor.Print
end
