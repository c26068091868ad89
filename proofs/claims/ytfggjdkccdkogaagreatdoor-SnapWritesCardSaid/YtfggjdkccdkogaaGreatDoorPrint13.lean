/- Printed by a program of this claim's session (xprint.py): the machine's side: each Go function as a Lean function, and that a call of it comes to what that tells; the row of a statement. No condition. -/
import Derived.Test.YtfggjdkccdkogaaGreatDoorPrint12
namespace Go.Proofs.YtfggjdkccdkogaaGreatDoor.Print
open RowKit Ac Aq Aw
attribute [local go_sem] DC DD DX DY Co Cq DI DJ
set_option linter.unusedVariables false
set_option linter.unusedSimpArgs false
attribute [local go_sem high] Um
def Bf.l0:Nat->Int->Int->Int->Int->Int->Option (Int)
 |0,_,_,_,_,_=>none
 |k+1,x0,x1,x5,x6,x7=>if x7<32 then ((CP.f k x0 x7).bind λt320=>((CP.f k x1 x7).bind λt321=>(if t320=t321 then (Bf.l0 k x0 x1 x5 (wrap64 (2*x6)) (wrap64 (x7+1))) else (Bf.l0 k x0 x1 (wrap64 (x5+x6)) (wrap64 (2*x6)) (wrap64 (x7+1)))))) else (some x5)
def Bf.f (k:Nat) (a0:Int) (a1:Int):Option (Int):=Bf.l0 k a0 a1 0 1 0
set_option maxHeartbeats 8000000 in
set_option maxRecDepth 100000 in
theorem Bf.calls (k:Nat) (a0:Int) (a1:Int) (r:Int) (w:World) (h:Bf.f k a0 a1=some r):
 Calls Tryz.prog 97 #[.int .i64 a0, .int .i64 a1] w λe w'=>e= .returned (.int .i64 r)/\BP w w':=by
 have H:(Bf.l0 k a0 a1 0 1 0)=some r:=h;clear h;have H':=AA.mk H;clear H;go_enter Tryz.func97,Tryz.ntmps97;go_wp2;go_loopg [5,6,7] k (λkq v5 v6 v7 w'=>∃ (x5_1:Int) (x6_1:Int) (x7_1:Int),v5= .int .i64 x5_1/\v6= .int .i64 x6_1/\v7= .int .i64 x7_1/\AA (Bf.l0 kq a0 a1 x5_1 x6_1 x7_1=some r)/\AA (kq<=k)/\BP w w');case atStart=>exact ⟨(0),(1),(0),xq,xq,xq,H',⟨Nat.le_refl _⟩,xd⟩
 case round=>
  clear H';try clear p2
  obtain ⟨x5_1,x6_1,x7_1,rfl,rfl,rfl,HA,HK1,⟨m1,rfl⟩⟩:=hrel;cases gk with
  |zero=>exact absurd HA.out (by simp [Bf.l0])
  |succ k1=>
   have H:=HA.out;clear HA;simp only [Bf.l0] at H;by_cases c3:x7_1<32
   ·rw [if_pos c3] at H;have c3b0:decide (x7_1<32)=true:=decide_eq_true c3;clear c3;replace H:=Option.bind_eq_some_iff.mp H;obtain ⟨t320,A40,H⟩:=H;replace H:((CP.f k1 a1 x7_1).bind λt321=>(if t320=t321 then (Bf.l0 k1 a0 a1 x5_1 (wrap64 (2*x6_1)) (wrap64 (x7_1+1))) else (Bf.l0 k1 a0 a1 (wrap64 (x5_1+x6_1)) (wrap64 (2*x6_1)) (wrap64 (x7_1+1)))))=some r:=H;have A4:=AA.mk A40;clear A40;replace H:=Option.bind_eq_some_iff.mp H;obtain ⟨t321,A50,H⟩:=H;try dsimp only at H
    have A5:=AA.mk A50;clear A50;by_cases c6:t320=t321
    ·rw [if_pos c6] at H;have c6b0:(t320==t321)=true:=beq_iff_eq.mpr c6;have c6b1:(t320 != t321)=false:=bne_eq_false_iff_eq.mpr c6;clear c6;have H':=AA.mk H;clear H;go_wp2_with (first|((with_reducible refine AQ (f:=120) rfl ?_);refine Ag (some 14) rfl rfl Tryz.func120 (by kernel_rfl) rfl #[.int .i64 a0, .int .i64 x7_1] rfl xg ?_;(with_reducible refine (CP.calls k1 a0 x7_1 t320 _ A4.out).mono ?_);rintro e w' ⟨rfl,⟨nd,rfl⟩⟩;refine ⟨_,rfl,?_⟩)|((with_reducible refine AQ (f:=120) rfl ?_);refine Ag (some 17) rfl rfl Tryz.func120 (by kernel_rfl) rfl #[.int .i64 a1, .int .i64 x7_1] rfl xg ?_;(with_reducible refine (CP.calls k1 a1 x7_1 t321 _ A5.out).mono ?_);rintro e w' ⟨rfl,⟨nd,rfl⟩⟩;refine ⟨_,rfl,?_⟩));go_roundg k1;case measure=>have:=HK1.out;omega
     case rel=>exact ⟨(x5_1),(wrap64 (2*x6_1)),(wrap64 (x7_1+1)),xq,xq,xq,H',⟨by have:=HK1.out;omega⟩,xd⟩
    ·rw [if_neg c6] at H;have c6b0:(t320==t321)=false:=beq_eq_false_iff_ne.mpr c6;have c6b1:(t320 != t321)=true:=bne_iff_ne.mpr c6;have H':=AA.mk H;clear H;go_wp2_with (first|((with_reducible refine AQ (f:=120) rfl ?_);refine Ag (some 14) rfl rfl Tryz.func120 (by kernel_rfl) rfl #[.int .i64 a0, .int .i64 x7_1] rfl xg ?_;(with_reducible refine (CP.calls k1 a0 x7_1 t320 _ A4.out).mono ?_);rintro e w' ⟨rfl,⟨nd,rfl⟩⟩;refine ⟨_,rfl,?_⟩)|((with_reducible refine AQ (f:=120) rfl ?_);refine Ag (some 17) rfl rfl Tryz.func120 (by kernel_rfl) rfl #[.int .i64 a1, .int .i64 x7_1] rfl xg ?_;(with_reducible refine (CP.calls k1 a1 x7_1 t321 _ A5.out).mono ?_);rintro e w' ⟨rfl,⟨nd,rfl⟩⟩;refine ⟨_,rfl,?_⟩));go_roundg k1;case measure=>have:=HK1.out;omega
     case rel=>exact ⟨(wrap64 (x5_1+x6_1)),(wrap64 (2*x6_1)),(wrap64 (x7_1+1)),xq,xq,xq,H',⟨by have:=HK1.out;omega⟩,xd⟩
   ·rw [if_neg c3] at H;have c3b0:decide (x7_1<32)=false:=decide_eq_false c3;clear c3;obtain rfl:=Option.some.inj H;go_wp2;go_ret;exact ⟨xq,xd⟩
def Bz.l0:Nat->Int->Int->Option (Int)
 |0,_,_=>none
 |k+1,x3,x4=>if x4<8 then (if (Int.tmod x3 2)=1 then ((Bf.f k (wrap64 (Int.tdiv x3 2)) 3988292384).bind λt322=>(Bz.l0 k t322 (wrap64 (x4+1)))) else (Bz.l0 k (wrap64 (Int.tdiv x3 2)) (wrap64 (x4+1)))) else (some x3)
def Bz.f (k:Nat) (a0:Int):Option (Int):=Bz.l0 k a0 0
set_option maxHeartbeats 8000000 in
set_option maxRecDepth 100000 in
theorem Bz.calls (k:Nat) (a0:Int) (r:Int) (w:World) (h:Bz.f k a0=some r):
 Calls Tryz.prog 98 #[.int .i64 a0] w λe w'=>e= .returned (.int .i64 r)/\BP w w':=by
 have H:(Bz.l0 k a0 0)=some r:=h;clear h;have H':=AA.mk H;clear H;go_enter Tryz.func98,Tryz.ntmps98;go_wp2;go_loopg [3,4] k (λkq v3 v4 w'=>∃ (x3_1:Int) (x4_1:Int),v3= .int .i64 x3_1/\v4= .int .i64 x4_1/\AA (Bz.l0 kq x3_1 x4_1=some r)/\AA (kq<=k)/\BP w w');case atStart=>exact ⟨(a0),(0),xq,xq,H',⟨Nat.le_refl _⟩,xd⟩
 case round=>
  clear H';obtain ⟨x3_1,x4_1,rfl,rfl,HA,HK1,⟨m1,rfl⟩⟩:=hrel;cases gk with
  |zero=>exact absurd HA.out (by simp [Bz.l0])
  |succ k1=>
   have H:=HA.out;clear HA;simp only [Bz.l0] at H;by_cases c2:x4_1<8
   ·rw [if_pos c2] at H;have c2b0:decide (x4_1<8)=true:=decide_eq_true c2;clear c2;by_cases c3:(Int.tmod x3_1 2)=1
    ·rw [if_pos c3] at H;have c3b0:((Int.tmod x3_1 2)==1)=true:=beq_iff_eq.mpr c3;have c3b1:((Int.tmod x3_1 2) != 1)=false:=bne_eq_false_iff_eq.mpr c3;clear c3;replace H:=Option.bind_eq_some_iff.mp H;obtain ⟨t322,A40,H⟩:=H;replace H:(Bz.l0 k1 t322 (wrap64 (x4_1+1)))=some r:=H;have A4:=AA.mk A40;clear A40;have H':=AA.mk H;clear H;go_wp2_with (first|((with_reducible refine AQ (f:=97) rfl ?_);refine Ag (some 18) rfl rfl Tryz.func97 (by kernel_rfl) rfl #[.int .i64 (wrap64 (Int.tdiv x3_1 2)), .int .i64 3988292384] rfl xg ?_;(with_reducible refine (Bf.calls k1 (wrap64 (Int.tdiv x3_1 2)) 3988292384 t322 _ A4.out).mono ?_);rintro e w' ⟨rfl,⟨nd,rfl⟩⟩;refine ⟨_,rfl,?_⟩));go_roundg k1;case measure=>have:=HK1.out;omega
     case rel=>exact ⟨(t322),(wrap64 (x4_1+1)),xq,xq,H',⟨by have:=HK1.out;omega⟩,xd⟩
    ·rw [if_neg c3] at H;have c3b0:((Int.tmod x3_1 2)==1)=false:=beq_eq_false_iff_ne.mpr c3;have c3b1:((Int.tmod x3_1 2) != 1)=true:=bne_iff_ne.mpr c3;have H':=AA.mk H;clear H;go_wp2;go_roundg k1;case measure=>have:=HK1.out;omega
     case rel=>exact ⟨(wrap64 (Int.tdiv x3_1 2)),(wrap64 (x4_1+1)),xq,xq,H',⟨by have:=HK1.out;omega⟩,xd⟩
   ·rw [if_neg c2] at H;have c2b0:decide (x4_1<8)=false:=decide_eq_false c2;clear c2;obtain rfl:=Option.some.inj H;go_wp2;go_ret;exact ⟨xq,xd⟩
def Eo.f (k:Nat) (a0:Int) (a1:Int):Option (Int):=(Bf.f k a1 (Int.tmod a0 256)).bind λt323=>((Bz.f k t323).bind λt324=>((Bf.f k (wrap64 (Int.tdiv a0 256)) t324).bind λt325=>(some t325)))
set_option maxHeartbeats 8000000 in
set_option maxRecDepth 100000 in
theorem Eo.calls (k:Nat) (a0:Int) (a1:Int) (r:Int) (w:World) (h:Eo.f k a0 a1=some r):
 Calls Tryz.prog 75 #[.int .i64 a0, .int .i64 a1] w λe w'=>e= .returned (.int .i64 r)/\BP w w':=by
 have H:((Bf.f k a1 (Int.tmod a0 256)).bind λt323=>((Bz.f k t323).bind λt324=>((Bf.f k (wrap64 (Int.tdiv a0 256)) t324).bind λt325=>(some t325))))=some r:=h;clear h;replace H:=Option.bind_eq_some_iff.mp H;obtain ⟨t323,A30,H⟩:=H;try dsimp only at H
 have A3:=AA.mk A30;clear A30;replace H:=Option.bind_eq_some_iff.mp H;obtain ⟨t324,A40,H⟩:=H;try dsimp only at H
 have A4:=AA.mk A40;clear A40;replace H:=Option.bind_eq_some_iff.mp H;obtain ⟨t325,A50,H⟩:=H;try dsimp only at H
 have A5:=AA.mk A50;clear A50;obtain rfl:=Option.some.inj H;go_enter Tryz.func75,Tryz.ntmps75;go_wp2_with (first|((with_reducible refine AQ (f:=97) rfl ?_);refine Ag (some 10) rfl rfl Tryz.func97 (by kernel_rfl) rfl #[.int .i64 a1, .int .i64 (Int.tmod a0 256)] rfl xg ?_;(with_reducible refine (Bf.calls k a1 (Int.tmod a0 256) t323 _ A3.out).mono ?_);rintro e w' ⟨rfl,⟨nd,rfl⟩⟩;refine ⟨_,rfl,?_⟩)|((with_reducible refine AQ (f:=98) rfl ?_);refine Ag (some 11) rfl rfl Tryz.func98 (by kernel_rfl) rfl #[.int .i64 t323] rfl xg ?_;(with_reducible refine (Bz.calls k t323 t324 _ A4.out).mono ?_);rintro e w' ⟨rfl,⟨nd,rfl⟩⟩;refine ⟨_,rfl,?_⟩)|((with_reducible refine AQ (f:=97) rfl ?_);refine Ag (some 12) rfl rfl Tryz.func97 (by kernel_rfl) rfl #[.int .i64 (wrap64 (Int.tdiv a0 256)), .int .i64 t324] rfl xg ?_;(with_reducible refine (Bf.calls k (wrap64 (Int.tdiv a0 256)) t324 t325 _ A5.out).mono ?_);rintro e w' ⟨rfl,⟨nd,rfl⟩⟩;refine ⟨_,rfl,?_⟩));go_ret;exact ⟨xq,xd⟩
def Cm.l0:Nat->ByteArray->Int->Int->Option (Int)
 |0,_,_,_=>none
 |k+1,x0,x3,x4=>if x4<(x0.size:Int) then (if 0<=x4 then ((Eo.f k x3 (wrap64 (bt x0 x4))).bind λt326=>(Cm.l0 k x0 t326 (wrap64 (x4+1)))) else (none)) else (some (wrap64 (4294967295 - x3)))
def Cm.f (k:Nat) (a0:ByteArray):Option (Int):=Cm.l0 k a0 4294967295 0
set_option maxHeartbeats 8000000 in
set_option maxRecDepth 100000 in
theorem Cm.calls (k:Nat) (a0:ByteArray) (r:Int) (w:World) (h:Cm.f k a0=some r):
 Calls Tryz.prog 48 #[.string a0] w λe w'=>e= .returned (.int .i64 r)/\BP w w':=by
 have H:(Cm.l0 k a0 4294967295 0)=some r:=h;clear h;have H':=AA.mk H;clear H;go_enter Tryz.func48,Tryz.ntmps48;go_wp2;go_loopg [3,4] k (λkq v3 v4 w'=>∃ (x3_1:Int) (x4_1:Int),v3= .int .i64 x3_1/\v4= .int .i64 x4_1/\AA (Cm.l0 kq a0 x3_1 x4_1=some r)/\AA (kq<=k)/\BP w w');case atStart=>exact ⟨(4294967295),(0),xq,xq,H',⟨Nat.le_refl _⟩,xd⟩
 case round=>
  clear H';obtain ⟨x3_1,x4_1,rfl,rfl,HA,HK1,⟨m1,rfl⟩⟩:=hrel;cases gk with
  |zero=>exact absurd HA.out (by simp [Cm.l0])
  |succ k1=>
   have H:=HA.out;clear HA;simp only [Cm.l0] at H;by_cases c2:x4_1<(a0.size:Int)
   ·rw [if_pos c2] at H;have c2b0:decide (x4_1<(a0.size:Int))=true:=decide_eq_true c2;clear c2;by_cases c3:0<=x4_1
    ·rw [if_pos c3] at H;have c3b0:decide (0<=x4_1)=true:=decide_eq_true c3;clear c3;replace H:=Option.bind_eq_some_iff.mp H;obtain ⟨t326,A50,H⟩:=H;replace H:(Cm.l0 k1 a0 t326 (wrap64 (x4_1+1)))=some r:=H;have A5:=AA.mk A50;clear A50;have H':=AA.mk H;clear H;have p4:0<=(x4_1:Int):=xa;have q4:x4_1<(a0.size:Int):=xa;have hx4:=CV a0 x4_1;replace p4:=eq_true p4;replace q4:=eq_true q4;go_wp2_with (first|((with_reducible refine AQ (f:=75) rfl ?_);refine Ag (some 16) rfl rfl Tryz.func75 (by kernel_rfl) rfl #[.int .i64 x3_1, .int .i64 (wrap64 (bt a0 x4_1))] rfl xg ?_;(with_reducible refine (Eo.calls k1 x3_1 (wrap64 (bt a0 x4_1)) t326 _ A5.out).mono ?_);rintro e w' ⟨rfl,⟨nd,rfl⟩⟩;refine ⟨_,rfl,?_⟩));go_roundg k1;case measure=>have:=HK1.out;omega
     case rel=>exact ⟨(t326),(wrap64 (x4_1+1)),xq,xq,H',⟨by have:=HK1.out;omega⟩,xd⟩
    ·rw [if_neg c3] at H;exact absurd H (by simp)
   ·rw [if_neg c2] at H;have c2b0:decide (x4_1<(a0.size:Int))=false:=decide_eq_false c2;clear c2;obtain rfl:=Option.some.inj H;go_wp2;go_ret;exact ⟨xq,xd⟩
def Ci.f (k:Nat) (a0:ByteArray):Option (ByteArray):=(Cm.f k a0).bind λt327=>(some (strOfNums (([(Int.tmod t327 256)%256,(Int.tmod (wrap64 (Int.tdiv t327 256)) 256)%256,(Int.tmod (wrap64 (Int.tdiv t327 65536)) 256)%256,(wrap64 (Int.tdiv t327 16777216))%256]:List Int))))
set_option maxHeartbeats 8000000 in
set_option maxRecDepth 100000 in
theorem Ci.calls (k:Nat) (a0:ByteArray) (r:ByteArray) (w:World) (h:Ci.f k a0=some r):
 Calls Tryz.prog 24 #[.string a0] w λe w'=>e= .returned (.string r)/\Below w.heap.size w w':=by
 have HB:=AA.mk (Below.refl w.heap.size w);have H:((Cm.f k a0).bind λt327=>(some (strOfNums (([(Int.tmod t327 256)%256,(Int.tmod (wrap64 (Int.tdiv t327 256)) 256)%256,(Int.tmod (wrap64 (Int.tdiv t327 65536)) 256)%256,(wrap64 (Int.tdiv t327 16777216))%256]:List Int)))))=some r:=h;clear h;replace H:=Option.bind_eq_some_iff.mp H;obtain ⟨t327,A20,H⟩:=H;try dsimp only at H
 have A2:=AA.mk A20;clear A20;obtain ⟨y328,hy328⟩:∃ y_:List Int,y_=(([(Int.tmod t327 256)%256,(Int.tmod (wrap64 (Int.tdiv t327 256)) 256)%256,(Int.tmod (wrap64 (Int.tdiv t327 65536)) 256)%256,(wrap64 (Int.tdiv t327 16777216))%256]:List Int)):=⟨_,rfl⟩;replace H:(some (strOfNums y328))=some r:=by first|(rw [hy328];with_reducible exact H)|(have H2_:=(Option.bind_some _ _).symm.trans H;rw [hy328];with_reducible exact H2_)|(have H2_:=(Option.bind_some _ _).symm.trans H;with_reducible exact H2_)|with_reducible exact H|(rw [hy328];exact H)|exact H
 have Ny328:=AA.mk hy328;clear hy328;obtain rfl:=Option.some.inj H;go_enter Tryz.func24,Tryz.ntmps24;go_wp2_with (first|((with_reducible refine AQ (f:=48) rfl ?_);refine Ag (some 5) rfl rfl Tryz.func48 (by kernel_rfl) rfl #[.string a0] rfl xg ?_;(with_reducible refine (Cm.calls k a0 t327 _ A2.out).mono ?_);rintro e w' ⟨rfl,⟨nd,rfl⟩⟩;refine ⟨_,rfl,?_⟩)|((with_reducible refine Fp (N:=20) rfl ?_);refine Kd.Lu (Kd.int .u8) _ 5 ?hg (N:=20) ?hd (xs:=([(Int.tmod t327 256)%256,(Int.tmod (wrap64 (Int.tdiv t327 256)) 256)%256,(Int.tmod (wrap64 (Int.tdiv t327 65536)) 256)%256,(wrap64 (Int.tdiv t327 16777216))%256]:List Int)) (inner:=[.int .u8 ((Int.tmod t327 256)%256), .int .u8 ((Int.tmod (wrap64 (Int.tdiv t327 256)) 256)%256), .int .u8 ((Int.tmod (wrap64 (Int.tdiv t327 65536)) 256)%256), .int .u8 ((wrap64 (Int.tdiv t327 16777216))%256)]) (ok:=λ_=>True) (okp:=λ_=>True) ?hr ?hp (λ_ hk=>hk) trivial (Below.refl _ _) (Nat.le_refl _) (by simp) ?_;(case hd=>rfl);(case hg=>rfl);(case hr=>first|(go_simp;done)|(go_simp;rfl));(case hp=>exact (CY.one (show Kd.M (Kd.int .u8) _ _ _ ((Int.tmod t327 256)%256) [.int .u8 ((Int.tmod t327 256)%256)] from rfl) (CY.one (show Kd.M (Kd.int .u8) _ _ _ ((Int.tmod (wrap64 (Int.tdiv t327 256)) 256)%256) [.int .u8 ((Int.tmod (wrap64 (Int.tdiv t327 256)) 256)%256)] from rfl) (CY.one (show Kd.M (Kd.int .u8) _ _ _ ((Int.tmod (wrap64 (Int.tdiv t327 65536)) 256)%256) [.int .u8 ((Int.tmod (wrap64 (Int.tdiv t327 65536)) 256)%256)] from rfl) (CY.one (show Kd.M (Kd.int .u8) _ _ _ ((wrap64 (Int.tdiv t327 16777216))%256) [.int .u8 ((wrap64 (Int.tdiv t327 16777216))%256)] from rfl) (CY.none _ _))))));intro v329 w3 ho4 hb hg_ hnew_;clear hg_ hnew_;(first|rw [<-Ny328.out] at ho4|(simp only [Int.reduceToNat] at ho4;rw [<-Ny328.out] at ho4));have HO330:=AA.mk (Kd.CJ ho4 (Ai xb));replace HB:=AA.mk (AO xb hb);clear hb ho4;have hcv5:=C9 (P:=Tryz.prog) Tryz.underlying67 Tryz.underlying5 Tryz.underlying9 (Kd.Dl HO330.out)));go_ret;exact ⟨xe,xb⟩
def Ca.l0:Nat->List (Cz)->Int->Option (Bool)
 |0,_,_=>none
 |k+1,x0,x3=>if x3<(x0.length:Int) then (if 0<=x3 then (if (((AB x0 x3).f0).size:Int)>300 then (some false) else (if (((AB x0 x3).f1).size:Int)>300 then (some false) else (if (((AB x0 x3).f2).size:Int)>300 then (some false) else (if (((AB x0 x3).f3).size:Int)>300 then (some false) else (Ca.l0 k x0 (wrap64 (x3+1))))))) else (none)) else (some true)
def Ca.f (k:Nat) (l0:List (Cz)):Option (Bool):=if (l0.length:Int)>100 then (some false) else (Ca.l0 k l0 0)
set_option maxHeartbeats 8000000 in
set_option maxRecDepth 100000 in
theorem Ca.calls (k:Nat) (A0:Option Addr) (c0:Nat) (l0:List (Cz)) (r:Bool) (w:World) (hr0:Kd.C k25 w A0 l0.length l0) (hc0:l0.length<=c0) (h:Ca.f k l0=some r):
 Calls Tryz.prog 27 #[.slice A0 l0.length c0] w λe w'=>e= .returned (.bool r)/\BP w w':=by
 have HR0:=AA.mk hr0;have HC0:=AA.mk hc0;clear hr0 hc0;have H:(if (l0.length:Int)>100 then (some false) else (Ca.l0 k l0 0))=some r:=h;clear h;by_cases c2:(l0.length:Int)>100
 ·rw [if_pos c2] at H;have c2b0:decide (100<(l0.length:Int))=true:=decide_eq_true c2;have c2b1:decide (100<l0.length)=true:=decide_eq_true (by omega);clear c2;obtain rfl:=Option.some.inj H;go_enter Tryz.func27,Tryz.ntmps27;go_wp2;go_ret;exact ⟨xq,xd⟩
 ·rw [if_neg c2] at H;have c2b0:decide (100<(l0.length:Int))=false:=decide_eq_false c2;have c2b1:decide (100<l0.length)=false:=decide_eq_false (by omega);clear c2;have H':=AA.mk H;clear H;go_enter Tryz.func27,Tryz.ntmps27;go_wp2;go_loopg [3] k (λkq v3 w'=>∃ (x3_1:Int),v3= .int .i64 x3_1/\AA (Ca.l0 kq l0 x3_1=some r)/\AA (kq<=k)/\BP w w');case atStart=>exact ⟨(0),xq,H',⟨Nat.le_refl _⟩,xd⟩
  case round=>
   clear H';try clear c2
   try clear c2b0
   try clear c2b1
   try clear p2
   obtain ⟨x3_1,rfl,HA,HK1,⟨m1,rfl⟩⟩:=hrel;cases gk with
   |zero=>exact absurd HA.out (by simp [Ca.l0])
   |succ k1=>
    have H:=HA.out;clear HA;simp only [Ca.l0] at H;by_cases c3:x3_1<(l0.length:Int)
    ·rw [if_pos c3] at H;have c3b0:decide (x3_1<(l0.length:Int))=true:=decide_eq_true c3;clear c3;by_cases c4:0<=x3_1
     ·rw [if_pos c4] at H;have c4b0:decide (0<=x3_1)=true:=decide_eq_true c4;clear c4;by_cases c5:(((AB l0 x3_1).f0).size:Int)>300
      ·rw [if_pos c5] at H;have c5b0:decide (300<(((AB l0 x3_1).f0).size:Int))=true:=decide_eq_true c5;have c5b1:decide (300<((AB l0 x3_1).f0).size)=true:=decide_eq_true (by omega);clear c5;obtain rfl:=Option.some.inj H;have p331:0<=(x3_1:Int):=xa;have q331:x3_1<(l0.length:Int):=xa;obtain ⟨ad331,e331,hx331_0,hx331_1,hx331_2,hx331_3,hx331_4,hx331_5,hx331_6,hx331_7,hx331_8,hx331_9,hx331_10⟩:=Dw HR0.out x3_1 p331 q331;cases e331;replace p331:=eq_true p331;replace q331:=eq_true q331;go_wp2;go_ret;exact ⟨xq,xd⟩
      ·rw [if_neg c5] at H;have c5b0:decide (300<(((AB l0 x3_1).f0).size:Int))=false:=decide_eq_false c5;have c5b1:decide (300<((AB l0 x3_1).f0).size)=false:=decide_eq_false (by omega);clear c5;by_cases c6:(((AB l0 x3_1).f1).size:Int)>300
       ·rw [if_pos c6] at H;have c6b0:decide (300<(((AB l0 x3_1).f1).size:Int))=true:=decide_eq_true c6;have c6b1:decide (300<((AB l0 x3_1).f1).size)=true:=decide_eq_true (by omega);clear c6;obtain rfl:=Option.some.inj H;have p331:0<=(x3_1:Int):=xa;have q331:x3_1<(l0.length:Int):=xa;obtain ⟨ad331,e331,hx331_0,hx331_1,hx331_2,hx331_3,hx331_4,hx331_5,hx331_6,hx331_7,hx331_8,hx331_9,hx331_10⟩:=Dw HR0.out x3_1 p331 q331;cases e331;replace p331:=eq_true p331;replace q331:=eq_true q331;have p332:0<=(x3_1:Int):=xa;have q332:x3_1<(l0.length:Int):=xa;obtain ⟨ad332,e332,hx332_0,hx332_1,hx332_2,hx332_3,hx332_4,hx332_5,hx332_6,hx332_7,hx332_8,hx332_9,hx332_10⟩:=Dw HR0.out x3_1 p332 q332;obtain rfl:ad331=ad332:=(by injection e332);replace p332:=eq_true p332;replace q332:=eq_true q332;go_wp2;go_ret;exact ⟨xq,xd⟩
       ·rw [if_neg c6] at H;have c6b0:decide (300<(((AB l0 x3_1).f1).size:Int))=false:=decide_eq_false c6;have c6b1:decide (300<((AB l0 x3_1).f1).size)=false:=decide_eq_false (by omega);clear c6;by_cases c7:(((AB l0 x3_1).f2).size:Int)>300
        ·rw [if_pos c7] at H;have c7b0:decide (300<(((AB l0 x3_1).f2).size:Int))=true:=decide_eq_true c7;have c7b1:decide (300<((AB l0 x3_1).f2).size)=true:=decide_eq_true (by omega);clear c7;obtain rfl:=Option.some.inj H;have p331:0<=(x3_1:Int):=xa;have q331:x3_1<(l0.length:Int):=xa;obtain ⟨ad331,e331,hx331_0,hx331_1,hx331_2,hx331_3,hx331_4,hx331_5,hx331_6,hx331_7,hx331_8,hx331_9,hx331_10⟩:=Dw HR0.out x3_1 p331 q331;cases e331;replace p331:=eq_true p331;replace q331:=eq_true q331;have p332:0<=(x3_1:Int):=xa;have q332:x3_1<(l0.length:Int):=xa;obtain ⟨ad332,e332,hx332_0,hx332_1,hx332_2,hx332_3,hx332_4,hx332_5,hx332_6,hx332_7,hx332_8,hx332_9,hx332_10⟩:=Dw HR0.out x3_1 p332 q332;obtain rfl:ad331=ad332:=(by injection e332);replace p332:=eq_true p332;replace q332:=eq_true q332;have p333:0<=(x3_1:Int):=xa;have q333:x3_1<(l0.length:Int):=xa;obtain ⟨ad333,e333,hx333_0,hx333_1,hx333_2,hx333_3,hx333_4,hx333_5,hx333_6,hx333_7,hx333_8,hx333_9,hx333_10⟩:=Dw HR0.out x3_1 p333 q333;obtain rfl:ad331=ad333:=(by injection e333);replace p333:=eq_true p333;replace q333:=eq_true q333;go_wp2;go_ret;exact ⟨xq,xd⟩
        ·rw [if_neg c7] at H;have c7b0:decide (300<(((AB l0 x3_1).f2).size:Int))=false:=decide_eq_false c7;have c7b1:decide (300<((AB l0 x3_1).f2).size)=false:=decide_eq_false (by omega);clear c7;by_cases c8:(((AB l0 x3_1).f3).size:Int)>300
         ·rw [if_pos c8] at H;have c8b0:decide (300<(((AB l0 x3_1).f3).size:Int))=true:=decide_eq_true c8;have c8b1:decide (300<((AB l0 x3_1).f3).size)=true:=decide_eq_true (by omega);clear c8;obtain rfl:=Option.some.inj H;have p331:0<=(x3_1:Int):=xa;have q331:x3_1<(l0.length:Int):=xa;obtain ⟨ad331,e331,hx331_0,hx331_1,hx331_2,hx331_3,hx331_4,hx331_5,hx331_6,hx331_7,hx331_8,hx331_9,hx331_10⟩:=Dw HR0.out x3_1 p331 q331;cases e331;replace p331:=eq_true p331;replace q331:=eq_true q331;have p332:0<=(x3_1:Int):=xa;have q332:x3_1<(l0.length:Int):=xa;obtain ⟨ad332,e332,hx332_0,hx332_1,hx332_2,hx332_3,hx332_4,hx332_5,hx332_6,hx332_7,hx332_8,hx332_9,hx332_10⟩:=Dw HR0.out x3_1 p332 q332;obtain rfl:ad331=ad332:=(by injection e332);replace p332:=eq_true p332;replace q332:=eq_true q332;have p333:0<=(x3_1:Int):=xa;have q333:x3_1<(l0.length:Int):=xa;obtain ⟨ad333,e333,hx333_0,hx333_1,hx333_2,hx333_3,hx333_4,hx333_5,hx333_6,hx333_7,hx333_8,hx333_9,hx333_10⟩:=Dw HR0.out x3_1 p333 q333;obtain rfl:ad331=ad333:=(by injection e333);replace p333:=eq_true p333;replace q333:=eq_true q333;have p334:0<=(x3_1:Int):=xa;have q334:x3_1<(l0.length:Int):=xa;obtain ⟨ad334,e334,hx334_0,hx334_1,hx334_2,hx334_3,hx334_4,hx334_5,hx334_6,hx334_7,hx334_8,hx334_9,hx334_10⟩:=Dw HR0.out x3_1 p334 q334;obtain rfl:ad331=ad334:=(by injection e334);replace p334:=eq_true p334;replace q334:=eq_true q334;go_wp2;go_ret;exact ⟨xq,xd⟩
         ·rw [if_neg c8] at H;have c8b0:decide (300<(((AB l0 x3_1).f3).size:Int))=false:=decide_eq_false c8;have c8b1:decide (300<((AB l0 x3_1).f3).size)=false:=decide_eq_false (by omega);clear c8;have H':=AA.mk H;clear H;have p331:0<=(x3_1:Int):=xa;have q331:x3_1<(l0.length:Int):=xa;obtain ⟨ad331,e331,hx331_0,hx331_1,hx331_2,hx331_3,hx331_4,hx331_5,hx331_6,hx331_7,hx331_8,hx331_9,hx331_10⟩:=Dw HR0.out x3_1 p331 q331;cases e331;replace p331:=eq_true p331;replace q331:=eq_true q331;have p332:0<=(x3_1:Int):=xa;have q332:x3_1<(l0.length:Int):=xa;obtain ⟨ad332,e332,hx332_0,hx332_1,hx332_2,hx332_3,hx332_4,hx332_5,hx332_6,hx332_7,hx332_8,hx332_9,hx332_10⟩:=Dw HR0.out x3_1 p332 q332;obtain rfl:ad331=ad332:=(by injection e332);replace p332:=eq_true p332;replace q332:=eq_true q332;have p333:0<=(x3_1:Int):=xa;have q333:x3_1<(l0.length:Int):=xa;obtain ⟨ad333,e333,hx333_0,hx333_1,hx333_2,hx333_3,hx333_4,hx333_5,hx333_6,hx333_7,hx333_8,hx333_9,hx333_10⟩:=Dw HR0.out x3_1 p333 q333;obtain rfl:ad331=ad333:=(by injection e333);replace p333:=eq_true p333;replace q333:=eq_true q333;have p334:0<=(x3_1:Int):=xa;have q334:x3_1<(l0.length:Int):=xa;obtain ⟨ad334,e334,hx334_0,hx334_1,hx334_2,hx334_3,hx334_4,hx334_5,hx334_6,hx334_7,hx334_8,hx334_9,hx334_10⟩:=Dw HR0.out x3_1 p334 q334;obtain rfl:ad331=ad334:=(by injection e334);replace p334:=eq_true p334;replace q334:=eq_true q334;go_wp2;go_roundg k1;case measure=>have:=HK1.out;omega
          case rel=>exact ⟨(wrap64 (x3_1+1)),xq,H',⟨by have:=HK1.out;omega⟩,xd⟩
     ·rw [if_neg c4] at H;exact absurd H (by simp)
    ·rw [if_neg c3] at H;have c3b0:decide (x3_1<(l0.length:Int))=false:=decide_eq_false c3;clear c3;obtain rfl:=Option.some.inj H;go_wp2;go_ret;exact ⟨xq,xd⟩
def BO.l0:Nat->List (Cz)->List (Cz)->Int->Option (Bool)
 |0,_,_,_=>none
 |k+1,x0,x1,x5=>if x5<(x0.length:Int) then (if 0<=x5 then (if x5<(x1.length:Int) then (if (!((((AB x0 x5).f0).toList)==(((AB x1 x5).f0).toList))||(!((((AB x0 x5).f1).toList)==(((AB x1 x5).f1).toList))||(!((((AB x0 x5).f2).toList)==(((AB x1 x5).f2).toList))||(!((((AB x0 x5).f3).toList)==(((AB x1 x5).f3).toList))||(!(((AB x0 x5).f4)==((AB x1 x5).f4))||(!(((AB x0 x5).f5)==((AB x1 x5).f5))||(!(((AB x0 x5).f6)==((AB x1 x5).f6))||(!(((AB x0 x5).f7)==((AB x1 x5).f7))||(!(((AB x0 x5).f8)==((AB x1 x5).f8))||(!(((AB x0 x5).f9)==((AB x1 x5).f9))||(!(((AB x0 x5).f10)==((AB x1 x5).f10)))))))))))))=true then (some false) else (BO.l0 k x0 x1 (wrap64 (x5+1)))) else (none)) else (none)) else (some true)
def BO.f (k:Nat) (l0:List (Cz)) (l1:List (Cz)):Option (Bool):=if (l0.length:Int)=(l1.length:Int) then (BO.l0 k l0 l1 0) else (some false)
set_option maxHeartbeats 8000000 in
set_option maxRecDepth 100000 in
theorem BO.calls (k:Nat) (A0:Option Addr) (c0:Nat) (l0:List (Cz)) (A1:Option Addr) (c1:Nat) (l1:List (Cz)) (r:Bool) (w:World) (hr0:Kd.C k25 w A0 l0.length l0) (hc0:l0.length<=c0) (hr1:Kd.C k25 w A1 l1.length l1) (hc1:l1.length<=c1) (h:BO.f k l0 l1=some r):
 Calls Tryz.prog 23 #[.slice A0 l0.length c0, .slice A1 l1.length c1] w λe w'=>e= .returned (.bool r)/\BP w w':=by
 have hu25:=Tryz.underlying25;have HR0:=AA.mk hr0;have HC0:=AA.mk hc0;clear hr0 hc0;have HR1:=AA.mk hr1;have HC1:=AA.mk hc1;clear hr1 hc1;have H:(if (l0.length:Int)=(l1.length:Int) then (BO.l0 k l0 l1 0) else (some false))=some r:=h;clear h;by_cases c3:(l0.length:Int)=(l1.length:Int)
 ·rw [if_pos c3] at H;have c3b0:((l0.length:Int)==(l1.length:Int))=true:=beq_iff_eq.mpr c3;have c3b1:((l0.length:Int) != (l1.length:Int))=false:=bne_eq_false_iff_eq.mpr c3;have c3b2:(l0.length==l1.length)=true:=by first|simpa using c3|(simp at c3⊢;omega)
  clear c3;have H':=AA.mk H;clear H;go_enter Tryz.func23,Tryz.ntmps23;go_wp2;repeat (go_quiet (fail);try go_wp2)
  go_loopg [5] k (λkq v5 w'=>∃ (x5_1:Int),v5= .int .i64 x5_1/\AA (BO.l0 kq l0 l1 x5_1=some r)/\AA (kq<=k)/\BP w w');case atStart=>exact ⟨(0),xq,H',⟨Nat.le_refl _⟩,xd⟩
  case round=>
   clear H';try clear c1
   try clear c2
   try clear p2
   try clear c3
   try clear c3b0
   try clear c3b1
   try clear c3b2
   obtain ⟨x5_1,rfl,HA,HK1,⟨m1,rfl⟩⟩:=hrel;cases gk with
   |zero=>exact absurd HA.out (by simp [BO.l0])
   |succ k1=>
    have H:=HA.out;clear HA;simp only [BO.l0] at H;by_cases c4:x5_1<(l0.length:Int)
    ·rw [if_pos c4] at H;have c4b0:decide (x5_1<(l0.length:Int))=true:=decide_eq_true c4;clear c4;by_cases c5:0<=x5_1
     ·rw [if_pos c5] at H;have c5b0:decide (0<=x5_1)=true:=decide_eq_true c5;clear c5;by_cases c6:x5_1<(l1.length:Int)
      ·rw [if_pos c6] at H;have c6b0:decide (x5_1<(l1.length:Int))=true:=decide_eq_true c6;clear c6;by_cases c7:(!((((AB l0 x5_1).f0).toList)==(((AB l1 x5_1).f0).toList))||(!((((AB l0 x5_1).f1).toList)==(((AB l1 x5_1).f1).toList))||(!((((AB l0 x5_1).f2).toList)==(((AB l1 x5_1).f2).toList))||(!((((AB l0 x5_1).f3).toList)==(((AB l1 x5_1).f3).toList))||(!(((AB l0 x5_1).f4)==((AB l1 x5_1).f4))||(!(((AB l0 x5_1).f5)==((AB l1 x5_1).f5))||(!(((AB l0 x5_1).f6)==((AB l1 x5_1).f6))||(!(((AB l0 x5_1).f7)==((AB l1 x5_1).f7))||(!(((AB l0 x5_1).f8)==((AB l1 x5_1).f8))||(!(((AB l0 x5_1).f9)==((AB l1 x5_1).f9))||(!(((AB l0 x5_1).f10)==((AB l1 x5_1).f10)))))))))))))=true
       ·rw [if_pos c7] at H;have c7b0:(!((((AB l0 x5_1).f0).toList)==(((AB l1 x5_1).f0).toList))||(!((((AB l0 x5_1).f1).toList)==(((AB l1 x5_1).f1).toList))||(!((((AB l0 x5_1).f2).toList)==(((AB l1 x5_1).f2).toList))||(!((((AB l0 x5_1).f3).toList)==(((AB l1 x5_1).f3).toList))||(!(((AB l0 x5_1).f4)==((AB l1 x5_1).f4))||(!(((AB l0 x5_1).f5)==((AB l1 x5_1).f5))||(!(((AB l0 x5_1).f6)==((AB l1 x5_1).f6))||(!(((AB l0 x5_1).f7)==((AB l1 x5_1).f7))||(!(((AB l0 x5_1).f8)==((AB l1 x5_1).f8))||(!(((AB l0 x5_1).f9)==((AB l1 x5_1).f9))||(!(((AB l0 x5_1).f10)==((AB l1 x5_1).f10)))))))))))))=true:=c7;clear c7;obtain rfl:=Option.some.inj H;have p335:0<=(x5_1:Int):=xa;have q335:x5_1<(l0.length:Int):=xa;obtain ⟨ad335,e335,hx335_0,hx335_1,hx335_2,hx335_3,hx335_4,hx335_5,hx335_6,hx335_7,hx335_8,hx335_9,hx335_10⟩:=Dw HR0.out x5_1 p335 q335;cases e335;replace p335:=eq_true p335;replace q335:=eq_true q335;have p336:0<=(x5_1:Int):=xa;have q336:x5_1<(l1.length:Int):=xa;obtain ⟨ad336,e336,hx336_0,hx336_1,hx336_2,hx336_3,hx336_4,hx336_5,hx336_6,hx336_7,hx336_8,hx336_9,hx336_10⟩:=Dw HR1.out x5_1 p336 q336;cases e336;replace p336:=eq_true p336;replace q336:=eq_true q336;go_wp2;repeat (go_quiet (fail);try go_wp2)
        go_ret;exact ⟨xq,xd⟩
       ·rw [if_neg c7] at H;have c7b0:(!((((AB l0 x5_1).f0).toList)==(((AB l1 x5_1).f0).toList))||(!((((AB l0 x5_1).f1).toList)==(((AB l1 x5_1).f1).toList))||(!((((AB l0 x5_1).f2).toList)==(((AB l1 x5_1).f2).toList))||(!((((AB l0 x5_1).f3).toList)==(((AB l1 x5_1).f3).toList))||(!(((AB l0 x5_1).f4)==((AB l1 x5_1).f4))||(!(((AB l0 x5_1).f5)==((AB l1 x5_1).f5))||(!(((AB l0 x5_1).f6)==((AB l1 x5_1).f6))||(!(((AB l0 x5_1).f7)==((AB l1 x5_1).f7))||(!(((AB l0 x5_1).f8)==((AB l1 x5_1).f8))||(!(((AB l0 x5_1).f9)==((AB l1 x5_1).f9))||(!(((AB l0 x5_1).f10)==((AB l1 x5_1).f10)))))))))))))=false:=by simpa using c7
        clear c7;have H':=AA.mk H;clear H;have p335:0<=(x5_1:Int):=xa;have q335:x5_1<(l0.length:Int):=xa;obtain ⟨ad335,e335,hx335_0,hx335_1,hx335_2,hx335_3,hx335_4,hx335_5,hx335_6,hx335_7,hx335_8,hx335_9,hx335_10⟩:=Dw HR0.out x5_1 p335 q335;cases e335;replace p335:=eq_true p335;replace q335:=eq_true q335;have p336:0<=(x5_1:Int):=xa;have q336:x5_1<(l1.length:Int):=xa;obtain ⟨ad336,e336,hx336_0,hx336_1,hx336_2,hx336_3,hx336_4,hx336_5,hx336_6,hx336_7,hx336_8,hx336_9,hx336_10⟩:=Dw HR1.out x5_1 p336 q336;cases e336;replace p336:=eq_true p336;replace q336:=eq_true q336;go_wp2;repeat (go_quiet (fail);try go_wp2)
        go_roundg k1;case measure=>have:=HK1.out;omega
        case rel=>exact ⟨(wrap64 (x5_1+1)),xq,H',⟨by have:=HK1.out;omega⟩,xd⟩
      ·rw [if_neg c6] at H;exact absurd H (by simp)
     ·rw [if_neg c5] at H;exact absurd H (by simp)
    ·rw [if_neg c4] at H;have c4b0:decide (x5_1<(l0.length:Int))=false:=decide_eq_false c4;clear c4;obtain rfl:=Option.some.inj H;go_wp2;repeat (go_quiet (fail);try go_wp2)
     go_ret;exact ⟨xq,xd⟩
 ·rw [if_neg c3] at H;have c3b0:((l0.length:Int)==(l1.length:Int))=false:=beq_eq_false_iff_ne.mpr c3;have c3b1:((l0.length:Int) != (l1.length:Int))=true:=bne_iff_ne.mpr c3;have c3b2:(l0.length==l1.length)=false:=by first|simpa using c3|(simp at c3⊢;omega)
  obtain rfl:=Option.some.inj H;go_enter Tryz.func23,Tryz.ntmps23;go_wp2;repeat (go_quiet (fail);try go_wp2)
  go_ret;exact ⟨xq,xd⟩
end Go.Proofs.YtfggjdkccdkogaaGreatDoor.Print
