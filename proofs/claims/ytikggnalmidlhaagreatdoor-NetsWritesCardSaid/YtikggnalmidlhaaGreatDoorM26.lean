/- Several parts of the claim's proof in one text, said short by a program of this session. No condition. -/
import Derived.Test.YtikggnalmidlhaaGreatDoorPrint43
section
namespace Go.Proofs.YtikggnalmidlhaaGreatDoor.Print
open RowKit AR Aa Ad
attribute [local go_sem] BM BN Bo Bp BC BD BO BP
set_option linter.unusedVariables false
set_option linter.unusedSimpArgs false
def Ch.f (k:Nat) (l0:List (CU)):Option (Bool):=(Bn.f k l0).bind λbt359=>(if bt359.2=0 then ((Bf.f k bt359.1 l0).bind λt363=>(some t363)) else (some false))
set_option maxHeartbeats 8000000 in
set_option maxRecDepth 100000 in
theorem Ch.calls (k:Nat) (A0:Option Addr) (c0:Nat) (l0:List (CU)) (r:Bool) (w:World) (hr0:Kd.C Fu w A0 l0.length l0) (hc0:l0.length<=c0) (h:Ch.f k l0=some r):
 Calls Tryz.prog 21 #[.slice A0 l0.length c0] w λe w'=>e= .returned (.bool r)/\Below w.heap.size w w':=by
 have HR0:=AA.mk hr0;have HC0:=AA.mk hc0;clear hr0 hc0;have HB:=AA.mk (Below.refl w.heap.size w);have H:((Bn.f k l0).bind λbt359=>(if bt359.2=0 then ((Bf.f k bt359.1 l0).bind λt363=>(some t363)) else (some false)))=some r:=h;clear h;replace H:=Option.bind_eq_some_iff.mp H;obtain ⟨⟨t359,t360⟩,A20,H⟩:=H;try dsimp only at H
 have A2:=AA.mk A20;clear A20;by_cases c3:t360=0
 ·rw [if_pos c3] at H;have c3b0:(t360==0)=true:=beq_iff_eq.mpr c3;have c3b1:(t360 != 0)=false:=bne_eq_false_iff_eq.mpr c3;clear c3;replace H:=Option.bind_eq_some_iff.mp H;obtain ⟨t363,A40,H⟩:=H;replace H:(some t363)=some r:=H;have A4:=AA.mk A40;clear A40;obtain rfl:=Option.some.inj H;go_enter Tryz.func21,Tryz.ntmps21;go_wp2_with (first|((with_reducible refine AO (f:=34) rfl ?_);refine Ak (some 7) rfl rfl Tryz.func34 (by kernel_rfl) rfl #[.slice A0 l0.length c0] rfl xg ?_;(with_reducible refine (Bn.calls k _ _ l0 t359 t360 _ ?side1 ?side2 A2.out).mono ?_);(case side1=>repeat (first|exact HR0.out|(with_reducible refine Kd.CZ ?_ _)|(with_reducible refine Kd.Cb ?_ _)|(with_reducible refine Kd.Cs ?_)));(case side2=>exact HC0.out);rintro e w5 ⟨v361,rfl,ho0,hb⟩;refine ⟨_,rfl,?_⟩;have HO362:=AA.mk (Kd.Cm ho0 (BF xb));replace HB:=AA.mk (AP xb hb);(try clear hb);(try clear ho0);obtain ⟨Ao6,co6,eo6⟩:=Kd.CE HO362.out;subst eo6)|(go_at_call 15;(with_reducible refine (Bf.calls k _ _ t359 _ _ l0 t363 _ ?side1 ?side2 ?side3 ?side4 A4.out).mono ?_);(case side1=>repeat (first|exact (Kd.BH HO362.out).2.2|(with_reducible refine Kd.CZ ?_ _)|(with_reducible refine Kd.Cb ?_ _)|(with_reducible refine Kd.Cs ?_)));(case side2=>exact (Kd.BH HO362.out).2.1);(case side3=>repeat (first|exact (Kd.DW HR0.out HB.out)|(with_reducible refine Kd.CZ ?_ _)|(with_reducible refine Kd.Cb ?_ _)|(with_reducible refine Kd.Cs ?_)));(case side4=>exact HC0.out);rintro e w' ⟨rfl,⟨nd,rfl⟩⟩));go_ret;exact ⟨xe,xb⟩
 ·rw [if_neg c3] at H;have c3b0:(t360==0)=false:=beq_eq_false_iff_ne.mpr c3;have c3b1:(t360 != 0)=true:=bne_iff_ne.mpr c3;obtain rfl:=Option.some.inj H;go_enter Tryz.func21,Tryz.ntmps21;go_wp2_with (first|((with_reducible refine AO (f:=34) rfl ?_);refine Ak (some 7) rfl rfl Tryz.func34 (by kernel_rfl) rfl #[.slice A0 l0.length c0] rfl xg ?_;(with_reducible refine (Bn.calls k _ _ l0 t359 t360 _ ?side1 ?side2 A2.out).mono ?_);(case side1=>repeat (first|exact HR0.out|(with_reducible refine Kd.CZ ?_ _)|(with_reducible refine Kd.Cb ?_ _)|(with_reducible refine Kd.Cs ?_)));(case side2=>exact HC0.out);rintro e w7 ⟨v361,rfl,ho0,hb⟩;refine ⟨_,rfl,?_⟩;have HO362:=AA.mk (Kd.Cm ho0 (BF xb));replace HB:=AA.mk (AP xb hb);(try clear hb);(try clear ho0)));go_ret;exact ⟨xe,xb⟩
def XX.f (a0:Int) (a1:Int):Option (Bool):=if a0>=1 then (if a0<=6 then (if a1>=0 then (some (decide (a1<=253402300799))) else (some false)) else (some false)) else (some false)
set_option maxHeartbeats 8000000 in
set_option maxRecDepth 100000 in
theorem XX.calls (a0:Int) (a1:Int) (r:Bool) (w:World) (h:XX.f a0 a1=some r):
 Calls Tryz.prog 32 #[.int .i64 a0, .int .i64 a1] w λe w'=>e= .returned (.bool r)/\Ap w w':=by
 have H:(if a0>=1 then (if a0<=6 then (if a1>=0 then (some (decide (a1<=253402300799))) else (some false)) else (some false)) else (some false))=some r:=h;clear h;by_cases c3:a0>=1
 ·rw [if_pos c3] at H;have c3b0:decide (1<=a0)=true:=decide_eq_true c3;clear c3;by_cases c4:a0<=6
  ·rw [if_pos c4] at H;have c4b0:decide (a0<=6)=true:=decide_eq_true c4;clear c4;by_cases c5:a1>=0
   ·rw [if_pos c5] at H;have c5b0:decide (0<=a1)=true:=decide_eq_true c5;clear c5;obtain rfl:=Option.some.inj H;go_enter Tryz.func32,Tryz.ntmps32;go_wp2;go_ret;exact ⟨xq,xd⟩
   ·rw [if_neg c5] at H;have c5b0:decide (0<=a1)=false:=decide_eq_false c5;clear c5;obtain rfl:=Option.some.inj H;go_enter Tryz.func32,Tryz.ntmps32;go_wp2;go_ret;exact ⟨xq,xd⟩
  ·rw [if_neg c4] at H;have c4b0:decide (a0<=6)=false:=decide_eq_false c4;clear c4;obtain rfl:=Option.some.inj H;go_enter Tryz.func32,Tryz.ntmps32;go_wp2;go_ret;exact ⟨xq,xd⟩
 ·rw [if_neg c3] at H;have c3b0:decide (1<=a0)=false:=decide_eq_false c3;clear c3;obtain rfl:=Option.some.inj H;go_enter Tryz.func32,Tryz.ntmps32;go_wp2;go_ret;exact ⟨xq,xd⟩
end Go.Proofs.YtikggnalmidlhaaGreatDoor.Print
end
section
namespace Go.Proofs.YtikggnalmidlhaaGreatDoor.Print
open RowKit AR Aa Ad
attribute [local go_sem] BM BN Bo Bp BC BD BO BP
set_option linter.unusedVariables false
set_option linter.unusedSimpArgs false
mutual
def XU.j0:Nat->Int->ByteArray->ByteArray->ByteArray->ByteArray->Int->Int->Int->Bool->Bool->Bool->Int->Option (ByteArray×ByteArray×ByteArray×ByteArray×Int×Int×Int×Bool×Bool×Bool×Int×Bool)
 |0,_,_,_,_,_,_,_,_,_,_,_,_=>none
 |k+1,x0,x365000,x365001,x365002,x365003,x365004,x365005,x365006,x365007,x365008,x365009,x365010=>if x0=4 then (XU.j1 k x0 x365000 x365001 x365002 x365003 x365004 x365004 x365006 x365007 x365008 x365009 x365010) else (XU.j1 k x0 x365000 x365001 x365002 x365003 x365004 x365005 x365006 x365007 x365008 x365009 x365010)
def XU.j1:Nat->Int->ByteArray->ByteArray->ByteArray->ByteArray->Int->Int->Int->Bool->Bool->Bool->Int->Option (ByteArray×ByteArray×ByteArray×ByteArray×Int×Int×Int×Bool×Bool×Bool×Int×Bool)
 |0,_,_,_,_,_,_,_,_,_,_,_,_=>none
 |k+1,x0,x365000,x365001,x365002,x365003,x365004,x365005,x365006,x365007,x365008,x365009,x365010=>if x0=2 then (XU.j2 k x0 true x365000 x365001 x365002 x365003 x365004 x365005 x365006 x365007 x365008 x365009 x365010) else (XU.j2 k x0 (x0==4) x365000 x365001 x365002 x365003 x365004 x365005 x365006 x365007 x365008 x365009 x365010)
def XU.j2:Nat->Int->Bool->ByteArray->ByteArray->ByteArray->ByteArray->Int->Int->Int->Bool->Bool->Bool->Int->Option (ByteArray×ByteArray×ByteArray×ByteArray×Int×Int×Int×Bool×Bool×Bool×Int×Bool)
 |0,_,_,_,_,_,_,_,_,_,_,_,_,_=>none
 |k+1,x0,x29,x365000,x365001,x365002,x365003,x365004,x365005,x365006,x365007,x365008,x365009,x365010=>if x29=true then (if x0=1 then (some (x365000,x365001,x365002,x365003,x365004,x365005,x365006,true,x365008,x365009,0,true)) else (if x0=4 then (some (x365000,x365001,x365002,x365003,x365004,x365005,x365006,true,x365008,x365009,0,true)) else (if x0=5 then (some (x365000,x365001,x365002,x365003,x365004,x365005,x365006,true,x365008,x365009,0,true)) else (some (x365000,x365001,x365002,x365003,x365004,x365005,x365006,true,x365008,x365009,x365010,true))))) else (if x0=1 then (some (x365000,x365001,x365002,x365003,x365004,x365005,x365006,x365007,x365008,x365009,0,true)) else (if x0=4 then (some (x365000,x365001,x365002,x365003,x365004,x365005,x365006,x365007,x365008,x365009,0,true)) else (if x0=5 then (some (x365000,x365001,x365002,x365003,x365004,x365005,x365006,x365007,x365008,x365009,0,true)) else (some (x365000,x365001,x365002,x365003,x365004,x365005,x365006,x365007,x365008,x365009,x365010,true)))))
end
def XU.f (k:Nat) (a0:Int) (a1:Int) (a2_0:ByteArray) (a2_1:ByteArray) (a2_2:ByteArray) (a2_3:ByteArray) (a2_4:Int) (a2_5:Int) (a2_6:Int) (a2_7:Bool) (a2_8:Bool) (a2_9:Bool) (a2_10:Int):Option (ByteArray×ByteArray×ByteArray×ByteArray×Int×Int×Int×Bool×Bool×Bool×Int×Bool):=(XX.f a0 a1).bind λt366=>(if t366=true then (if a0<=3 then (XU.j0 k a0 a2_0 a2_1 a2_2 a2_3 a1 a1 a2_6 a2_7 a2_8 a2_9 a2_10) else (XU.j0 k a0 a2_0 a2_1 a2_2 a2_3 a2_4 a2_5 a2_6 a2_7 a2_8 a2_9 a2_10)) else (some ((⟨#[]⟩:ByteArray),(⟨#[]⟩:ByteArray),(⟨#[]⟩:ByteArray),(⟨#[]⟩:ByteArray),0,0,0,false,false,false,0,false)))
set_option maxHeartbeats 8000000 in
set_option maxRecDepth 100000 in
theorem XU.calls (k:Nat) (a0:Int) (a1:Int) (a2_0:ByteArray) (a2_1:ByteArray) (a2_2:ByteArray) (a2_3:ByteArray) (a2_4:Int) (a2_5:Int) (a2_6:Int) (a2_7:Bool) (a2_8:Bool) (a2_9:Bool) (a2_10:Int) (r1:ByteArray) (r2:ByteArray) (r3:ByteArray) (r4:ByteArray) (r5:Int) (r6:Int) (r7:Int) (r8:Bool) (r9:Bool) (r10:Bool) (r11:Int) (r12:Bool) (w:World) (h:XU.f k a0 a1 a2_0 a2_1 a2_2 a2_3 a2_4 a2_5 a2_6 a2_7 a2_8 a2_9 a2_10=some (r1,r2,r3,r4,r5,r6,r7,r8,r9,r10,r11,r12)):
 Calls Tryz.prog 31 #[.int .i64 a0, .int .i64 a1, .agg #[.string a2_0, .string a2_1, .string a2_2, .string a2_3, .int .i64 a2_4, .int .i64 a2_5, .int .i64 a2_6, .bool a2_7, .bool a2_8, .bool a2_9, .int .i64 a2_10]] w λe w'=>e= .returned (.tuple #[.agg #[.string r1, .string r2, .string r3, .string r4, .int .i64 r5, .int .i64 r6, .int .i64 r7, .bool r8, .bool r9, .bool r10, .int .i64 r11], .bool r12])/\Below w.heap.size w w':=by
 have hu53:=Tryz.underlying53;have HB:=AA.mk (Below.refl w.heap.size w);have H:((XX.f a0 a1).bind λt366=>(if t366=true then (if a0<=3 then (XU.j0 k a0 a2_0 a2_1 a2_2 a2_3 a1 a1 a2_6 a2_7 a2_8 a2_9 a2_10) else (XU.j0 k a0 a2_0 a2_1 a2_2 a2_3 a2_4 a2_5 a2_6 a2_7 a2_8 a2_9 a2_10)) else (some ((⟨#[]⟩:ByteArray),(⟨#[]⟩:ByteArray),(⟨#[]⟩:ByteArray),(⟨#[]⟩:ByteArray),0,0,0,false,false,false,0,false))))=some (r1,r2,r3,r4,r5,r6,r7,r8,r9,r10,r11,r12):=h;clear h;replace H:=Option.bind_eq_some_iff.mp H;obtain ⟨t366,A40,H⟩:=H;try dsimp only at H
 have A4:=AA.mk A40;clear A40;by_cases c5:t366=true
 ·subst c5;rw [if_pos rfl] at H;have HC6:=AA.mk H;clear H;go_enter Tryz.func31,Tryz.ntmps31;go_upto_if 14 with (first|(refine Dk (N:=5) (cs:=#[.string a2_0, .string a2_1, .string a2_2, .string a2_3, .int .i64 a2_4, .int .i64 a2_5, .int .i64 a2_6, .bool a2_7, .bool a2_8, .bool a2_9, .int .i64 a2_10]) (t:=53) (λgb364 hg w7 hbox hb=>?_);have BK364:=AA.mk (hbox);have GW364:AA (w.heap.size<=gb364):=Dp hg xb;have GE364:AA (w.heap.size<=gb364):=Dp hg xb;replace HB:=AA.mk (AP xb hb);clear hb hbox hg)|(refine Dk (N:=6) (cs:=#[.string (⟨#[]⟩:ByteArray), .string (⟨#[]⟩:ByteArray), .string (⟨#[]⟩:ByteArray), .string (⟨#[]⟩:ByteArray), .int .i64 0, .int .i64 0, .int .i64 0, .bool false, .bool false, .bool false, .int .i64 0]) (t:=53) (λgb365 hg w8 hbox hb=>?_);have BK365:=AA.mk (hbox);have GW365:AA (w.heap.size<=gb365):=Dp hg xb;have GE365:AA (w.heap.size<=gb365):=Dp hg xb;replace HB:=AA.mk (AP xb hb);have NB364_365:=G9 hg (Cz BK364);have NB365_364:=HZ hg (Cz BK364);replace BK364:=Bt BK364 hb;clear hb hbox hg)|((with_reducible refine AO (f:=32) rfl ?_);refine Ak (some 10) rfl rfl Tryz.func32 (by kernel_rfl) rfl #[.int .i64 a0, .int .i64 a1] rfl xg ?_;(with_reducible refine (XX.calls a0 a1 true _ A4.out).mono ?_);rintro e w' ⟨rfl,⟨nd,rfl⟩⟩;refine ⟨_,rfl,?_⟩))
  (try simp only [Act.put,List.setIfInBounds_toArray,List.set_cons_zero,List.set_cons_succ]);go_cut [] (λwc=>∃ (kq:Nat) (x365004_5:Int) (x365005_5:Int),AA (XU.j0 kq a0 a2_0 a2_1 a2_2 a2_3 x365004_5 x365005_5 a2_6 a2_7 a2_8 a2_9 a2_10=some (r1,r2,r3,r4,r5,r6,r7,r8,r9,r10,r11,r12))/\AA (kq<=k)/\AA (wc.heap[gb364]? =some (.cells #[.string a2_0, .string a2_1, .string a2_2, .string a2_3, .int .i64 x365004_5, .int .i64 x365005_5, .int .i64 a2_6, .bool a2_7, .bool a2_8, .bool a2_9, .int .i64 a2_10] 53 (0,0)))/\AA (wc.heap[gb365]? =some (.cells #[.string (⟨#[]⟩:ByteArray), .string (⟨#[]⟩:ByteArray), .string (⟨#[]⟩:ByteArray), .string (⟨#[]⟩:ByteArray), .int .i64 0, .int .i64 0, .int .i64 0, .bool false, .bool false, .bool false, .int .i64 0] 53 (0,0)))/\AA (Below w.heap.size w wc));case first=>
   have H:=HC6.out;clear HC6;by_cases c9:a0<=3
   ·rw [if_pos c9] at H;have c9b0:decide (a0<=3)=true:=decide_eq_true c9;clear c9;(first|rw [c9b0]|(simp only [DL,DU];rw [c9b0])|skip);have H':=AA.mk H;clear H;have hnb10:=NB364_365.out;have hnc10:=NB365_364.out;obtain ⟨hcz11_0,hcz11_1,hcz11_2,hcz11_3,hcz11_4,hcz11_5,hcz11_6,hcz11_7,hcz11_8,hcz11_9,hcz11_10⟩:=Bv BK364.out;have hfz11_0:=AX BK364.out;go_wp2;go_meet;case rel=>exact ⟨_,(a1),(a1),H',⟨by first|omega|exact Nat.le_refl _⟩,⟨xk⟩,⟨xk⟩,⟨xb⟩⟩
   ·rw [if_neg c9] at H;have c9b0:decide (a0<=3)=false:=decide_eq_false c9;clear c9;(first|rw [c9b0]|(simp only [DL,DU];rw [c9b0])|skip);have H':=AA.mk H;clear H;go_wp2;go_meet;case rel=>exact ⟨_,(a2_4),(a2_5),H',⟨by first|omega|exact Nat.le_refl _⟩,⟨xk⟩,⟨xk⟩,⟨xb⟩⟩
  case rest=>
   clear HC6;try clear c1
   try clear p2
   try clear c3
   try clear p3
   try clear c5
   try clear p6
   try clear c9
   try clear c9b0
   try clear c10
   try clear hcz11_0
   try clear hcz11_1
   try clear hcz11_10
   try clear hcz11_2
   try clear hcz11_3
   try clear hcz11_4
   try clear hcz11_5
   try clear hcz11_6
   try clear hcz11_7
   try clear hcz11_8
   try clear hcz11_9
   try clear hfz11_0
   obtain ⟨kq,x365004_5,x365005_5,HA,HJ5,BK364,BK365,HB⟩:=hcut;cases kq with
   |zero=>exact absurd HA.out (by simp [XU.j0])
   |succ kj5=>
    have H:=HA.out;clear HA;simp only [XU.j0] at H;have HC12:=AA.mk H;clear H;go_upto_if 20 with (fail)
    go_cut [] (λwc=>∃ (kq:Nat) (x365005_11:Int),AA (XU.j1 kq a0 a2_0 a2_1 a2_2 a2_3 x365004_5 x365005_11 a2_6 a2_7 a2_8 a2_9 a2_10=some (r1,r2,r3,r4,r5,r6,r7,r8,r9,r10,r11,r12))/\AA (kq<=kj5)/\AA (wc.heap[gb364]? =some (.cells #[.string a2_0, .string a2_1, .string a2_2, .string a2_3, .int .i64 x365004_5, .int .i64 x365005_11, .int .i64 a2_6, .bool a2_7, .bool a2_8, .bool a2_9, .int .i64 a2_10] 53 (0,0)))/\AA (wc.heap[gb365]? =some (.cells #[.string (⟨#[]⟩:ByteArray), .string (⟨#[]⟩:ByteArray), .string (⟨#[]⟩:ByteArray), .string (⟨#[]⟩:ByteArray), .int .i64 0, .int .i64 0, .int .i64 0, .bool false, .bool false, .bool false, .int .i64 0] 53 (0,0)))/\AA (Below w.heap.size w wc));case first=>
     have H:=HC12.out;clear HC12;by_cases c13:a0=4
     ·rw [if_pos c13] at H;have c13b0:(a0==4)=true:=beq_iff_eq.mpr c13;have c13b1:(a0 != 4)=false:=bne_eq_false_iff_eq.mpr c13;clear c13;(first|rw [c13b0]|(simp only [DL,DU];rw [c13b0])|skip);have H':=AA.mk H;clear H;have hnb14:=NB364_365.out;have hnc14:=NB365_364.out;obtain ⟨hcz15_0,hcz15_1,hcz15_2,hcz15_3,hcz15_4,hcz15_5,hcz15_6,hcz15_7,hcz15_8,hcz15_9,hcz15_10⟩:=Bv BK364.out;have hfz15_0:=AX BK364.out;go_wp2;go_meet;case rel=>exact ⟨_,(x365004_5),H',⟨by have:=HJ5.out;first|omega|exact Nat.le_refl _⟩,⟨xk⟩,⟨xk⟩,⟨xb⟩⟩
     ·rw [if_neg c13] at H;have c13b0:(a0==4)=false:=beq_eq_false_iff_ne.mpr c13;have c13b1:(a0 != 4)=true:=bne_iff_ne.mpr c13;(first|rw [c13b0]|(simp only [DL,DU];rw [c13b0])|skip);have H':=AA.mk H;clear H;go_wp2;go_meet;case rel=>exact ⟨_,(x365005_5),H',⟨by have:=HJ5.out;first|omega|exact Nat.le_refl _⟩,⟨xk⟩,⟨xk⟩,⟨xb⟩⟩
    case rest=>
     clear HC12;try clear c1
     try clear p2
     try clear c3
     try clear p3
     try clear c5
     try clear p6
     try clear c9
     try clear c9b0
     try clear c10
     try clear c13
     try clear c13b0
     try clear c13b1
     try clear c14
     try clear hcz11_0
     try clear hcz11_1
     try clear hcz11_10
     try clear hcz11_2
     try clear hcz11_3
     try clear hcz11_4
     try clear hcz11_5
     try clear hcz11_6
     try clear hcz11_7
     try clear hcz11_8
     try clear hcz11_9
     try clear hcz15_0
     try clear hcz15_1
     try clear hcz15_10
     try clear hcz15_2
     try clear hcz15_3
     try clear hcz15_4
     try clear hcz15_5
     try clear hcz15_6
     try clear hcz15_7
     try clear hcz15_8
     try clear hcz15_9
     try clear hfz11_0
     try clear hfz15_0
     try clear p2
     try clear p3
     try clear p6
     obtain ⟨kq,x365005_11,HA,HJ11,BK364,BK365,HB⟩:=hcut;cases kq with
     |zero=>exact absurd HA.out (by simp [XU.j1])
     |succ kj11=>
      have H:=HA.out;clear HA;simp only [XU.j1] at H;have HC16:=AA.mk H;clear H;go_upto_region 8 with (fail)
      go_cut [29] (λv29 wc=>∃ (kq:Nat) (x29_15:Bool),v29= .bool x29_15/\AA (XU.j2 kq a0 x29_15 a2_0 a2_1 a2_2 a2_3 x365004_5 x365005_11 a2_6 a2_7 a2_8 a2_9 a2_10=some (r1,r2,r3,r4,r5,r6,r7,r8,r9,r10,r11,r12))/\AA (kq<=kj11)/\AA (wc.heap[gb364]? =some (.cells #[.string a2_0, .string a2_1, .string a2_2, .string a2_3, .int .i64 x365004_5, .int .i64 x365005_11, .int .i64 a2_6, .bool a2_7, .bool a2_8, .bool a2_9, .int .i64 a2_10] 53 (0,0)))/\AA (wc.heap[gb365]? =some (.cells #[.string (⟨#[]⟩:ByteArray), .string (⟨#[]⟩:ByteArray), .string (⟨#[]⟩:ByteArray), .string (⟨#[]⟩:ByteArray), .int .i64 0, .int .i64 0, .int .i64 0, .bool false, .bool false, .bool false, .int .i64 0] 53 (0,0)))/\AA (Below w.heap.size w wc));case first=>
       have H:=HC16.out;clear HC16;by_cases c17:a0=2
       ·rw [if_pos c17] at H;have c17b0:(a0==2)=true:=beq_iff_eq.mpr c17;have c17b1:(a0 != 2)=false:=bne_eq_false_iff_eq.mpr c17;clear c17;(first|rw [c17b0]|(simp only [DL,DU];rw [c17b0])|skip);have H':=AA.mk H;clear H;go_wp2;go_meet;case rel=>exact ⟨_,(true),xq,H',⟨by have:=HJ5.out;have:=HJ11.out;first|omega|exact Nat.le_refl _⟩,⟨xk⟩,⟨xk⟩,⟨xb⟩⟩
       ·rw [if_neg c17] at H;have c17b0:(a0==2)=false:=beq_eq_false_iff_ne.mpr c17;have c17b1:(a0 != 2)=true:=bne_iff_ne.mpr c17;(first|rw [c17b0]|(simp only [DL,DU];rw [c17b0])|skip);have H':=AA.mk H;clear H;go_wp2;go_meet;case rel=>exact ⟨_,((a0==4)),xq,H',⟨by have:=HJ5.out;have:=HJ11.out;first|omega|exact Nat.le_refl _⟩,⟨xk⟩,⟨xk⟩,⟨xb⟩⟩
      case rest=>
       clear HC16;try clear c1
       try clear p2
       try clear c3
       try clear p3
       try clear c5
       try clear p6
       try clear c9
       try clear c9b0
       try clear c10
       try clear c13
       try clear c13b0
       try clear c13b1
       try clear c14
       try clear c17
       try clear c17b0
       try clear c17b1
       try clear hcz11_0
       try clear hcz11_1
       try clear hcz11_10
       try clear hcz11_2
       try clear hcz11_3
       try clear hcz11_4
       try clear hcz11_5
       try clear hcz11_6
       try clear hcz11_7
       try clear hcz11_8
       try clear hcz11_9
       try clear hcz15_0
       try clear hcz15_1
       try clear hcz15_10
       try clear hcz15_2
       try clear hcz15_3
       try clear hcz15_4
       try clear hcz15_5
       try clear hcz15_6
       try clear hcz15_7
       try clear hcz15_8
       try clear hcz15_9
       try clear hfz11_0
       try clear hfz15_0
       try clear p2
       try clear p3
       try clear p6
       obtain ⟨kq,x29_15,rfl,HA,HJ15,BK364,BK365,HB⟩:=hcut;cases kq with
       |zero=>exact absurd HA.out (by simp [XU.j2])
       |succ kj15=>
        have H:=HA.out;clear HA;simp only [XU.j2] at H;by_cases c18:x29_15=true
        ·subst c18;have H1:(if a0=1 then (some (a2_0,a2_1,a2_2,a2_3,x365004_5,x365005_11,a2_6,true,a2_8,a2_9,0,true)) else (if a0=4 then (some (a2_0,a2_1,a2_2,a2_3,x365004_5,x365005_11,a2_6,true,a2_8,a2_9,0,true)) else (if a0=5 then (some (a2_0,a2_1,a2_2,a2_3,x365004_5,x365005_11,a2_6,true,a2_8,a2_9,0,true)) else (some (a2_0,a2_1,a2_2,a2_3,x365004_5,x365005_11,a2_6,true,a2_8,a2_9,a2_10,true)))))=some (r1,r2,r3,r4,r5,r6,r7,r8,r9,r10,r11,r12):=by rw [if_pos rfl] at H;exact H
         clear H;have H:=H1;clear H1;by_cases c19:a0=1
         ·rw [if_pos c19] at H;have c19b0:(a0==1)=true:=beq_iff_eq.mpr c19;have c19b1:(a0 != 1)=false:=bne_eq_false_iff_eq.mpr c19;clear c19;simp only [Option.some.injEq,Prod.mk.injEq] at H;obtain ⟨rfl,rfl,rfl,rfl,rfl,rfl,rfl,rfl,rfl,rfl,rfl,rfl⟩:=H;have hnb20:=NB364_365.out;have hnc20:=NB365_364.out;obtain ⟨hcz21_0,hcz21_1,hcz21_2,hcz21_3,hcz21_4,hcz21_5,hcz21_6,hcz21_7,hcz21_8,hcz21_9,hcz21_10⟩:=Bv BK364.out;have hfz21_0:=AX BK364.out;obtain ⟨hcz22_0,hcz22_1,hcz22_2,hcz22_3,hcz22_4,hcz22_5,hcz22_6,hcz22_7,hcz22_8,hcz22_9,hcz22_10⟩:=Bv BK365.out;have hfz22_0:=AX BK365.out;go_wp2;refine bodyPost_ret (DC rfl _ _ gb365 53 #[.string a2_0, .string a2_1, .string a2_2, .string a2_3, .int .i64 x365004_5, .int .i64 x365005_11, .int .i64 a2_6, .bool true, .bool a2_8, .bool a2_9, .int .i64 0] (0,0) _ rfl xk Tryz.underlying53 rfl (by kernel_rfl)) rfl ?_;exact ⟨xe,xb⟩
         ·rw [if_neg c19] at H;have c19b0:(a0==1)=false:=beq_eq_false_iff_ne.mpr c19;have c19b1:(a0 != 1)=true:=bne_iff_ne.mpr c19;by_cases c23:a0=4
          ·rw [if_pos c23] at H;have c23b0:(a0==4)=true:=beq_iff_eq.mpr c23;have c23b1:(a0 != 4)=false:=bne_eq_false_iff_eq.mpr c23;clear c23;simp only [Option.some.injEq,Prod.mk.injEq] at H;obtain ⟨rfl,rfl,rfl,rfl,rfl,rfl,rfl,rfl,rfl,rfl,rfl,rfl⟩:=H;have hnb24:=NB364_365.out;have hnc24:=NB365_364.out;obtain ⟨hcz25_0,hcz25_1,hcz25_2,hcz25_3,hcz25_4,hcz25_5,hcz25_6,hcz25_7,hcz25_8,hcz25_9,hcz25_10⟩:=Bv BK364.out;have hfz25_0:=AX BK364.out;obtain ⟨hcz26_0,hcz26_1,hcz26_2,hcz26_3,hcz26_4,hcz26_5,hcz26_6,hcz26_7,hcz26_8,hcz26_9,hcz26_10⟩:=Bv BK365.out;have hfz26_0:=AX BK365.out;go_wp2;refine bodyPost_ret (DC rfl _ _ gb365 53 #[.string a2_0, .string a2_1, .string a2_2, .string a2_3, .int .i64 x365004_5, .int .i64 x365005_11, .int .i64 a2_6, .bool true, .bool a2_8, .bool a2_9, .int .i64 0] (0,0) _ rfl xk Tryz.underlying53 rfl (by kernel_rfl)) rfl ?_;exact ⟨xe,xb⟩
          ·rw [if_neg c23] at H;have c23b0:(a0==4)=false:=beq_eq_false_iff_ne.mpr c23;have c23b1:(a0 != 4)=true:=bne_iff_ne.mpr c23;by_cases c27:a0=5
           ·rw [if_pos c27] at H;have c27b0:(a0==5)=true:=beq_iff_eq.mpr c27;have c27b1:(a0 != 5)=false:=bne_eq_false_iff_eq.mpr c27;clear c27;simp only [Option.some.injEq,Prod.mk.injEq] at H;obtain ⟨rfl,rfl,rfl,rfl,rfl,rfl,rfl,rfl,rfl,rfl,rfl,rfl⟩:=H;have hnb28:=NB364_365.out;have hnc28:=NB365_364.out;obtain ⟨hcz29_0,hcz29_1,hcz29_2,hcz29_3,hcz29_4,hcz29_5,hcz29_6,hcz29_7,hcz29_8,hcz29_9,hcz29_10⟩:=Bv BK364.out;have hfz29_0:=AX BK364.out;obtain ⟨hcz30_0,hcz30_1,hcz30_2,hcz30_3,hcz30_4,hcz30_5,hcz30_6,hcz30_7,hcz30_8,hcz30_9,hcz30_10⟩:=Bv BK365.out;have hfz30_0:=AX BK365.out;go_wp2;refine bodyPost_ret (DC rfl _ _ gb365 53 #[.string a2_0, .string a2_1, .string a2_2, .string a2_3, .int .i64 x365004_5, .int .i64 x365005_11, .int .i64 a2_6, .bool true, .bool a2_8, .bool a2_9, .int .i64 0] (0,0) _ rfl xk Tryz.underlying53 rfl (by kernel_rfl)) rfl ?_;exact ⟨xe,xb⟩
           ·rw [if_neg c27] at H;have c27b0:(a0==5)=false:=beq_eq_false_iff_ne.mpr c27;have c27b1:(a0 != 5)=true:=bne_iff_ne.mpr c27;simp only [Option.some.injEq,Prod.mk.injEq] at H;obtain ⟨rfl,rfl,rfl,rfl,rfl,rfl,rfl,rfl,rfl,rfl,rfl,rfl⟩:=H;have hnb31:=NB364_365.out;have hnc31:=NB365_364.out;obtain ⟨hcz32_0,hcz32_1,hcz32_2,hcz32_3,hcz32_4,hcz32_5,hcz32_6,hcz32_7,hcz32_8,hcz32_9,hcz32_10⟩:=Bv BK364.out;have hfz32_0:=AX BK364.out;obtain ⟨hcz33_0,hcz33_1,hcz33_2,hcz33_3,hcz33_4,hcz33_5,hcz33_6,hcz33_7,hcz33_8,hcz33_9,hcz33_10⟩:=Bv BK365.out;have hfz33_0:=AX BK365.out;go_wp2;refine bodyPost_ret (DC rfl _ _ gb365 53 #[.string a2_0, .string a2_1, .string a2_2, .string a2_3, .int .i64 x365004_5, .int .i64 x365005_11, .int .i64 a2_6, .bool true, .bool a2_8, .bool a2_9, .int .i64 a2_10] (0,0) _ rfl xk Tryz.underlying53 rfl (by kernel_rfl)) rfl ?_;exact ⟨xe,xb⟩
        ·replace c18:=Bool.eq_false_iff.mpr c18;subst c18;have H1:(if a0=1 then (some (a2_0,a2_1,a2_2,a2_3,x365004_5,x365005_11,a2_6,a2_7,a2_8,a2_9,0,true)) else (if a0=4 then (some (a2_0,a2_1,a2_2,a2_3,x365004_5,x365005_11,a2_6,a2_7,a2_8,a2_9,0,true)) else (if a0=5 then (some (a2_0,a2_1,a2_2,a2_3,x365004_5,x365005_11,a2_6,a2_7,a2_8,a2_9,0,true)) else (some (a2_0,a2_1,a2_2,a2_3,x365004_5,x365005_11,a2_6,a2_7,a2_8,a2_9,a2_10,true)))))=some (r1,r2,r3,r4,r5,r6,r7,r8,r9,r10,r11,r12):=by rw [if_neg (show ¬(false=true) by decide)] at H;exact H
         clear H;have H:=H1;clear H1;by_cases c34:a0=1
         ·rw [if_pos c34] at H;have c34b0:(a0==1)=true:=beq_iff_eq.mpr c34;have c34b1:(a0 != 1)=false:=bne_eq_false_iff_eq.mpr c34;clear c34;simp only [Option.some.injEq,Prod.mk.injEq] at H;obtain ⟨rfl,rfl,rfl,rfl,rfl,rfl,rfl,rfl,rfl,rfl,rfl,rfl⟩:=H;have hnb35:=NB364_365.out;have hnc35:=NB365_364.out;obtain ⟨hcz36_0,hcz36_1,hcz36_2,hcz36_3,hcz36_4,hcz36_5,hcz36_6,hcz36_7,hcz36_8,hcz36_9,hcz36_10⟩:=Bv BK364.out;have hfz36_0:=AX BK364.out;obtain ⟨hcz37_0,hcz37_1,hcz37_2,hcz37_3,hcz37_4,hcz37_5,hcz37_6,hcz37_7,hcz37_8,hcz37_9,hcz37_10⟩:=Bv BK365.out;have hfz37_0:=AX BK365.out;go_wp2;refine bodyPost_ret (DC rfl _ _ gb365 53 #[.string a2_0, .string a2_1, .string a2_2, .string a2_3, .int .i64 x365004_5, .int .i64 x365005_11, .int .i64 a2_6, .bool a2_7, .bool a2_8, .bool a2_9, .int .i64 0] (0,0) _ rfl xk Tryz.underlying53 rfl (by kernel_rfl)) rfl ?_;exact ⟨xe,xb⟩
         ·rw [if_neg c34] at H;have c34b0:(a0==1)=false:=beq_eq_false_iff_ne.mpr c34;have c34b1:(a0 != 1)=true:=bne_iff_ne.mpr c34;by_cases c38:a0=4
          ·rw [if_pos c38] at H;have c38b0:(a0==4)=true:=beq_iff_eq.mpr c38;have c38b1:(a0 != 4)=false:=bne_eq_false_iff_eq.mpr c38;clear c38;simp only [Option.some.injEq,Prod.mk.injEq] at H;obtain ⟨rfl,rfl,rfl,rfl,rfl,rfl,rfl,rfl,rfl,rfl,rfl,rfl⟩:=H;have hnb39:=NB364_365.out;have hnc39:=NB365_364.out;obtain ⟨hcz40_0,hcz40_1,hcz40_2,hcz40_3,hcz40_4,hcz40_5,hcz40_6,hcz40_7,hcz40_8,hcz40_9,hcz40_10⟩:=Bv BK364.out;have hfz40_0:=AX BK364.out;obtain ⟨hcz41_0,hcz41_1,hcz41_2,hcz41_3,hcz41_4,hcz41_5,hcz41_6,hcz41_7,hcz41_8,hcz41_9,hcz41_10⟩:=Bv BK365.out;have hfz41_0:=AX BK365.out;go_wp2;refine bodyPost_ret (DC rfl _ _ gb365 53 #[.string a2_0, .string a2_1, .string a2_2, .string a2_3, .int .i64 x365004_5, .int .i64 x365005_11, .int .i64 a2_6, .bool a2_7, .bool a2_8, .bool a2_9, .int .i64 0] (0,0) _ rfl xk Tryz.underlying53 rfl (by kernel_rfl)) rfl ?_;exact ⟨xe,xb⟩
          ·rw [if_neg c38] at H;have c38b0:(a0==4)=false:=beq_eq_false_iff_ne.mpr c38;have c38b1:(a0 != 4)=true:=bne_iff_ne.mpr c38;by_cases c42:a0=5
           ·rw [if_pos c42] at H;have c42b0:(a0==5)=true:=beq_iff_eq.mpr c42;have c42b1:(a0 != 5)=false:=bne_eq_false_iff_eq.mpr c42;clear c42;simp only [Option.some.injEq,Prod.mk.injEq] at H;obtain ⟨rfl,rfl,rfl,rfl,rfl,rfl,rfl,rfl,rfl,rfl,rfl,rfl⟩:=H;have hnb43:=NB364_365.out;have hnc43:=NB365_364.out;obtain ⟨hcz44_0,hcz44_1,hcz44_2,hcz44_3,hcz44_4,hcz44_5,hcz44_6,hcz44_7,hcz44_8,hcz44_9,hcz44_10⟩:=Bv BK364.out;have hfz44_0:=AX BK364.out;obtain ⟨hcz45_0,hcz45_1,hcz45_2,hcz45_3,hcz45_4,hcz45_5,hcz45_6,hcz45_7,hcz45_8,hcz45_9,hcz45_10⟩:=Bv BK365.out;have hfz45_0:=AX BK365.out;go_wp2;refine bodyPost_ret (DC rfl _ _ gb365 53 #[.string a2_0, .string a2_1, .string a2_2, .string a2_3, .int .i64 x365004_5, .int .i64 x365005_11, .int .i64 a2_6, .bool a2_7, .bool a2_8, .bool a2_9, .int .i64 0] (0,0) _ rfl xk Tryz.underlying53 rfl (by kernel_rfl)) rfl ?_;exact ⟨xe,xb⟩
           ·rw [if_neg c42] at H;have c42b0:(a0==5)=false:=beq_eq_false_iff_ne.mpr c42;have c42b1:(a0 != 5)=true:=bne_iff_ne.mpr c42;simp only [Option.some.injEq,Prod.mk.injEq] at H;obtain ⟨rfl,rfl,rfl,rfl,rfl,rfl,rfl,rfl,rfl,rfl,rfl,rfl⟩:=H;have hnb46:=NB364_365.out;have hnc46:=NB365_364.out;obtain ⟨hcz47_0,hcz47_1,hcz47_2,hcz47_3,hcz47_4,hcz47_5,hcz47_6,hcz47_7,hcz47_8,hcz47_9,hcz47_10⟩:=Bv BK364.out;have hfz47_0:=AX BK364.out;obtain ⟨hcz48_0,hcz48_1,hcz48_2,hcz48_3,hcz48_4,hcz48_5,hcz48_6,hcz48_7,hcz48_8,hcz48_9,hcz48_10⟩:=Bv BK365.out;have hfz48_0:=AX BK365.out;go_wp2;refine bodyPost_ret (DC rfl _ _ gb365 53 #[.string a2_0, .string a2_1, .string a2_2, .string a2_3, .int .i64 x365004_5, .int .i64 x365005_11, .int .i64 a2_6, .bool a2_7, .bool a2_8, .bool a2_9, .int .i64 a2_10] (0,0) _ rfl xk Tryz.underlying53 rfl (by kernel_rfl)) rfl ?_;exact ⟨xe,xb⟩
 ·replace c5:=Bool.eq_false_iff.mpr c5;subst c5;have H1:(some ((⟨#[]⟩:ByteArray),(⟨#[]⟩:ByteArray),(⟨#[]⟩:ByteArray),(⟨#[]⟩:ByteArray),0,0,0,false,false,false,0,false))=some (r1,r2,r3,r4,r5,r6,r7,r8,r9,r10,r11,r12):=by rw [if_neg (show ¬(false=true) by decide)] at H;exact H
  clear H;have H:=H1;clear H1;simp only [Option.some.injEq,Prod.mk.injEq] at H;obtain ⟨rfl,rfl,rfl,rfl,rfl,rfl,rfl,rfl,rfl,rfl,rfl,rfl⟩:=H;go_enter Tryz.func31,Tryz.ntmps31;go_wp2_with (first|(refine Dk (N:=5) (cs:=#[.string a2_0, .string a2_1, .string a2_2, .string a2_3, .int .i64 a2_4, .int .i64 a2_5, .int .i64 a2_6, .bool a2_7, .bool a2_8, .bool a2_9, .int .i64 a2_10]) (t:=53) (λgb364 hg w49 hbox hb=>?_);have BK364:=AA.mk (hbox);have GW364:AA (w.heap.size<=gb364):=Dp hg xb;have GE364:AA (w.heap.size<=gb364):=Dp hg xb;replace HB:=AA.mk (AP xb hb);clear hb hbox hg)|(refine Dk (N:=6) (cs:=#[.string (⟨#[]⟩:ByteArray), .string (⟨#[]⟩:ByteArray), .string (⟨#[]⟩:ByteArray), .string (⟨#[]⟩:ByteArray), .int .i64 0, .int .i64 0, .int .i64 0, .bool false, .bool false, .bool false, .int .i64 0]) (t:=53) (λgb365 hg w50 hbox hb=>?_);have BK365:=AA.mk (hbox);have GW365:AA (w.heap.size<=gb365):=Dp hg xb;have GE365:AA (w.heap.size<=gb365):=Dp hg xb;replace HB:=AA.mk (AP xb hb);have NB364_365:=G9 hg (Cz BK364);have NB365_364:=HZ hg (Cz BK364);replace BK364:=Bt BK364 hb;clear hb hbox hg)|((with_reducible refine AO (f:=32) rfl ?_);refine Ak (some 10) rfl rfl Tryz.func32 (by kernel_rfl) rfl #[.int .i64 a0, .int .i64 a1] rfl xg ?_;(with_reducible refine (XX.calls a0 a1 false _ A4.out).mono ?_);rintro e w' ⟨rfl,⟨nd,rfl⟩⟩;refine ⟨_,rfl,?_⟩;(try (rw [Hr w50];generalize hq_:World.drewN w50 _=w50;have n0_:AA (w50.heap[gb364]? =some (.cells #[.string a2_0, .string a2_1, .string a2_2, .string a2_3, .int .i64 a2_4, .int .i64 a2_5, .int .i64 a2_6, .bool a2_7, .bool a2_8, .bool a2_9, .int .i64 a2_10] 53 (0,0))):=⟨by rw [<-hq_];exact xk⟩;have n1_:AA (w50.heap[gb365]? =some (.cells #[.string (⟨#[]⟩:ByteArray), .string (⟨#[]⟩:ByteArray), .string (⟨#[]⟩:ByteArray), .string (⟨#[]⟩:ByteArray), .int .i64 0, .int .i64 0, .int .i64 0, .bool false, .bool false, .bool false, .int .i64 0] 53 (0,0))):=⟨by rw [<-hq_];exact xk⟩;have n2_:AA (Below w.heap.size w w50):=⟨by rw [<-hq_];exact xb⟩;clear BK364 BK365 HB hq_;have BK364:=n0_;have BK365:=n1_;have HB:=n2_;clear n0_ n1_ n2_));have hnb51:=NB365_364.out;have hnc51:=NB364_365.out;obtain ⟨hcz52_0,hcz52_1,hcz52_2,hcz52_3,hcz52_4,hcz52_5,hcz52_6,hcz52_7,hcz52_8,hcz52_9,hcz52_10⟩:=Bv BK365.out;have hfz52_0:=AX BK365.out));refine bodyPost_ret (DC rfl _ _ gb365 53 #[.string (⟨#[]⟩:ByteArray), .string (⟨#[]⟩:ByteArray), .string (⟨#[]⟩:ByteArray), .string (⟨#[]⟩:ByteArray), .int .i64 0, .int .i64 0, .int .i64 0, .bool false, .bool false, .bool false, .int .i64 0] (0,0) _ rfl xk Tryz.underlying53 rfl (by kernel_rfl)) rfl ?_;exact ⟨xe,xb⟩
end Go.Proofs.YtikggnalmidlhaaGreatDoor.Print
end
