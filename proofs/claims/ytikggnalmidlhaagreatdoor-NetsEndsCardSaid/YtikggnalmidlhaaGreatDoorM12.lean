/- (Jar).List: its cookies, in order, as a slice of its own. -/
import Derived.Test.YtikggnalmidlhaaGreatDoorM6
import Derived.Outline
section
namespace Go.Proofs.YtikggnalmidlhaaGreatDoor.Print
open RowKit AR Aa Ad
attribute [local go_sem] BM BN Bo Bp BC BD BO BP
set_option linter.unusedVariables false
set_option linter.unusedSimpArgs false
def BV.f (a0:Bool):Option (ByteArray):=if a0=true then (some (⟨#[84,82,85,69]⟩:ByteArray)) else (some (⟨#[70,65,76,83,69]⟩:ByteArray))
set_option maxHeartbeats 8000000 in
set_option maxRecDepth 100000 in
theorem BV.calls (a0:Bool) (r:ByteArray) (w:World) (h:BV.f a0=some r):
 Calls Tryz.prog 49 #[.bool a0] w λe w'=>e= .returned (.string r)/\Ap w w':=by
 have H:(if a0=true then (some (⟨#[84,82,85,69]⟩:ByteArray)) else (some (⟨#[70,65,76,83,69]⟩:ByteArray)))=some r:=h;clear h;by_cases c2:a0=true
 ·subst c2;rw [if_pos rfl] at H;obtain rfl:=Option.some.inj H;go_enter Tryz.func49,Tryz.ntmps49;go_wp2;go_ret;exact ⟨xq,xd⟩
 ·replace c2:=Bool.eq_false_iff.mpr c2;subst c2;have H1:(some (⟨#[70,65,76,83,69]⟩:ByteArray))=some r:=by rw [if_neg (show ¬(false=true) by decide)] at H;exact H
  clear H;have H:=H1;clear H1;obtain rfl:=Option.some.inj H;go_enter Tryz.func49,Tryz.ntmps49;go_wp2;go_ret;exact ⟨xq,xd⟩
end Go.Proofs.YtikggnalmidlhaaGreatDoor.Print
end
section
namespace Go.Proofs.YtikggnalmidlhaaGreatDoor.Print
open RowKit AR Aa Ad
attribute [local go_sem] BM BN Bo Bp BC BD BO BP
set_option linter.unusedVariables false
set_option linter.unusedSimpArgs false
def CR.l0:Nat->List ByteArray->List ByteArray->Int->Int->Option (Bool)
 |0,_,_,_,_=>none
 |k+1,x3,x10,x11,x12=>if x12<x11 then (if 0<=x12 then (if x12<(x10.length:Int) then ((EL.f (Cf ByteArray.empty x10 x12)).bind λbt113=>(if bt113.2=true then (if bt113.1<0 then (some false) else (if bt113.1>255 then (some false) else (CR.l0 k x3 x10 x11 (wrap64 (x12+1))))) else (some false))) else (none)) else (none)) else (some ((x3.length:Int)==4))
def CR.f (k:Nat) (a0:ByteArray):Option (Bool):=(strings_Split.f a0 (⟨#[46]⟩:ByteArray)).bind λt109=>(CR.l0 k t109 t109 (t109.length:Int) 0)
theorem CR.Dt:∀ k,(∀ y0 y1 y2 y3,Bz (CR.l0 k y0 y1 y2 y3) (CR.l0 (k+1) y0 y1 y2 y3))
 |0=>λ_ _ _ _ r h=>by simp [CR.l0] at h
 |k+1=>by
  have ih0:=CR.Dt k
  ·intro y0 y1 y2 y3;unfold CR.l0
   repeat' first|(with_reducible first|exact ih0 _ _ _ _|exact Bz.refl _|exact Bz.none _|refine Bz.ite ?_ ?_|refine Bz.bind ?_ (λ_=>?_))|exact ih0 _ _ _ _|exact Bz.none _|refine Bz.ite ?_ ?_|refine Bz.bind ?_ (λ_=>?_)
theorem CR.mono:∀ a0 k,Bz (CR.f k a0) (CR.f (k+1) a0):=by
 intro a0 k;have ih0:=CR.Dt k;unfold CR.f
 repeat' first|(with_reducible first|exact ih0 _ _ _ _|exact Bz.refl _|exact Bz.none _|refine Bz.ite ?_ ?_|refine Bz.bind ?_ (λ_=>?_))|exact ih0 _ _ _ _|exact Bz.none _|refine Bz.ite ?_ ?_|refine Bz.bind ?_ (λ_=>?_)
set_option maxHeartbeats 8000000 in
set_option maxRecDepth 100000 in
theorem CR.calls (k:Nat) (a0:ByteArray) (r:Bool) (w:World) (hG:AA (Ck w)) (h:CR.f k a0=some r):
 Calls Tryz.prog 65 #[.string a0] w λe w'=>e= .returned (.bool r)/\Below w.heap.size w w':=by
 have HB:=AA.mk (Below.refl w.heap.size w);have H:((strings_Split.f a0 (⟨#[46]⟩:ByteArray)).bind λt109=>(CR.l0 k t109 t109 (t109.length:Int) 0))=some r:=h;clear h;replace H:=Option.bind_eq_some_iff.mp H;obtain ⟨t109,A20,H⟩:=H;try dsimp only at H
 have A2:=AA.mk A20;clear A20;have H':=AA.mk H;clear H;go_enter Tryz.func65,Tryz.ntmps65;go_wp2_with (first|((with_reducible refine AO (f:=85) rfl ?_);refine Ak (some 9) rfl rfl Tryz.func85 (by kernel_rfl) rfl #[.string a0, .string (⟨#[46]⟩:ByteArray)] rfl xg ?_;(with_reducible refine (strings_Split.calls a0 (⟨#[46]⟩:ByteArray) t109 _ xl A2.out).mono ?_);rintro e w3 ⟨v110,rfl,ho0,hb⟩;refine ⟨_,rfl,?_⟩;have HO111:=AA.mk (Kd.Cm ho0 (BF xb));replace HB:=AA.mk (AP xb hb);(try clear hb);(try clear ho0);obtain ⟨Ao4,co4,eo4⟩:=Kd.CE HO111.out;subst eo4));go_loopg [12] k (λkq v12 w'=>∃ (x12_1:Int),v12= .int .i64 x12_1/\AA (CR.l0 kq t109 t109 (t109.length:Int) x12_1=some r)/\AA (kq<=k)/\AA (Kd.R Kd.string 9 w' w.heap.size (λ_=>True) (.slice Ao4 t109.length co4) t109)/\AA (Kd.R Kd.string 9 w' w.heap.size (λ_=>True) (.slice Ao4 t109.length co4) t109)/\AA (Below w.heap.size w w'));case atStart=>exact ⟨(0),xq,H',⟨Nat.le_refl _⟩,⟨by (with_reducible repeat (first|apply Kd.Bd|apply Kd.Be|apply Kd.Bl));exact HO111.out⟩,⟨by (with_reducible repeat (first|apply Kd.Bd|apply Kd.Be|apply Kd.Bl));exact HO111.out⟩,⟨xb⟩⟩
 case round=>
  clear H';try clear p2
  try clear p3
  obtain ⟨x12_1,rfl,HA,HK1,HO_3,HO_10,HB⟩:=hrel;cases gk with
  |zero=>exact absurd HA.out (by simp [CR.l0])
  |succ k1=>
   have H:=HA.out;clear HA;simp only [CR.l0] at H;by_cases c5:x12_1<(t109.length:Int)
   ·rw [if_pos c5] at H;have c5b0:decide (x12_1<(t109.length:Int))=true:=decide_eq_true c5;clear c5;by_cases c6:0<=x12_1
    ·rw [if_pos c6] at H;have c6b0:decide (0<=x12_1)=true:=decide_eq_true c6;clear c6;by_cases c7:x12_1<(t109.length:Int)
     ·rw [if_pos c7] at H;have c7b0:decide (x12_1<(t109.length:Int))=true:=decide_eq_true c7;clear c7;replace H:=Option.bind_eq_some_iff.mp H;obtain ⟨⟨t113,t114⟩,A80,H⟩:=H;replace H:(if t114=true then (if t113<0 then (some false) else (if t113>255 then (some false) else (CR.l0 k1 t109 t109 (t109.length:Int) (wrap64 (x12_1+1))))) else (some false))=some r:=H;have A8:=AA.mk A80;clear A80;by_cases c9:t114=true
      ·subst c9;rw [if_pos rfl] at H;by_cases c10:t113<0
       ·rw [if_pos c10] at H;have c10b0:decide (t113<0)=true:=decide_eq_true c10;clear c10;obtain rfl:=Option.some.inj H;have p112:0<=(x12_1:Int):=xa;have q112:x12_1<(t109.length:Int):=xa;obtain ⟨ad112,e112,hx112_0⟩:=Kd.DF (Kd.BH HO_10.out).2.2 x12_1 p112 q112;cases e112;replace p112:=eq_true p112;replace q112:=eq_true q112;go_wp2_with (first|((with_reducible refine AO (f:=58) rfl ?_);refine Ak (some 18) rfl rfl Tryz.func58 (by kernel_rfl) rfl #[.string (Cf ByteArray.empty t109 x12_1)] rfl xg ?_;(with_reducible refine (EL.calls (Cf ByteArray.empty t109 x12_1) t113 true _ xl A8.out).mono ?_);rintro e w11 ⟨rfl,hb⟩;refine ⟨_,rfl,?_⟩;replace HO_3:=AA.mk (Kd.BX (xR HO_3) hb);replace HO_10:=AA.mk (Kd.BX (xR HO_10) hb);replace HB:=AA.mk (AP xb hb);(try clear hb)));go_ret;exact ⟨xe,xb⟩
       ·rw [if_neg c10] at H;have c10b0:decide (t113<0)=false:=decide_eq_false c10;clear c10;by_cases c12:t113>255
        ·rw [if_pos c12] at H;have c12b0:decide (255<t113)=true:=decide_eq_true c12;clear c12;obtain rfl:=Option.some.inj H;have p112:0<=(x12_1:Int):=xa;have q112:x12_1<(t109.length:Int):=xa;obtain ⟨ad112,e112,hx112_0⟩:=Kd.DF (Kd.BH HO_10.out).2.2 x12_1 p112 q112;cases e112;replace p112:=eq_true p112;replace q112:=eq_true q112;go_wp2_with (first|((with_reducible refine AO (f:=58) rfl ?_);refine Ak (some 18) rfl rfl Tryz.func58 (by kernel_rfl) rfl #[.string (Cf ByteArray.empty t109 x12_1)] rfl xg ?_;(with_reducible refine (EL.calls (Cf ByteArray.empty t109 x12_1) t113 true _ xl A8.out).mono ?_);rintro e w13 ⟨rfl,hb⟩;refine ⟨_,rfl,?_⟩;replace HO_3:=AA.mk (Kd.BX (xR HO_3) hb);replace HO_10:=AA.mk (Kd.BX (xR HO_10) hb);replace HB:=AA.mk (AP xb hb);(try clear hb)));go_ret;exact ⟨xe,xb⟩
        ·rw [if_neg c12] at H;have c12b0:decide (255<t113)=false:=decide_eq_false c12;clear c12;have H':=AA.mk H;clear H;have p112:0<=(x12_1:Int):=xa;have q112:x12_1<(t109.length:Int):=xa;obtain ⟨ad112,e112,hx112_0⟩:=Kd.DF (Kd.BH HO_10.out).2.2 x12_1 p112 q112;cases e112;replace p112:=eq_true p112;replace q112:=eq_true q112;go_wp2_with (first|((with_reducible refine AO (f:=58) rfl ?_);refine Ak (some 18) rfl rfl Tryz.func58 (by kernel_rfl) rfl #[.string (Cf ByteArray.empty t109 x12_1)] rfl xg ?_;(with_reducible refine (EL.calls (Cf ByteArray.empty t109 x12_1) t113 true _ xl A8.out).mono ?_);rintro e w14 ⟨rfl,hb⟩;refine ⟨_,rfl,?_⟩;replace HO_3:=AA.mk (Kd.BX (xR HO_3) hb);replace HO_10:=AA.mk (Kd.BX (xR HO_10) hb);replace HB:=AA.mk (AP xb hb);(try clear hb)));go_roundg k1;case measure=>have:=HK1.out;omega
         case rel=>exact ⟨(wrap64 (x12_1+1)),xq,H',⟨by have:=HK1.out;omega⟩,⟨by (with_reducible repeat (first|apply Kd.Bd|apply Kd.Be|apply Kd.Bl));exact HO_3.out⟩,⟨by (with_reducible repeat (first|apply Kd.Bd|apply Kd.Be|apply Kd.Bl));exact HO_10.out⟩,⟨xb⟩⟩
      ·replace c9:=Bool.eq_false_iff.mpr c9;subst c9;have H1:(some false)=some r:=by rw [if_neg (show ¬(false=true) by decide)] at H;exact H
       clear H;have H:=H1;clear H1;obtain rfl:=Option.some.inj H;have p112:0<=(x12_1:Int):=xa;have q112:x12_1<(t109.length:Int):=xa;obtain ⟨ad112,e112,hx112_0⟩:=Kd.DF (Kd.BH HO_10.out).2.2 x12_1 p112 q112;cases e112;replace p112:=eq_true p112;replace q112:=eq_true q112;go_wp2_with (first|((with_reducible refine AO (f:=58) rfl ?_);refine Ak (some 18) rfl rfl Tryz.func58 (by kernel_rfl) rfl #[.string (Cf ByteArray.empty t109 x12_1)] rfl xg ?_;(with_reducible refine (EL.calls (Cf ByteArray.empty t109 x12_1) t113 false _ xl A8.out).mono ?_);rintro e w15 ⟨rfl,hb⟩;refine ⟨_,rfl,?_⟩;replace HO_3:=AA.mk (Kd.BX (xR HO_3) hb);replace HO_10:=AA.mk (Kd.BX (xR HO_10) hb);replace HB:=AA.mk (AP xb hb);(try clear hb)));go_ret;exact ⟨xe,xb⟩
     ·rw [if_neg c7] at H;exact absurd H (by simp)
    ·rw [if_neg c6] at H;exact absurd H (by simp)
   ·rw [if_neg c5] at H;have c5b0:decide (x12_1<(t109.length:Int))=false:=decide_eq_false c5;clear c5;obtain rfl:=Option.some.inj H;go_wp2;go_ret;exact ⟨xe,xb⟩
end Go.Proofs.YtikggnalmidlhaaGreatDoor.Print
end
section
namespace Go.Proofs.YtikggnalmidlhaaGreatDoor.Print
open RowKit AR Aa Ad
attribute [local go_sem] BM BN Bo Bp BC BD BO BP
set_option linter.unusedVariables false
set_option linter.unusedSimpArgs false
def ET.f (a0:ByteArray):Option (Bool):=if (a0.size:Int)>=1 then (if (a0.size:Int)<=64 then (if 0<(a0.size:Int) then (if (bt a0 0)=47 then ((Dx.f a0).bind λt115=>(some t115)) else (some false)) else (none)) else (some false)) else (some false)
set_option maxHeartbeats 8000000 in
set_option maxRecDepth 100000 in
theorem ET.calls (a0:ByteArray) (r:Bool) (w:World) (h:ET.f a0=some r):
 Calls Tryz.prog 66 #[.string a0] w λe w'=>e= .returned (.bool r)/\Ap w w':=by
 have H:(if (a0.size:Int)>=1 then (if (a0.size:Int)<=64 then (if 0<(a0.size:Int) then (if (bt a0 0)=47 then ((Dx.f a0).bind λt115=>(some t115)) else (some false)) else (none)) else (some false)) else (some false))=some r:=h;clear h;by_cases c2:(a0.size:Int)>=1
 ·rw [if_pos c2] at H;have c2b0:decide (1<=(a0.size:Int))=true:=decide_eq_true c2;have c2b1:decide (1<=a0.size)=true:=decide_eq_true (by omega);clear c2;by_cases c3:(a0.size:Int)<=64
  ·rw [if_pos c3] at H;have c3b0:decide ((a0.size:Int)<=64)=true:=decide_eq_true c3;have c3b1:decide (a0.size<=64)=true:=decide_eq_true (by omega);clear c3;by_cases c4:0<(a0.size:Int)
   ·rw [if_pos c4] at H;have c4b0:decide (0<(a0.size:Int))=true:=decide_eq_true c4;have c4b1:decide (0<a0.size)=true:=decide_eq_true (by omega);clear c4;by_cases c6:(bt a0 0)=47
    ·rw [if_pos c6] at H;have c6b0:((bt a0 0)==47)=true:=beq_iff_eq.mpr c6;have c6b1:((bt a0 0) != 47)=false:=bne_eq_false_iff_eq.mpr c6;clear c6;replace H:=Option.bind_eq_some_iff.mp H;obtain ⟨t115,A70,H⟩:=H;replace H:(some t115)=some r:=H;have A7:=AA.mk A70;clear A70;obtain rfl:=Option.some.inj H;have p5:0<=(0:Int):=(by omega);have q5:0<a0.size:=(by have:(0:Int)<(a0.size:Int):=xa;omega);have hx5:∀ h:0<a0.size,((a0[0]'h).toNat:Int)=bt a0 0:=Br a0 0;clear p5;have qi5:(0<(a0.size:Int))=True:=eq_true (xa);replace q5:=eq_true q5;go_enter Tryz.func66,Tryz.ntmps66;go_wp2_with (first|(go_at_call 101;(with_reducible refine (Dx.calls a0 t115 _ A7.out).mono ?_);rintro e w' ⟨rfl,⟨nd,rfl⟩⟩));go_ret;exact ⟨xq,xd⟩
    ·rw [if_neg c6] at H;have c6b0:((bt a0 0)==47)=false:=beq_eq_false_iff_ne.mpr c6;have c6b1:((bt a0 0) != 47)=true:=bne_iff_ne.mpr c6;obtain rfl:=Option.some.inj H;have p5:0<=(0:Int):=(by omega);have q5:0<a0.size:=(by have:(0:Int)<(a0.size:Int):=xa;omega);have hx5:∀ h:0<a0.size,((a0[0]'h).toNat:Int)=bt a0 0:=Br a0 0;clear p5;have qi5:(0<(a0.size:Int))=True:=eq_true (xa);replace q5:=eq_true q5;go_enter Tryz.func66,Tryz.ntmps66;go_wp2;go_ret;exact ⟨xq,xd⟩
   ·rw [if_neg c4] at H;exact absurd H (by simp)
  ·rw [if_neg c3] at H;have c3b0:decide ((a0.size:Int)<=64)=false:=decide_eq_false c3;have c3b1:decide (a0.size<=64)=false:=decide_eq_false (by omega);clear c3;obtain rfl:=Option.some.inj H;go_enter Tryz.func66,Tryz.ntmps66;go_wp2;go_ret;exact ⟨xq,xd⟩
 ·rw [if_neg c2] at H;have c2b0:decide (1<=(a0.size:Int))=false:=decide_eq_false c2;have c2b1:decide (1<=a0.size)=false:=decide_eq_false (by omega);clear c2;obtain rfl:=Option.some.inj H;go_enter Tryz.func66,Tryz.ntmps66;go_wp2;go_ret;exact ⟨xq,xd⟩
end Go.Proofs.YtikggnalmidlhaaGreatDoor.Print
end
section
namespace Go.Proofs.YtikggnalmidlhaaGreatDoor.Print
open RowKit AR Aa Ad
set_option linter.unusedVariables false
set_option linter.unusedSimpArgs false
def Hw (s:ByteArray):Bool:=decide (0<=Lib.indexByte s.data.toList 10)||Lib.hasSuffix s.data.toList [13]
def FR:List ByteArray->ByteArray->Option (ByteArray×Bool)
 |[],out=>some (out,true)
 |s::l,out=>if out.size+s.size+1<=1000000000 then (if Hw s=true then some (⟨#[]⟩,false) else FR l (out++s++⟨#[10]⟩)) else none
def ER.f (l:List ByteArray):Option (ByteArray×Bool):=if l.length<=1000000000 then FR l ⟨#[]⟩ else none
theorem Ka (a b:ByteArray):Lib.byteCells (a++b).data.toList=Lib.byteCells a.data.toList++Lib.strCells b:=by
 rw [Lib.strCells_eq,ByteArray.data_append,Array.toList_append];unfold Lib.byteCells;rw [List.map_append]
theorem Kb (a:ByteArray):(Lib.byteCells a.data.toList).length=a.size:=by rw [Lib.byteCells_length,Array.length_toList];rfl
theorem VS (s:ByteArray) (n:Int) (hn:n=Lib.indexByte s.data.toList 10) (W:World):Calls Tryz.prog 44 #[.string s, .int .u8 10] W λe w'=>e= .returned (.int .i64 n)/\w'=W:=by
 rw [hn];exact Tryz.strings_IndexByte s 10 W
theorem Pw (s:ByteArray):(⟨s.data.toList.toArray⟩:ByteArray)=s:=by
 apply ByteArray.ext;simp
set_option maxHeartbeats 4000000 in
set_option maxRecDepth 100000 in
theorem ER.calls (A0:Option Addr) (c0:Nat) (l:List ByteArray) (r1:ByteArray) (r2:Bool) (w:World) (hr:Kd.string.C w A0 l.length l) (hc:l.length<=c0) (h:ER.f l=some (r1,r2)):
 Calls Tryz.prog 25 #[.slice A0 l.length c0] w λe w'=>e= .returned (.tuple #[.string r1, .bool r2])/\Below w.heap.size w w':=by
 unfold ER.f at h;split at h;case isFalse=>cases h
 rename_i hn;have HN:=AA.mk hn;have HR:=AA.mk hr;have F:=AA.mk h;clear hn hr h;have u1:=Tryz.underlying78;have u2:=Tryz.underlying45;have u3:=Tryz.underlying9;go_enter Tryz.func25,Tryz.ntmps25;go_upto_region 2 with (fail)
 have h0:=Lib.fresh_isBuilder 78 5 w;have b0:Below w.heap.size w (w.alloc (.cells #[.pointer none, .slice none 0 0] 78)):=(Below.refl _ w).alloc (Nat.le_refl _) _;generalize w.alloc (.cells #[.pointer none, .slice none 0 0] 78)=W at h0 b0⊢
 obtain ⟨b,hb⟩:∃ b,b=w.heap.size:=⟨_,rfl⟩;have h1:Lib.IsBuilder 78 5 w.heap.size b (Lib.byteCells (⟨#[]⟩:ByteArray).data.toList) W:=by rw [hb];exact h0
 rw [<-hb];have H:=AA.mk h1;have B:=AA.mk b0;have HBb:=AA.mk hb;clear h0 h1 b0 hb;go_wp2;go_loopw [9] (λv9 wr=>∃ (i:Nat) (out:ByteArray),v9= .int .i64 i/\AA (i<=l.length/\FR (l.drop i) out=some (r1,r2))/\AA (Lib.IsBuilder 78 5 w.heap.size b (Lib.byteCells out.data.toList) wr)/\AA (Below w.heap.size w wr)) (λv9 _=>l.length - (intOf v9).toNat);case atStart=>exact ⟨0,⟨#[]⟩,rfl,⟨Nat.zero_le _,F.out⟩,H,B⟩
 case round=>
  clear H B F;obtain ⟨i,out,rfl,HI,H,B⟩:=hrel;obtain ⟨hi,F⟩:=HI.out;clear HI;have hn2:=HN.out;by_cases hlt:i<l.length
  ·obtain ⟨ad,rfl,hx⟩:=Kd.DF (Kd.DW HR.out B.out) (i:Int) (by omega) (by omega);have hrd:Cf ByteArray.empty l (i:Int)=l[i]:=by unfold Cf;rw [Int.toNat_natCast,List.getD_eq_getElem?_getD,List.getElem?_eq_getElem hlt];rfl
   rw [hrd,Int.toNat_natCast] at hx;rw [List.drop_eq_getElem_cons hlt] at F;have d1:decide ((i:Int)<(l.length:Int))=true:=decide_eq_true (by omega);have d2:decide (i<l.length)=true:=decide_eq_true hlt;have p1:=eq_true (show 0<=(i:Int) by omega);have p2:=eq_true (show (i:Int)<(l.length:Int) by omega);generalize l[i]=s at hx F;unfold FR at F;split at F;case isFalse=>cases F
   rename_i hsz;have hss:=AA.mk (show s.size<=9223372036854775807 by omega);obtain ⟨bad,hbad⟩:∃ bad,bad=Lib.hasSuffix s.data.toList [13]:=⟨_,rfl⟩;have HSF:AA (s.size<=9223372036854775807->∀ W,Calls Tryz.prog 45 #[.string s, .string ⟨#[13]⟩] W λe w'=>e= .returned (.bool bad)/\w'=W):=⟨λhq W=>by rw [hbad];exact Tryz.strings_HasSuffix s ⟨#[13]⟩ W hq⟩;have hlb:Hw s=(decide (0<=Lib.indexByte s.data.toList 10)||bad):=by unfold Hw;rw [hbad]
   rw [hlb] at F;clear hrd hbad hlb;replace hlt:=AA.mk hlt;obtain ⟨n,hn⟩:∃ n,n=Lib.indexByte s.data.toList 10:=⟨_,rfl⟩;rw [<-hn] at F;have IX:=λW=>VS s n hn W
   replace IX:=AA.mk IX;clear hn;by_cases hix:0<=n
   ·rw [decide_eq_true hix,Bool.true_or,if_pos rfl] at F;simp only [Option.some.injEq,Prod.mk.injEq] at F;obtain ⟨rfl,rfl⟩:=F;have f1:decide (0<=n)=true:=decide_eq_true hix;clear hix;go_wp2_with (first|(go_at_call 44;refine (IX.out _).mono ?_;rintro e w' ⟨rfl,rfl⟩));go_ret2;exact ⟨rfl,B.out⟩
   ·rw [decide_eq_false hix,Bool.false_or] at F;have f1:decide (0<=n)=false:=decide_eq_false hix;clear hix;cases bad
    ·rw [if_neg (by decide)] at F;have hl1:=AA.mk (show (Lib.byteCells out.data.toList).length+s.size<=140737488355328 by rw [Kb];omega);have hl2:=AA.mk (show (Lib.byteCells out.data.toList++Lib.strCells s).length+1<=140737488355328 by rw [List.length_append,Kb,Lib.strCells_length];omega);clear hsz;go_wp2_with (first|(go_at_call 44;refine (IX.out _).mono ?_;rintro e w' ⟨rfl,rfl⟩)|(go_at_call 45;refine (HSF.out hss.out _).mono ?_;rintro e w' ⟨rfl,rfl⟩)|(go_at_call 46;refine (NC _ b _ s _ H.out hl1.out B.out.size).mono ?_;rintro e w' ⟨rfl,h1,hb⟩;replace H:=AA.mk (Or.inr h1:Lib.IsBuilder _ _ _ _ _ _);replace B:=AA.mk (B.out.trans hb);clear h1 hb)|(go_at_call 47;refine (Ps _ b _ 10 _ H.out hl2.out B.out.size).mono ?_;rintro e w' ⟨rfl,h1,hb⟩;replace H:=AA.mk (Or.inr h1:Lib.IsBuilder _ _ _ _ _ _);replace B:=AA.mk (B.out.trans hb);clear h1 hb));go_roundw;case rel=>
      refine ⟨i+1,out++s++⟨#[10]⟩,by go_num,⟨by have:=hlt.out;omega,F⟩,⟨?_⟩,B⟩;rw [Ka,Ka];exact H.out
     case measure=>have:=hlt.out;simp [intOf];omega
    ·rw [if_pos rfl] at F;simp only [Option.some.injEq,Prod.mk.injEq] at F;obtain ⟨rfl,rfl⟩:=F;go_wp2_with (first|(go_at_call 44;refine (IX.out _).mono ?_;rintro e w' ⟨rfl,rfl⟩)|(go_at_call 45;refine (HSF.out hss.out _).mono ?_;rintro e w' ⟨rfl,rfl⟩));go_ret2;exact ⟨rfl,B.out⟩
  ·obtain rfl:i=l.length:=by omega
   rw [List.drop_length] at F;unfold FR at F;simp only [Option.some.injEq,Prod.mk.injEq] at F;obtain ⟨rfl,rfl⟩:=F;have d1:decide ((l.length:Int)<(l.length:Int))=false:=decide_eq_false (by omega);have d2:decide (l.length<l.length)=false:=decide_eq_false (by omega);go_wp2_with (first|(go_at_call 48;refine (Tryz.Builder_String_any _ b out.data.toList _ H.out B.out.size).mono ?_;rintro e w' ⟨rfl,hb⟩;replace B:=AA.mk (B.out.trans hb);clear hb));go_ret2;exact ⟨by first|rfl|(rw [Pw];rfl),B.out⟩
end Go.Proofs.YtikggnalmidlhaaGreatDoor.Print
end
section
namespace Go.Proofs.YtikggnalmidlhaaGreatDoor.Print
open RowKit AR Aa Ad Range Shelf
set_option linter.unusedVariables false
set_option linter.unusedSimpArgs false
attribute [local go_sem] Oper.semAt_some
def Gd (x:CU):List Value:=[.string x.f0, .string x.f1, .string x.f2, .string x.f3, .int .i64 x.f4, .int .i64 x.f5, .int .i64 x.f6, .bool x.f7, .bool x.f8, .bool x.f9, .int .i64 x.f10]
theorem Ke (W:World) (cs:List Value) (t:TypeId):∀ j u,cs[j]? =some u->(W.alloc (.cells cs.toArray t)).cell? ((⟨W.heap.size,0,none⟩:Addr).add j)=some u:=by
 intro j u h;rw [show (⟨W.heap.size,0,none⟩:Addr).add j=⟨W.heap.size,j,none⟩ by simp [Addr.add];omega,AL (Eh W (.cells cs.toArray t)) j];simpa using h
def KH (l:List Cj) (j:Nat):List Value:=(l.take j).flatMap λx=>Gd x.f1
def cLen (l:List Cj) (j:Nat):Nat:=(l.take j).length
theorem Hy (w:World) (base:Nat) (ok:Nat->Prop) (l:List Cj):∀ j,j<=l.length->CG (λx cs=>Fu.M w base ok x cs) 11 ((l.take j).map (·.f1)) (KH l j)
 |0,_=>by simpa [KH] using CG.none _ _
 |j+1,h=>by
  have h1:=Hy w base ok l j (by omega);have ht:l.take (j+1)=l.take j++[l[j]]:=by rw [List.take_add_one,List.getElem?_eq_getElem (by omega)];rfl
  have h2:=CG.snoc h1 (Er w base ok (l[j]).f1) rfl;unfold KH at h2⊢
  rw [ht,List.map_append,List.flatMap_append];exact h2
theorem Su:(Tryz.prog.info? 53).map (λi=>(i.zero,i.size,i.bytes))=some (some (.agg #[.string ⟨#[]⟩, .string ⟨#[]⟩, .string ⟨#[]⟩, .string ⟨#[]⟩, .int .i64 0, .int .i64 0, .int .i64 0, .bool false, .bool false, .bool false, .int .i64 0]),11,104):=by kernel_rfl
def Ed.f (l:List Cj):Option (List CU):=if l.length<=1099511627776 then some (l.map (·.f1)) else none
set_option maxHeartbeats 4000000 in
set_option maxRecDepth 100000 in
theorem Ed.calls (A0:Option Addr) (c0:Nat) (l:List Cj) (r:List CU) (w:World) (hr:Kd.C Ex w A0 l.length l) (hc:l.length<=c0) (h:Ed.f l=some r):
 Calls Tryz.prog 23 #[.agg #[.slice A0 l.length c0]] w λe w'=>∃ v0_:Value,e= .returned v0_/\Kd.R Fu 53 w' w.heap.size (λ_=>True) v0_ r/\Below w.heap.size w w':=by
 unfold Ed.f at h;by_cases hn:l.length<=1099511627776;case neg=>rw [if_neg hn] at h;exact absurd h (by simp)
 rw [if_pos hn] at h;obtain rfl:=Option.some.inj h;have huJ:=Tryz.underlying29;have huH:=Tryz.underlying27;have huT:=Tryz.underlying25;have huC:=Tryz.underlying53;have huL:=Tryz.underlying22;refine Ef Tryz.func23 rfl ?_;simp only [Tryz.ntmps23,List.size_toArray,List.length_cons,List.length_nil,Nat.reduceAdd,Nat.reduceSub,Array.replicate_succ,Array.replicate_zero,List.push_toArray,List.append_toArray,List.nil_append,List.cons_append];obtain ⟨i0,hi,hz0,hz1,hz2⟩:=info_parts Su;go_wp2;have bO:=Boxed.new (w.alloc (.cells #[.slice A0 l.length c0] 29)) 22 (.slice none 0 0);rw [World.size_alloc] at bO;have hB0:Below w.heap.size w ((w.alloc (.cells #[.slice A0 l.length c0] 29)).alloc (.cells #[.slice none 0 0] 22)):=((Below.refl _ w).alloc (Nat.le_refl _) _).alloc (by simp) _;have hIown:=(OwnFrom.and (Own.from (holdsRow_own w.heap.size (w.heap.size+1) 22 53 11 (cLen l) (KH l) (λ_ _=>True)) (((w.alloc (.cells #[.slice A0 l.length c0] 29)).alloc (.cells #[.slice none 0 0] 22)).heap.size)) (ownFrom_below (Nat.le_refl _) (by simp;omega)):OwnFrom _ (λj W=>(∃ v,Boxed W (w.heap.size+1) 22 v/\W.ownsRow w.heap.size 53 11 v (cLen l j) (KH l j)/\True)/\Below w.heap.size w W));refine Kj (gf:=40) (fb:=#[.agg #[.slice A0 l.length c0]]) (n₀:=w.heap.size) (enc:=IQ) (xs:=l) rfl (enters_of Tryz.func40 (by kernel_rfl) rfl)
  (KX A0 c0 l w _ 8 hr hc (by omega) hB0) (by simp;omega) (λ_ _=>rfl)
  (λj W=>(∃ v,Boxed W (w.heap.size+1) 22 v/\W.ownsRow w.heap.size 53 11 v (cLen l j) (KH l j)/\True)/\Below w.heap.size w W)
  (λ_ _ _=>False)
  hIown
  (λ_ _ _ _ _ hs _ _=>hs)
  ⟨⟨_,bO,World.ownsRow_nil _ _ _ _,trivial⟩,hB0⟩
  (IY (λx g=>{tmps:=#[.agg #[.slice A0 l.length c0], .pointer (some ⟨w.heap.size,0,none⟩), .slice none 0 0, .pointer (some ⟨w.heap.size+1,0,none⟩),undef, .pointer (some ⟨g,0,none⟩), .pointer (some ⟨w.heap.size,0,none⟩), .pointer (some ⟨w.heap.size,0,none⟩), .agg #[.slice A0 l.length c0], .func (.func 40) #[.agg #[.slice A0 l.length c0]] #[], .agg #[.string x.f0.f0, .string x.f0.f1, .string x.f0.f2], .agg #[.string x.f1.f0, .string x.f1.f1, .string x.f1.f2, .string x.f1.f3, .int .i64 x.f1.f4, .int .i64 x.f1.f5, .int .i64 x.f1.f6, .bool x.f1.f7, .bool x.f1.f8, .bool x.f1.f9, .int .i64 x.f1.f10],undef,undef,undef,undef,undef],defers:=[]}) (λx=>#[.string x.f1.f0, .string x.f1.f1, .string x.f1.f2, .string x.f1.f3, .int .i64 x.f1.f4, .int .i64 x.f1.f5, .int .i64 x.f1.f6, .bool x.f1.f7, .bool x.f1.f8, .bool x.f1.f9, .int .i64 x.f1.f10]) 53 (λj W=>(∃ v,Boxed W (w.heap.size+1) 22 v/\W.ownsRow w.heap.size 53 11 v (cLen l j) (KH l j)/\True)/\Below w.heap.size w W))
  (IY.own hIown) ?assign ?body ?done ?stop
 case assign=>
  intro lp j x W hx hI;have hS:=hI.2.size;unfold IQ
  gi_wp2
  exact ⟨(KeepsOthers.alloc _ _).from _,(Below.refl _ W).alloc hS _,W.heap.size,rfl,Eh _ _,hIown.alloc _ hI⟩
 case body=>
  rintro lp j x a1 W hx ⟨g,hq,hg,⟨v,hv,hrow,_⟩,hB⟩;dsimp only at hq hg;subst hq;have hc:=hv.cell;have g0:=GJ hg (i:=0) rfl;have g1:=GJ hg (i:=1) rfl;have g2:=GJ hg (i:=2) rfl;have g3:=GJ hg (i:=3) rfl;have g4:=GJ hg (i:=4) rfl;have g5:=GJ hg (i:=5) rfl;have g6:=GJ hg (i:=6) rfl;have g7:=GJ hg (i:=7) rfl;have g8:=GJ hg (i:=8) rfl;have g9:=GJ hg (i:=9) rfl;have g10:=GJ hg (i:=10) rfl;have hj:j<l.length:=(List.getElem?_eq_some_iff.1 hx).1;have hpl:cLen l j=j:=by unfold cLen;simp;omega
  have hpl1:cLen l (j+1)=j+1:=by unfold cLen;simp;omega
  rw [hpl] at hrow;have htk:KH l (j+1)=KH l j++Gd x.f1:=by unfold KH;rw [List.take_add_one,hx,List.flatMap_append];rfl
  gi_wp2_with (gi_at_builtin;refine wpListIn_append_own _ rfl _ _ 22 rfl w.heap.size 53 i0 (.agg #[.string ⟨#[]⟩, .string ⟨#[]⟩, .string ⟨#[]⟩, .string ⟨#[]⟩, .int .i64 0, .int .i64 0, .int .i64 0, .bool false, .bool false, .bool false, .int .i64 0]) 11 104 huL hi hz0 hz1 hz2 rfl (by decide) _ _ _ rfl (hrow.alloc _) ⟨W.heap.size,0,none⟩ 1 1 (Gd x.f1) rfl rfl (Ke W _ 53) (by simp [Gd,Value.oneCell']) (by unfold maxLen;omega) (by omega) (by have:=hB.size;simp;omega) ?_;intro v' w1 hown' hgrow _;obtain ⟨g',cap',rfl⟩:=ownsRow_succ hown';obtain ⟨hv1,hv2,hr2,hk2,hb2⟩:=hv.appended (by decide) hrow hB.size (by omega) hown' hgrow;have hc1:=hv1.cell;have hf1:=hv1.frozen)
  exact ⟨hk2.from _,hb2,⟨_,hv2,by rw [htk,hpl1];first|exact hr2|exact ⟨hr2,trivial⟩⟩,hB.trans hb2⟩
 case done=>
  rintro D W hD ⟨⟨v,hv,hrow,_⟩,hB⟩ hK;have hc:=hv.cell;rw [show cLen l l.length=(l.map (·.f1)).length by unfold cLen;simp] at hrow;go_wp2;refine ⟨by simp, .inl ⟨_,_,rfl,run_takeDeferred hK,?_⟩⟩;refine ⟨_,results_tmp rfl _ _ _,v,rfl,?_,hB.trans (belowK_b (w:=w) (Nat.le_refl _) W D _ _ (by simp at hD;omega) hK rfl rfl)⟩;have hq:=Hy (W.putObj D (.deferred none)) w.heap.size (λk=>True/\some k≠v.ownBlock) l l.length (Nat.le_refl _);rw [List.take_length] at hq;exact ⟨λ_ _=>trivial,_,ownsRow_putObj hrow _ hK rfl,hq⟩
 case stop=>
  rintro D c j W _ _ h _;exact h.elim
end Go.Proofs.YtikggnalmidlhaaGreatDoor.Print
end
