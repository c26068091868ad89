/- (held).many: are there more than a jar has? -/
import Derived.Test.YtikggnalmidlhaaGreatDoorM5
import Derived.Outline
import Derived.BigRegionIn
section
namespace Go.Proofs.YtikggnalmidlhaaGreatDoor.Print
open RowKit AR Aa Ad
attribute [local go_sem] BM BN Bo Bp BC BD BO BP
set_option linter.unusedVariables false
set_option linter.unusedSimpArgs false
def ET.f (a0:ByteArray):Option (Bool):=if (a0.size:Int)>=1 then (if (a0.size:Int)<=64 then (if 0<(a0.size:Int) then (if (bt a0 0)=47 then ((Dx.f a0).bind λt115=>(some t115)) else (some false)) else (none)) else (some false)) else (some false)
set_option maxHeartbeats 8000000 in
set_option maxRecDepth 100000 in
theorem ET.calls (a0:ByteArray) (r:Bool) (w:World) (h:ET.f a0=some r):
 Calls Tryz.prog 66 #[.string a0] w λe w'=>e= .returned (.bool r)/\Ap w w':=by
 have H:(if (a0.size:Int)>=1 then (if (a0.size:Int)<=64 then (if 0<(a0.size:Int) then (if (bt a0 0)=47 then ((Dx.f a0).bind λt115=>(some t115)) else (some false)) else (none)) else (some false)) else (some false))=some r:=h;clear h;by_cases c2:(a0.size:Int)>=1
 ·rw [if_pos c2] at H;have c2b0:decide (1<=(a0.size:Int))=true:=decide_eq_true c2;have c2b1:decide (1<=a0.size)=true:=decide_eq_true (by omega);clear c2;by_cases c3:(a0.size:Int)<=64
  ·rw [if_pos c3] at H;have c3b0:decide ((a0.size:Int)<=64)=true:=decide_eq_true c3;have c3b1:decide (a0.size<=64)=true:=decide_eq_true (by omega);clear c3;by_cases c4:0<(a0.size:Int)
   ·rw [if_pos c4] at H;have c4b0:decide (0<(a0.size:Int))=true:=decide_eq_true c4;have c4b1:decide (0<a0.size)=true:=decide_eq_true (by omega);clear c4;by_cases c6:(bt a0 0)=47
    ·rw [if_pos c6] at H;have c6b0:((bt a0 0)==47)=true:=beq_iff_eq.mpr c6;have c6b1:((bt a0 0) != 47)=false:=bne_eq_false_iff_eq.mpr c6;clear c6;replace H:=Option.bind_eq_some_iff.mp H;obtain ⟨t115,A70,H⟩:=H;replace H:(some t115)=some r:=H;have A7:=AA.mk A70;clear A70;obtain rfl:=Option.some.inj H;have p5:0<=(0:Int):=(by omega);have q5:0<a0.size:=(by have:(0:Int)<(a0.size:Int):=xa;omega);have hx5:∀ h:0<a0.size,((a0[0]'h).toNat:Int)=bt a0 0:=Br a0 0;clear p5;have qi5:(0<(a0.size:Int))=True:=eq_true (xa);replace q5:=eq_true q5;go_enter Tryz.func66,Tryz.ntmps66;go_wp2_with (first|(go_at_call 101;(with_reducible refine (Dx.calls a0 t115 _ A7.out).mono ?_);rintro e w' ⟨rfl,⟨nd,rfl⟩⟩));go_ret;exact ⟨xq,xd⟩
    ·rw [if_neg c6] at H;have c6b0:((bt a0 0)==47)=false:=beq_eq_false_iff_ne.mpr c6;have c6b1:((bt a0 0) != 47)=true:=bne_iff_ne.mpr c6;obtain rfl:=Option.some.inj H;have p5:0<=(0:Int):=(by omega);have q5:0<a0.size:=(by have:(0:Int)<(a0.size:Int):=xa;omega);have hx5:∀ h:0<a0.size,((a0[0]'h).toNat:Int)=bt a0 0:=Br a0 0;clear p5;have qi5:(0<(a0.size:Int))=True:=eq_true (xa);replace q5:=eq_true q5;go_enter Tryz.func66,Tryz.ntmps66;go_wp2;go_ret;exact ⟨xq,xd⟩
   ·rw [if_neg c4] at H;exact absurd H (by simp)
  ·rw [if_neg c3] at H;have c3b0:decide ((a0.size:Int)<=64)=false:=decide_eq_false c3;have c3b1:decide (a0.size<=64)=false:=decide_eq_false (by omega);clear c3;obtain rfl:=Option.some.inj H;go_enter Tryz.func66,Tryz.ntmps66;go_wp2;go_ret;exact ⟨xq,xd⟩
 ·rw [if_neg c2] at H;have c2b0:decide (1<=(a0.size:Int))=false:=decide_eq_false c2;have c2b1:decide (1<=a0.size)=false:=decide_eq_false (by omega);clear c2;obtain rfl:=Option.some.inj H;go_enter Tryz.func66,Tryz.ntmps66;go_wp2;go_ret;exact ⟨xq,xd⟩
end Go.Proofs.YtikggnalmidlhaaGreatDoor.Print
end
section
namespace Go.Proofs.YtikggnalmidlhaaGreatDoor.Print
open RowKit AR Aa Ad
set_option linter.unusedVariables false
set_option linter.unusedSimpArgs false
def Hw (s:ByteArray):Bool:=decide (0<=Lib.indexByte s.data.toList 10)||Lib.hasSuffix s.data.toList [13]
def FR:List ByteArray->ByteArray->Option (ByteArray×Bool)
 |[],out=>some (out,true)
 |s::l,out=>if out.size+s.size+1<=1000000000 then (if Hw s=true then some (⟨#[]⟩,false) else FR l (out++s++⟨#[10]⟩)) else none
def ER.f (l:List ByteArray):Option (ByteArray×Bool):=if l.length<=1000000000 then FR l ⟨#[]⟩ else none
theorem Ka (a b:ByteArray):Lib.byteCells (a++b).data.toList=Lib.byteCells a.data.toList++Lib.strCells b:=by
 rw [Lib.strCells_eq,ByteArray.data_append,Array.toList_append];unfold Lib.byteCells;rw [List.map_append]
theorem Kb (a:ByteArray):(Lib.byteCells a.data.toList).length=a.size:=by rw [Lib.byteCells_length,Array.length_toList];rfl
theorem VS (s:ByteArray) (n:Int) (hn:n=Lib.indexByte s.data.toList 10) (W:World):Calls Tryz.prog 44 #[.string s, .int .u8 10] W λe w'=>e= .returned (.int .i64 n)/\w'=W:=by
 rw [hn];exact Tryz.strings_IndexByte s 10 W
theorem Pw (s:ByteArray):(⟨s.data.toList.toArray⟩:ByteArray)=s:=by
 apply ByteArray.ext;simp
set_option maxHeartbeats 4000000 in
set_option maxRecDepth 100000 in
theorem ER.calls (A0:Option Addr) (c0:Nat) (l:List ByteArray) (r1:ByteArray) (r2:Bool) (w:World) (hr:Kd.string.C w A0 l.length l) (hc:l.length<=c0) (h:ER.f l=some (r1,r2)):
 Calls Tryz.prog 25 #[.slice A0 l.length c0] w λe w'=>e= .returned (.tuple #[.string r1, .bool r2])/\Below w.heap.size w w':=by
 unfold ER.f at h;split at h;case isFalse=>cases h
 rename_i hn;have HN:=AA.mk hn;have HR:=AA.mk hr;have F:=AA.mk h;clear hn hr h;have u1:=Tryz.underlying78;have u2:=Tryz.underlying45;have u3:=Tryz.underlying9;go_enter Tryz.func25,Tryz.ntmps25;go_upto_region 2 with (fail)
 have h0:=Lib.fresh_isBuilder 78 5 w;have b0:Below w.heap.size w (w.alloc (.cells #[.pointer none, .slice none 0 0] 78)):=(Below.refl _ w).alloc (Nat.le_refl _) _;generalize w.alloc (.cells #[.pointer none, .slice none 0 0] 78)=W at h0 b0⊢
 obtain ⟨b,hb⟩:∃ b,b=w.heap.size:=⟨_,rfl⟩;have h1:Lib.IsBuilder 78 5 w.heap.size b (Lib.byteCells (⟨#[]⟩:ByteArray).data.toList) W:=by rw [hb];exact h0
 rw [<-hb];have H:=AA.mk h1;have B:=AA.mk b0;have HBb:=AA.mk hb;clear h0 h1 b0 hb;go_wp2;go_loopw [9] (λv9 wr=>∃ (i:Nat) (out:ByteArray),v9= .int .i64 i/\AA (i<=l.length/\FR (l.drop i) out=some (r1,r2))/\AA (Lib.IsBuilder 78 5 w.heap.size b (Lib.byteCells out.data.toList) wr)/\AA (Below w.heap.size w wr)) (λv9 _=>l.length - (intOf v9).toNat);case atStart=>exact ⟨0,⟨#[]⟩,rfl,⟨Nat.zero_le _,F.out⟩,H,B⟩
 case round=>
  clear H B F;obtain ⟨i,out,rfl,HI,H,B⟩:=hrel;obtain ⟨hi,F⟩:=HI.out;clear HI;have hn2:=HN.out;by_cases hlt:i<l.length
  ·obtain ⟨ad,rfl,hx⟩:=Kd.DF (Kd.DW HR.out B.out) (i:Int) (by omega) (by omega);have hrd:Cf ByteArray.empty l (i:Int)=l[i]:=by unfold Cf;rw [Int.toNat_natCast,List.getD_eq_getElem?_getD,List.getElem?_eq_getElem hlt];rfl
   rw [hrd,Int.toNat_natCast] at hx;rw [List.drop_eq_getElem_cons hlt] at F;have d1:decide ((i:Int)<(l.length:Int))=true:=decide_eq_true (by omega);have d2:decide (i<l.length)=true:=decide_eq_true hlt;have p1:=eq_true (show 0<=(i:Int) by omega);have p2:=eq_true (show (i:Int)<(l.length:Int) by omega);generalize l[i]=s at hx F;unfold FR at F;split at F;case isFalse=>cases F
   rename_i hsz;have hss:=AA.mk (show s.size<=9223372036854775807 by omega);obtain ⟨bad,hbad⟩:∃ bad,bad=Lib.hasSuffix s.data.toList [13]:=⟨_,rfl⟩;have HSF:AA (s.size<=9223372036854775807->∀ W,Calls Tryz.prog 45 #[.string s, .string ⟨#[13]⟩] W λe w'=>e= .returned (.bool bad)/\w'=W):=⟨λhq W=>by rw [hbad];exact Tryz.strings_HasSuffix s ⟨#[13]⟩ W hq⟩;have hlb:Hw s=(decide (0<=Lib.indexByte s.data.toList 10)||bad):=by unfold Hw;rw [hbad]
   rw [hlb] at F;clear hrd hbad hlb;replace hlt:=AA.mk hlt;obtain ⟨n,hn⟩:∃ n,n=Lib.indexByte s.data.toList 10:=⟨_,rfl⟩;rw [<-hn] at F;have IX:=λW=>VS s n hn W
   replace IX:=AA.mk IX;clear hn;by_cases hix:0<=n
   ·rw [decide_eq_true hix,Bool.true_or,if_pos rfl] at F;simp only [Option.some.injEq,Prod.mk.injEq] at F;obtain ⟨rfl,rfl⟩:=F;have f1:decide (0<=n)=true:=decide_eq_true hix;clear hix;go_wp2_with (first|(go_at_call 44;refine (IX.out _).mono ?_;rintro e w' ⟨rfl,rfl⟩));go_ret2;exact ⟨rfl,B.out⟩
   ·rw [decide_eq_false hix,Bool.false_or] at F;have f1:decide (0<=n)=false:=decide_eq_false hix;clear hix;cases bad
    ·rw [if_neg (by decide)] at F;have hl1:=AA.mk (show (Lib.byteCells out.data.toList).length+s.size<=140737488355328 by rw [Kb];omega);have hl2:=AA.mk (show (Lib.byteCells out.data.toList++Lib.strCells s).length+1<=140737488355328 by rw [List.length_append,Kb,Lib.strCells_length];omega);clear hsz;go_wp2_with (first|(go_at_call 44;refine (IX.out _).mono ?_;rintro e w' ⟨rfl,rfl⟩)|(go_at_call 45;refine (HSF.out hss.out _).mono ?_;rintro e w' ⟨rfl,rfl⟩)|(go_at_call 46;refine (NC _ b _ s _ H.out hl1.out B.out.size).mono ?_;rintro e w' ⟨rfl,h1,hb⟩;replace H:=AA.mk (Or.inr h1:Lib.IsBuilder _ _ _ _ _ _);replace B:=AA.mk (B.out.trans hb);clear h1 hb)|(go_at_call 47;refine (Ps _ b _ 10 _ H.out hl2.out B.out.size).mono ?_;rintro e w' ⟨rfl,h1,hb⟩;replace H:=AA.mk (Or.inr h1:Lib.IsBuilder _ _ _ _ _ _);replace B:=AA.mk (B.out.trans hb);clear h1 hb));go_roundw;case rel=>
      refine ⟨i+1,out++s++⟨#[10]⟩,by go_num,⟨by have:=hlt.out;omega,F⟩,⟨?_⟩,B⟩;rw [Ka,Ka];exact H.out
     case measure=>have:=hlt.out;simp [intOf];omega
    ·rw [if_pos rfl] at F;simp only [Option.some.injEq,Prod.mk.injEq] at F;obtain ⟨rfl,rfl⟩:=F;go_wp2_with (first|(go_at_call 44;refine (IX.out _).mono ?_;rintro e w' ⟨rfl,rfl⟩)|(go_at_call 45;refine (HSF.out hss.out _).mono ?_;rintro e w' ⟨rfl,rfl⟩));go_ret2;exact ⟨rfl,B.out⟩
  ·obtain rfl:i=l.length:=by omega
   rw [List.drop_length] at F;unfold FR at F;simp only [Option.some.injEq,Prod.mk.injEq] at F;obtain ⟨rfl,rfl⟩:=F;have d1:decide ((l.length:Int)<(l.length:Int))=false:=decide_eq_false (by omega);have d2:decide (l.length<l.length)=false:=decide_eq_false (by omega);go_wp2_with (first|(go_at_call 48;refine (Tryz.Builder_String_any _ b out.data.toList _ H.out B.out.size).mono ?_;rintro e w' ⟨rfl,hb⟩;replace B:=AA.mk (B.out.trans hb);clear hb));go_ret2;exact ⟨by first|rfl|(rw [Pw];rfl),B.out⟩
end Go.Proofs.YtikggnalmidlhaaGreatDoor.Print
end
section
namespace Go.Proofs.YtikggnalmidlhaaGreatDoor.Print
open RowKit AR Aa Ad Range Shelf
set_option linter.unusedVariables false
set_option linter.unusedSimpArgs false
attribute [local go_sem] Oper.semAt_some
def Gd (x:CU):List Value:=[.string x.f0, .string x.f1, .string x.f2, .string x.f3, .int .i64 x.f4, .int .i64 x.f5, .int .i64 x.f6, .bool x.f7, .bool x.f8, .bool x.f9, .int .i64 x.f10]
theorem Ke (W:World) (cs:List Value) (t:TypeId):∀ j u,cs[j]? =some u->(W.alloc (.cells cs.toArray t)).cell? ((⟨W.heap.size,0,none⟩:Addr).add j)=some u:=by
 intro j u h;rw [show (⟨W.heap.size,0,none⟩:Addr).add j=⟨W.heap.size,j,none⟩ by simp [Addr.add];omega,AL (Eh W (.cells cs.toArray t)) j];simpa using h
def KH (l:List Cj) (j:Nat):List Value:=(l.take j).flatMap λx=>Gd x.f1
def cLen (l:List Cj) (j:Nat):Nat:=(l.take j).length
theorem Hy (w:World) (base:Nat) (ok:Nat->Prop) (l:List Cj):∀ j,j<=l.length->CG (λx cs=>Fu.M w base ok x cs) 11 ((l.take j).map (·.f1)) (KH l j)
 |0,_=>by simpa [KH] using CG.none _ _
 |j+1,h=>by
  have h1:=Hy w base ok l j (by omega);have ht:l.take (j+1)=l.take j++[l[j]]:=by rw [List.take_add_one,List.getElem?_eq_getElem (by omega)];rfl
  have h2:=CG.snoc h1 (Er w base ok (l[j]).f1) rfl;unfold KH at h2⊢
  rw [ht,List.map_append,List.flatMap_append];exact h2
theorem Su:(Tryz.prog.info? 53).map (λi=>(i.zero,i.size,i.bytes))=some (some (.agg #[.string ⟨#[]⟩, .string ⟨#[]⟩, .string ⟨#[]⟩, .string ⟨#[]⟩, .int .i64 0, .int .i64 0, .int .i64 0, .bool false, .bool false, .bool false, .int .i64 0]),11,104):=by kernel_rfl
def Ed.f (l:List Cj):Option (List CU):=if l.length<=1099511627776 then some (l.map (·.f1)) else none
set_option maxHeartbeats 4000000 in
set_option maxRecDepth 100000 in
theorem Ed.calls (A0:Option Addr) (c0:Nat) (l:List Cj) (r:List CU) (w:World) (hr:Kd.C Ex w A0 l.length l) (hc:l.length<=c0) (h:Ed.f l=some r):
 Calls Tryz.prog 23 #[.agg #[.slice A0 l.length c0]] w λe w'=>∃ v0_:Value,e= .returned v0_/\Kd.R Fu 53 w' w.heap.size (λ_=>True) v0_ r/\Below w.heap.size w w':=by
 unfold Ed.f at h;by_cases hn:l.length<=1099511627776;case neg=>rw [if_neg hn] at h;exact absurd h (by simp)
 rw [if_pos hn] at h;obtain rfl:=Option.some.inj h;have huJ:=Tryz.underlying29;have huH:=Tryz.underlying27;have huT:=Tryz.underlying25;have huC:=Tryz.underlying53;have huL:=Tryz.underlying22;refine Ef Tryz.func23 rfl ?_;simp only [Tryz.ntmps23,List.size_toArray,List.length_cons,List.length_nil,Nat.reduceAdd,Nat.reduceSub,Array.replicate_succ,Array.replicate_zero,List.push_toArray,List.append_toArray,List.nil_append,List.cons_append];obtain ⟨i0,hi,hz0,hz1,hz2⟩:=info_parts Su;go_wp2;have bO:=Boxed.new (w.alloc (.cells #[.slice A0 l.length c0] 29)) 22 (.slice none 0 0);rw [World.size_alloc] at bO;have hB0:Below w.heap.size w ((w.alloc (.cells #[.slice A0 l.length c0] 29)).alloc (.cells #[.slice none 0 0] 22)):=((Below.refl _ w).alloc (Nat.le_refl _) _).alloc (by simp) _;have hIown:=(OwnFrom.and (Own.from (holdsRow_own w.heap.size (w.heap.size+1) 22 53 11 (cLen l) (KH l) (λ_ _=>True)) (((w.alloc (.cells #[.slice A0 l.length c0] 29)).alloc (.cells #[.slice none 0 0] 22)).heap.size)) (ownFrom_below (Nat.le_refl _) (by simp;omega)):OwnFrom _ (λj W=>(∃ v,Boxed W (w.heap.size+1) 22 v/\W.ownsRow w.heap.size 53 11 v (cLen l j) (KH l j)/\True)/\Below w.heap.size w W));refine Kj (gf:=40) (fb:=#[.agg #[.slice A0 l.length c0]]) (n₀:=w.heap.size) (enc:=IQ) (xs:=l) rfl (enters_of Tryz.func40 (by kernel_rfl) rfl)
  (KX A0 c0 l w _ 8 hr hc (by omega) hB0) (by simp;omega) (λ_ _=>rfl)
  (λj W=>(∃ v,Boxed W (w.heap.size+1) 22 v/\W.ownsRow w.heap.size 53 11 v (cLen l j) (KH l j)/\True)/\Below w.heap.size w W)
  (λ_ _ _=>False)
  hIown
  (λ_ _ _ _ _ hs _ _=>hs)
  ⟨⟨_,bO,World.ownsRow_nil _ _ _ _,trivial⟩,hB0⟩
  (IY (λx g=>{tmps:=#[.agg #[.slice A0 l.length c0], .pointer (some ⟨w.heap.size,0,none⟩), .slice none 0 0, .pointer (some ⟨w.heap.size+1,0,none⟩),undef, .pointer (some ⟨g,0,none⟩), .pointer (some ⟨w.heap.size,0,none⟩), .pointer (some ⟨w.heap.size,0,none⟩), .agg #[.slice A0 l.length c0], .func (.func 40) #[.agg #[.slice A0 l.length c0]] #[], .agg #[.string x.f0.f0, .string x.f0.f1, .string x.f0.f2], .agg #[.string x.f1.f0, .string x.f1.f1, .string x.f1.f2, .string x.f1.f3, .int .i64 x.f1.f4, .int .i64 x.f1.f5, .int .i64 x.f1.f6, .bool x.f1.f7, .bool x.f1.f8, .bool x.f1.f9, .int .i64 x.f1.f10],undef,undef,undef,undef,undef],defers:=[]}) (λx=>#[.string x.f1.f0, .string x.f1.f1, .string x.f1.f2, .string x.f1.f3, .int .i64 x.f1.f4, .int .i64 x.f1.f5, .int .i64 x.f1.f6, .bool x.f1.f7, .bool x.f1.f8, .bool x.f1.f9, .int .i64 x.f1.f10]) 53 (λj W=>(∃ v,Boxed W (w.heap.size+1) 22 v/\W.ownsRow w.heap.size 53 11 v (cLen l j) (KH l j)/\True)/\Below w.heap.size w W))
  (IY.own hIown) ?assign ?body ?done ?stop
 case assign=>
  intro lp j x W hx hI;have hS:=hI.2.size;unfold IQ
  gi_wp2
  exact ⟨(KeepsOthers.alloc _ _).from _,(Below.refl _ W).alloc hS _,W.heap.size,rfl,Eh _ _,hIown.alloc _ hI⟩
 case body=>
  rintro lp j x a1 W hx ⟨g,hq,hg,⟨v,hv,hrow,_⟩,hB⟩;dsimp only at hq hg;subst hq;have hc:=hv.cell;have g0:=GJ hg (i:=0) rfl;have g1:=GJ hg (i:=1) rfl;have g2:=GJ hg (i:=2) rfl;have g3:=GJ hg (i:=3) rfl;have g4:=GJ hg (i:=4) rfl;have g5:=GJ hg (i:=5) rfl;have g6:=GJ hg (i:=6) rfl;have g7:=GJ hg (i:=7) rfl;have g8:=GJ hg (i:=8) rfl;have g9:=GJ hg (i:=9) rfl;have g10:=GJ hg (i:=10) rfl;have hj:j<l.length:=(List.getElem?_eq_some_iff.1 hx).1;have hpl:cLen l j=j:=by unfold cLen;simp;omega
  have hpl1:cLen l (j+1)=j+1:=by unfold cLen;simp;omega
  rw [hpl] at hrow;have htk:KH l (j+1)=KH l j++Gd x.f1:=by unfold KH;rw [List.take_add_one,hx,List.flatMap_append];rfl
  gi_wp2_with (gi_at_builtin;refine wpListIn_append_own _ rfl _ _ 22 rfl w.heap.size 53 i0 (.agg #[.string ⟨#[]⟩, .string ⟨#[]⟩, .string ⟨#[]⟩, .string ⟨#[]⟩, .int .i64 0, .int .i64 0, .int .i64 0, .bool false, .bool false, .bool false, .int .i64 0]) 11 104 huL hi hz0 hz1 hz2 rfl (by decide) _ _ _ rfl (hrow.alloc _) ⟨W.heap.size,0,none⟩ 1 1 (Gd x.f1) rfl rfl (Ke W _ 53) (by simp [Gd,Value.oneCell']) (by unfold maxLen;omega) (by omega) (by have:=hB.size;simp;omega) ?_;intro v' w1 hown' hgrow _;obtain ⟨g',cap',rfl⟩:=ownsRow_succ hown';obtain ⟨hv1,hv2,hr2,hk2,hb2⟩:=hv.appended (by decide) hrow hB.size (by omega) hown' hgrow;have hc1:=hv1.cell;have hf1:=hv1.frozen)
  exact ⟨hk2.from _,hb2,⟨_,hv2,by rw [htk,hpl1];first|exact hr2|exact ⟨hr2,trivial⟩⟩,hB.trans hb2⟩
 case done=>
  rintro D W hD ⟨⟨v,hv,hrow,_⟩,hB⟩ hK;have hc:=hv.cell;rw [show cLen l l.length=(l.map (·.f1)).length by unfold cLen;simp] at hrow;go_wp2;refine ⟨by simp, .inl ⟨_,_,rfl,run_takeDeferred hK,?_⟩⟩;refine ⟨_,results_tmp rfl _ _ _,v,rfl,?_,hB.trans (belowK_b (w:=w) (Nat.le_refl _) W D _ _ (by simp at hD;omega) hK rfl rfl)⟩;have hq:=Hy (W.putObj D (.deferred none)) w.heap.size (λk=>True/\some k≠v.ownBlock) l l.length (Nat.le_refl _);rw [List.take_length] at hq;exact ⟨λ_ _=>trivial,_,ownsRow_putObj hrow _ hK rfl,hq⟩
 case stop=>
  rintro D c j W _ _ h _;exact h.elim
end Go.Proofs.YtikggnalmidlhaaGreatDoor.Print
end
section
namespace Go.Proofs.YtikggnalmidlhaaGreatDoor.Print
open RowKit AR Aa Ad Range Shelf
set_option linter.unusedVariables false
set_option linter.unusedSimpArgs false
attribute [local go_sem] Oper.semAt_some
def Ey:List ByteArray->Int->ByteArray->Bool
 |[],_,_=>false
 |x::l,n,d=>if 12<(if x=d then n else 0)+1 then true else Ey l ((if x=d then n else 0)+1) x
def Ee.f (l:List Cj):Option Bool:=if l.length<=1099511627776 then some (Ey (l.map (·.f0.f0)) 0 ⟨#[]⟩||decide (60<l.length)) else none
structure MS (w:World) (A0:Option Addr) (n c0:Nat) (b:Bool) (o:Int) (d:ByteArray) (W:World):Prop where
 h:Boxed W w.heap.size 27 (.slice A0 n c0)
 r:Boxed W (w.heap.size+1) 4 (.bool b)
 o:Boxed W (w.heap.size+1+1) 3 (.int .i64 o)
 d:Boxed W (w.heap.size+1+1+1) 9 (.string d)
 b:Below w.heap.size w W
theorem EG {W:World} {B:Nat} {t:TypeId} {v:Value} (h:Boxed W B t v) (g:Nat) (u:Value) (hne:B≠g):Boxed (W.setCell ⟨g,0,none⟩ u) B t v:=(Below.heap_setCell W ⟨g,0,none⟩ u B hne).trans h
section
variable {w:World} {A0:Option Addr} {n c0:Nat} {b:Bool} {o:Int} {d:ByteArray} {W:World}
theorem MS.Px (h:MS w A0 n c0 b o d W) (o':Int):MS w A0 n c0 b o' d (W.setCell ⟨w.heap.size+1+1,0,none⟩ (.int .i64 o')):=⟨EG h.h _ _ (by omega),EG h.r _ _ (by omega),h.o.set _,EG h.d _ _ (by omega),h.b.setCell (p:=⟨w.heap.size+1+1,0,none⟩) (by show w.heap.size<=w.heap.size+1+1;omega) _⟩
theorem MS.Ue (h:MS w A0 n c0 b o d W) (d':ByteArray):MS w A0 n c0 b o d' (W.setCell ⟨w.heap.size+1+1+1,0,none⟩ (.string d')):=⟨EG h.h _ _ (by omega),EG h.r _ _ (by omega),EG h.o _ _ (by omega),h.d.set _,h.b.setCell (p:=⟨w.heap.size+1+1+1,0,none⟩) (by show w.heap.size<=w.heap.size+1+1+1;omega) _⟩
theorem MS.VA (h:MS w A0 n c0 b o d W) (b':Bool):MS w A0 n c0 b' o d (W.setCell ⟨w.heap.size+1,0,none⟩ (.bool b')):=⟨EG h.h _ _ (by omega),h.r.set _,EG h.o _ _ (by omega),EG h.d _ _ (by omega),h.b.setCell (p:=⟨w.heap.size+1,0,none⟩) (by show w.heap.size<=w.heap.size+1;omega) _⟩
theorem MS.drew (h:MS w A0 n c0 b o d W):MS w A0 n c0 b o d W.drew:=⟨h.h,h.r,h.o,h.d,h.b.drew⟩
theorem MS.own {B:Nat} (hB:w.heap.size<=B) (h:MS w A0 n c0 b o d W) {W':World} {row:Option Nat} (hg:W.grownBy W' row) (hr:∀ r,row=some r->B<=r/\∃ o:Obj,W.heap[r]? =some o/\o.isCells=false):MS w A0 n c0 b o d W':=
 ⟨boxed_own (B:=B) (λ_=>_) 0 W W' row h.h hg hr,boxed_own (B:=B) (λ_=>_) 0 W W' row h.r hg hr,boxed_own (B:=B) (λ_=>_) 0 W W' row h.o hg hr,boxed_own (B:=B) (λ_=>_) 0 W W' row h.d hg hr,(ownFrom_below (Nat.le_refl _) hB:OwnFrom B λ(_:Nat) W=>Below w.heap.size w W) 0 W W' row h.b hg hr⟩
end
theorem bytes_inj {a b:ByteArray} (h:a.toList=b.toList):a=b:=by
 rw [ByteArray.toList_eq,ByteArray.toList_eq] at h;exact ByteArray.ext (Array.toList_inj.1 h)
theorem RX {W w3:World} {B:Nat} {ty:TypeId} {v:Value} (hb:Below W.heap.size W w3) (h:Boxed W B ty v):Boxed w3 B ty v:=(hb.block B h.lt).trans h
def Uf (w W:World) (A0:Option Addr) (n c0:Nat) (d:ByteArray) (a0:Act):Exit->Act->World->Prop
 | .normal,a,W'=>a=a0/\MS w A0 n c0 false 0 d W'/\KeepsOthers W W'/\Below w.heap.size W W'
 |_,_,_=>False
def Py (w:World) (A0:Option Addr) (c0:Nat) (l:List Cj):Nat->World->Prop:=λj W=>∃ o d,MS w A0 l.length c0 false o d W/\(0<=o/\o<=12)/\Ey ((l.map (·.f0.f0)).drop j) o d=Ey (l.map (·.f0.f0)) 0 ⟨#[]⟩
def Sv (w:World) (A0:Option Addr) (c0:Nat) (l:List Cj):Code->Nat->World->Prop:=λc _ W=>c= .ret/\(∃ o d,MS w A0 l.length c0 true o d W)/\Ey (l.map (·.f0.f0)) 0 ⟨#[]⟩=true
theorem IW {w:World} {A0:Option Addr} {c0:Nat} {l:List Cj} {B:Nat} (hB:w.heap.size<=B):OwnFrom B (Py w A0 c0 l):=by
 rintro j W W' row ⟨o,d,h1,h2⟩ hg hr;exact ⟨o,d,h1.own hB hg hr,h2⟩
theorem O1 {w:World} {A0:Option Addr} {c0:Nat} {l:List Cj} {B:Nat} (hB:w.heap.size<=B) (c:Code):OwnFrom B (Sv w A0 c0 l c):=by
 rintro j W W' row ⟨e,⟨o,d,h1⟩,h2⟩ hg hr;exact ⟨e,⟨o,d,h1.own hB hg hr⟩,h2⟩
theorem RY (A0:Option Addr) (c0 n:Nat) (w:World):Calls Tryz.prog 38 #[.agg #[.slice A0 n c0]] w λe w'=>e= .returned (.int .i64 n)/\Below w.heap.size w w':=by
 have hu27:=Tryz.underlying25;go_enter Tryz.func38,Tryz.ntmps38;go_wp2;go_ret;exact ⟨rfl,by repeat (first|exact Below.refl _ _|apply Bw|apply Bj)⟩
set_option maxHeartbeats 4000000 in
set_option maxRecDepth 100000 in
theorem Ee.calls (A0:Option Addr) (c0:Nat) (l:List Cj) (r:Bool) (w:World) (hr:Kd.C Ex w A0 l.length l) (hc:l.length<=c0) (h:Ee.f l=some r):
 Calls Tryz.prog 39 #[.agg #[.slice A0 l.length c0]] w λe w'=>e= .returned (.bool r)/\Below w.heap.size w w':=by
 unfold Ee.f at h;by_cases hn:l.length<=1099511627776;case neg=>rw [if_neg hn] at h;exact absurd h (by simp)
 rw [if_pos hn] at h;obtain rfl:=Option.some.inj h;have huH:=Tryz.underlying27;have huT:=Tryz.underlying25;have huK:=Tryz.underlying69;refine Ef Tryz.func39 rfl ?_;simp only [Tryz.ntmps39,List.size_toArray,List.length_cons,List.length_nil,Nat.reduceAdd,Nat.reduceSub,Array.replicate_succ,Array.replicate_zero,List.push_toArray,List.append_toArray,List.nil_append,List.cons_append];go_wp2;obtain ⟨W0,hW0⟩:∃ W0,(((w.alloc (.cells #[.slice A0 l.length c0] 27)).alloc (.cells #[.bool false] 4)).alloc (.cells #[.int .i64 0] 3)).alloc (.cells #[.string ⟨#[]⟩] 9)=W0:=⟨_,rfl⟩;have M0:MS w A0 l.length c0 false 0 ⟨#[]⟩ W0:=by
  rw [<-hW0];refine ⟨(((Boxed.new w _ _).alloc _).alloc _).alloc _,?_,?_,?_,(((((Below.refl _ w).alloc (Nat.le_refl _) _).alloc (by simp) _).alloc (by simp;omega) _).alloc (by simp;omega) _)⟩
  ·have:=Boxed.new (w.alloc (.cells #[.slice A0 l.length c0] 27)) 4 (.bool false);rw [World.size_alloc] at this;exact (this.alloc _).alloc _
  ·have:=Boxed.new ((w.alloc (.cells #[.slice A0 l.length c0] 27)).alloc (.cells #[.bool false] 4)) 3 (.int .i64 0);rw [World.size_alloc,World.size_alloc] at this;exact this.alloc _
  ·have:=Boxed.new (((w.alloc (.cells #[.slice A0 l.length c0] 27)).alloc (.cells #[.bool false] 4)).alloc (.cells #[.int .i64 0] 3)) 9 (.string ⟨#[]⟩);rw [World.size_alloc,World.size_alloc,World.size_alloc] at this;exact this
 have hs:W0.heap.size=w.heap.size+1+1+1+1:=by rw [<-hW0];simp
 rw [hW0];clear hW0;refine Kj (gf:=40) (fb:=#[.agg #[.slice A0 l.length c0]]) (n₀:=w.heap.size) (enc:=IQ) (xs:=l) rfl (enters_of Tryz.func40 (by kernel_rfl) rfl)
  (KX A0 c0 l w _ 8 hr hc (by omega) M0.b) (by omega) (λ_ _=>rfl)
  (Py w A0 c0 l) (Sv w A0 c0 l) (IW (by omega)) (O1 (by omega))
  ⟨_,_,M0,by omega,rfl⟩
  (IY (λx g=>{tmps:=#[.agg #[.slice A0 l.length c0], .pointer (some ⟨w.heap.size,0,none⟩), .pointer (some ⟨w.heap.size+1,0,none⟩), .pointer (some ⟨w.heap.size+1+1,0,none⟩), .pointer (some ⟨w.heap.size+1+1+1,0,none⟩), .pointer (some ⟨g,0,none⟩), .pointer (some ⟨w.heap.size,0,none⟩), .agg #[.slice A0 l.length c0], .func (.func 40) #[.agg #[.slice A0 l.length c0]] #[], .agg #[.string x.f0.f0, .string x.f0.f1, .string x.f0.f2], .agg #[.string x.f1.f0, .string x.f1.f1, .string x.f1.f2, .string x.f1.f3, .int .i64 x.f1.f4, .int .i64 x.f1.f5, .int .i64 x.f1.f6, .bool x.f1.f7, .bool x.f1.f8, .bool x.f1.f9, .int .i64 x.f1.f10],undef,undef,undef,undef,undef,undef,undef,undef,undef,undef,undef,undef,undef,undef],defers:=[]}) (λx=>#[.string x.f0.f0, .string x.f0.f1, .string x.f0.f2]) 69 (Py w A0 c0 l))
  (IY.own (IW (by omega))) ?assign ?body ?done ?stop
 case assign=>
  intro lp j x W hx hI;have hS:w.heap.size<=W.heap.size:=by obtain ⟨o,d,hM,_⟩:=hI;exact hM.b.size
  unfold IQ
  gi_wp2
  exact ⟨(KeepsOthers.alloc _ _).from _,(Below.refl _ W).alloc hS _,W.heap.size,rfl,Eh _ _,(IW (Nat.le_refl _)).alloc _ hI⟩
 case body=>
  rintro lp j x a1 W hx ⟨g,hq,hg,o,d,hM,ho,hR⟩;dsimp only at hq hg;subst hq;have g0:=GJ hg (i:=0) rfl;have c1:=hM.o.cell;have c2:=hM.d.cell;have f1:=hM.o.frozen;have f2:=hM.d.frozen;have c3:=hM.r.cell;have f3:=hM.r.frozen;have hj:j<l.length:=(List.getElem?_eq_some_iff.1 hx).1;have hdr:(l.map (·.f0.f0)).drop j=x.f0.f0::(l.map (·.f0.f0)).drop (j+1):=by
   rw [<-List.map_drop, <-List.map_drop,List.drop_eq_getElem_cons hj,(List.getElem?_eq_some_iff.1 hx).2];rfl
  rw [hdr,Ey] at hR;by_cases hd:x.f0.f0=d
  ·rw [if_pos hd] at hR;by_cases hb:12<o+1
   ·rw [if_pos hb] at hR;have HR:=AA.mk hR;have hb1:decide (12<o+1)=true:=decide_eq_true hb;clear hR hdr
    gi_wp2
    exact ⟨((KeepsOthers.setCell _ _ _).trans (KeepsOthers.setCell _ _ _)).from _,rfl,⟨_,_,(hM.Px _).VA _⟩,HR.out.symm⟩
   ·rw [if_neg hb] at hR;have HR:=AA.mk hR;have hb1:decide (12<o+1)=false:=decide_eq_false hb;clear hR hdr
    gi_wp2
    exact ⟨(KeepsOthers.setCell _ _ _).from _,(Below.refl w.heap.size W).setCell (p:=⟨w.heap.size+1+1,0,none⟩) (by show w.heap.size<=w.heap.size+1+1;omega) _,_,_,hM.Px _,by omega,by rw [<-HR.out,hd]⟩
  ·rw [if_neg hd,if_neg (by omega)] at hR;have HR:=AA.mk hR;have n4:(x.f0.f0.toList==d.toList)=false:=by rw [beq_eq_false_iff_ne];intro e;exact hd (bytes_inj e)
   have n5:(x.f0.f0.toList != d.toList)=true:=by rw [bne,n4];rfl
   have ne1:¬g=w.heap.size+1+1:=λe=>by subst e;have:=hg.symm.trans hM.o;simp at this
   have ne2:¬g=w.heap.size+1+1+1:=λe=>by subst e;have:=hg.symm.trans hM.d;simp at this
   have ne3:¬w.heap.size+1+1=g:=λe=>ne1 e.symm
   have ne4:¬w.heap.size+1+1+1=g:=λe=>ne2 e.symm
   clear hR hdr
   gi_wp2
   refine wpIn_mono (Q:=Uf w W A0 l.length c0 x.f0.f0 {tmps:=#[.agg #[.slice A0 l.length c0], .pointer (some ⟨w.heap.size,0,none⟩), .pointer (some ⟨w.heap.size+1,0,none⟩), .pointer (some ⟨w.heap.size+1+1,0,none⟩), .pointer (some ⟨w.heap.size+1+1+1,0,none⟩), .pointer (some ⟨g,0,none⟩), .pointer (some ⟨w.heap.size,0,none⟩), .agg #[.slice A0 l.length c0], .func (.func 40) #[.agg #[.slice A0 l.length c0]] #[], .agg #[.string x.f0.f0, .string x.f0.f1, .string x.f0.f2], .agg #[.string x.f1.f0, .string x.f1.f1, .string x.f1.f2, .string x.f1.f3, .int .i64 x.f1.f4, .int .i64 x.f1.f5, .int .i64 x.f1.f6, .bool x.f1.f7, .bool x.f1.f8, .bool x.f1.f9, .int .i64 x.f1.f10], .pointer (some ⟨g,0,none⟩), .string x.f0.f0, .string d, .bool true, .pointer (some ⟨g,0,none⟩), .string x.f0.f0,undef,undef,undef,undef,undef,undef,undef,undef],defers:=[]}) ?region ?next;case region=>
    gi_region
    all_goals exact ⟨rfl,by first|exact (hM.drew.Px _).Ue _|exact (hM.drew.Ue _).Px _,by first|exact ((KeepsOthers.drew _).trans ((KeepsOthers.setCell _ _ _).trans (KeepsOthers.setCell _ _ _))),by first|exact (((Below.refl w.heap.size W).drew.setCell (p:=⟨w.heap.size+1+1,0,none⟩) (by show w.heap.size<=w.heap.size+1+1;omega) _).setCell (p:=⟨w.heap.size+1+1+1,0,none⟩) (by show w.heap.size<=w.heap.size+1+1+1;omega) _)|exact (((Below.refl w.heap.size W).drew.setCell (p:=⟨w.heap.size+1+1+1,0,none⟩) (by show w.heap.size<=w.heap.size+1+1+1;omega) _).setCell (p:=⟨w.heap.size+1+1,0,none⟩) (by show w.heap.size<=w.heap.size+1+1;omega) _)⟩
   rintro (_|_|_|_|_|_) a3 W3 ⟨⟩;rename_i e3 q3;subst e3;obtain ⟨q1,q2,q4⟩:=q3;have r1:=q1.o.cell;have r3:=q1.o.frozen
   gi_wp2
   exact ⟨(q2.trans (KeepsOthers.setCell _ _ _)).from _,q4.setCell (p:=⟨w.heap.size+1+1,0,none⟩) (by show w.heap.size<=w.heap.size+1+1;omega) _,_,_,q1.Px _,by omega,HR.out⟩
 case done=>
  rintro D W hD ⟨o,d,hM,ho,hR⟩ hK;have hc:=hM.h.cell;have hR0:Ey (l.map (·.f0.f0)) 0 ⟨#[]⟩=false:=by rw [<-hR,List.drop_eq_nil_of_le (by simp)];rfl
  have HR:=AA.mk hR0;clear hR hR0;go_wp2_with (go_at_call 38;refine (RY _ _ _ _).mono ?_;rintro e w3 ⟨rfl,hb3⟩;have x3:=RX hb3 hM.r;have xc:=x3.cell;have xf:=x3.frozen);have hK3:=DV hK hb3;have hK':=(KeepsOthers.setCell w3 ⟨w.heap.size+1,0,none⟩ (.bool (decide (60<(l.length:Int))))).same D _ hK3 rfl;refine ⟨by simp, .inl ⟨_,_,rfl,run_takeDeferred hK',?_⟩⟩;have hc5:=cell_kept (World.cell?_setCell_same' w3 ⟨w.heap.size+1,0,none⟩ (.bool (decide (60<(l.length:Int)))) (by rw [xc];rfl)) (grownBy_putObj' _ D (.deferred none)) (λr e=>by cases e;exact ⟨_,hK',rfl⟩);have hB3:Below w.heap.size w w3:=hM.b.trans (hb3.mono hM.b.size);refine ⟨.bool (decide (60<(l.length:Int))),?_,?_,(hB3.setCell (p:=⟨w.heap.size+1,0,none⟩) (by show w.heap.size<=w.heap.size+1;omega) _).trans (belowK_b (w:=w) (Nat.le_refl _) _ D _ _ (by omega) hK' rfl rfl)⟩
  ·simp [results,Tryz.f39,go_sem,hc5]
  ·rw [HR.out,Bool.false_or,show decide (60<(l.length:Int))=decide (60<l.length) from decide_eq_decide.2 (by omega)]
 case stop=>
  rintro D c j W hD _ ⟨rfl,⟨o,d,hM⟩,hR⟩ hK;have HR:=AA.mk hR;clear hR;go_wp2;refine ⟨by simp, .inl ⟨_,_,rfl,run_takeDeferred hK,?_⟩⟩;have hc5:=cell_kept hM.r.cell (grownBy_putObj' _ D (.deferred none)) (λr e=>by cases e;exact ⟨_,hK,rfl⟩);refine ⟨.bool true,?_,?_,hM.b.trans (belowK_b (w:=w) (Nat.le_refl _) _ D _ _ (by omega) hK rfl rfl)⟩
  ·simp [results,Tryz.f39,go_sem,hc5]
  ·rw [HR.out,Bool.true_or]
end Go.Proofs.YtikggnalmidlhaaGreatDoor.Print
end
