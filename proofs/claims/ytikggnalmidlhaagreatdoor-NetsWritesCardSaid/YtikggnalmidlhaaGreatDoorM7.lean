/- Several parts of the claim's proof in one text, said short by a program of this session. No condition. -/
import Derived.Test.YtikggnalmidlhaaGreatDoorM6
import Derived.Sort.CutIn
import Derived.Outline
import Derived.Deep.Slices
import Derived.Deep.Fields
import Derived.ChangeSame
import Derived.ChangeArms
import Derived.OpenShut
section
namespace Go.Proofs.YtikggnalmidlhaaGreatDoor.Print
open RowKit AR Aa Ad Range Shelf
set_option linter.unusedVariables false
set_option linter.unusedSimpArgs false
attribute [local go_sem] Oper.semAt_some
def MI (s:List UInt8):List UInt8:=if (Lib.cut s [10]).2.2=true then Lib.trimSuffix (Lib.cut s [10]).1 [13] else (Lib.cut s [10]).1
def G8 (s:List UInt8):List UInt8:=(Lib.cut s [10]).2.1
theorem LF {s:List UInt8} (h:s≠[]):(G8 s).length<s.length:=by
 have hp:0<s.length:=List.length_pos_iff.2 h;unfold G8 Lib.cut;split
 ·rw [List.length_drop,List.length_singleton];omega
 ·exact hp
def FT:Nat->List UInt8->List (List UInt8)
 |0,_=>[]
 |n+1,s=>if s=[] then [] else MI s::FT n (G8 s)
def Bq (s:List UInt8):List (List UInt8):=FT s.length s
theorem KJ:∀ (n m:Nat) (s:List UInt8),s.length<=n->s.length<=m->FT n s=FT m s:=by
 intro n;induction n with
 |zero=>
  intro m s h _;obtain rfl:=List.eq_nil_of_length_eq_zero (Nat.le_zero.1 h);cases m<;>simp [FT]
 |succ n ih=>
  intro m s h h2;by_cases hs:s=[]
  ·subst hs;cases m<;>simp [FT]
  ·have:=LF hs;cases m with
   |zero=>exact absurd (List.eq_nil_of_length_eq_zero (Nat.le_zero.1 h2)) hs
   |succ m=>
    unfold FT;rw [if_neg hs,if_neg hs,ih m (G8 s) (by omega) (by omega)]
theorem NN:Bq []=[]:=rfl
theorem MJ {s:List UInt8} (h:s≠[]):Bq s=MI s::Bq (G8 s):=by
 have:=LF h;unfold Bq;obtain ⟨n,hn⟩:∃ n,s.length=n+1:=⟨s.length - 1,by have:=List.length_pos_iff.2 h;omega⟩;rw [hn];unfold FT;rw [if_neg h,KJ n _ _ (by omega) (Nat.le_refl _)];cases hc:(G8 s).length<;>simp [FT,hc]
def NP (l:List UInt8):Array Value:=#[.string ⟨l.toArray⟩]
def OJ (w:World) (b:Nat):Nat:=match w.cell? ⟨b,0,none⟩ with|some (.string s)=>s.size|_=>0
set_option maxHeartbeats 4000000 in
set_option maxRecDepth 100000 in
theorem NQ (b n₀:Nat) (s:List UInt8) (w0 w:World) (n:Nat) (hG:Ck w0) (hn0:n₀=w0.heap.size) (hb0:Below n₀ w0 w) (hb:n₀<=b) (hc:w.heap[b]? =some (.cells #[.string ⟨s.toArray⟩] 9 (0,0))) (hs:s.length<=1000000000):
 NM Tryz.prog n 80 #[.pointer (some ⟨b,0,none⟩)] ((Bq s).map NP) b n₀ w:=by
 intro lp J Jx W hW hJ hJx hY h0;have hlen:((Bq s).map NP).length=(Bq s).length:=List.length_map ..;have hbw:b<w.heap.size:=(Array.getElem?_eq_some_iff.1 hc).1;have hcW:W.heap[b]? =some (.cells #[.string ⟨s.toArray⟩] 9 (0,0)):=(hW.block b hbw).trans hc;have HB:Below n₀ w0 W:=hb0.trans (hW.mono (by rw [hn0];exact hb0.size));refine callsIn_of_wp Tryz.func80 rfl trivial ?_ rfl;simp only [Tryz.ntmps80,List.size_toArray,List.length_cons,List.length_nil,Nat.reduceAdd,Nat.reduceSub,Array.replicate_succ,Array.replicate_zero,List.push_toArray,List.append_toArray,List.nil_append,List.cons_append]
 gi_wp2
 gi_loopw [] (λwr=>∃ (j:Nat) (t:ByteArray),j<=(Bq s).length/\(Bq s).drop j=Bq t.data.toList/\t.size<=s.length/\J j wr/\wr.heap[b]? =some (.cells #[.string t] 9 (0,0))/\Below n₀ w0 wr) (λwr=>OJ wr b)
 case atStart=>exact ⟨0,⟨s.toArray⟩,Nat.zero_le _,rfl,Nat.le_refl _,h0,hcW,HB⟩
 case round=>
  obtain ⟨j,t,hj,hd,hl,hJs,hc',hB⟩:=hrel;have hx:wr.cell? ⟨b,0,none⟩=some (.string t):=(AL hc' 0).trans rfl;have hfz:=frozen_of_row wr b 0 _ _ hc';by_cases he:t.toList=[]
  ·have g1:(t.toList==([]:List UInt8))=true:=beq_iff_eq.2 he;have g2:(t.toList != ([]:List UInt8))=false:=bne_eq_false_iff_eq.2 he;have g3:t.toList.isEmpty=true:=by rw [he];rfl
   have hdl:t.data.toList=[]:=by rw [<-ByteArray.toList_eq];exact he
   rw [hdl,NN,List.drop_eq_nil_iff] at hd;obtain rfl:j=(Bq s).length:=by omega
   clear he
   gi_wp2
   go_end0;exact ⟨⟨_,rfl⟩, .inl (hlen▸hJs)⟩
  ·have g1:(t.toList==([]:List UInt8))=false:=beq_eq_false_iff_ne.2 he;have g2:(t.toList != ([]:List UInt8))=true:=bne_iff_ne.2 he;have g3:t.toList.isEmpty=false:=List.isEmpty_eq_false_iff.2 he;have hne:t.data.toList≠[]:=by rw [<-ByteArray.toList_eq];exact he
   clear he;have hrl:=LF hne;rw [MJ hne] at hd;have hjl:(Bq s)[j]? =some (MI t.data.toList):=by
    have:=congrArg List.head? hd;rwa [List.head?_drop] at this
   have hjlt:j<(Bq s).length:=(List.getElem?_eq_some_iff.1 hjl).1;have hd2:(Bq s).drop (j+1)=Bq (G8 t.data.toList):=by
    have:=congrArg List.tail hd;rwa [List.tail_drop] at this
   obtain ⟨m,hm⟩:=(Ck.below hG (by rw [<-hn0];exact hB)).mlen;obtain ⟨⟨ln,rs,en⟩,hcut⟩:∃ c,c=Lib.cut t.data.toList [10]:=⟨_,rfl⟩;have hL:MI t.data.toList=if en=true then Lib.trimSuffix ln [13] else ln:=by unfold MI;rw [<-hcut]
   have hRs:G8 t.data.toList=rs:=by unfold G8;rw [<-hcut]
   rw [hRs] at hrl hd2;have hlnl:ln.length<=t.data.toList.length:=by
    have:ln=(Lib.cut t.data.toList [10]).1:=by rw [<-hcut]
    rw [this];unfold Lib.cut;split
    ·rw [List.length_take];omega
    ·exact Nat.le_refl _
   have htl:t.data.toList.length=t.size:=by rw [Array.length_toList];rfl
   have CUT:AA (Calls Tryz.prog 81 #[.string t, .string ⟨#[10]⟩] wr λe w'=>e= .returned (.tuple #[.string ⟨ln.toArray⟩, .string ⟨rs.toArray⟩, .bool en])/\∃ n,w'=wr.drewN n):=⟨by
    have:=Tryz.strings_Cut t ⟨#[10]⟩ m wr (by omega) hm
    rw [show Lib.cut t.data.toList (⟨#[10]⟩:ByteArray).data.toList=(ln,rs,en) from hcut.symm] at this
    exact this⟩
   obtain ⟨tl,htl2⟩:∃ tl,tl=Lib.trimSuffix ln [13]:=⟨_,rfl⟩;have TS:AA (∀ W,Calls Tryz.prog 82 #[.string ⟨ln.toArray⟩, .string ⟨#[13]⟩] W λe w'=>e= .returned (.string ⟨tl.toArray⟩)/\w'=W):=⟨λW=>by
    have:=Tryz.strings_TrimSuffix ⟨ln.toArray⟩ ⟨#[13]⟩ W (by show ln.toArray.size<=_;rw [List.size_toArray];omega)
    rw [show Lib.trimSuffix (⟨ln.toArray⟩:ByteArray).data.toList (⟨#[13]⟩:ByteArray).data.toList=tl from htl2.symm] at this
    exact this⟩
   rw [<-htl2] at hL;have hxj:((Bq s).map NP)[j]? =some #[.string ⟨(if en=true then tl else ln).toArray⟩]:=by rw [List.getElem?_map,hjl,hL];rfl
   have HX:=AA.mk (And.intro hd2 (And.intro hrl (And.intro htl (And.intro hjlt hl))));have hst:OJ wr b=t.size:=by unfold OJ;rw [hx]
   have HS:=AA.mk hst;clear hcut hL hRs htl2 hd hjl hrl hd2 hlnl htl hl hne hst;cases en
   case' false=>have hxj2:((Bq s).map NP)[j]? =some #[.string ⟨ln.toArray⟩]:=hxj
   case' true=>have hxj2:((Bq s).map NP)[j]? =some #[.string ⟨tl.toArray⟩]:=hxj
   all_goals
    clear hxj;replace hxj2:=AA.mk hxj2
    gi_upto_region 4 with (first|(refine ⟨trivial,λh=>(by simp [Fence.wide] at h),?_⟩;gi_at_call 81;refine (callsIn_wide.2 CUT.out).mono ?_;rintro e w' ⟨rfl,nd,rfl⟩)|(refine ⟨trivial,λh=>(by simp [Fence.wide] at h),?_⟩;gi_at_call 82;refine (callsIn_wide.2 (TS.out _)).mono ?_;rintro e w' ⟨rfl,rfl⟩))
    obtain ⟨W1,hW1⟩:∃ W1,W1=wr.drewN nd:=⟨_,rfl⟩;rw [<-hW1];have hJ1:J j W1:=hJ j wr W1 none hJs (by rw [hW1];exact ⟨rfl,rfl,rfl,Nat.le_refl _,λ_ _ _=>rfl⟩) (λr e=>by cases e);have hc1:W1.heap[b]? =some (.cells #[.string t] 9 (0,0)):=by rw [hW1];exact hc'
    have hB1:Below n₀ w0 W1:=by rw [hW1];exact Bw hB nd
    clear hW1 hc' hB hJs hx hfz hm CUT TS;obtain ⟨fn,tmps,assign,body,hy,hR⟩:=hY j _ W1 hxj2.out hJ1
    gi_wp2
    refine ⟨λh=>by simp [Fence.wide] at h,hR.mono ?_⟩;rintro e W3 (⟨rfl,hJ3,hk3,hb3⟩|⟨rfl,hJx3⟩)
    ·have hc3:W3.heap[b]? =some (.cells #[.string t] 9 (0,0)):=hb3.trans hc1;have hx3:W3.cell? ⟨b,0,none⟩=some (.string t):=(AL hc3 0).trans rfl;have hf3:=frozen_of_row W3 b 0 _ _ hc3
     gi_wp2
     go_roundw;case rel=>
      obtain ⟨hd2,hrl,htl,hjlt,hl⟩:=HX.out;refine ⟨j+1,⟨rs.toArray⟩,by omega,hd2,?_,hJ (j+1) W3 _ (some b) hJ3 (grownBy_setCell' W3 b _) (λr e=>by cases e;rfl),heap_setCell_same W3 b 0 _ _ _ hc3,(hB1.trans hk3).setCell (p:=⟨b,0,none⟩) hb _⟩;show rs.toArray.size<=_;rw [List.size_toArray];omega
     case measure=>
      obtain ⟨hd2,hrl,htl,hjlt,hl⟩:=HX.out;rw [HS.out];unfold OJ;rw [AL (heap_setCell_same W3 b 0 _ _ _ hc3) 0];show rs.toArray.size<t.size;rw [List.size_toArray];omega
    ·gi_wp2
     refine bodyPost_ret (results_none rfl _ _ _) rfl ?_;exact ⟨⟨_,rfl⟩, .inr ⟨j,by rw [hlen];exact HX.out.2.2.2.1,hJx3⟩⟩
theorem Rc (W:World) (x:Value) (t:TypeId):∀ j u,[x][j]? =some u->(W.alloc (.cells #[x] t)).cell? ((⟨W.heap.size,0,none⟩:Addr).add j)=some u:=by
 intro j u h;rw [show (⟨W.heap.size,0,none⟩:Addr).add j=⟨W.heap.size,j,none⟩ by simp [Addr.add];omega,AL (Eh W (.cells #[x] t)) j];simpa using h
theorem Ui:(Tryz.prog.info? 9).map (λi=>(i.zero,i.size,i.bytes))=some (some (.string ⟨#[]⟩),1,16):=by kernel_rfl
set_option maxRecDepth 100000 in
theorem NR (s:ByteArray) (w:World):Calls Tryz.prog 51 #[.string s] w λe w'=>e= .returned (.func (.func 80) #[] #[.pointer (some ⟨w.heap.size,0,none⟩)])/\w'=w.alloc (.cells #[.string s] 9):=by
 have u1:=Tryz.underlying9;go_enter Tryz.func51,Tryz.ntmps51;go_wp2;go_ret;exact ⟨rfl,rfl⟩
def MK (s:List UInt8) (j:Nat):List Value:=((Bq s).take j).map λl=> .string ⟨l.toArray⟩
theorem NS {W:World} {b base j:Nat} {v:Value} {e:TypeId} {xs:List Value} (h:W.ownsRow base e 1 v j xs) (hlt:b<base):some b≠v.ownBlock:=by
 rcases h.2 with ⟨rfl,_⟩|⟨g,cap,cur,rfl,hg,_⟩
 ·intro e;cases e
 ·intro e;have:b=g:=by simpa [Value.ownBlock] using e
  omega
def EX.f (s:ByteArray):Option (List ByteArray):=if s.size<=1000000000 then some ((Bq s.data.toList).map λl=>(⟨l.toArray⟩:ByteArray)) else none
theorem JZ:∀ (n:Nat) (s:List UInt8),(FT n s).length<=n:=by
 intro n;induction n with
 |zero=>intro s;exact Nat.le_refl _
 |succ n ih=>
  intro s;unfold FT;split
  ·exact Nat.zero_le _
  ·rw [List.length_cons];have:=ih (G8 s);omega
set_option maxHeartbeats 4000000 in
set_option maxRecDepth 100000 in
theorem EX.calls (s:ByteArray) (r:List ByteArray) (w:World) (hG:AA (Ck w)) (h:EX.f s=some r):
 Calls Tryz.prog 27 #[.string s] w λe w'=>∃ v0_:Value,e= .returned v0_/\Kd.R Kd.string 9 w' w.heap.size (λ_=>True) v0_ r/\Below w.heap.size w w':=by
 unfold EX.f at h;split at h;case isFalse=>cases h
 rename_i hn;obtain rfl:=Option.some.inj h;have huL:=Tryz.underlying45;have huS:=Tryz.underlying9;have hsl:s.data.toList.length=s.size:=by rw [Array.length_toList];rfl
 have hll:(Bq s.data.toList).length<=s.size:=by have:=JZ s.data.toList.length s.data.toList;unfold Bq;omega
 refine Ef Tryz.func27 rfl ?_;simp only [Tryz.ntmps27,List.size_toArray,List.length_cons,List.length_nil,Nat.reduceAdd,Nat.reduceSub,Array.replicate_succ,Array.replicate_zero,List.push_toArray,List.append_toArray,List.nil_append,List.cons_append];obtain ⟨i0,hi,hz0,hz1,hz2⟩:=info_parts Ui;go_wp2_with (go_at_call 51;refine (NR s _).mono ?_;rintro e w' ⟨rfl,rfl⟩);have g1:((w.alloc (.cells #[.slice none 0 0] 45)).alloc (.cells #[.string s] 9)).heap[w.heap.size+1]? =some (.cells #[.string s] 9 (0,0)):=by
  have:=World.alloc_heap_new (w.alloc (.cells #[.slice none 0 0] 45)) (.cells #[.string s] 9);rwa [World.size_alloc] at this
 have bO:Boxed ((w.alloc (.cells #[.slice none 0 0] 45)).alloc (.cells #[.string s] 9)) w.heap.size 45 (.slice none 0 0):=(Boxed.new w 45 (.slice none 0 0)).alloc _;have hB0:Below w.heap.size w ((w.alloc (.cells #[.slice none 0 0] 45)).alloc (.cells #[.string s] 9)):=((Below.refl _ w).alloc (Nat.le_refl _) _).alloc (by simp) _;have hs0:((w.alloc (.cells #[.slice none 0 0] 45)).alloc (.cells #[.string s] 9)).heap.size=w.heap.size+2:=by simp
 generalize (w.alloc (.cells #[.slice none 0 0] 45)).alloc (.cells #[.string s] 9)=W0 at g1 bO hB0 hs0⊢
 have hsame:(⟨s.data.toList.toArray⟩:ByteArray)=s:=by
  apply ByteArray.ext;simp
 have hIown:=(OwnFrom.and (Own.from (holdsRow_own (w.heap.size+1+1) w.heap.size 45 9 1 (λj:Nat=>j) (MK s.data.toList) (λ_ _=>True)) W0.heap.size) (ownFrom_below (by omega) (by omega)):OwnFrom W0.heap.size (λ(j:Nat) W=>(∃ v,Boxed W w.heap.size 45 v/\W.ownsRow (w.heap.size+1+1) 9 1 v j (MK s.data.toList j)/\True)/\Below w.heap.size W0 W));refine Kk (gf:=80) (fv:=#[.pointer (some ⟨w.heap.size+1,0,none⟩)]) (n₀:=w.heap.size) (b:=w.heap.size+1) (enc:=NP) (xs:=Bq s.data.toList) rfl (enters_of Tryz.func80 (by kernel_rfl) rfl)
  (NQ (w.heap.size+1) w.heap.size s.data.toList w W0 8 hG.out rfl hB0 (by omega) (by rw [hsame];exact g1) (by omega)) (by omega) (by omega) (λ_ _=>rfl)
  (λj W=>(∃ v,Boxed W w.heap.size 45 v/\W.ownsRow (w.heap.size+1+1) 9 1 v j (MK s.data.toList j)/\True)/\Below w.heap.size W0 W)
  (λ_ _ _=>False)
  hIown
  (λ_ _ _ _ _ hs _ _=>hs)
  ?hIb
  (λ_ _ _ _ h _=>h)
  ⟨⟨_,bO,World.ownsRow_nil _ _ _ _,trivial⟩,Below.refl _ _⟩
  (λl=>{tmps:=#[.string s,undef, .slice none 0 0, .pointer (some ⟨w.heap.size,0,none⟩), .string ⟨l.toArray⟩, .string s, .func (.func 80) #[] #[.pointer (some ⟨w.heap.size+1,0,none⟩)], .string ⟨l.toArray⟩,undef,undef,undef,undef,undef],defers:=[]})
  ?assign ?body ?done ?stop
 case hIb=>
  rintro j A C ⟨⟨v,hv,hrow,_⟩,hB⟩ hg;exact ⟨⟨v,hv.kept hg (λe=>absurd (Option.some.inj e) (by omega)),hrow.kept hg (.inr (NS hrow (by omega)).symm),trivial⟩,hB.grown hg (by have:=hB.size;omega) (λk e=>by have:=Option.some.inj e;omega)⟩
 case assign=>
  intro lp x W K hx hK;unfold NP
  gi_wp2
  exact hK
 case body=>
  rintro lp j x W hx ⟨⟨v,hv,hrow,_⟩,hB⟩;have hc:=hv.cell;have hj:j<(Bq s.data.toList).length:=(List.getElem?_eq_some_iff.1 hx).1;have htk:MK s.data.toList (j+1)=MK s.data.toList j++[.string ⟨x.toArray⟩]:=by unfold MK;rw [List.take_add_one,hx,List.map_append];rfl
  gi_wp2_with (gi_at_builtin;refine wpListIn_append_own _ rfl _ _ 45 rfl (w.heap.size+1+1) 9 i0 (.string ⟨#[]⟩) 1 16 huL hi hz0 hz1 hz2 rfl (by decide) _ _ _ rfl (hrow.alloc _) ⟨W.heap.size,0,none⟩ 1 1 [.string ⟨x.toArray⟩] rfl rfl (Rc W _ _) (by simp [Value.oneCell']) (by unfold maxLen;omega) (by omega) (by have:=hB.size;simp;omega) ?_;intro v' w1 hown' hgrow _;obtain ⟨g',cap',rfl⟩:=ownsRow_succ hown';obtain ⟨hv1,hv2,hr2,hk2,hb2⟩:=hv.appended (by decide) (EU (base':=w.heap.size) hrow (by omega)) (by have:=hB.size;omega) (by omega) (EU (base':=w.heap.size) hown' (by omega)) hgrow;have hc1:=hv1.cell;have hf1:=hv1.frozen)
  have hsz:=hB.size;have hb3:(w1.setCell ⟨w.heap.size,0,none⟩ (.slice (some ⟨g',0,none⟩) (j+1) cap')).heap[w.heap.size+1]? =W.heap[w.heap.size+1]? :=
   (heap_setCell_other _ _ _ _ (by simp)).trans ((hgrow.block _ (by simp;omega) (NS (b:=w.heap.size+1) hrow (by omega))).trans (Below.heap_alloc _ _ _ (by omega)))
  exact ⟨hk2.from _,⟨hb2,hb3⟩,⟨_,hv2,by have hq:=hown'.kept (grownBy_setCell' w1 w.heap.size (.slice (some ⟨g',0,none⟩) (j+1) cap')) (.inr (NS hown' (by omega)).symm);rw [htk];first|exact hq|exact ⟨hq,trivial⟩⟩,hB.trans hb2⟩
 case done=>
  rintro D W hD ⟨⟨v,hv,hrow,_⟩,hB⟩ hK;have hc:=hv.cell;go_wp2;refine ⟨by simp, .inl ⟨_,_,rfl,run_takeDeferred hK,?_⟩⟩;refine ⟨_,results_tmp rfl _ _ _,v,rfl,?_,hB0.trans (hB.trans (belowK_b (w:=w) (Nat.le_refl _) W D _ _ (by omega) hK rfl rfl))⟩;have hq:=EU (base':=w.heap.size) (ownsRow_putObj hrow (.deferred none) hK rfl) (by omega);refine Kd.MX (enc:=Value.string) ?_ (λ_ _=>trivial);have e:encs Value.string ((Bq s.data.toList).map λl=>(⟨l.toArray⟩:ByteArray))=MK s.data.toList (Bq s.data.toList).length:=by
   unfold encs MK;rw [List.take_length,List.map_map];rfl
  rw [e,List.length_map];exact hq
 case stop=>
  rintro D c j W _ _ h _;exact h.elim
end Go.Proofs.YtikggnalmidlhaaGreatDoor.Print
end
section
namespace Go.Proofs.YtikggnalmidlhaaGreatDoor.Print
open RowKit AR Aa Ad
set_option linter.unusedVariables false
set_option linter.unusedSimpArgs false
abbrev Bs:=List (Nat×Array Value×TypeId)
inductive KL:Bs->Nat->Array Value->TypeId->Array Value->Bs->Prop
 |head {g cs t cs' l}:KL ((g,cs,t)::l) g cs t cs' ((g,cs',t)::l)
 |tail {q g cs t cs' l l'}:KL l g cs t cs' l'->KL (q::l) g cs t cs' (q::l')
structure St (w W:World) (bs:Bs):Prop where
 b:Below w.heap.size w W
 x:∀ p∈bs,W.heap[p.1]? =some (.cells p.2.1 p.2.2 (0,0))/\w.heap.size<=p.1
 n:bs.Pairwise λp q=>p.1≠q.1
section
variable {w W W':World} {bs bs':Bs} {g i:Nat} {cs cs':Array Value} {t:TypeId}
theorem KL.mem (h:KL bs g cs t cs' bs'):(g,cs,t)∈bs:=by
 induction h with
 |head=>exact .head _
 |tail _ ih=>exact .tail _ ih
theorem KL.key (h:KL bs g cs t cs' bs'):bs'.map (·.1)=bs.map (·.1):=by
 induction h with
 |head=>rfl
 |tail _ ih=>rw [List.map_cons,List.map_cons,ih]
theorem KL.far (h:KL bs g cs t cs' bs') (n:bs.Pairwise λp q=>p.1≠q.1):∀ p∈bs',p=(g,cs',t)\/(p∈bs/\p.1≠g):=by
 induction h with
 |head=>
  intro p hp;rcases List.mem_cons.1 hp with rfl|hp
  ·exact .inl rfl
  ·exact .inr ⟨.tail _ hp,λe=>(List.pairwise_cons.1 n).1 p hp e.symm⟩
 |tail hu ih=>
  intro p hp;rcases List.mem_cons.1 hp with rfl|hp
  ·exact .inr ⟨.head _,(List.pairwise_cons.1 n).1 _ hu.mem⟩
  ·exact (ih (List.pairwise_cons.1 n).2 p hp).imp id λh=>⟨.tail _ h.1,h.2⟩
theorem ML {l l':Bs} (e:l'.map (·.1)=l.map (·.1)) (n:l.Pairwise λp q=>p.1≠q.1):l'.Pairwise λp q=>p.1≠q.1:=by
 have h:(l'.map (·.1)).Pairwise (· ≠ ·):=by rw [e];exact List.pairwise_map.2 n
 exact List.pairwise_map.1 h
theorem St.start (w:World):AA (St w w []):=⟨⟨Below.refl _ _,by simp, .nil⟩⟩
theorem St.below (S:AA (St w W bs)) (h:Below W.heap.size W W'):AA (St w W' bs):=
 ⟨⟨AP S.out.b h,λp hp=>⟨DV (S.out.x p hp).1 h,(S.out.x p hp).2⟩,S.out.n⟩⟩
theorem St.upd (S:AA (St w W bs)) (hu:KL bs g cs t cs' bs') (hn:W'.heap[g]? =some (.cells cs' t (0,0))) (hk:∀ i o,i≠g->W.heap[i]? =some o->W'.heap[i]? =some o) (hb:Below w.heap.size w W'):AA (St w W' bs'):=
 ⟨⟨hb,λp hp=>by
  rcases hu.far S.out.n p hp with rfl|⟨h,hne⟩
  ·exact ⟨hn,(S.out.x _ hu.mem).2⟩
  ·exact ⟨hk _ _ hne (S.out.x p h).1,(S.out.x p h).2⟩,ML hu.key S.out.n⟩⟩
theorem St.set (S:AA (St w W bs)) (v:Value) (hu:KL bs g cs t (cs.setIfInBounds i v) bs'):AA (St w (W.setCell ⟨g,i,none⟩ v) bs'):=
 St.upd S hu (heap_setCell_same W g i cs t v (S.out.x _ hu.mem).1) (λk o hk h=>(heap_setCell_other W ⟨g,i,none⟩ k v hk).trans h) (S.out.b.setCell (p:=⟨g,i,none⟩) (S.out.x _ hu.mem).2 _)
theorem St.row (S:AA (St w W bs)) (hu:KL bs g cs t cs' bs'):AA (St w (W.setRow g cs') bs'):=
 St.upd S hu (setRow_heap W g cs cs' t (0,0) (S.out.x _ hu.mem).1) (λk o hk h=>(setRow_other W g k cs' hk).trans h)
  {S.out.b with size:=by simpa using S.out.b.size,block:=λi hi=>(setRow_other W g i cs' (by have:=(S.out.x _ hu.mem).2;omega)).trans (S.out.b.block i hi)}
theorem St.push (S:AA (St w W bs)) (hg:g=W.heap.size) (h:W'.heap[g]? =some (.cells cs t (0,0))) (hb:Below W.heap.size W W'):AA (St w W' ((g,cs,t)::bs)):=by
 obtain ⟨S2⟩:=St.below S hb;refine ⟨⟨S2.b,λp hp=>?_,List.pairwise_cons.2 ⟨λp hp e=>?_,S2.n⟩⟩⟩
 ·rcases List.mem_cons.1 hp with rfl|hp
  ·exact ⟨h,by rw [hg];exact S.out.b.size⟩
  ·exact S2.x p hp
 ·have:=(Array.getElem?_eq_some_iff.1 (S.out.x p hp).1).1;simp only at e;omega
theorem St.front (S:AA (St w W bs)) (hu:KL bs g cs t cs' bs'):∃ L,AA (St w W ((g,cs,t)::L))/\∀ W',AA (St w W' ((g,cs',t)::L))->AA (St w W' bs'):=by
 refine ⟨bs.filter λp=>decide (p.1≠g),⟨⟨S.out.b,λp hp=>?_,List.pairwise_cons.2 ⟨λp hp=>?_,S.out.n.filter _⟩⟩⟩,λW' T=>⟨⟨T.out.b,λp hp=>?_,ML hu.key S.out.n⟩⟩⟩
 ·rcases List.mem_cons.1 hp with rfl|hp
  ·exact S.out.x _ hu.mem
  ·exact S.out.x p (List.mem_filter.1 hp).1
 ·exact λe=>of_decide_eq_true (List.mem_filter.1 hp).2 e.symm
 ·rcases hu.far S.out.n p hp with rfl|⟨h,hne⟩
  ·exact T.out.x _ (.head _)
  ·exact T.out.x p (.tail _ (List.mem_filter.2 ⟨h,decide_eq_true hne⟩))
theorem St.drop {p:Nat×Array Value×TypeId} (S:AA (St w W (p::bs))):AA (St w W bs):=⟨⟨S.out.b,λq hq=>S.out.x q (.tail _ hq),(List.pairwise_cons.1 S.out.n).2⟩⟩
theorem St.drawn (S:AA (St w W bs)) (h:Ap W W'):AA (St w W' bs):=by
 obtain ⟨n,rfl⟩:=h;exact St.below S (Bw (Below.refl _ _) _)
theorem St.cell (S:AA (St w W bs)) {v:Value} (hm:(g,cs,t)∈bs) (hv:cs[i]? =some v):W.cell? ⟨g,i,none⟩=some v:=GJ (S.out.x _ hm).1 hv
theorem St.laid (S:AA (St w W bs)) (hG:AA (Ck w)):AA (Ck W):=⟨Ck.below hG.out S.out.b⟩
theorem St.OL {f:FuncId} {args:Array Value} {r:Ending} (S:AA (St w W bs)) (h:Calls Tryz.prog f args W λe W'=>e=r/\Below W.heap.size W W'):Calls Tryz.prog f args W λe W'=>e=r/\AA (St w W' bs):=h.mono λ_ _ h=>⟨h.1,St.below S h.2⟩
theorem St.P9 {f:FuncId} {args:Array Value} {r:Ending} (S:AA (St w W bs)) (h:Calls Tryz.prog f args W λe W'=>e=r/\Ap W W'):Calls Tryz.prog f args W λe W'=>e=r/\AA (St w W' bs):=h.mono λ_ _ h=>⟨h.1,St.drawn S h.2⟩
end
def H5 (d:TypeDesc):Bool:=match d with| .struct _| .array _ _=>true|_=>false
section
variable {w W:World} {bs bs':Bs} {ops:Array Oper} {rest:List Oper} {o:Oper} {a:Act} {Q:Exit->Act->World->Prop} {N:Tmp} {cs cs':Array Value} {t ty:TypeId} {x y:Operand} {g i:Nat} {d:TypeDesc}
theorem NT {F:Nat->Act} (cs:Array Value) (t:TypeId) (h:∀ g W',AA (St w W' ((g,cs,t)::bs))->wpList Tryz.prog ops Q rest (F g) W') (S:AA (St w W bs):=by with_reducible assumption) (hd:o.dst=some N:=by with_reducible rfl) (hg:o.guard=none:=by rfl)
 (hr:(execOp a.eval o).run Tryz.prog W= .ok (.value (.pointer (some ⟨W.heap.size,0,none⟩))) (W.alloc (.cells cs t (0,0))):=by first|(go_simp;done)|(go_simp;rfl)) (ha:∀ g,a.put o.dst (.pointer (some ⟨g,0,none⟩))=F g:=by intro g;simp only [Act.put,List.setIfInBounds_toArray,List.set_cons_zero,List.set_cons_succ];rfl):wpList Tryz.prog ops Q (o::rest) a W:=
 Ij hg hd hr λg hg w1 hb hB=>by rw [ha g];exact h g w1 (St.push S hg hb hB)
theorem DD (_:o.op= .load ty x) (h:wpList Tryz.prog ops Q (o::rest) a W):wpList Tryz.prog ops Q (o::rest) a W:=h
theorem Gf (h:wpList Tryz.prog ops Q ({o with guard:=none}::rest) a W) (hw:Region.wanted o (yielded ops a.tmps)=true:=by rfl):wpList Tryz.prog ops Q (o::rest) a W:=by
 have h1:Region.wanted {o with guard:=none} (yielded ops a.tmps)=true:=rfl;unfold wpList at h⊢
 rw [if_pos h1] at h;rw [if_pos hw];exact h
theorem Fw {a':Act} {bs₁:Bs} (h:wpList Tryz.prog ops Q rest a' W) (S:AA (St w W bs):=by with_reducible assumption) (ho:o.op= .load ty x:=by with_reducible rfl) (hg:o.guard=none:=by rfl) (hx:a.eval x= .pointer (some ⟨g,0,none⟩):=by exact rfl)
 (hu:Tryz.prog.underlying ty=some d:=by with_reducible assumption) (hm:KL bs g cs t #[] bs₁:=by with_reducible first|exact .head|exact .tail .head|exact .tail (.tail .head)|exact .tail (.tail (.tail .head))|exact .tail (.tail (.tail (.tail .head)))) (hi:(Tryz.prog.info? ty).map (·.size)=some cs.size:=by kernel_rfl) (hk:H5 d=true:=by exact rfl) (ha:a.put o.dst (.agg cs)=a':=by simp only [Act.put,List.setIfInBounds_toArray,List.set_cons_zero,List.set_cons_succ];rfl):wpList Tryz.prog ops Q (o::rest) a W:=by
 subst ha;exact wpList_load_row hg ty x ho g hx t cs (0,0) d (S.out.x _ hm.mem).1 hu (by cases d<;>exact hk) hi h
theorem EM {v:Value} {a':Act} {bs₁:Bs} (h:wpList Tryz.prog ops Q rest a' W) (S:AA (St w W bs):=by with_reducible assumption) (ho:o.op= .load ty x:=by with_reducible rfl) (hg:o.guard=none:=by rfl) (hx:a.eval x= .pointer (some ⟨g,i,none⟩):=by exact rfl)
 (hu:Tryz.prog.underlying ty=some d:=by with_reducible assumption) (hk:H5 d=false:=by exact rfl) (hm:KL bs g cs t #[] bs₁:=by with_reducible first|exact .head|exact .tail .head|exact .tail (.tail .head)|exact .tail (.tail (.tail .head))|exact .tail (.tail (.tail (.tail .head)))) (hv:cs[i]? =some v:=by exact rfl) (ha:a.put o.dst v=a':=by simp only [Act.put,List.setIfInBounds_toArray,List.set_cons_zero,List.set_cons_succ];rfl):wpList Tryz.prog ops Q (o::rest) a W:=by
 subst ha;have hc:=St.cell S hm.mem hv;have hagg:(isAgg ty).run Tryz.prog W= .ok false W:=by
  unfold isAgg;rw [Sem.run_bind,run_underlying hu W];cases d<;>first|rfl|(simp [H5] at hk;done)
 have hrun:(execOp a.eval o).run Tryz.prog W= .ok (.value v) W:=by
  unfold execOp;simp [ho,hx,Instr.loadAt,Instr.sureAddr,loadVar,Sem.run_bind,hagg,hc]
 exact Kd.Ii hg hrun h
theorem Gg (h:∀ W',AA (St w W' bs')->wpList Tryz.prog ops Q rest a W') (S:AA (St w W bs):=by with_reducible assumption) (ho:o.op= .store ty x y:=by with_reducible rfl) (hg:o.guard=none:=by rfl) (hd:o.dst=none:=by rfl) (hx:a.eval x= .pointer (some ⟨g,0,none⟩):=by exact rfl)
 (hy:a.eval y= .agg cs':=by exact rfl) (hu:KL bs g cs t cs' bs':=by with_reducible first|exact .head|exact .tail .head|exact .tail (.tail .head)|exact .tail (.tail (.tail .head))|exact .tail (.tail (.tail (.tail .head)))) (hi:(Tryz.prog.info? ty).map (·.size)=some cs'.size:=by kernel_rfl) (hs:cs.size=cs'.size:=by exact rfl) (h1:cs'.all (·.oneCell')=true:=by simp [Value.oneCell']):wpList Tryz.prog ops Q (o::rest) a W:=
 wpList_store_row hg ty x y ho g cs' hx hy t cs (S.out.x _ hu.mem).1 hi hs h1 (by rw [hd];exact h _ (St.row S hu))
theorem FU {v:Value} (S:St w W bs) (hm:(g,cs,t)∈bs) (hi:i<cs.size) (h1:v.oneCell'=true) (hz:(Tryz.prog.info? ty).map (·.size)=some 1):(storeVar ty ⟨g,i,none⟩ v).run Tryz.prog W= .ok () (W.setCell ⟨g,i,none⟩ v):=by
 have hv:v.cells=#[v]:=by cases v<;>first|rfl|(simp [Value.oneCell'] at h1;done)
 have hadd:(⟨g,i,none⟩:Addr).add 0=⟨g,i,none⟩:=by unfold Addr.add;split<;>simp_all
 cases hq:Tryz.prog.info? ty with
 |none=>simp [hq] at hz
 |some d=>
  have hs:d.size=1:=by simpa [hq] using hz
  have hc:W.cell? ⟨g,i,none⟩=some cs[i]:=(cell_of_row W g i cs t (0,0) (S.x _ hm).1).trans (by simp [hi]);have hf:W.frozen? ⟨g,i,none⟩=false:=frozen_of_row W g i cs t (S.x _ hm).1;simp [storeVar,sizeOf,typeInfo,hq,hv,hs,storeCells,hadd,run_store Tryz.prog W _ v _ h1,hc,hf]
theorem IZ {v:Value} {bs₁:Bs} (h:∀ W',AA (St w W' bs')->wpList Tryz.prog ops Q rest a W') (S:AA (St w W bs):=by with_reducible assumption) (ho:o.op= .store ty x y:=by with_reducible rfl) (hg:o.guard=none:=by rfl) (hd:o.dst=none:=by rfl) (hx:a.eval x= .pointer (some ⟨g,i,none⟩):=by exact rfl)
 (hz:(Tryz.prog.info? ty).map (·.size)=some 1:=by kernel_rfl) (hy:a.eval y=v:=by (try go_simp);rfl) (hu:KL bs g cs t (cs.setIfInBounds i v) bs₁:=by with_reducible first|exact .head|exact .tail .head|exact .tail (.tail .head)|exact .tail (.tail (.tail .head))|exact .tail (.tail (.tail (.tail .head))))
 (hc:bs₁=bs':=by simp only [List.setIfInBounds_toArray,List.set_cons_zero,List.set_cons_succ];rfl) (hi:i<cs.size:=by simp) (h1:v.oneCell'=true:=by rfl):wpList Tryz.prog ops Q (o::rest) a W:=by
 subst hc;refine wpList_plain hg λK hK=>?_
 unfold Oper.wp execOp;simp only [ho,hx,hy,Instr.storeAt,Instr.sureAddr,Sem.run_bind,Sem.run_pure,Result.andThen_ok,FU S.out hu.mem hi h1 hz];have e:a.put o.dst undef=a:=by rw [hd];rfl
 exact hK _ _ (by rw [e];exact h _ (St.set S v hu))
end
end Go.Proofs.YtikggnalmidlhaaGreatDoor.Print
end
section
namespace Go.Proofs.YtikggnalmidlhaaGreatDoor.Print
open RowKit AR Aa Ad
set_option linter.unusedVariables false
set_option linter.unusedSimpArgs false
def LG (s:ByteArray):Bool:=decide (0<=Lib.indexByte s.data.toList 9)||(decide (0<=Lib.indexByte s.data.toList 10)||decide (0<=Lib.indexByte s.data.toList 13))
theorem VT (s:ByteArray) (n:Int) (hn:n=Lib.indexByte s.data.toList 9) (W:World):Calls Tryz.prog 44 #[.string s, .int .u8 9] W λe w'=>e= .returned (.int .i64 n)/\w'=W:=by
 rw [hn];exact Tryz.strings_IndexByte s 9 W
theorem VC (s:ByteArray) (n:Int) (hn:n=Lib.indexByte s.data.toList 10) (W:World):Calls Tryz.prog 44 #[.string s, .int .u8 10] W λe w'=>e= .returned (.int .i64 n)/\w'=W:=by
 rw [hn];exact Tryz.strings_IndexByte s 10 W
theorem VD (s:ByteArray) (n:Int) (hn:n=Lib.indexByte s.data.toList 13) (W:World):Calls Tryz.prog 44 #[.string s, .int .u8 13] W λe w'=>e= .returned (.int .i64 n)/\w'=W:=by
 rw [hn];exact Tryz.strings_IndexByte s 13 W
set_option maxHeartbeats 2000000 in
set_option maxRecDepth 100000 in
theorem O6 (s:ByteArray) (W:World):Calls Tryz.prog 72 #[.string s] W λe w'=>e= .returned (.bool (LG s))/\w'=W:=by
 obtain ⟨a,ha⟩:∃ a,a=Lib.indexByte s.data.toList 9:=⟨_,rfl⟩;obtain ⟨b,hb⟩:∃ b,b=Lib.indexByte s.data.toList 10:=⟨_,rfl⟩;obtain ⟨c,hc⟩:∃ c,c=Lib.indexByte s.data.toList 13:=⟨_,rfl⟩;have A:=AA.mk (VT s a ha);have B:=AA.mk (VC s b hb);have C:=AA.mk (VD s c hc);have R:=AA.mk (show LG s=(decide (0<=a)||(decide (0<=b)||decide (0<=c))) by unfold LG;rw [ha,hb,hc]);clear ha hb hc;by_cases h1:0<=a
 ·have f1:decide (0<=a)=true:=decide_eq_true h1;clear h1;go_enter Tryz.func72,Tryz.ntmps72;go_wp2_with (first|(go_at_call 44;refine (A.out _).mono ?_;rintro e w' ⟨rfl,rfl⟩));go_ret;exact ⟨by rw [R.out,f1];rfl,rfl⟩
 ·have f1:decide (0<=a)=false:=decide_eq_false h1;clear h1;by_cases h2:0<=b
  ·have f2:decide (0<=b)=true:=decide_eq_true h2;clear h2;go_enter Tryz.func72,Tryz.ntmps72;go_wp2_with (first|(go_at_call 44;(first|refine (B.out _).mono ?_|refine (A.out _).mono ?_);rintro e w' ⟨rfl,rfl⟩));go_ret;exact ⟨by rw [R.out,f1,f2];rfl,rfl⟩
  ·have f2:decide (0<=b)=false:=decide_eq_false h2;clear h2;go_enter Tryz.func72,Tryz.ntmps72;go_wp2_with (first|(go_at_call 44;(first|refine (C.out _).mono ?_|refine (B.out _).mono ?_|refine (A.out _).mono ?_);rintro e w' ⟨rfl,rfl⟩));go_ret;exact ⟨by rw [R.out,f1,f2];rfl,rfl⟩
def GI (l:List ByteArray):ByteArray:=⟨(Lib.join (l.map (·.data.toList)) [9]).toArray⟩
def DY.f (l:List ByteArray):Option (ByteArray×Bool):=if l.length<=1000000 then (if l.any LG=true then some (⟨#[]⟩,false) else if l=[] then some (⟨#[]⟩,false) else if (Lib.join (l.map (·.data.toList)) [9]).length<=140737488355328 then some (GI l,true) else none) else none
set_option maxHeartbeats 2000000 in
set_option maxRecDepth 100000 in
theorem DY.calls (A0:Option Addr) (c0:Nat) (l:List ByteArray) (r1:ByteArray) (r2:Bool) (w:World) (hr:Kd.string.C w A0 l.length l) (hc:l.length<=c0) (h:DY.f l=some (r1,r2)):
 Calls Tryz.prog 41 #[.slice A0 l.length c0] w λe w'=>e= .returned (.tuple #[.string r1, .bool r2])/\Below w.heap.size w w':=by
 unfold DY.f at h;split at h;case isFalse=>cases h
 rename_i hn;have u1:=Tryz.underlying45;rcases Nat.eq_zero_or_pos l.length with h0|h0
 ·obtain rfl:=List.eq_nil_of_length_eq_zero h0;have e:(⟨#[]⟩,false)=(r1,r2):=by simpa using h
  obtain ⟨rfl,rfl⟩:=Prod.mk.inj e;go_enter Tryz.func41,Tryz.ntmps41;go_wp2;go_ret2;exact ⟨rfl,Below.refl _ _⟩
 ·obtain ⟨ad,rfl,hx⟩:=Kd.DF hr 0 (by omega) (by omega);obtain ⟨bk,o,sp⟩:=ad;obtain rfl:sp=none:=by
   cases sp with
   |none=>rfl
   |some q=>exfalso;simp [World.cell?,Addr.add] at hx;split at hx<;>simp_all
  have hadd:∀ j,(⟨bk,o,none⟩:Addr).add j=⟨bk,o+j,none⟩:=λj=>by unfold Addr.add;split<;>simp_all
  have hcell:∀ j x,l[j]? =some x->w.cell? ⟨bk,o+j,none⟩=some (.string x):=λj x hj=>by
   obtain ⟨hlt,rfl⟩:=List.getElem?_eq_some_iff.1 hj;obtain ⟨ad2,e2,hx2⟩:=Kd.DF hr (j:Int) (by omega) (by omega);obtain rfl:=Option.some.inj e2;rw [Int.toNat_natCast,hadd] at hx2;rw [hx2];unfold Cf;rw [Int.toNat_natCast,List.getD_eq_getElem?_getD,List.getElem?_eq_getElem hlt];rfl
  have hbk:bk<w.heap.size:=by
   have:=hcell 0 _ (List.getElem?_eq_getElem h0);rcases Nat.lt_or_ge bk w.heap.size with q|q
   ·exact q
   ·simp [World.cell?,Array.getElem?_eq_none q] at this
  have CF:AA (Calls Tryz.prog 73 #[.slice (some ⟨bk,o,none⟩) l.length c0, .func (.func 72) #[] #[]] w λe w'=>e= .returned (.bool (l.any LG))/\∃ q,w'=w.drewN q):=⟨by
   have:=Tryz.slices_ContainsFunc Value.string LG 72 #[] (enters_of Tryz.func72 (by kernel_rfl) rfl) bk o l.length c0 l w (λW x _=>(O6 x W).mono λe w' ⟨h1,h2⟩=>⟨h1,0,h2⟩) (Nat.le_refl _) (by omega) (λj hj=>by rw [hcell j _ (List.getElem?_eq_getElem hj),List.getElem!_eq_getElem?_getD,List.getElem?_eq_getElem hj];rfl)
   rwa [List.take_length] at this⟩
  have n0:(l.length==0)=false:=beq_eq_false_iff_ne.2 (by omega);have n1:((l.length:Int)==0)=false:=beq_eq_false_iff_ne.2 (by omega);have hne:l≠[]:=λe=>by rw [e] at h0;simp at h0
  by_cases ha:l.any LG=true
  ·rw [if_pos ha] at h;simp only [Option.some.injEq,Prod.mk.injEq] at h;obtain ⟨rfl,rfl⟩:=h;rw [ha] at CF;clear ha hx h0 hne hadd hcell;go_enter Tryz.func41,Tryz.ntmps41;go_wp2_with (first|(go_at_call 73;refine (CF.out).mono ?_;rintro e w' ⟨rfl,nd,rfl⟩));go_ret2;exact ⟨rfl,Bw (Below.refl _ _) _⟩
  ·rw [if_neg ha,if_neg hne] at h;split at h;case isFalse=>cases h
   rename_i hj;simp only [Option.some.injEq,Prod.mk.injEq] at h;obtain ⟨rfl,rfl⟩:=h;rw [Bool.eq_false_iff.2 ha] at CF;have JN:=AA.mk λnd=>Tryz.strings_Join bk o c0 l ⟨#[9]⟩ (w.drewN nd) (λj x hj=>hcell j x hj) hbk (by omega) hc hj
   clear ha hx h0 hne hadd hcell;go_enter Tryz.func41,Tryz.ntmps41;go_wp2_with (first|(go_at_call 73;refine (CF.out).mono ?_;rintro e w' ⟨rfl,nd,rfl⟩)|(go_at_call 74;refine (JN.out _).mono ?_;rintro e w' ⟨rfl,hb⟩));go_ret2;exact ⟨rfl,(Bw (Below.refl _ _) _).trans hb⟩
end Go.Proofs.YtikggnalmidlhaaGreatDoor.Print
end
section
namespace Go.Proofs.YtikggnalmidlhaaGreatDoor.Print
open Go RowKit ChangeShapes WideShapes Deep AR Aa Ad
set_option linter.unusedVariables false
section
variable {H:Type} {enc:TypeId×Value->H} {P:Program} {w:World} {base:Nat} {spare:Nat->Bool} {held:Bool}
theorem MN {t e:TypeId} {fs:Array Field} {fuel:Nat} {cs:List Value} {x:DataW H×List MemPlace} (ht:P.underlying t=some (.slice e)) (he:P.underlying e=some (.struct fs))
 (hone:oneCellFields P fs=true) (hC:P.cellsOf e=fs.size) (h:DataW.trod enc P w base spare held fuel t cs=some x):
 cs=[.slice none 0 0]\/∃ (a:Addr) (len cap:Nat),cs=[.slice (some a) len cap]/\len<=cap/\cap<=maxLen/\
  ∀ i,i<len->∀ (j:Nat) (f:Field),fs[j]? =some f->∃ (v:Value) (y:DataW H×List MemPlace) (n:Nat),w.cell? (a.add (i*fs.size+j))=some v/\DataW.trod enc P w base spare held n f.type [v]=some y:=by
 rcases open_slice ht h with h0|⟨a,len,cap,m,n,D,Pl,hcs,hb,hl,hm,hmm,hx,hi⟩
 ·exact .inl h0.1
 ·refine .inr ⟨a,len,cap,hcs,hl,hm,λi hin j f hj=>?_⟩;obtain ⟨cs',hc,ht'⟩:=hi i (by rw [hmm];split<;>omega);rw [hC] at hc;obtain ⟨ys,n',hn',hy,hlen,hyl,hf⟩:=DataW.trod_struct he ht';obtain ⟨_,hcl,hat⟩:=World.cells?_some hc;obtain ⟨ho,hk⟩:=hone_of hone j f hj;have hjl:j<fs.size:=(Array.getElem?_eq_some_iff.1 hj).1;have hcell:=hat j hjl;have hv:cs'[j]? =some (cs'[j]'(by omega)):=List.getElem?_eq_getElem (by omega);have h1:=hf j f hj;rw [ho,hk] at h1;have hone':(cs'.drop j).take 1=[cs'[j]'(by omega)]:=by
   rw [List.drop_eq_getElem_cons (by omega)];rfl
  rw [hone'] at h1;have hys:ys[j]? =some (ys[j]'(by omega)):=List.getElem?_eq_getElem (by omega);refine ⟨_,_,n',?_,h1.trans hys⟩;rw [<-Go.Deep.add_add,hcell,hv]
end
theorem I1 {α:Type} {Q:Nat->α->Prop}:∀ (n:Nat),(∀ i,i<n->∃ x,Q i x)->∃ l:List α,l.length=n/\∀ j x,l[j]? =some x->Q j x
 |0,_=>⟨[],rfl,λj x h=>by simp at h⟩
 |n+1,h=>by
  obtain ⟨l,hl,hq⟩:=I1 n (λi hi=>h i (by omega));obtain ⟨x,hx⟩:=h n (by omega);refine ⟨l++[x],by simp [hl],λj y hj=>?_⟩;rcases Nat.lt_or_ge j l.length with hlt|hge
  ·rw [List.getElem?_append_left hlt] at hj;exact hq j y hj
  ·rw [List.getElem?_append_right hge] at hj;have h0:j - l.length=0:=by
    cases hz:j - l.length with
    |zero=>rfl
    |succ m=>rw [hz] at hj;simp at hj
   rw [h0] at hj;obtain rfl:x=y:=by simpa using hj
   have:j=n:=by omega
   subst this;exact hx
set_option maxRecDepth 100000 in
theorem O7 {H:Type} {enc:TypeId×Value->H} {w:World} {base:Nat} {spare:Nat->Bool} {held:Bool} {r:Reach} {b0:Nat} {v:Value} {d:DataW H} {ps:List MemPlace}
 (hv:Value.okWide Tryz.prog w r b0 22 v) (h:DataW.Trod enc Tryz.prog w base spare held 22 v d ps):
 ∃ (a:Option Addr) (c:Nat) (l:List CU),v= .slice a l.length c/\Kd.C Fu w a l.length l/\l.length<=c/\∀ x∈l,x.f0.size<=9223372036854775807/\x.f1.size<=9223372036854775807/\x.f2.size<=9223372036854775807/\x.f3.size<=9223372036854775807/\(Lit.int .i64 x.f4).wf=true/\(Lit.int .i64 x.f5).wf=true/\(Lit.int .i64 x.f6).wf=true/\(Lit.int .i64 x.f10).wf=true:=by
 have hu:=Tryz.underlying22;have he:=Tryz.underlying53;have hi:=Tryz.underlying3;have hs:=Tryz.underlying9;have hb:=Tryz.underlying4;obtain ⟨a,len,cap,rfl⟩:=okWide_slice hu hv;obtain ⟨fuel,hf⟩:=h;rcases MN hu he (by kernel_rfl) (by kernel_rfl) hf with hcs|⟨x,len',cap',hcs,hl,hm,hall⟩
 ·simp [Value.cells] at hcs;obtain ⟨rfl,rfl,rfl⟩:=hcs;exact ⟨none,0,[],rfl,⟨rfl,by simp,λh=>by simp at h⟩,Nat.le_refl _,λx hx=>by simp at hx⟩
 ·simp [Value.cells] at hcs;obtain ⟨rfl,rfl,rfl⟩:=hcs;have key:∀ i,i<len->∃ y:CU,(w.cell? (x.add (i*11+0))=some (.string y.f0)/\w.cell? (x.add (i*11+1))=some (.string y.f1)/\w.cell? (x.add (i*11+2))=some (.string y.f2)/\w.cell? (x.add (i*11+3))=some (.string y.f3)/\w.cell? (x.add (i*11+4))=some (.int .i64 y.f4)/\w.cell? (x.add (i*11+5))=some (.int .i64 y.f5)/\w.cell? (x.add (i*11+6))=some (.int .i64 y.f6)/\w.cell? (x.add (i*11+7))=some (.bool y.f7)/\w.cell? (x.add (i*11+8))=some (.bool y.f8)/\w.cell? (x.add (i*11+9))=some (.bool y.f9)/\w.cell? (x.add (i*11+10))=some (.int .i64 y.f10))/\(y.f0.size<=9223372036854775807/\y.f1.size<=9223372036854775807/\y.f2.size<=9223372036854775807/\y.f3.size<=9223372036854775807/\(Lit.int .i64 y.f4).wf=true/\(Lit.int .i64 y.f5).wf=true/\(Lit.int .i64 y.f6).wf=true/\(Lit.int .i64 y.f10).wf=true):=by
   intro i hlt;obtain ⟨v0,y0,n0,c0,t0⟩:=hall i hlt 0 _ rfl;obtain ⟨v1,y1,n1,c1,t1⟩:=hall i hlt 1 _ rfl;obtain ⟨v2,y2,n2,c2,t2⟩:=hall i hlt 2 _ rfl;obtain ⟨v3,y3,n3,c3,t3⟩:=hall i hlt 3 _ rfl;obtain ⟨v4,y4,n4,c4,t4⟩:=hall i hlt 4 _ rfl;obtain ⟨v5,y5,n5,c5,t5⟩:=hall i hlt 5 _ rfl;obtain ⟨v6,y6,n6,c6,t6⟩:=hall i hlt 6 _ rfl;obtain ⟨v7,y7,n7,c7,t7⟩:=hall i hlt 7 _ rfl;obtain ⟨v8,y8,n8,c8,t8⟩:=hall i hlt 8 _ rfl;obtain ⟨v9,y9,n9,c9,t9⟩:=hall i hlt 9 _ rfl;obtain ⟨v10,y10,n10,c10,t10⟩:=hall i hlt 10 _ rfl;obtain ⟨m0,e0,_,w0⟩:=DataW.trod_string hs t0;obtain ⟨m1,e1,_,w1⟩:=DataW.trod_string hs t1;obtain ⟨m2,e2,_,w2⟩:=DataW.trod_string hs t2;obtain ⟨m3,e3,_,w3⟩:=DataW.trod_string hs t3;obtain ⟨m4,e4,_,w4⟩:=DataW.trod_int hi t4;obtain ⟨m5,e5,_,w5⟩:=DataW.trod_int hi t5;obtain ⟨m6,e6,_,w6⟩:=DataW.trod_int hi t6;obtain ⟨m7,e7,_⟩:=DataW.trod_bool hb t7;obtain ⟨m8,e8,_⟩:=DataW.trod_bool hb t8;obtain ⟨m9,e9,_⟩:=DataW.trod_bool hb t9;obtain ⟨m10,e10,_,w10⟩:=DataW.trod_int hi t10;obtain rfl:=(List.cons.inj e0).1;obtain rfl:=(List.cons.inj e1).1;obtain rfl:=(List.cons.inj e2).1;obtain rfl:=(List.cons.inj e3).1;obtain rfl:=(List.cons.inj e4).1;obtain rfl:=(List.cons.inj e5).1;obtain rfl:=(List.cons.inj e6).1;obtain rfl:=(List.cons.inj e7).1;obtain rfl:=(List.cons.inj e8).1;obtain rfl:=(List.cons.inj e9).1;obtain rfl:=(List.cons.inj e10).1;exact ⟨⟨m0,m1,m2,m3,m4,m5,m6,m7,m8,m9,m10⟩,⟨c0,c1,c2,c3,c4,c5,c6,c7,c8,c9,c10⟩,Nat.le_trans w0 (by unfold maxLen;omega),Nat.le_trans w1 (by unfold maxLen;omega),Nat.le_trans w2 (by unfold maxLen;omega),Nat.le_trans w3 (by unfold maxLen;omega),w4,w5,w6,w10⟩
  obtain ⟨l,hlen,hq⟩:=I1 len key;subst hlen;refine ⟨some x,cap,l,rfl,⟨rfl,by unfold maxLen at hm;omega,λ_=>⟨x,rfl,λj p hj=>⟨_,rfl,Tg w p,λi u hu=>?_⟩⟩⟩,hl,λy hy=>?_⟩
  ·obtain ⟨⟨h0,h1,h2,h3,h4,h5,h6,h7,h8,h9,h10⟩,_⟩:=hq j p hj
   match i,hu with
   |0,hu=>obtain rfl:=Option.some.inj hu;exact h0
   |1,hu=>obtain rfl:=Option.some.inj hu;exact h1
   |2,hu=>obtain rfl:=Option.some.inj hu;exact h2
   |3,hu=>obtain rfl:=Option.some.inj hu;exact h3
   |4,hu=>obtain rfl:=Option.some.inj hu;exact h4
   |5,hu=>obtain rfl:=Option.some.inj hu;exact h5
   |6,hu=>obtain rfl:=Option.some.inj hu;exact h6
   |7,hu=>obtain rfl:=Option.some.inj hu;exact h7
   |8,hu=>obtain rfl:=Option.some.inj hu;exact h8
   |9,hu=>obtain rfl:=Option.some.inj hu;exact h9
   |10,hu=>obtain rfl:=Option.some.inj hu;exact h10
   |i+11,hu=>simp at hu
  ·obtain ⟨j,hj⟩:=List.getElem?_of_mem hy;exact (hq j y hj).2
end Go.Proofs.YtikggnalmidlhaaGreatDoor.Print
end
section
namespace Go.Proofs.YtikggnalmidlhaaGreatDoor.Print
open RowKit AR Aa Ad
attribute [local go_sem] BM BN Bo Bp BC BD BO BP
set_option linter.unusedVariables false
set_option linter.unusedSimpArgs false
theorem Uj (d:Nat) (w:World) (x0 y0:ByteArray) (x1 y1:ByteArray) (x2 y2:ByteArray) (x3 y3:ByteArray) (x4 y4:Int) (x5 y5:Int) (x6 y6:Int) (x7 y7:Bool) (x8 y8:Bool) (x9 y9:Bool) (x10 y10:Int):
 (Op.equalIn (d+2) 53 (.agg #[.string x0, .string x1, .string x2, .string x3, .int .i64 x4, .int .i64 x5, .int .i64 x6, .bool x7, .bool x8, .bool x9, .int .i64 x10]) (.agg #[.string y0, .string y1, .string y2, .string y3, .int .i64 y4, .int .i64 y5, .int .i64 y6, .bool y7, .bool y8, .bool y9, .int .i64 y10])).run Tryz.prog w= .ok (x0.toList==y0.toList&&(x1.toList==y1.toList&&(x2.toList==y2.toList&&(x3.toList==y3.toList&&(x4==y4&&(x5==y5&&(x6==y6&&(x7==y7&&(x8==y8&&(x9==y9&&(x10==y10))))))))))) w:=by
 refine Qb Tryz.underlying53 (by kernel_rfl) ?_;refine D9 (by rfl) (by go_simp;rfl) (by go_simp;rfl) (by go_simp) ?_;refine D9 (by rfl) (by go_simp;rfl) (by go_simp;rfl) (by go_simp) ?_;refine D9 (by rfl) (by go_simp;rfl) (by go_simp;rfl) (by go_simp) ?_;refine D9 (by rfl) (by go_simp;rfl) (by go_simp;rfl) (by go_simp) ?_;refine D9 (by rfl) (by go_simp;rfl) (by go_simp;rfl) (by go_simp) ?_;refine D9 (by rfl) (by go_simp;rfl) (by go_simp;rfl) (by go_simp) ?_;refine D9 (by rfl) (by go_simp;rfl) (by go_simp;rfl) (by go_simp) ?_;refine D9 (by rfl) (by go_simp;rfl) (by go_simp;rfl) (by go_simp) ?_;refine D9 (by rfl) (by go_simp;rfl) (by go_simp;rfl) (by go_simp) ?_;refine D9 (by rfl) (by go_simp;rfl) (by go_simp;rfl) (by go_simp) ?_;exact Mg (by rfl) (by go_simp;rfl) (by go_simp;rfl) (by go_simp)
end Go.Proofs.YtikggnalmidlhaaGreatDoor.Print
end
