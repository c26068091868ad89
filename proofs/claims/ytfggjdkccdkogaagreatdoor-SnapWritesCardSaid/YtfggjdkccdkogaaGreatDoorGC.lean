/- (Jar).List: its cookies, in order, as a slice of its own. -/
import Derived.Test.YtfggjdkccdkogaaGreatDoorPrint0
import Derived.RangeFuncBox
import Derived.RangeFuncBound
import Derived.RangeFuncLeaves
import Derived.RangeFuncCalls
import Derived.Shelf.Abstract
import Derived.OwnWalkIn
import Derived.TacticsInMore
import Derived.LoopNIn
import Derived.LoopIn
import Derived.Shelf.RegionOpen
section
namespace Go.Proofs.YtfggjdkccdkogaaGreatDoor.Range
open Go RowKit
def Yj (P:Program) (fn:Func) (R:Ending->World->Prop):Exit->Act->World->Prop
 | .normal,a,w=>bodyPostM Fence.wide 9 P fn R .normal a w
 | .ret,a,w=>bodyPostM Fence.wide 9 P fn R .ret a w
 |_,_,_=>False
theorem Jc {P:Program} {f:FuncId} {fn:Func} {c:Code} {args:Array Value} {w:World} {R:Ending->World->Prop} (hf:P.funcs[f]? =some fn) (hb:fn.body=some c)
 (h:c.wp P (Yj P fn R) {tmps:=args++Array.replicate (fn.ntmps - args.size) undef,defers:=[]} w):Calls P f args w R:=
 callsIn_wide.1 (callsIn_of_wp_marks (n:=9) (F:=Fence.wide) hf hb trivial (wpIn_mono (wpIn_wide.2 h) (by rintro (_|_|_|_|_|_) a w' hh<;>first|exact hh|exact hh.elim)))
def Xd (P:Program) (n:Nat) (gf:Nat) (fb:Array Value) (xs:List (Array Value)) (n₀:Nat) (w:World):Prop:=
 ∀ (l:Nat) (J Jx:Nat->World->Prop) (W:World),Below w.heap.size w W->
  (∀ j A B,J j A->A.grownBy B none->J j B)->(∀ j A B,Jx j A->A.grownBy B none->Jx j B)->
  (∀ j x W1,xs[j]? =some x->J j W1->YieldAt Fence.wide (n - 1) P l x W1 λe W'=>(e= .returned (.bool true)/\J (j+1) W'/\Below n₀ W1 W')\/(e= .returned (.bool false)/\Jx j W'))->
  J 0 W->
  CallsIn Fence.wide n P gf (fb++#[.func (.yield l) #[] #[]]) W λe W'=>(∃ v,e= .returned v)/\(J xs.length W'\/∃ j,j<xs.length/\Jx j W')
def Yk (B n₀:Nat) (I:Nat->World->Prop) (Ix:Code->Nat->World->Prop) (j:Nat) (W:World):Exit->Act->World->Prop
 | .normal,_,W'=>KeepsFrom B W W'/\Below n₀ W W'/\I (j+1) W'
 | .ret,_,W'=>KeepsFrom B W W'/\Ix .ret j W'
 | .exit id,_,W'=>KeepsFrom B W W'/\Ix (.exit id) j W'
 | .goto t,_,W'=>KeepsFrom B W W'/\Ix (.goto t) j W'
 | .panic _,_,_=>False
 | .outgrown,_,_=>False
theorem Nw {P:Program} {g:Operand} {ps:Array Tmp} {assign body:Code} {Q:Exit->Act->World->Prop} {a:Act} {w:World} {gf:Nat} {fb:Array Value} {α:Type} {enc:α->Array Value} {xs:List α} {n₀:Nat}
 (hg:a.eval g= .func (.func gf) fb #[]) (eg:∀ args w,(callFunc gf args).run P w= .ok (.enter gf args) w) (hseq:Xd P 8 gf fb (xs.map enc) n₀ w) (hn:n₀<=w.heap.size) (hps:∀ x∈xs,(enc x).size=ps.size)
 (I:Nat->World->Prop) (Ix:Code->Nat->World->Prop) (hI:OwnFrom w.heap.size I) (hIx:∀ c,OwnFrom w.heap.size (Ix c)) (h0:I 0 w) (A1:Nat×α×Act->World->Prop) (hA1:OwnFrom w.heap.size A1)
 (hassign:∀ (l j:Nat) (x:α) (W:World),xs[j]? =some x->I j W->
  assign.wpIn (Fence.wide.inRound l) 7 P (Exit.then (λa1 W1=>KeepsFrom w.heap.size W W1/\Below n₀ W W1/\A1 (j,x,a1) W1) (λ_ _ _=>False)) {tmps:=(ps.zip (enc x)).foldl (λt (p,v)=>t.setIfInBounds p v) a.tmps,defers:=[]} W)
 (hbody:∀ (l j:Nat) (x:α) (a1:Act) (W:World),xs[j]? =some x->A1 (j,x,a1) W->body.wpIn (Fence.wide.inRound l) 7 P (Yk w.heap.size n₀ I Ix j W) a1 W)
 (hdone:∀ (D:Nat) (W:World),w.heap.size<=D->I xs.length W->W.heap[D]? =some (.deferred (some []))->Q .normal {a with defers:={target:= .collected D,args:=#[]}::a.defers} W)
 (hstop:∀ (D:Nat) (c:Code) (j:Nat) (W:World),w.heap.size<=D->j<xs.length->Ix c j W->W.heap[D]? =some (.deferred (some []))->c.wp P Q {a with defers:={target:= .collected D,args:=#[]}::a.defers} W):
 (Code.rangeFunc g ps assign body).wp P Q a w:=by
 refine (wpIn_wide (n:=9)).1 (wpIn_rangeFunc ?_);intro fn _;generalize hR:(λ(st:LoopState) (pe:Option Code)=>({state:=st,pending:=pe,fn:=fn,tmps:=a.tmps,params:=ps,assign:=assign,body:=body,defers:=w.heap.size}:Loop))=rec;have eR:∀ st pe,rec st pe={state:=st,pending:=pe,fn:=fn,tmps:=a.tmps,params:=ps,assign:=assign,body:=body,defers:=w.heap.size}:=λst pe=>by rw [<-hR]
 generalize hW1:(w.alloc (.deferred (some []))).alloc (.loop (rec .ready none))=W1;have b1:Below w.heap.size w W1:=by rw [<-hW1];exact ((Below.refl _ w).alloc (Nat.le_refl _) _).alloc (by simp) _
 have s1:W1.heap.size=w.heap.size+1+1:=by rw [<-hW1];simp
 have l1:W1.heap[w.heap.size+1]? =some (.loop (rec .ready none)):=by
  rw [<-hW1];have:=World.alloc_heap_new (w.alloc (.deferred (some []))) (.loop (rec .ready none));rwa [World.size_alloc] at this
 have k1:W1.heap[w.heap.size]? =some (.deferred (some [])):=by
  rw [<-hW1];exact (Below.heap_alloc _ _ _ (by simp)).trans (World.alloc_heap_new w _)
 have i1:I 0 W1:=by rw [<-hW1];exact hI.alloc _ (hI.alloc _ h0)
 refine ⟨w.heap.size+1,[{target:= .collected w.heap.size,args:=#[]}],W1,{target:= .fn (.func gf) #[],args:=fb++#[.func (.yield (w.heap.size+1)) #[] #[]]},W1,gf,fb++#[.func (.yield (w.heap.size+1)) #[] #[]],W1,?_,?_,λ_ _=>trivial,?_,λh=>by simp [Fence.wide] at h,?_⟩
 ·rw [<-hW1,eR];exact run_enterLoop_outer _ _ _ _ _
 ·simp only [resolve,hg];simp [go_sem,Deferred.ofValue]
 ·simp [invoke,go_sem,eg]
 have keepN:∀ {A B:World} {k:Nat} {o:Obj},A.grownBy B none->A.heap[k]? =some o->B.heap[k]? =some o:=λhg hk=>(hg.block _ (Array.getElem?_eq_some_iff.1 hk).1 (by simp)).trans hk
 refine (hseq (w.heap.size+1)
  (λj W=>I j W/\W.heap[w.heap.size+1]? =some (.loop (rec .ready none))/\W.heap[w.heap.size]? =some (.deferred (some [])))
  (λj W=>∃ c,Ix c j W/\W.heap[w.heap.size+1]? =some (.loop (rec .done (some c)))/\W.heap[w.heap.size]? =some (.deferred (some [])))
  W1 b1
  (λj A B h hg=>⟨hI j A B none h.1 hg (λr e=>by cases e),keepN hg h.2.1,keepN hg h.2.2⟩)
  (λj A B h hg=>by obtain ⟨c,h1,h2,h3⟩:=h;exact ⟨c,hIx c j A B none h1 hg (λr e=>by cases e),keepN hg h2,keepN hg h3⟩)
  ?_ ⟨i1,l1,k1⟩).mono ?_
 ·rintro j x' W hx' ⟨hi,hl,hk⟩;rw [List.getElem?_map] at hx';obtain ⟨x,hx,rfl⟩:=Option.map_eq_some_iff.1 hx';have hlt:w.heap.size+1<W.heap.size:=(Array.getElem?_eq_some_iff.1 hl).1;have hy:=run_yield (P:=P) (args:=enc x) hl (by rw [eR];exact hps x (List.mem_of_getElem? hx));rw [eR] at hy;refine ⟨fn,_,assign,body,hy,roundIn_of_wpIn trivial (wpIn_mono (hassign _ j x W hx hi) ?_)⟩;rintro (_|_|_|_|_|_) a1 W1 hq<;>(try exact hq.elim);obtain ⟨q1,q2,q3⟩:=hq;have l1':=q1.same _ _ (by omega) hl rfl;have k1':=q1.same _ _ (Nat.le_refl _) hk rfl;have hlt1:w.heap.size+1<W1.heap.size:=(Array.getElem?_eq_some_iff.1 l1').1;refine ⟨_,run_beginRound l1' (by rw [eR]),?_⟩;generalize hW2:W1.putObj (w.heap.size+1) (.loop {rec .ready none with state:= .busy})=W2;have l2:W2.heap[w.heap.size+1]? =some (.loop {rec .ready none with state:= .busy}):=by rw [<-hW2];exact World.putObj_heap_same hlt1
  have k2:W2.heap[w.heap.size]? =some (.deferred (some [])):=by rw [<-hW2];exact (World.putObj_heap_other (by omega)).trans k1'
  have b2:Below n₀ W W2:=by rw [<-hW2];exact q2.trans (belowK_b (w:=w) hn _ _ _ _ (by omega) l1' rfl rfl)
  have i2:A1 (j,x,a1) W2:=by rw [<-hW2];exact hA1.putObj _ q3 (by omega) l1' rfl
  refine wpIn_mono (hbody _ j x a1 W2 hx i2) ?_;have out:∀ (jump:Option Code) (W3:World),KeepsFrom w.heap.size W2 W3->∃ W4,(Instr.endRound (w.heap.size+1) jump).run P W3= .ok (.bool jump.isNone) W4/\W4=W3.putObj (w.heap.size+1) (.loop (rec (if jump.isNone then .ready else .done) jump))/\W3.heap[w.heap.size+1]? =some (.loop {rec .ready none with state:= .busy})/\
   W4.heap[w.heap.size+1]? =some (.loop (rec (if jump.isNone then .ready else .done) jump))/\W4.heap[w.heap.size]? =some (.deferred (some [])):=λjump W3 h3=>by
   have l3:=h3.same _ _ (by omega) l2 rfl;have k3:=h3.same _ _ (Nat.le_refl _) k2 rfl;have hr:=run_endRound (P:=P) jump l3;rw [eR] at hr;exact ⟨_,by rw [hr,eR],rfl,l3,World.putObj_heap_same (Array.getElem?_eq_some_iff.1 l3).1,(World.putObj_heap_other (by omega)).trans k3⟩
  rintro e a3 W3 hp;cases e with
  |normal=>
   obtain ⟨h1,h2,h3⟩:=hp;obtain ⟨W4,hr,rfl,l3,l4,k4⟩:=out none W3 h1;exact ⟨_,_,hr, .inl ⟨rfl,⟨hI.putObj _ h3 (by omega) l3 rfl,l4,k4⟩,(b2.trans h2).trans (belowK_b (w:=w) hn _ _ _ _ (by omega) l3 rfl rfl)⟩⟩
  |ret=>
   obtain ⟨h1,h3⟩:=hp;obtain ⟨W4,hr,rfl,l3,l4,k4⟩:=out (some .ret) W3 h1;exact ⟨_,_,hr, .inr ⟨rfl, .ret,(hIx _).putObj _ h3 (by omega) l3 rfl,l4,k4⟩⟩
  |exit id=>
   obtain ⟨h1,h3⟩:=hp;obtain ⟨W4,hr,rfl,l3,l4,k4⟩:=out (some (.exit id)) W3 h1;exact ⟨_,_,hr, .inr ⟨rfl, .exit id,(hIx _).putObj _ h3 (by omega) l3 rfl,l4,k4⟩⟩
  |goto t=>
   obtain ⟨h1,h3⟩:=hp;obtain ⟨W4,hr,rfl,l3,l4,k4⟩:=out (some (.goto t)) W3 h1;exact ⟨_,_,hr, .inr ⟨rfl, .goto t,(hIx _).putObj _ h3 (by omega) l3 rfl,l4,k4⟩⟩
  |panic ch=>exact hp.elim
  |outgrown=>exact hp.elim
 ·rw [List.length_map];rintro e W2 ⟨⟨v,rfl⟩,(⟨hi,hl,hk⟩|⟨j,hj,c,hi,hl,hk⟩)⟩
  ·exact ⟨none,_,by have:=run_endLoop (P:=P) hl (by rw [eR];simp);rw [eR] at this;exact this,hdone _ _ (Nat.le_refl _) (hI.putObj _ hi (by omega) hl rfl) ((World.putObj_heap_other (by omega)).trans hk)⟩
  ·exact ⟨some c,_,by have:=run_endLoop (P:=P) hl (by rw [eR];simp);rw [eR] at this;exact this,wpIn_wide.2 (hstop _ c j _ (Nat.le_refl _) hj ((hIx c).putObj _ hi (by omega) hl rfl) ((World.putObj_heap_other (by omega)).trans hk))⟩
structure But (g:Nat) (w W:World):Prop where
 os:W.os=w.os
 tape:W.tape=w.tape
 output:W.output=w.output
 size:w.heap.size<=W.heap.size
 same:∀ k,k<w.heap.size->k≠g->W.heap[k]? =w.heap[k]?
theorem But.refl (g:Nat) (w:World):But g w w:=⟨rfl,rfl,rfl,Nat.le_refl _,λ_ _ _=>rfl⟩
theorem But.at {g:Nat} {w W:World} (h:But g w W) {k:Nat} {o:Obj} (hk:w.heap[k]? =some o) (hne:k≠g):W.heap[k]? =some o:=(h.same k (Array.getElem?_eq_some_iff.1 hk).1 hne).trans hk
theorem But.below {g:Nat} {w W:World} (h:But g w W) {n₀:Nat} (hn:n₀<=w.heap.size) (hg:n₀<=g):Below n₀ w W:=⟨h.os,h.tape,h.output,h.size,λk hk=>h.same k (by omega) (by omega)⟩
theorem But.set {g:Nat} {w W:World} (h:But g w W) (v:Value):But g w (W.setCell ⟨g,0,none⟩ v):=
 ⟨h.os,h.tape,h.output,by have:=(KeepsWalks.setCell W ⟨g,0,none⟩ v).size;have:=h.size;omega,λk hk hne=>(Below.heap_setCell W ⟨g,0,none⟩ v k hne).trans (h.same k hk hne)⟩
theorem But.own {g:Nat} {w:World}:OwnFrom w.heap.size (λ(_:Nat) W=>But g w W):=λ_ W W' row h hg hr=>
 ⟨hg.os.trans h.os,hg.tape.trans h.tape,hg.output.trans h.output,Nat.le_trans h.size hg.size,λk hk hne=>(hg.block k (Nat.lt_of_lt_of_le hk h.size) (λe=>by have:=(hr k e.symm).1;omega)).trans (h.same k hk hne)⟩
theorem boxed_own {B g:Nat} {t:TypeId} (f:Nat->Value):OwnFrom B (λ(j:Nat) W=>Boxed W g t (f j)):=λj W W' row h hg hr=>
 h.kept hg (λe=>by obtain ⟨_,o,ho,hc⟩:=hr g e.symm;rw [show W.heap[g]? =_ from h] at ho;cases ho;cases hc)
def LJ {α:Type} (a:α->Nat->Act) (o:α->Array Value) (t:TypeId) (I:Nat->World->Prop):Nat×α×Act->World->Prop:=λs W=>∃ g,s.2.2=a s.2.1 g/\W.heap[g]? =some (.cells (o s.2.1) t (0,0))/\I s.1 W
theorem LJ.own {α:Type} {a:α->Nat->Act} {o:α->Array Value} {t:TypeId} {I:Nat->World->Prop} {B:Nat} (hI:OwnFrom B I):OwnFrom B (LJ a o t I):=by
 rintro ⟨j,x,a1⟩ W W' row ⟨g,e,hc,hi⟩ hg hr;refine ⟨g,e,(hg.block g (Array.getElem?_eq_some_iff.1 hc).1 (λe'=>?_)).trans hc,hI j W W' row hi hg hr⟩;obtain ⟨_,o',ho,hl⟩:=hr g e'.symm;rw [hc] at ho;cases ho;cases hl
end Go.Proofs.YtfggjdkccdkogaaGreatDoor.Range
end
section
namespace Go.Proofs.YtfggjdkccdkogaaGreatDoor.Print
open RowKit Ac Aq Aw Range
set_option linter.unusedVariables false
set_option linter.unusedSimpArgs false
attribute [local go_sem] Oper.semAt_some
def LC (x:CO):Array Value:=#[.agg #[.string x.f0.f0, .string x.f0.f1, .string x.f0.f2], .agg #[.string x.f1.f0, .string x.f1.f1, .string x.f1.f2, .string x.f1.f3, .int .i64 x.f1.f4, .int .i64 x.f1.f5, .int .i64 x.f1.f6, .bool x.f1.f7, .bool x.f1.f8, .bool x.f1.f9, .int .i64 x.f1.f10]]
def rowsOf (l:List CO):List (Array Value):=l.map λx=>LC x
set_option maxHeartbeats 4000000 in
set_option maxRecDepth 100000 in
theorem Nt (A0:Option Addr) (c0:Nat) (l:List CO) (w0 w:World) (n:Nat) (hr:Kd.C En w0 A0 l.length l) (hc:l.length<=c0) (hn:l.length<=4611686018427387903) (hb:Below w0.heap.size w0 w):
 Xd Tryz.prog n 57 #[.agg #[.slice A0 l.length c0]] (rowsOf l) w0.heap.size w:=by
 intro lp J Jx W hW hJ hJx hY h0;have hlen:(rowsOf l).length=l.length:=by simp [rowsOf]
 have hu25:=Tryz.underlying41;have hu27:=Tryz.underlying43;have huK:=Tryz.underlying84;have huC:=Tryz.underlying25;have hu65:=Tryz.underlying129;have HB:=hb.trans (hW.mono hb.size);refine callsIn_of_wp Tryz.func57 rfl trivial ?_ rfl;simp only [Tryz.ntmps57,List.size_toArray,List.length_cons,List.length_nil,Nat.reduceAdd,Nat.reduceSub,Array.replicate_succ,Array.replicate_zero,List.push_toArray,List.append_toArray,List.nil_append,List.cons_append]
 gi_wp2
 gi_loopw [9] (λi wr=>∃ k:Nat,k<=l.length/\i= .int .i64 k/\J k wr/\Below w0.heap.size w0 wr) (λi _=>l.length - (intOf i).toNat)
 case atStart=>exact ⟨0,Nat.zero_le _,rfl,hJ _ _ _ h0 (World.grownBy_alloc _ _ _),HB.alloc HB.size _⟩
 case round=>
  obtain ⟨k,hk,rfl,hJs,hB⟩:=hrel;by_cases hlt:k<l.length
  ·have e1:decide ((k:Int)<(l.length:Int))=true:=decide_eq_true (by omega);have e1b:decide (k<l.length)=true:=decide_eq_true hlt;obtain ⟨ad,rfl,hh0,hh1,hh2,hh3,hh4,hh5,hh6,hh7,hh8,hh9,hh10,hh11,hh12,hh13⟩:=Ou (Kd.Ed hr hB) (k:Int) (by omega) (by omega);have p1:=eq_true (show 0<=(k:Int) by omega);have q1:=eq_true (show (k:Int)<(l.length:Int) by omega);rw [Int.toNat_natCast] at hh0 hh1 hh2 hh3 hh4 hh5 hh6 hh7 hh8 hh9 hh10 hh11 hh12 hh13;obtain ⟨fn,tmps,assign,body,hy,hR⟩:=hY k #[.agg #[.string (Ak l (k:Int)).f0.f0, .string (Ak l (k:Int)).f0.f1, .string (Ak l (k:Int)).f0.f2], .agg #[.string (Ak l (k:Int)).f1.f0, .string (Ak l (k:Int)).f1.f1, .string (Ak l (k:Int)).f1.f2, .string (Ak l (k:Int)).f1.f3, .int .i64 (Ak l (k:Int)).f1.f4, .int .i64 (Ak l (k:Int)).f1.f5, .int .i64 (Ak l (k:Int)).f1.f6, .bool (Ak l (k:Int)).f1.f7, .bool (Ak l (k:Int)).f1.f8, .bool (Ak l (k:Int)).f1.f9, .int .i64 (Ak l (k:Int)).f1.f10]] (wr.alloc (.cells #[.string (Ak l (k:Int)).f0.f0, .string (Ak l (k:Int)).f0.f1, .string (Ak l (k:Int)).f0.f2, .string (Ak l (k:Int)).f1.f0, .string (Ak l (k:Int)).f1.f1, .string (Ak l (k:Int)).f1.f2, .string (Ak l (k:Int)).f1.f3, .int .i64 (Ak l (k:Int)).f1.f4, .int .i64 (Ak l (k:Int)).f1.f5, .int .i64 (Ak l (k:Int)).f1.f6, .bool (Ak l (k:Int)).f1.f7, .bool (Ak l (k:Int)).f1.f8, .bool (Ak l (k:Int)).f1.f9, .int .i64 (Ak l (k:Int)).f1.f10] 129)) (by simp [rowsOf,LC,Ak,List.getElem?_eq_getElem hlt]) (hJ _ _ _ hJs (World.grownBy_alloc _ _ _))
   gi_wp2
   refine ⟨λh=>by simp [Fence.wide] at h,hR.mono ?_⟩;rintro e W3 (⟨rfl,hJ3,hk3⟩|⟨rfl,hJx3⟩)
   ·gi_wp2
    go_roundw;case rel=>exact ⟨k+1,by omega,by first|rfl|simp|(rw [show wrap64 ((k:Int)+1)=((k+1:Nat):Int) by unfold wrap64;omega]),hJ3,(hB.alloc hB.size _).trans hk3⟩
    case measure=>
     show l.length - (((k:Int)+1)).toNat<l.length - ((k:Int)).toNat;omega
   ·gi_wp2
    refine bodyPost_ret (results_none rfl _ _ _) rfl ?_;exact ⟨⟨_,rfl⟩, .inr ⟨k,by omega,hJx3⟩⟩
  ·obtain rfl:k=l.length:=by omega
   have e1:decide ((l.length:Int)<(l.length:Int))=false:=decide_eq_false (by omega);have e1b:decide (l.length<l.length)=false:=decide_eq_false hlt
   gi_wp2
   go_end0;exact ⟨⟨_,rfl⟩, .inl (hlen▸hJs)⟩
end Go.Proofs.YtfggjdkccdkogaaGreatDoor.Print
end
section
namespace Go.Proofs.YtfggjdkccdkogaaGreatDoor.Print
open RowKit Ac Aq Aw Range Shelf
set_option linter.unusedVariables false
set_option linter.unusedSimpArgs false
attribute [local go_sem] Oper.semAt_some
def Om (x:Cz):List Value:=[.string x.f0, .string x.f1, .string x.f2, .string x.f3, .int .i64 x.f4, .int .i64 x.f5, .int .i64 x.f6, .bool x.f7, .bool x.f8, .bool x.f9, .int .i64 x.f10]
theorem TL (W:World) (cs:List Value) (t:TypeId):∀ j u,cs[j]? =some u->(W.alloc (.cells cs.toArray t)).cell? ((⟨W.heap.size,0,none⟩:Addr).add j)=some u:=by
 intro j u h;rw [show (⟨W.heap.size,0,none⟩:Addr).add j=⟨W.heap.size,j,none⟩ by simp [Addr.add];omega,AJ (Ii W (.cells cs.toArray t)) j];simpa using h
def NY (l:List CO) (j:Nat):List Value:=(l.take j).flatMap λx=>Om x.f1
def cLen (l:List CO) (j:Nat):Nat:=(l.take j).length
theorem Kb (w:World) (base:Nat) (ok:Nat->Prop) (l:List CO):∀ j,j<=l.length->CY (λx cs=>k25.M w base ok x cs) 11 ((l.take j).map (·.f1)) (NY l j)
 |0,_=>by simpa [NY] using CY.none _ _
 |j+1,h=>by
  have h1:=Kb w base ok l j (by omega);have ht:l.take (j+1)=l.take j++[l[j]]:=by rw [List.take_add_one,List.getElem?_eq_getElem (by omega)];rfl
  have h2:=CY.snoc h1 (Fe w base ok (l[j]).f1) rfl;unfold NY at h2⊢
  rw [ht,List.map_append,List.flatMap_append];exact h2
theorem Yg:(Tryz.prog.info? 25).map (λi=>(i.zero,i.size,i.bytes))=some (some (.agg #[.string ⟨#[]⟩, .string ⟨#[]⟩, .string ⟨#[]⟩, .string ⟨#[]⟩, .int .i64 0, .int .i64 0, .int .i64 0, .bool false, .bool false, .bool false, .int .i64 0]),11,104):=by kernel_rfl
def Ga.f (l:List CO):Option (List Cz):=if l.length<=1099511627776 then some (l.map (·.f1)) else none
set_option maxHeartbeats 4000000 in
set_option maxRecDepth 100000 in
theorem Ga.calls (A0:Option Addr) (c0:Nat) (l:List CO) (r:List Cz) (w:World) (hr:Kd.C En w A0 l.length l) (hc:l.length<=c0) (h:Ga.f l=some r):
 Calls Tryz.prog 31 #[.agg #[.slice A0 l.length c0]] w λe w'=>∃ v0_:Value,e= .returned v0_/\Kd.R k25 25 w' w.heap.size (λ_=>True) v0_ r/\Below w.heap.size w w':=by
 unfold Ga.f at h;by_cases hn:l.length<=1099511627776;case neg=>rw [if_neg hn] at h;exact absurd h (by simp)
 rw [if_pos hn] at h;obtain rfl:=Option.some.inj h;have huJ:=Tryz.underlying47;have huH:=Tryz.underlying45;have huT:=Tryz.underlying43;have huC:=Tryz.underlying25;have huL:=Tryz.underlying40;refine Jc Tryz.func31 rfl ?_;simp only [Tryz.ntmps31,List.size_toArray,List.length_cons,List.length_nil,Nat.reduceAdd,Nat.reduceSub,Array.replicate_succ,Array.replicate_zero,List.push_toArray,List.append_toArray,List.nil_append,List.cons_append];obtain ⟨i0,hi,hz0,hz1,hz2⟩:=info_parts Yg;go_wp2;have bO:=Boxed.new (w.alloc (.cells #[.slice A0 l.length c0] 47)) 40 (.slice none 0 0);rw [World.size_alloc] at bO;have hB0:Below w.heap.size w ((w.alloc (.cells #[.slice A0 l.length c0] 47)).alloc (.cells #[.slice none 0 0] 40)):=((Below.refl _ w).alloc (Nat.le_refl _) _).alloc (by simp) _;have hIown:=(OwnFrom.and (Own.from (holdsRow_own w.heap.size (w.heap.size+1) 40 25 11 (cLen l) (NY l) (λ_ _=>True)) (((w.alloc (.cells #[.slice A0 l.length c0] 47)).alloc (.cells #[.slice none 0 0] 40)).heap.size)) (ownFrom_below (Nat.le_refl _) (by simp;omega)):OwnFrom _ (λj W=>(∃ v,Boxed W (w.heap.size+1) 40 v/\W.ownsRow w.heap.size 25 11 v (cLen l j) (NY l j)/\True)/\Below w.heap.size w W));refine Nw (gf:=57) (fb:=#[.agg #[.slice A0 l.length c0]]) (n₀:=w.heap.size) (enc:=LC) (xs:=l) rfl (enters_of Tryz.func57 (by kernel_rfl) rfl)
  (Nt A0 c0 l w _ 8 hr hc (by omega) hB0) (by simp;omega) (λ_ _=>rfl)
  (λj W=>(∃ v,Boxed W (w.heap.size+1) 40 v/\W.ownsRow w.heap.size 25 11 v (cLen l j) (NY l j)/\True)/\Below w.heap.size w W)
  (λ_ _ _=>False)
  hIown
  (λ_ _ _ _ _ hs _ _=>hs)
  ⟨⟨_,bO,World.ownsRow_nil _ _ _ _,trivial⟩,hB0⟩
  (LJ (λx g=>{tmps:=#[.agg #[.slice A0 l.length c0], .pointer (some ⟨w.heap.size,0,none⟩), .slice none 0 0, .pointer (some ⟨w.heap.size+1,0,none⟩),undef, .pointer (some ⟨g,0,none⟩), .pointer (some ⟨w.heap.size,0,none⟩), .pointer (some ⟨w.heap.size,0,none⟩), .agg #[.slice A0 l.length c0], .func (.func 57) #[.agg #[.slice A0 l.length c0]] #[], .agg #[.string x.f0.f0, .string x.f0.f1, .string x.f0.f2], .agg #[.string x.f1.f0, .string x.f1.f1, .string x.f1.f2, .string x.f1.f3, .int .i64 x.f1.f4, .int .i64 x.f1.f5, .int .i64 x.f1.f6, .bool x.f1.f7, .bool x.f1.f8, .bool x.f1.f9, .int .i64 x.f1.f10],undef,undef,undef,undef,undef],defers:=[]}) (λx=>#[.string x.f1.f0, .string x.f1.f1, .string x.f1.f2, .string x.f1.f3, .int .i64 x.f1.f4, .int .i64 x.f1.f5, .int .i64 x.f1.f6, .bool x.f1.f7, .bool x.f1.f8, .bool x.f1.f9, .int .i64 x.f1.f10]) 25 (λj W=>(∃ v,Boxed W (w.heap.size+1) 40 v/\W.ownsRow w.heap.size 25 11 v (cLen l j) (NY l j)/\True)/\Below w.heap.size w W))
  (LJ.own hIown) ?assign ?body ?done ?stop
 case assign=>
  intro lp j x W hx hI;have hS:=hI.2.size;unfold LC
  gi_wp2
  exact ⟨(KeepsOthers.alloc _ _).from _,(Below.refl _ W).alloc hS _,W.heap.size,rfl,Ii _ _,hIown.alloc _ hI⟩
 case body=>
  rintro lp j x a1 W hx ⟨g,hq,hg,⟨v,hv,hrow,_⟩,hB⟩;dsimp only at hq hg;subst hq;have hc:=hv.cell;have g0:=JG hg (i:=0) rfl;have g1:=JG hg (i:=1) rfl;have g2:=JG hg (i:=2) rfl;have g3:=JG hg (i:=3) rfl;have g4:=JG hg (i:=4) rfl;have g5:=JG hg (i:=5) rfl;have g6:=JG hg (i:=6) rfl;have g7:=JG hg (i:=7) rfl;have g8:=JG hg (i:=8) rfl;have g9:=JG hg (i:=9) rfl;have g10:=JG hg (i:=10) rfl;have hj:j<l.length:=(List.getElem?_eq_some_iff.1 hx).1;have hpl:cLen l j=j:=by unfold cLen;simp;omega
  have hpl1:cLen l (j+1)=j+1:=by unfold cLen;simp;omega
  rw [hpl] at hrow;have htk:NY l (j+1)=NY l j++Om x.f1:=by unfold NY;rw [List.take_add_one,hx,List.flatMap_append];rfl
  gi_wp2_with (gi_at_builtin;refine wpListIn_append_own _ rfl _ _ 40 rfl w.heap.size 25 i0 (.agg #[.string ⟨#[]⟩, .string ⟨#[]⟩, .string ⟨#[]⟩, .string ⟨#[]⟩, .int .i64 0, .int .i64 0, .int .i64 0, .bool false, .bool false, .bool false, .int .i64 0]) 11 104 huL hi hz0 hz1 hz2 rfl (by decide) _ _ _ rfl (hrow.alloc _) ⟨W.heap.size,0,none⟩ 1 1 (Om x.f1) rfl rfl (TL W _ 25) (by simp [Om,Value.oneCell']) (by unfold maxLen;omega) (by omega) (by have:=hB.size;simp;omega) ?_;intro v' w1 hown' hgrow _;obtain ⟨g',cap',rfl⟩:=ownsRow_succ hown';obtain ⟨hv1,hv2,hr2,hk2,hb2⟩:=hv.appended (by decide) hrow hB.size (by omega) hown' hgrow;have hc1:=hv1.cell;have hf1:=hv1.frozen)
  exact ⟨hk2.from _,hb2,⟨_,hv2,by rw [htk,hpl1];first|exact hr2|exact ⟨hr2,trivial⟩⟩,hB.trans hb2⟩
 case done=>
  rintro D W hD ⟨⟨v,hv,hrow,_⟩,hB⟩ hK;have hc:=hv.cell;rw [show cLen l l.length=(l.map (·.f1)).length by unfold cLen;simp] at hrow;go_wp2;refine ⟨by simp, .inl ⟨_,_,rfl,run_takeDeferred hK,?_⟩⟩;refine ⟨_,results_tmp rfl _ _ _,v,rfl,?_,hB.trans (belowK_b (w:=w) (Nat.le_refl _) W D _ _ (by simp at hD;omega) hK rfl rfl)⟩;have hq:=Kb (W.putObj D (.deferred none)) w.heap.size (λk=>True/\some k≠v.ownBlock) l l.length (Nat.le_refl _);rw [List.take_length] at hq;exact ⟨λ_ _=>trivial,_,ownsRow_putObj hrow _ hK rfl,hq⟩
 case stop=>
  rintro D c j W _ _ h _;exact h.elim
end Go.Proofs.YtfggjdkccdkogaaGreatDoor.Print
end
