/- Contracts of Go's library at this program, laid by the guide's shelf (its plain mode), those alone that are used. Each says its own conditions. -/
import Derived.Test.YtikggnalmidlhaaGreatDoorProg
import Derived.RangeFuncBox
import Derived.RangeFuncBound
import Derived.RangeFuncLeaves
import Derived.RangeFuncCalls
import Derived.Shelf.Abstract
import Derived.WalkKit
import Derived.Shelf.Strings.Builder1
import Derived.Shelf.Strings.Builder2
import Derived.Shelf.Strings.OnBuilder
import Derived.Shelf.Small.Strs
import Derived.Shelf.Small.Wraps
import Derived.Shelf.Strings.BuilderF
import Derived.Shelf.Strings.BuilderK
import Derived.Shelf.Strings.Builder2Cap
import Derived.Shelf.Strconv.Atoi
import Derived.Shelf.Strconv.Itoa0
import Derived.Shelf.Strconv.Itoa1
import Derived.Shelf.LaysM
import Derived.Shelf.Strconv.Itoa2
import Derived.Shelf.Strconv.Itoa3
import Derived.Shelf.Strconv.AtoiErrFast
import Derived.Shelf.Strconv.ParseIntEmpty
import Derived.Shelf.Strconv.AtoiFail
import Derived.Shelf.Strconv.Clone
import Derived.Shelf.Strconv.SyntaxError
import Derived.Shelf.LaysC
import Derived.Shelf.Strconv.ToError
import Derived.Shelf.Strconv.Lower
import Derived.Shelf.Strconv.ParseUint10
import Derived.Shelf.Strconv.ParseUint10Empty
import Derived.Shelf.Strconv.ParseUint10Any
import Derived.Shelf.Strconv.ParseInt10
import Derived.Shelf.Strconv.AtoiLong
import Derived.Shelf.Strconv.AtoiInnerAll
import Derived.Shelf.Strconv.RangeError
import Derived.Shelf.Strconv.ToErrorRange
import Derived.Shelf.Strconv.AtoiAll
import Derived.Shelf.Strconv.ErrVarAll
import Derived.Shelf.Strings.Search1
import Derived.Shelf.Strings.Search2
import Derived.Shelf.Strings.Search3
import Derived.Shelf.Strings.Cut
import Derived.Shelf.Strings.Count
import Derived.Shelf.Strings.Shaped
import Derived.Shelf.Strings.Prefix
import Derived.Shelf.Strings.Split
import Derived.Shelf.Strings.SplitShaped
import Derived.Shelf.Unicode.DecodeSlow
import Derived.Shelf.Unicode.DecodeAny
import Derived.Shelf.Strings.BuilderCap
import Derived.Ground.SlgfProg
import Derived.Shelf.SlicesE.IndexFunc
section
namespace Go.Proofs.YtikggnalmidlhaaGreatDoor.Range
open Go RowKit
def TB (P:Program) (fn:Func) (R:Ending->World->Prop):Exit->Act->World->Prop
 | .normal,a,w=>bodyPostM Fence.wide 9 P fn R .normal a w
 | .ret,a,w=>bodyPostM Fence.wide 9 P fn R .ret a w
 |_,_,_=>False
theorem Ef {P:Program} {f:FuncId} {fn:Func} {c:Code} {args:Array Value} {w:World} {R:Ending->World->Prop} (hf:P.funcs[f]? =some fn) (hb:fn.body=some c)
 (h:c.wp P (TB P fn R) {tmps:=args++Array.replicate (fn.ntmps - args.size) undef,defers:=[]} w):Calls P f args w R:=
 callsIn_wide.1 (callsIn_of_wp_marks (n:=9) (F:=Fence.wide) hf hb trivial (wpIn_mono (wpIn_wide.2 h) (by rintro (_|_|_|_|_|_) a w' hh<;>first|exact hh|exact hh.elim)))
def TC (P:Program) (n:Nat) (gf:Nat) (fb:Array Value) (xs:List (Array Value)) (n₀:Nat) (w:World):Prop:=
 ∀ (l:Nat) (J Jx:Nat->World->Prop) (W:World),Below w.heap.size w W->
  (∀ j A B,J j A->A.grownBy B none->J j B)->(∀ j A B,Jx j A->A.grownBy B none->Jx j B)->
  (∀ j x W1,xs[j]? =some x->J j W1->YieldAt Fence.wide (n - 1) P l x W1 λe W'=>(e= .returned (.bool true)/\J (j+1) W'/\Below n₀ W1 W')\/(e= .returned (.bool false)/\Jx j W'))->
  J 0 W->
  CallsIn Fence.wide n P gf (fb++#[.func (.yield l) #[] #[]]) W λe W'=>(∃ v,e= .returned v)/\(J xs.length W'\/∃ j,j<xs.length/\Jx j W')
def Uh (B n₀:Nat) (I:Nat->World->Prop) (Ix:Code->Nat->World->Prop) (j:Nat) (W:World):Exit->Act->World->Prop
 | .normal,_,W'=>KeepsFrom B W W'/\Below n₀ W W'/\I (j+1) W'
 | .ret,_,W'=>KeepsFrom B W W'/\Ix .ret j W'
 | .exit id,_,W'=>KeepsFrom B W W'/\Ix (.exit id) j W'
 | .goto t,_,W'=>KeepsFrom B W W'/\Ix (.goto t) j W'
 | .panic _,_,_=>False
 | .outgrown,_,_=>False
theorem Kj {P:Program} {g:Operand} {ps:Array Tmp} {assign body:Code} {Q:Exit->Act->World->Prop} {a:Act} {w:World} {gf:Nat} {fb:Array Value} {α:Type} {enc:α->Array Value} {xs:List α} {n₀:Nat}
 (hg:a.eval g= .func (.func gf) fb #[]) (eg:∀ args w,(callFunc gf args).run P w= .ok (.enter gf args) w) (hseq:TC P 8 gf fb (xs.map enc) n₀ w) (hn:n₀<=w.heap.size) (hps:∀ x∈xs,(enc x).size=ps.size)
 (I:Nat->World->Prop) (Ix:Code->Nat->World->Prop) (hI:OwnFrom w.heap.size I) (hIx:∀ c,OwnFrom w.heap.size (Ix c)) (h0:I 0 w) (A1:Nat×α×Act->World->Prop) (hA1:OwnFrom w.heap.size A1)
 (hassign:∀ (l j:Nat) (x:α) (W:World),xs[j]? =some x->I j W->
  assign.wpIn (Fence.wide.inRound l) 7 P (Exit.then (λa1 W1=>KeepsFrom w.heap.size W W1/\Below n₀ W W1/\A1 (j,x,a1) W1) (λ_ _ _=>False)) {tmps:=(ps.zip (enc x)).foldl (λt (p,v)=>t.setIfInBounds p v) a.tmps,defers:=[]} W)
 (hbody:∀ (l j:Nat) (x:α) (a1:Act) (W:World),xs[j]? =some x->A1 (j,x,a1) W->body.wpIn (Fence.wide.inRound l) 7 P (Uh w.heap.size n₀ I Ix j W) a1 W)
 (hdone:∀ (D:Nat) (W:World),w.heap.size<=D->I xs.length W->W.heap[D]? =some (.deferred (some []))->Q .normal {a with defers:={target:= .collected D,args:=#[]}::a.defers} W)
 (hstop:∀ (D:Nat) (c:Code) (j:Nat) (W:World),w.heap.size<=D->j<xs.length->Ix c j W->W.heap[D]? =some (.deferred (some []))->c.wp P Q {a with defers:={target:= .collected D,args:=#[]}::a.defers} W):
 (Code.rangeFunc g ps assign body).wp P Q a w:=by
 refine (wpIn_wide (n:=9)).1 (wpIn_rangeFunc ?_);intro fn _;generalize hR:(λ(st:LoopState) (pe:Option Code)=>({state:=st,pending:=pe,fn:=fn,tmps:=a.tmps,params:=ps,assign:=assign,body:=body,defers:=w.heap.size}:Loop))=rec;have eR:∀ st pe,rec st pe={state:=st,pending:=pe,fn:=fn,tmps:=a.tmps,params:=ps,assign:=assign,body:=body,defers:=w.heap.size}:=λst pe=>by rw [<-hR]
 generalize hW1:(w.alloc (.deferred (some []))).alloc (.loop (rec .ready none))=W1;have b1:Below w.heap.size w W1:=by rw [<-hW1];exact ((Below.refl _ w).alloc (Nat.le_refl _) _).alloc (by simp) _
 have s1:W1.heap.size=w.heap.size+1+1:=by rw [<-hW1];simp
 have l1:W1.heap[w.heap.size+1]? =some (.loop (rec .ready none)):=by
  rw [<-hW1];have:=World.alloc_heap_new (w.alloc (.deferred (some []))) (.loop (rec .ready none));rwa [World.size_alloc] at this
 have k1:W1.heap[w.heap.size]? =some (.deferred (some [])):=by
  rw [<-hW1];exact (Below.heap_alloc _ _ _ (by simp)).trans (World.alloc_heap_new w _)
 have i1:I 0 W1:=by rw [<-hW1];exact hI.alloc _ (hI.alloc _ h0)
 refine ⟨w.heap.size+1,[{target:= .collected w.heap.size,args:=#[]}],W1,{target:= .fn (.func gf) #[],args:=fb++#[.func (.yield (w.heap.size+1)) #[] #[]]},W1,gf,fb++#[.func (.yield (w.heap.size+1)) #[] #[]],W1,?_,?_,λ_ _=>trivial,?_,λh=>by simp [Fence.wide] at h,?_⟩
 ·rw [<-hW1,eR];exact run_enterLoop_outer _ _ _ _ _
 ·simp only [resolve,hg];simp [go_sem,Deferred.ofValue]
 ·simp [invoke,go_sem,eg]
 have keepN:∀ {A B:World} {k:Nat} {o:Obj},A.grownBy B none->A.heap[k]? =some o->B.heap[k]? =some o:=λhg hk=>(hg.block _ (Array.getElem?_eq_some_iff.1 hk).1 (by simp)).trans hk
 refine (hseq (w.heap.size+1)
  (λj W=>I j W/\W.heap[w.heap.size+1]? =some (.loop (rec .ready none))/\W.heap[w.heap.size]? =some (.deferred (some [])))
  (λj W=>∃ c,Ix c j W/\W.heap[w.heap.size+1]? =some (.loop (rec .done (some c)))/\W.heap[w.heap.size]? =some (.deferred (some [])))
  W1 b1
  (λj A B h hg=>⟨hI j A B none h.1 hg (λr e=>by cases e),keepN hg h.2.1,keepN hg h.2.2⟩)
  (λj A B h hg=>by obtain ⟨c,h1,h2,h3⟩:=h;exact ⟨c,hIx c j A B none h1 hg (λr e=>by cases e),keepN hg h2,keepN hg h3⟩)
  ?_ ⟨i1,l1,k1⟩).mono ?_
 ·rintro j x' W hx' ⟨hi,hl,hk⟩;rw [List.getElem?_map] at hx';obtain ⟨x,hx,rfl⟩:=Option.map_eq_some_iff.1 hx';have hlt:w.heap.size+1<W.heap.size:=(Array.getElem?_eq_some_iff.1 hl).1;have hy:=run_yield (P:=P) (args:=enc x) hl (by rw [eR];exact hps x (List.mem_of_getElem? hx));rw [eR] at hy;refine ⟨fn,_,assign,body,hy,roundIn_of_wpIn trivial (wpIn_mono (hassign _ j x W hx hi) ?_)⟩;rintro (_|_|_|_|_|_) a1 W1 hq<;>(try exact hq.elim);obtain ⟨q1,q2,q3⟩:=hq;have l1':=q1.same _ _ (by omega) hl rfl;have k1':=q1.same _ _ (Nat.le_refl _) hk rfl;have hlt1:w.heap.size+1<W1.heap.size:=(Array.getElem?_eq_some_iff.1 l1').1;refine ⟨_,run_beginRound l1' (by rw [eR]),?_⟩;generalize hW2:W1.putObj (w.heap.size+1) (.loop {rec .ready none with state:= .busy})=W2;have l2:W2.heap[w.heap.size+1]? =some (.loop {rec .ready none with state:= .busy}):=by rw [<-hW2];exact World.putObj_heap_same hlt1
  have k2:W2.heap[w.heap.size]? =some (.deferred (some [])):=by rw [<-hW2];exact (World.putObj_heap_other (by omega)).trans k1'
  have b2:Below n₀ W W2:=by rw [<-hW2];exact q2.trans (belowK_b (w:=w) hn _ _ _ _ (by omega) l1' rfl rfl)
  have i2:A1 (j,x,a1) W2:=by rw [<-hW2];exact hA1.putObj _ q3 (by omega) l1' rfl
  refine wpIn_mono (hbody _ j x a1 W2 hx i2) ?_;have out:∀ (jump:Option Code) (W3:World),KeepsFrom w.heap.size W2 W3->∃ W4,(Instr.endRound (w.heap.size+1) jump).run P W3= .ok (.bool jump.isNone) W4/\W4=W3.putObj (w.heap.size+1) (.loop (rec (if jump.isNone then .ready else .done) jump))/\W3.heap[w.heap.size+1]? =some (.loop {rec .ready none with state:= .busy})/\
   W4.heap[w.heap.size+1]? =some (.loop (rec (if jump.isNone then .ready else .done) jump))/\W4.heap[w.heap.size]? =some (.deferred (some [])):=λjump W3 h3=>by
   have l3:=h3.same _ _ (by omega) l2 rfl;have k3:=h3.same _ _ (Nat.le_refl _) k2 rfl;have hr:=run_endRound (P:=P) jump l3;rw [eR] at hr;exact ⟨_,by rw [hr,eR],rfl,l3,World.putObj_heap_same (Array.getElem?_eq_some_iff.1 l3).1,(World.putObj_heap_other (by omega)).trans k3⟩
  rintro e a3 W3 hp;cases e with
  |normal=>
   obtain ⟨h1,h2,h3⟩:=hp;obtain ⟨W4,hr,rfl,l3,l4,k4⟩:=out none W3 h1;exact ⟨_,_,hr, .inl ⟨rfl,⟨hI.putObj _ h3 (by omega) l3 rfl,l4,k4⟩,(b2.trans h2).trans (belowK_b (w:=w) hn _ _ _ _ (by omega) l3 rfl rfl)⟩⟩
  |ret=>
   obtain ⟨h1,h3⟩:=hp;obtain ⟨W4,hr,rfl,l3,l4,k4⟩:=out (some .ret) W3 h1;exact ⟨_,_,hr, .inr ⟨rfl, .ret,(hIx _).putObj _ h3 (by omega) l3 rfl,l4,k4⟩⟩
  |exit id=>
   obtain ⟨h1,h3⟩:=hp;obtain ⟨W4,hr,rfl,l3,l4,k4⟩:=out (some (.exit id)) W3 h1;exact ⟨_,_,hr, .inr ⟨rfl, .exit id,(hIx _).putObj _ h3 (by omega) l3 rfl,l4,k4⟩⟩
  |goto t=>
   obtain ⟨h1,h3⟩:=hp;obtain ⟨W4,hr,rfl,l3,l4,k4⟩:=out (some (.goto t)) W3 h1;exact ⟨_,_,hr, .inr ⟨rfl, .goto t,(hIx _).putObj _ h3 (by omega) l3 rfl,l4,k4⟩⟩
  |panic ch=>exact hp.elim
  |outgrown=>exact hp.elim
 ·rw [List.length_map];rintro e W2 ⟨⟨v,rfl⟩,(⟨hi,hl,hk⟩|⟨j,hj,c,hi,hl,hk⟩)⟩
  ·exact ⟨none,_,by have:=run_endLoop (P:=P) hl (by rw [eR];simp);rw [eR] at this;exact this,hdone _ _ (Nat.le_refl _) (hI.putObj _ hi (by omega) hl rfl) ((World.putObj_heap_other (by omega)).trans hk)⟩
  ·exact ⟨some c,_,by have:=run_endLoop (P:=P) hl (by rw [eR];simp);rw [eR] at this;exact this,wpIn_wide.2 (hstop _ c j _ (Nat.le_refl _) hj ((hIx c).putObj _ hi (by omega) hl rfl) ((World.putObj_heap_other (by omega)).trans hk))⟩
structure But (g:Nat) (w W:World):Prop where
 os:W.os=w.os
 tape:W.tape=w.tape
 output:W.output=w.output
 size:w.heap.size<=W.heap.size
 same:∀ k,k<w.heap.size->k≠g->W.heap[k]? =w.heap[k]?
theorem But.refl (g:Nat) (w:World):But g w w:=⟨rfl,rfl,rfl,Nat.le_refl _,λ_ _ _=>rfl⟩
theorem But.at {g:Nat} {w W:World} (h:But g w W) {k:Nat} {o:Obj} (hk:w.heap[k]? =some o) (hne:k≠g):W.heap[k]? =some o:=(h.same k (Array.getElem?_eq_some_iff.1 hk).1 hne).trans hk
theorem But.below {g:Nat} {w W:World} (h:But g w W) {n₀:Nat} (hn:n₀<=w.heap.size) (hg:n₀<=g):Below n₀ w W:=⟨h.os,h.tape,h.output,h.size,λk hk=>h.same k (by omega) (by omega)⟩
theorem But.set {g:Nat} {w W:World} (h:But g w W) (v:Value):But g w (W.setCell ⟨g,0,none⟩ v):=
 ⟨h.os,h.tape,h.output,by have:=(KeepsWalks.setCell W ⟨g,0,none⟩ v).size;have:=h.size;omega,λk hk hne=>(Below.heap_setCell W ⟨g,0,none⟩ v k hne).trans (h.same k hk hne)⟩
theorem But.own {g:Nat} {w:World}:OwnFrom w.heap.size (λ(_:Nat) W=>But g w W):=λ_ W W' row h hg hr=>
 ⟨hg.os.trans h.os,hg.tape.trans h.tape,hg.output.trans h.output,Nat.le_trans h.size hg.size,λk hk hne=>(hg.block k (Nat.lt_of_lt_of_le hk h.size) (λe=>by have:=(hr k e.symm).1;omega)).trans (h.same k hk hne)⟩
theorem boxed_own {B g:Nat} {t:TypeId} (f:Nat->Value):OwnFrom B (λ(j:Nat) W=>Boxed W g t (f j)):=λj W W' row h hg hr=>
 h.kept hg (λe=>by obtain ⟨_,o,ho,hc⟩:=hr g e.symm;rw [show W.heap[g]? =_ from h] at ho;cases ho;cases hc)
def IY {α:Type} (a:α->Nat->Act) (o:α->Array Value) (t:TypeId) (I:Nat->World->Prop):Nat×α×Act->World->Prop:=λs W=>∃ g,s.2.2=a s.2.1 g/\W.heap[g]? =some (.cells (o s.2.1) t (0,0))/\I s.1 W
theorem IY.own {α:Type} {a:α->Nat->Act} {o:α->Array Value} {t:TypeId} {I:Nat->World->Prop} {B:Nat} (hI:OwnFrom B I):OwnFrom B (IY a o t I):=by
 rintro ⟨j,x,a1⟩ W W' row ⟨g,e,hc,hi⟩ hg hr;refine ⟨g,e,(hg.block g (Array.getElem?_eq_some_iff.1 hc).1 (λe'=>?_)).trans hc,hI j W W' row hi hg hr⟩;obtain ⟨_,o',ho,hl⟩:=hr g e'.symm;rw [hc] at ho;cases ho;cases hl
end Go.Proofs.YtikggnalmidlhaaGreatDoor.Range
end
section
namespace Go.Proofs
open Shelf
def Tryz.I4:Go.Shelf.Ren:=⟨λ|169=>48|n=>n,λ|70=>75|9=>9|0=>0|72=>78|37=>76|127=>102|3=>3|5=>5|n=>n,λ|n=>n⟩
theorem Tryz.Rj:Go.Proofs.Lays.n169 Tryz.prog Tryz.I4:={
 mixed:=by kernel_rfl
 f169:=Tryz.func48.trans (congrArg some (by kernel_rfl))
 t0:=Tryz.underlying0
 a0:=Tryz.isAgg0
 z0:=Tryz.sizeOf0
 v0:=Tryz.zeroValue0
 t3:=Tryz.underlying3
 a3:=Tryz.isAgg3
 z3:=Tryz.sizeOf3
 v3:=Tryz.zeroValue3
 t9:=Tryz.underlying9
 a9:=Tryz.isAgg9
 z9:=Tryz.sizeOf9
 v9:=Tryz.zeroValue9
 t37:=Tryz.underlying76
 a37:=Tryz.isAgg76
 z37:=Tryz.sizeOf76
 v37:=Tryz.zeroValue76
 t70:=Tryz.underlying75
 a70:=Tryz.isAgg75
 z70:=Tryz.sizeOf75
 v70:=Tryz.zeroValue75
 t72:=Tryz.underlying78
 a72:=Tryz.isAgg78
 z72:=Tryz.sizeOf78
 v72:=Tryz.zeroValue78
 t127:=Tryz.underlying102
 a127:=Tryz.isAgg102
 z127:=Tryz.sizeOf102
 v127:=Tryz.zeroValue102}
theorem Tryz.H7:Builder.Extra Tryz.prog Tryz.I4:={
 sizeBuilder:=by kernel_rfl
 liesBuilder:=by kernel_rfl
 t5:=Tryz.underlying5
 a5:=Tryz.isAgg5
 z5:=Tryz.sizeOf5
 v5:=Tryz.zeroValue5
 infoByte:=by kernel_rfl
 cellsByte:=by kernel_rfl
 sizeByte:=by kernel_rfl
 neB5:=by decide}
open Go.RowKit in
theorem Tryz.Builder_String_any (B b:Nat) (l:List UInt8) (w:World) (h:Lib.IsBuilder 78 5 B b (Lib.byteCells l) w) (hBw:B<=w.heap.size):
 Calls Tryz.prog 48 #[.pointer (some ⟨b,0,none⟩)] w λe w'=>e= .returned (.string ⟨l.toArray⟩)/\Below B w w':=Any.Builder_String_any Tryz.Rj Tryz.H7 B b l w h hBw
def Tryz.I5:Go.Shelf.Ren:=⟨λ|156=>74|165=>110|166=>46|169=>48|240=>78|241=>125|276=>113|277=>137|n=>n,λ|31=>45|9=>9|3=>3|4=>4|0=>0|20=>20|72=>78|76=>82|70=>75|37=>76|75=>81|127=>102|164=>128|5=>5|80=>85|n=>n,λ|n=>n⟩
theorem Tryz.Rk:Go.Proofs.Lays.n156 Tryz.prog Tryz.I5:={
 mixed:=by kernel_rfl
 f156:=Tryz.func74.trans (congrArg some (by kernel_rfl))
 f165:=Tryz.func110.trans (congrArg some (by kernel_rfl))
 f166:=Tryz.func46.trans (congrArg some (by kernel_rfl))
 f169:=Tryz.func48.trans (congrArg some (by kernel_rfl))
 f240:=Tryz.func78.trans (congrArg some (by kernel_rfl))
 f241:=Tryz.func125.trans (congrArg some (by kernel_rfl))
 f276:=Tryz.func113.trans (congrArg some (by kernel_rfl))
 f277:=Tryz.func137.trans (congrArg some (by kernel_rfl))
 t0:=Tryz.underlying0
 a0:=Tryz.isAgg0
 z0:=Tryz.sizeOf0
 v0:=Tryz.zeroValue0
 t3:=Tryz.underlying3
 a3:=Tryz.isAgg3
 z3:=Tryz.sizeOf3
 v3:=Tryz.zeroValue3
 t4:=Tryz.underlying4
 a4:=Tryz.isAgg4
 z4:=Tryz.sizeOf4
 v4:=Tryz.zeroValue4
 t9:=Tryz.underlying9
 a9:=Tryz.isAgg9
 z9:=Tryz.sizeOf9
 v9:=Tryz.zeroValue9
 t20:=Tryz.underlying20
 a20:=Tryz.isAgg20
 z20:=Tryz.sizeOf20
 v20:=Tryz.zeroValue20
 t31:=Tryz.underlying45
 a31:=Tryz.isAgg45
 z31:=Tryz.sizeOf45
 v31:=Tryz.zeroValue45
 t37:=Tryz.underlying76
 a37:=Tryz.isAgg76
 z37:=Tryz.sizeOf76
 v37:=Tryz.zeroValue76
 t70:=Tryz.underlying75
 a70:=Tryz.isAgg75
 z70:=Tryz.sizeOf75
 v70:=Tryz.zeroValue75
 t72:=Tryz.underlying78
 a72:=Tryz.isAgg78
 z72:=Tryz.sizeOf78
 v72:=Tryz.zeroValue78
 t75:=Tryz.underlying81
 a75:=Tryz.isAgg81
 z75:=Tryz.sizeOf81
 v75:=Tryz.zeroValue81
 t76:=Tryz.underlying82
 a76:=Tryz.isAgg82
 z76:=Tryz.sizeOf82
 v76:=Tryz.zeroValue82
 t127:=Tryz.underlying102
 a127:=Tryz.isAgg102
 z127:=Tryz.sizeOf102
 v127:=Tryz.zeroValue102
 t164:=Tryz.underlying128
 a164:=Tryz.isAgg128
 z164:=Tryz.sizeOf128
 v164:=Tryz.zeroValue128}
theorem Tryz.H8:Builder.Extra Tryz.prog Tryz.I5:={
 sizeBuilder:=by kernel_rfl
 liesBuilder:=by kernel_rfl
 t5:=Tryz.underlying5
 a5:=Tryz.isAgg5
 z5:=Tryz.sizeOf5
 v5:=Tryz.zeroValue5
 infoByte:=by kernel_rfl
 cellsByte:=by kernel_rfl
 sizeByte:=by kernel_rfl
 neB5:=by decide}
open Go.RowKit in
theorem Tryz.strings_Join (bk o c:Nat) (xs:List ByteArray) (sep:ByteArray) (w:World) (hcells:∀ (j:Nat) x,xs[j]? =some x->w.cell? ⟨bk,o+j,none⟩=some (.string x)) (hbk:bk<w.heap.size) (hN:xs.length<=140737488355328) (hcap:xs.length<=c) (hlen:(Lib.join (xs.map (·.data.toList)) sep.data.toList).length<=140737488355328):
 Calls Tryz.prog 74 #[.slice (some ⟨bk,o,none⟩) xs.length c, .string sep] w λe w'=>e= .returned (.string ⟨(Lib.join (xs.map (·.data.toList)) sep.data.toList).toArray⟩)/\Below w.heap.size w w':=Any.strings_Join Tryz.Rk Tryz.H8 bk o c xs sep w hcells hbk hN hcap hlen
def Tryz.MP:Go.Shelf.Ren:=⟨λ|137=>44|217=>76|266=>112|n=>n,λ|9=>9|5=>5|3=>3|n=>n,λ|n=>n⟩
theorem Tryz.Rl:Go.Proofs.Lays.n137 Tryz.prog Tryz.MP:={
 mixed:=by kernel_rfl
 f137:=Tryz.func44.trans (congrArg some (by kernel_rfl))
 f217:=Tryz.func76.trans (congrArg some (by kernel_rfl))
 f266:=Tryz.func112.trans (congrArg some (by kernel_rfl))
 t3:=Tryz.underlying3
 a3:=Tryz.isAgg3
 z3:=Tryz.sizeOf3
 v3:=Tryz.zeroValue3
 t5:=Tryz.underlying5
 a5:=Tryz.isAgg5
 z5:=Tryz.sizeOf5
 v5:=Tryz.zeroValue5
 t9:=Tryz.underlying9
 a9:=Tryz.isAgg9
 z9:=Tryz.sizeOf9
 v9:=Tryz.zeroValue9}
open Go.RowKit in
theorem Tryz.strings_IndexByte (s:ByteArray) (c:Int) (w:World):
 Calls Tryz.prog 44 #[.string s, .int .u8 c] w λe w'=>e= .returned (.int .i64 (Lib.indexByte s.data.toList c.toNat.toUInt8))/\w'=w:=Any.strings_IndexByte Tryz.Rl s c w
def Tryz.LK:Go.Shelf.Ren:=⟨λ|171=>75|243=>111|246=>126|283=>138|284=>139|285=>140|286=>141|129=>152|317=>151|318=>153|319=>154|320=>155|337=>160|338=>161|n=>n,λ|3=>3|9=>9|2=>2|4=>4|171=>145|0=>0|53=>104|37=>76|5=>5|173=>148|212=>160|51=>161|20=>20|213=>162|46=>134|232=>176|233=>177|n=>n,λ|17=>3|18=>6|19=>7|n=>n⟩
theorem Tryz.QK:Go.Proofs.LaysM.n171 Tryz.prog Tryz.LK:={
 mixed:=by kernel_rfl
 f129:=Tryz.func152.trans (congrArg some (by kernel_rfl))
 f171:=Tryz.func75.trans (congrArg some (by kernel_rfl))
 f243:=Tryz.func111.trans (congrArg some (by kernel_rfl))
 f246:=Tryz.func126.trans (congrArg some (by kernel_rfl))
 f283:=Tryz.func138.trans (congrArg some (by kernel_rfl))
 f284:=Tryz.func139.trans (congrArg some (by kernel_rfl))
 f285:=Tryz.func140.trans (congrArg some (by kernel_rfl))
 f286:=Tryz.func141.trans (congrArg some (by kernel_rfl))
 f317:=Tryz.func151.trans (congrArg some (by kernel_rfl))
 f318:=Tryz.func153.trans (congrArg some (by kernel_rfl))
 f319:=Tryz.func154.trans (congrArg some (by kernel_rfl))
 f320:=Tryz.func155.trans (congrArg some (by kernel_rfl))
 f337:=Tryz.func160.trans (congrArg some (by kernel_rfl))
 f338:=Tryz.func161.trans (congrArg some (by kernel_rfl))
 t0:=Tryz.underlying0
 a0:=Tryz.isAgg0
 z0:=Tryz.sizeOf0
 v0:=Tryz.zeroValue0
 t2:=Tryz.underlying2
 a2:=Tryz.isAgg2
 z2:=Tryz.sizeOf2
 v2:=Tryz.zeroValue2
 t3:=Tryz.underlying3
 a3:=Tryz.isAgg3
 z3:=Tryz.sizeOf3
 v3:=Tryz.zeroValue3
 t4:=Tryz.underlying4
 a4:=Tryz.isAgg4
 z4:=Tryz.sizeOf4
 v4:=Tryz.zeroValue4
 t5:=Tryz.underlying5
 a5:=Tryz.isAgg5
 z5:=Tryz.sizeOf5
 v5:=Tryz.zeroValue5
 t9:=Tryz.underlying9
 a9:=Tryz.isAgg9
 z9:=Tryz.sizeOf9
 v9:=Tryz.zeroValue9
 t20:=Tryz.underlying20
 a20:=Tryz.isAgg20
 z20:=Tryz.sizeOf20
 v20:=Tryz.zeroValue20
 t37:=Tryz.underlying76
 a37:=Tryz.isAgg76
 z37:=Tryz.sizeOf76
 v37:=Tryz.zeroValue76
 t46:=Tryz.underlying134
 a46:=Tryz.isAgg134
 z46:=Tryz.sizeOf134
 v46:=Tryz.zeroValue134
 t51:=Tryz.underlying161
 a51:=Tryz.isAgg161
 z51:=Tryz.sizeOf161
 v51:=Tryz.zeroValue161
 t53:=Tryz.underlying104
 a53:=Tryz.isAgg104
 z53:=Tryz.sizeOf104
 v53:=Tryz.zeroValue104
 t171:=Tryz.underlying145
 a171:=Tryz.isAgg145
 z171:=Tryz.sizeOf145
 v171:=Tryz.zeroValue145
 t173:=Tryz.underlying148
 a173:=Tryz.isAgg148
 z173:=Tryz.sizeOf148
 v173:=Tryz.zeroValue148
 t212:=Tryz.underlying160
 a212:=Tryz.isAgg160
 z212:=Tryz.sizeOf160
 v212:=Tryz.zeroValue160
 t213:=Tryz.underlying162
 a213:=Tryz.isAgg162
 z213:=Tryz.sizeOf162
 t232:=Tryz.underlying176
 a232:=Tryz.isAgg176
 z232:=Tryz.sizeOf176
 v232:=Tryz.zeroValue176
 t233:=Tryz.underlying177
 a233:=Tryz.isAgg177
 z233:=Tryz.sizeOf177
 v233:=Tryz.zeroValue177
 g17:=by kernel_rfl
 g18:=by kernel_rfl
 g19:=by kernel_rfl
 i0:=by kernel_rfl
 i2:=by kernel_rfl
 i3:=by kernel_rfl
 i4:=by kernel_rfl
 i5:=by kernel_rfl
 i9:=by kernel_rfl
 i20:=by kernel_rfl
 i37:=by kernel_rfl
 i46:=by kernel_rfl
 i51:=by kernel_rfl
 i53:=by kernel_rfl
 i171:=by kernel_rfl
 i173:=by kernel_rfl
 i212:=by kernel_rfl
 i232:=by kernel_rfl
 i233:=by kernel_rfl
 m17:=by kernel_rfl
 m18:=by kernel_rfl
 m19:=by kernel_rfl}
def Tryz.LM:Go.Shelf.Ren:=⟨λ|172=>88|244=>118|245=>119|247=>131|279=>132|280=>133|281=>134|282=>135|287=>148|316=>149|171=>75|205=>150|321=>158|322=>159|243=>111|246=>126|283=>138|284=>139|285=>140|286=>141|129=>152|317=>151|318=>153|319=>154|320=>155|337=>160|338=>161|n=>n,λ|9=>9|3=>3|75=>81|76=>82|4=>4|5=>5|167=>137|37=>76|0=>0|85=>138|2=>2|168=>140|53=>104|175=>154|46=>134|210=>157|127=>102|145=>170|143=>168|21=>21|171=>145|173=>148|212=>160|51=>161|20=>20|213=>162|232=>176|233=>177|80=>85|n=>n,λ|15=>1|16=>2|17=>3|18=>6|19=>7|n=>n⟩
theorem Tryz.Jb:Go.Proofs.LaysC.n172 Tryz.prog Tryz.LM:={
 mixed:=by kernel_rfl
 f129:=Tryz.func152.trans (congrArg some (by kernel_rfl))
 f171:=Tryz.func75.trans (congrArg some (by kernel_rfl))
 f172:=Tryz.func88.trans (congrArg some (by kernel_rfl))
 f205:=Tryz.func150.trans (congrArg some (by kernel_rfl))
 f243:=Tryz.func111.trans (congrArg some (by kernel_rfl))
 f244:=Tryz.func118.trans (congrArg some (by kernel_rfl))
 f245:=Tryz.func119.trans (congrArg some (by kernel_rfl))
 f246:=Tryz.func126.trans (congrArg some (by kernel_rfl))
 f247:=Tryz.func131.trans (congrArg some (by kernel_rfl))
 f279:=Tryz.func132.trans (congrArg some (by kernel_rfl))
 f280:=Tryz.func133.trans (congrArg some (by kernel_rfl))
 f281:=Tryz.func134.trans (congrArg some (by kernel_rfl))
 f282:=Tryz.func135.trans (congrArg some (by kernel_rfl))
 f283:=Tryz.func138.trans (congrArg some (by kernel_rfl))
 f284:=Tryz.func139.trans (congrArg some (by kernel_rfl))
 f285:=Tryz.func140.trans (congrArg some (by kernel_rfl))
 f286:=Tryz.func141.trans (congrArg some (by kernel_rfl))
 f287:=Tryz.func148.trans (congrArg some (by kernel_rfl))
 f316:=Tryz.func149.trans (congrArg some (by kernel_rfl))
 f317:=Tryz.func151.trans (congrArg some (by kernel_rfl))
 f318:=Tryz.func153.trans (congrArg some (by kernel_rfl))
 f319:=Tryz.func154.trans (congrArg some (by kernel_rfl))
 f320:=Tryz.func155.trans (congrArg some (by kernel_rfl))
 f321:=Tryz.func158.trans (congrArg some (by kernel_rfl))
 f322:=Tryz.func159.trans (congrArg some (by kernel_rfl))
 f337:=Tryz.func160.trans (congrArg some (by kernel_rfl))
 f338:=Tryz.func161.trans (congrArg some (by kernel_rfl))
 t0:=Tryz.underlying0
 a0:=Tryz.isAgg0
 z0:=Tryz.sizeOf0
 v0:=Tryz.zeroValue0
 t2:=Tryz.underlying2
 a2:=Tryz.isAgg2
 z2:=Tryz.sizeOf2
 v2:=Tryz.zeroValue2
 t3:=Tryz.underlying3
 a3:=Tryz.isAgg3
 z3:=Tryz.sizeOf3
 v3:=Tryz.zeroValue3
 t4:=Tryz.underlying4
 a4:=Tryz.isAgg4
 z4:=Tryz.sizeOf4
 v4:=Tryz.zeroValue4
 t5:=Tryz.underlying5
 a5:=Tryz.isAgg5
 z5:=Tryz.sizeOf5
 v5:=Tryz.zeroValue5
 t9:=Tryz.underlying9
 a9:=Tryz.isAgg9
 z9:=Tryz.sizeOf9
 v9:=Tryz.zeroValue9
 t20:=Tryz.underlying20
 a20:=Tryz.isAgg20
 z20:=Tryz.sizeOf20
 v20:=Tryz.zeroValue20
 t21:=Tryz.underlying21
 a21:=Tryz.isAgg21
 z21:=Tryz.sizeOf21
 v21:=Tryz.zeroValue21
 t37:=Tryz.underlying76
 a37:=Tryz.isAgg76
 z37:=Tryz.sizeOf76
 v37:=Tryz.zeroValue76
 t46:=Tryz.underlying134
 a46:=Tryz.isAgg134
 z46:=Tryz.sizeOf134
 v46:=Tryz.zeroValue134
 t51:=Tryz.underlying161
 a51:=Tryz.isAgg161
 z51:=Tryz.sizeOf161
 v51:=Tryz.zeroValue161
 t53:=Tryz.underlying104
 a53:=Tryz.isAgg104
 z53:=Tryz.sizeOf104
 v53:=Tryz.zeroValue104
 t75:=Tryz.underlying81
 a75:=Tryz.isAgg81
 z75:=Tryz.sizeOf81
 v75:=Tryz.zeroValue81
 t76:=Tryz.underlying82
 a76:=Tryz.isAgg82
 z76:=Tryz.sizeOf82
 v76:=Tryz.zeroValue82
 t85:=Tryz.underlying138
 a85:=Tryz.isAgg138
 z85:=Tryz.sizeOf138
 v85:=Tryz.zeroValue138
 t127:=Tryz.underlying102
 a127:=Tryz.isAgg102
 z127:=Tryz.sizeOf102
 v127:=Tryz.zeroValue102
 t143:=Tryz.underlying168
 a143:=Tryz.isAgg168
 z143:=Tryz.sizeOf168
 v143:=Tryz.zeroValue168
 t145:=Tryz.underlying170
 a145:=Tryz.isAgg170
 z145:=Tryz.sizeOf170
 v145:=Tryz.zeroValue170
 t167:=Tryz.underlying137
 a167:=Tryz.isAgg137
 z167:=Tryz.sizeOf137
 v167:=Tryz.zeroValue137
 t168:=Tryz.underlying140
 a168:=Tryz.isAgg140
 z168:=Tryz.sizeOf140
 v168:=Tryz.zeroValue140
 t171:=Tryz.underlying145
 a171:=Tryz.isAgg145
 z171:=Tryz.sizeOf145
 v171:=Tryz.zeroValue145
 t173:=Tryz.underlying148
 a173:=Tryz.isAgg148
 z173:=Tryz.sizeOf148
 v173:=Tryz.zeroValue148
 t175:=Tryz.underlying154
 a175:=Tryz.isAgg154
 z175:=Tryz.sizeOf154
 v175:=Tryz.zeroValue154
 t210:=Tryz.underlying157
 a210:=Tryz.isAgg157
 z210:=Tryz.sizeOf157
 v210:=Tryz.zeroValue157
 t212:=Tryz.underlying160
 a212:=Tryz.isAgg160
 z212:=Tryz.sizeOf160
 v212:=Tryz.zeroValue160
 t213:=Tryz.underlying162
 a213:=Tryz.isAgg162
 z213:=Tryz.sizeOf162
 t232:=Tryz.underlying176
 a232:=Tryz.isAgg176
 z232:=Tryz.sizeOf176
 v232:=Tryz.zeroValue176
 t233:=Tryz.underlying177
 a233:=Tryz.isAgg177
 z233:=Tryz.sizeOf177
 v233:=Tryz.zeroValue177
 g15:=by kernel_rfl
 g16:=by kernel_rfl
 g17:=by kernel_rfl
 g18:=by kernel_rfl
 g19:=by kernel_rfl
 t80:=Tryz.underlying85
 a80:=Tryz.isAgg85
 z80:=Tryz.sizeOf85
 v80:=Tryz.zeroValue85
 i0:=by kernel_rfl
 i2:=by kernel_rfl
 i3:=by kernel_rfl
 i4:=by kernel_rfl
 i5:=by kernel_rfl
 i9:=by kernel_rfl
 i20:=by kernel_rfl
 i21:=by kernel_rfl
 i37:=by kernel_rfl
 i46:=by kernel_rfl
 i51:=by kernel_rfl
 i53:=by kernel_rfl
 i75:=by kernel_rfl
 i76:=by kernel_rfl
 i80:=by kernel_rfl
 i85:=by kernel_rfl
 i127:=by kernel_rfl
 i143:=by kernel_rfl
 i145:=by kernel_rfl
 i167:=by kernel_rfl
 i168:=by kernel_rfl
 i171:=by kernel_rfl
 i173:=by kernel_rfl
 i175:=by kernel_rfl
 i210:=by kernel_rfl
 i212:=by kernel_rfl
 i232:=by kernel_rfl
 i233:=by kernel_rfl
 m15:=by kernel_rfl
 m16:=by kernel_rfl
 m17:=by kernel_rfl
 m18:=by kernel_rfl
 m19:=by kernel_rfl
 c0:=by kernel_rfl
 c2:=by kernel_rfl
 c3:=by kernel_rfl
 c4:=by kernel_rfl
 c5:=by kernel_rfl
 c9:=by kernel_rfl
 c20:=by kernel_rfl
 c21:=by kernel_rfl
 c37:=by kernel_rfl
 c46:=by kernel_rfl
 c51:=by kernel_rfl
 c53:=by kernel_rfl
 c75:=by kernel_rfl
 c76:=by kernel_rfl
 c80:=by kernel_rfl
 c85:=by kernel_rfl
 c127:=by kernel_rfl
 c143:=by kernel_rfl
 c145:=by kernel_rfl
 c167:=by kernel_rfl
 c168:=by kernel_rfl
 c171:=by kernel_rfl
 c173:=by kernel_rfl
 c175:=by kernel_rfl
 c210:=by kernel_rfl
 c212:=by kernel_rfl
 c213:=by kernel_rfl
 c232:=by kernel_rfl
 c233:=by kernel_rfl}
def Tryz.MQ:Go.Shelf.Ren:=⟨λ|145=>81|220=>114|219=>127|217=>76|225=>142|224=>143|267=>144|266=>112|314=>156|n=>n,λ|9=>9|4=>4|59=>105|3=>3|5=>5|46=>134|146=>165|51=>161|n=>n,λ|1=>0|n=>n⟩
theorem Tryz.Rm:Go.Proofs.Lays.n145 Tryz.prog Tryz.MQ:={
 mixed:=by kernel_rfl
 f145:=Tryz.func81.trans (congrArg some (by kernel_rfl))
 f217:=Tryz.func76.trans (congrArg some (by kernel_rfl))
 f219:=Tryz.func127.trans (congrArg some (by kernel_rfl))
 f220:=Tryz.func114.trans (congrArg some (by kernel_rfl))
 f224:=Tryz.func143.trans (congrArg some (by kernel_rfl))
 f225:=Tryz.func142.trans (congrArg some (by kernel_rfl))
 f266:=Tryz.func112.trans (congrArg some (by kernel_rfl))
 f267:=Tryz.func144.trans (congrArg some (by kernel_rfl))
 f314:=Tryz.func156.trans (congrArg some (by kernel_rfl))
 t3:=Tryz.underlying3
 a3:=Tryz.isAgg3
 z3:=Tryz.sizeOf3
 v3:=Tryz.zeroValue3
 t4:=Tryz.underlying4
 a4:=Tryz.isAgg4
 z4:=Tryz.sizeOf4
 v4:=Tryz.zeroValue4
 t5:=Tryz.underlying5
 a5:=Tryz.isAgg5
 z5:=Tryz.sizeOf5
 v5:=Tryz.zeroValue5
 t9:=Tryz.underlying9
 a9:=Tryz.isAgg9
 z9:=Tryz.sizeOf9
 v9:=Tryz.zeroValue9
 t46:=Tryz.underlying134
 a46:=Tryz.isAgg134
 z46:=Tryz.sizeOf134
 v46:=Tryz.zeroValue134
 t51:=Tryz.underlying161
 a51:=Tryz.isAgg161
 z51:=Tryz.sizeOf161
 v51:=Tryz.zeroValue161
 t59:=Tryz.underlying105
 a59:=Tryz.isAgg105
 z59:=Tryz.sizeOf105
 v59:=Tryz.zeroValue105
 t146:=Tryz.underlying165
 a146:=Tryz.isAgg165
 z146:=Tryz.sizeOf165
 v146:=Tryz.zeroValue165
 g1:=by kernel_rfl}
open Go.RowKit Go.Lib in
theorem Tryz.strings_Cut (s sep:ByteArray) (m:Int) (w:World) (hs:s.size<4294967281) (hm:w.cell? ⟨0,0,none⟩=some (.int .i64 m)):
 Calls Tryz.prog 81 #[.string s, .string sep] w λe w'=>e= .returned (.tuple #[.string ⟨(Lib.cut s.data.toList sep.data.toList).1.toArray⟩, .string ⟨(Lib.cut s.data.toList sep.data.toList).2.1.toArray⟩, .bool (Lib.cut s.data.toList sep.data.toList).2.2])/\∃ n,w'=w.drewN n:=Any.strings_Cut Tryz.Rm s sep m w hs hm
def Tryz.MR:Go.Shelf.Ren:=⟨λ|100=>45|207=>77|n=>n,λ|9=>9|4=>4|3=>3|n=>n,λ|n=>n⟩
theorem Tryz.Rn:Go.Proofs.Lays.n100 Tryz.prog Tryz.MR:={
 mixed:=by kernel_rfl
 f100:=Tryz.func45.trans (congrArg some (by kernel_rfl))
 f207:=Tryz.func77.trans (congrArg some (by kernel_rfl))
 t3:=Tryz.underlying3
 a3:=Tryz.isAgg3
 z3:=Tryz.sizeOf3
 v3:=Tryz.zeroValue3
 t4:=Tryz.underlying4
 a4:=Tryz.isAgg4
 z4:=Tryz.sizeOf4
 v4:=Tryz.zeroValue4
 t9:=Tryz.underlying9
 a9:=Tryz.isAgg9
 z9:=Tryz.sizeOf9
 v9:=Tryz.zeroValue9}
open Go.RowKit Go.Lib in
theorem Tryz.strings_HasSuffix (s p:ByteArray) (w:World) (hs:s.size<=9223372036854775807):
 Calls Tryz.prog 45 #[.string s, .string p] w λe w'=>e= .returned (.bool (Lib.hasSuffix s.data.toList p.data.toList))/\w'=w:=Any.strings_HasSuffix Tryz.Rn s p w hs
def Tryz.MU:Go.Shelf.Ren:=⟨λ|102=>82|209=>115|207=>77|n=>n,λ|9=>9|4=>4|3=>3|n=>n,λ|n=>n⟩
theorem Tryz.Ro:Go.Proofs.Lays.n102 Tryz.prog Tryz.MU:={
 mixed:=by kernel_rfl
 f102:=Tryz.func82.trans (congrArg some (by kernel_rfl))
 f207:=Tryz.func77.trans (congrArg some (by kernel_rfl))
 f209:=Tryz.func115.trans (congrArg some (by kernel_rfl))
 t3:=Tryz.underlying3
 a3:=Tryz.isAgg3
 z3:=Tryz.sizeOf3
 v3:=Tryz.zeroValue3
 t4:=Tryz.underlying4
 a4:=Tryz.isAgg4
 z4:=Tryz.sizeOf4
 v4:=Tryz.zeroValue4
 t9:=Tryz.underlying9
 a9:=Tryz.isAgg9
 z9:=Tryz.sizeOf9
 v9:=Tryz.zeroValue9}
open Go.RowKit Go.Lib in
theorem Tryz.strings_TrimSuffix (s p:ByteArray) (w:World) (hs:s.size<=9223372036854775807):
 Calls Tryz.prog 82 #[.string s, .string p] w λe w'=>e= .returned (.string ⟨(Lib.trimSuffix s.data.toList p.data.toList).toArray⟩)/\w'=w:=Any.strings_TrimSuffix Tryz.Ro s p w hs
def Tryz.LP:Go.Shelf.Ren:=⟨λ|146=>85|221=>116|268=>128|138=>129|143=>130|195=>145|197=>146|218=>147|219=>127|260=>157|217=>76|225=>142|224=>143|267=>144|266=>112|314=>156|n=>n,λ|9=>9|31=>45|3=>3|4=>4|0=>0|105=>152|21=>21|5=>5|46=>134|119=>172|139=>175|138=>174|146=>165|51=>161|n=>n,λ|1=>0|3=>4|4=>5|n=>n⟩
theorem Tryz.MV:Go.Proofs.LaysM.n146 Tryz.prog Tryz.LP:={
 mixed:=by kernel_rfl
 f138:=Tryz.func129.trans (congrArg some (by kernel_rfl))
 f143:=Tryz.func130.trans (congrArg some (by kernel_rfl))
 f146:=Tryz.func85.trans (congrArg some (by kernel_rfl))
 f195:=Tryz.func145.trans (congrArg some (by kernel_rfl))
 f197:=Tryz.func146.trans (congrArg some (by kernel_rfl))
 f217:=Tryz.func76.trans (congrArg some (by kernel_rfl))
 f218:=Tryz.func147.trans (congrArg some (by kernel_rfl))
 f219:=Tryz.func127.trans (congrArg some (by kernel_rfl))
 f221:=Tryz.func116.trans (congrArg some (by kernel_rfl))
 f224:=Tryz.func143.trans (congrArg some (by kernel_rfl))
 f225:=Tryz.func142.trans (congrArg some (by kernel_rfl))
 f260:=Tryz.func157.trans (congrArg some (by kernel_rfl))
 f266:=Tryz.func112.trans (congrArg some (by kernel_rfl))
 f267:=Tryz.func144.trans (congrArg some (by kernel_rfl))
 f268:=Tryz.func128.trans (congrArg some (by kernel_rfl))
 f314:=Tryz.func156.trans (congrArg some (by kernel_rfl))
 t0:=Tryz.underlying0
 a0:=Tryz.isAgg0
 z0:=Tryz.sizeOf0
 v0:=Tryz.zeroValue0
 t3:=Tryz.underlying3
 a3:=Tryz.isAgg3
 z3:=Tryz.sizeOf3
 v3:=Tryz.zeroValue3
 t4:=Tryz.underlying4
 a4:=Tryz.isAgg4
 z4:=Tryz.sizeOf4
 v4:=Tryz.zeroValue4
 t5:=Tryz.underlying5
 a5:=Tryz.isAgg5
 z5:=Tryz.sizeOf5
 v5:=Tryz.zeroValue5
 t9:=Tryz.underlying9
 a9:=Tryz.isAgg9
 z9:=Tryz.sizeOf9
 v9:=Tryz.zeroValue9
 t21:=Tryz.underlying21
 a21:=Tryz.isAgg21
 z21:=Tryz.sizeOf21
 v21:=Tryz.zeroValue21
 t31:=Tryz.underlying45
 a31:=Tryz.isAgg45
 z31:=Tryz.sizeOf45
 v31:=Tryz.zeroValue45
 t46:=Tryz.underlying134
 a46:=Tryz.isAgg134
 z46:=Tryz.sizeOf134
 v46:=Tryz.zeroValue134
 t51:=Tryz.underlying161
 a51:=Tryz.isAgg161
 z51:=Tryz.sizeOf161
 v51:=Tryz.zeroValue161
 t105:=Tryz.underlying152
 a105:=Tryz.isAgg152
 z105:=Tryz.sizeOf152
 v105:=Tryz.zeroValue152
 t119:=Tryz.underlying172
 a119:=Tryz.isAgg172
 z119:=Tryz.sizeOf172
 t138:=Tryz.underlying174
 a138:=Tryz.isAgg174
 z138:=Tryz.sizeOf174
 v138:=Tryz.zeroValue174
 t139:=Tryz.underlying175
 a139:=Tryz.isAgg175
 z139:=Tryz.sizeOf175
 v139:=Tryz.zeroValue175
 t146:=Tryz.underlying165
 a146:=Tryz.isAgg165
 z146:=Tryz.sizeOf165
 v146:=Tryz.zeroValue165
 g1:=by kernel_rfl
 g3:=by kernel_rfl
 g4:=by kernel_rfl
 i0:=by kernel_rfl
 i3:=by kernel_rfl
 i4:=by kernel_rfl
 i5:=by kernel_rfl
 i9:=by kernel_rfl
 i21:=by kernel_rfl
 i31:=by kernel_rfl
 i46:=by kernel_rfl
 i51:=by kernel_rfl
 i105:=by kernel_rfl
 i138:=by kernel_rfl
 i139:=by kernel_rfl
 i146:=by kernel_rfl
 m1:=by kernel_rfl
 s1_3:=λw h=>Go.Proofs.cell_of_shapedOpen_int (zero:=#[.int .i64 0]) (t:=3) h (of_decide_eq_true (by kernel_rfl)) (by kernel_rfl) rfl (by kernel_rfl) (by kernel_rfl) Tryz.underlying3
 m3:=by kernel_rfl
 m4:=by kernel_rfl}
def Tryz.Ie:Go.Shelf.Ren:=⟨λ|8=>73|6=>109|n=>n,λ|22=>45|23=>9|25=>87|4=>4|3=>3|0=>0|n=>n,λ|n=>n⟩
theorem Tryz.LQ:Go.Proofs.SlLaysH.n8 Tryz.prog Tryz.Ie:={
 mixed:=by kernel_rfl
 f6:=⟨Tryz.f109.name,by decide,Tryz.func109.trans (congrArg some (by kernel_rfl))⟩
 f8:=⟨Tryz.f73.name,by decide,Tryz.func73.trans (congrArg some (by kernel_rfl))⟩
 t0:=Tryz.underlying0
 a0:=Tryz.isAgg0
 z0:=Tryz.sizeOf0
 v0:=Tryz.zeroValue0
 t3:=Tryz.underlying3
 a3:=Tryz.isAgg3
 z3:=Tryz.sizeOf3
 v3:=Tryz.zeroValue3
 t4:=Tryz.underlying4
 a4:=Tryz.isAgg4
 z4:=Tryz.sizeOf4
 v4:=Tryz.zeroValue4
 t22:=Tryz.underlying45
 a22:=Tryz.isAgg45
 z22:=Tryz.sizeOf45
 v22:=Tryz.zeroValue45
 a23:=Tryz.isAgg9
 z23:=Tryz.sizeOf9
 t25:=Tryz.underlying87
 a25:=Tryz.isAgg87
 z25:=Tryz.sizeOf87
 v25:=Tryz.zeroValue87}
open Go.RowKit Go.Lib in
theorem Tryz.slices_ContainsFunc {α:Type} [Inhabited α] (enc:α->Value) (p:α->Bool) (g:Nat) (lb:Array Value) (eg:∀ args w,(callFunc g args).run Tryz.prog w= .ok (.enter g args) w) (b off n c:Nat) (zs:List α) (w:World) (hp:PredAt Tryz.prog g lb enc p w) (hz:n<=zs.length) (hbig:n<=9223372036854775807) (hc:∀ j,j<zs.length->w.cell? ⟨b,off+j,none⟩=some (enc zs[j]!)):
 Calls Tryz.prog 73 #[.slice (some ⟨b,off,none⟩) n c, .func (.func g) #[] lb] w λe w'=>e= .returned (.bool ((zs.take n).any p))/\∃ q,w'=w.drewN q:=AnyE.slices_ContainsFunc Tryz.LQ enc p g lb eg b off n c zs w hp hz hbig hc
end Go.Proofs
end
