/- What the program's and the document's functions tell, walked; a part of the claim's proof, said short by a program of this session. No condition. -/
import Derived.Test.YtikggnalmidlhaaGreatDoorM0
import Derived.Test.YtikggnalmidlhaaGreatDoorRows
import Derived.Test.YtikggnalmidlhaaGreatDoorWMore
import Derived.Lib.SmallJoins
import Derived.Lib.AppendIntMem
import Derived.Lib.AtoiErrMem
import Derived.Lib.LaidTab
import Derived.Stop.LaidErr
import Derived.WalkMore
import Derived.Scope
import Derived.LoopTactic
section
namespace Go.Proofs.YtikggnalmidlhaaGreatDoor.Print
open RowKit AR Aa Ad
set_option linter.unusedVariables false
set_option linter.unusedSimpArgs false
noncomputable def nameOf (g:Nat):String:=((Tryz.prog.globals[g]?).map (·.name)).getD ""
noncomputable def OA:String:=nameOf 3
noncomputable def OB:String:=nameOf 1
noncomputable def OC:String:=nameOf 2
theorem Ua:Tryz.prog.globalNamed OA=some 3:=by kernel_rfl
theorem Ub:Tryz.prog.globalNamed OB=some 1:=by kernel_rfl
theorem Uc:Tryz.prog.globalNamed OC=some 2:=by kernel_rfl
structure Ck (w:World):Prop where
 pow:Lib.TabIs Tryz.prog w OA .u64 Lib.pow10Tab
 syn:∃ tp p,w.var? Tryz.prog OB=some #[.iface tp p]
 rng:∃ tp p,w.var? Tryz.prog OC=some #[.iface tp p]
 mlen:∃ m,w.cell? ⟨0,0,none⟩=some (.int .i64 m)
theorem IV {w w':World} {n:String} {g:Nat} {cs:Array Value} (hg:Tryz.prog.globalNamed n=some g) (h:w.var? Tryz.prog n=some cs) (hb:Below w.heap.size w w'):w'.var? Tryz.prog n=some cs:=by
 exact Go.Joins.var_stays hg h hb (Nat.le_refl _)
theorem cell_below {w w':World} {a:Addr} {v:Value} (h:w.cell? a=some v) (hb:Below w.heap.size w w'):w'.cell? a=some v:=by
 have hlt:a.block<w.heap.size:=by
  by_cases hl:a.block<w.heap.size
  ·exact hl
  ·exfalso;have:w.heap[a.block]? =none:=Array.getElem?_eq_none (by omega);simp [World.cell?,this] at h
 rw [hb.cell hlt];exact h
theorem Ck.below {w w':World} (h:Ck w) (hb:Below w.heap.size w w'):Ck w':=
 ⟨IV Ua h.pow hb,by obtain ⟨tp,p,hv⟩:=h.syn;exact ⟨tp,p,IV Ub hv hb⟩,by obtain ⟨tp,p,hv⟩:=h.rng;exact ⟨tp,p,IV Uc hv hb⟩
 ,by obtain ⟨m,hm⟩:=h.mlen;exact ⟨m,cell_below hm hb⟩
 ⟩
theorem Ck.drewN {w:World} {n:Nat} (h:Ck w):Ck (w.drewN n):=h.below (by apply Bw;exact Below.refl _ _)
theorem Ck.drew {w:World} (h:Ck w):Ck w.drew:=h.below (by apply CK;exact Below.refl _ _)
theorem Ck.alloc {w:World} {o:Obj} (h:Ck w):Ck (w.alloc o):=h.below (by apply Bj;exact Below.refl _ _)
def EW (n:Int):ByteArray:=⟨(Lib.itoa n).toArray⟩
def strconv_Itoa.f (a0:Int):Option ByteArray:=if -9223372036854775808<=a0 then (if a0<=9223372036854775807 then some (EW a0) else none) else none
theorem strconv_Itoa.calls (a0:Int) (r:ByteArray) (w:World) (hG:AA (Ck w)) (h:strconv_Itoa.f a0=some r):
 Calls Tryz.prog 75 #[.int .i64 a0] w λe w'=>e= .returned (.string r)/\Below w.heap.size w w':=by
 unfold strconv_Itoa.f at h;by_cases h0: -9223372036854775808<=a0
 ·rw [if_pos h0] at h;by_cases h1:a0<=9223372036854775807
  ·rw [if_pos h1] at h;obtain rfl:=Option.some.inj h;refine (Any.strconv_Itoa Tryz.QK a0 h0 h1 w (Eq.mp (congrArg (λz=>Lib.TabIs Tryz.prog w z .u64 Lib.pow10Tab) (by kernel_rfl)) hG.out.pow)).mono ?_;rintro e w' ⟨rfl,k,os,rfl⟩;exact ⟨rfl,Lib.below_grow _ _ (Nat.le_refl _) _ _⟩
  ·rw [if_neg h1] at h;exact absurd h (by simp)
 ·rw [if_neg h0] at h;exact absurd h (by simp)
def Dr.f (a0:Int):Option ByteArray:=strconv_Itoa.f a0
theorem Dr.calls (a0:Int) (r:ByteArray) (w:World) (hG:AA (Ck w)) (h:Dr.f a0=some r):
 Calls Tryz.prog 43 #[.int .i64 a0] w λe w'=>e= .returned (.string r)/\Below w.heap.size w w':=by
 have H:=AA.mk h;clear h;go_enter Tryz.func43,Tryz.ntmps43;go_wp2_with (go_at_call 75;refine (strconv_Itoa.calls a0 r _ hG H.out).mono ?_;rintro e w' ⟨rfl,hb⟩);go_ret;exact ⟨rfl,hb⟩
def EI (s:ByteArray):Int×Bool:=if s.size>20 then (0,false) else match Lib.atoiAll s.data.toList with
 | .ok v=>if (EW v).toList=s.toList then (v,true) else (0,false)
 |_=>(0,false)
def EL.f (a0:ByteArray):Option (Int×Bool):=some (EI a0)
theorem OD (s:ByteArray) (hs:s.size<=20) (v:Int) (h:Lib.atoiAll s.data.toList= .ok v) (w:World):
 Calls Tryz.prog 88 #[.string s] w λe w'=>e= .returned (.tuple #[.int .i64 v, .nilIface])/\Below w.heap.size w w':=by
 refine (Any.strconv_Atoi_ok Tryz.Jb s (by omega) v h w).mono ?_;rintro e w' ⟨rfl,hw|⟨t,hw⟩⟩
 ·subst hw;exact ⟨rfl,Below.refl _ _⟩
 ·subst hw;exact ⟨rfl,Lib.bytesWorld_below _ _ _⟩
theorem OE (s:ByteArray) (hs:s.size<=20) (h:∀ v,Lib.atoiAll s.data.toList≠ .ok v) (w:World) (hG:Ck w):
 Calls Tryz.prog 88 #[.string s] w λe w'=>∃ n t p,e= .returned (.tuple #[.int .i64 n, .iface t p])/\Below w.heap.size w w':=by
 cases hv:Lib.atoiAll s.data.toList with
 |ok v=>exact absurd hv (h v)
 |range=>
  obtain ⟨tp,p,hvar⟩:=hG.rng;refine (Any.strconv_Atoi_range_var Tryz.Jb s (by omega) hv tp p w (Eq.mp (congrArg (λz=>w.var? Tryz.prog z=some #[.iface tp p]) (by kernel_rfl)) hvar)).mono ?_;rintro e w' ⟨N,rfl,_,_,hb⟩;exact ⟨_,_,_,rfl,hb⟩
 |_=>
  obtain ⟨tp,p,hvar⟩:=hG.syn;refine (Any.strconv_Atoi_syntax_var Tryz.Jb s (by omega) hv tp p w (Eq.mp (congrArg (λz=>w.var? Tryz.prog z=some #[.iface tp p]) (by kernel_rfl)) hvar)).mono ?_;rintro e w' ⟨N,rfl,_,_,hb⟩;exact ⟨_,_,_,rfl,hb⟩
theorem Pt (v:Int) (h: -9223372036854775808<=v/\v<=9223372036854775807):Dr.f v=some (EW v):=by
 unfold Dr.f strconv_Itoa.f;rw [if_pos h.1,if_pos h.2]
theorem NI {l:List UInt8} {v:Int} (h:Lib.atoiAll l= .ok v): -9223372036854775808<=v/\v<=9223372036854775807:=by
 unfold Lib.atoiAll at h;cases l with
 |nil=>cases h
 |cons c r=>
  simp only at h;split at h
  ·cases h
  ·cases h
  ·rename_i u hu;have:=Lib.parseMag_lt hu;split at h
   ·cases h
   ·split at h
    ·cases h
    ·rename_i h1 h2;injection h with h
     rw [<-h];split<;>omega
theorem EL.calls (a0:ByteArray) (r1:Int) (r2:Bool) (w:World) (hG:AA (Ck w)) (h:EL.f a0=some (r1,r2)):
 Calls Tryz.prog 58 #[.string a0] w λe w'=>e= .returned (.tuple #[.int .i64 r1, .bool r2])/\Below w.heap.size w w':=by
 have h':EI a0=(r1,r2):=Option.some.inj h;clear h;unfold EI at h';by_cases hs:a0.size>20
 ·rw [if_pos hs] at h';obtain ⟨rfl,rfl⟩:=Prod.mk.inj h';clear h';have hs1:decide (20<(a0.size:Int))=true:=decide_eq_true (by omega);clear hs;go_enter Tryz.func58,Tryz.ntmps58;go_wp2;go_ret2;exact ⟨rfl,Below.refl _ _⟩
 ·rw [if_neg hs] at h';have hs1:decide (20<(a0.size:Int))=false:=decide_eq_false (by omega);have hs2:=AA.mk (show a0.size<=20 by omega);clear hs;cases hv:Lib.atoiAll a0.data.toList with
  |ok v=>
   rw [hv] at h';simp only at h';have hv':=AA.mk hv;have hp':=AA.mk (Pt v (NI hv));clear hv;by_cases hb:(EW v).toList=a0.toList
   ·rw [if_pos hb] at h';obtain ⟨rfl,rfl⟩:=Prod.mk.inj h';clear h';have hb1:((EW v).toList != a0.toList)=false:=by rw [hb];simp
    have hb2:((EW v).toList==a0.toList)=true:=by rw [hb];simp
    clear hb;go_enter Tryz.func58,Tryz.ntmps58;go_wp2_with (first|(go_at_call 88;refine (OD a0 hs2.out v hv'.out _).mono ?_;rintro e w1 ⟨rfl,hb1'⟩;have HB1:=AA.mk hb1';clear hb1')|(go_at_call 43;refine (Dr.calls v (EW v) _ (AA.mk (hG.out.below HB1.out)) hp'.out).mono ?_;rintro e w2 ⟨rfl,hb2'⟩;have HB2:=AA.mk hb2';clear hb2'));go_ret2;exact ⟨rfl,HB1.out.trans (HB2.out.mono HB1.out.size)⟩
   ·rw [if_neg hb] at h';obtain ⟨rfl,rfl⟩:=Prod.mk.inj h';clear h';have hb1:((EW v).toList != a0.toList)=true:=by simpa using hb
    have hb2:((EW v).toList==a0.toList)=false:=by simpa using hb
    clear hb;go_enter Tryz.func58,Tryz.ntmps58;go_wp2_with (first|(go_at_call 88;refine (OD a0 hs2.out v hv'.out _).mono ?_;rintro e w1 ⟨rfl,hb1'⟩;have HB1:=AA.mk hb1';clear hb1')|(go_at_call 43;refine (Dr.calls v (EW v) _ (AA.mk (hG.out.below HB1.out)) hp'.out).mono ?_;rintro e w2 ⟨rfl,hb2'⟩;have HB2:=AA.mk hb2';clear hb2'));go_ret2;exact ⟨rfl,HB1.out.trans (HB2.out.mono HB1.out.size)⟩
  |range=>
   rw [hv] at h';obtain ⟨rfl,rfl⟩:=Prod.mk.inj h';clear h';have hv':=AA.mk (show ∀ v,Lib.atoiAll a0.data.toList≠ .ok v by rw [hv];intro v e;cases e);clear hv;go_enter Tryz.func58,Tryz.ntmps58;go_wp2_with (go_at_call 88;refine (OE a0 hs2.out hv'.out _ hG.out).mono ?_;rintro e w1 ⟨n1,t1,p1,rfl,hb1'⟩;have HB1:=AA.mk hb1';clear hb1');go_ret2;exact ⟨rfl,HB1.out⟩
  |_=>
   rw [hv] at h';obtain ⟨rfl,rfl⟩:=Prod.mk.inj h';clear h';have hv':=AA.mk (show ∀ v,Lib.atoiAll a0.data.toList≠ .ok v by rw [hv];intro v e;cases e);clear hv;go_enter Tryz.func58,Tryz.ntmps58;go_wp2_with (go_at_call 88;refine (OE a0 hs2.out hv'.out _ hG.out).mono ?_;rintro e w1 ⟨n1,t1,p1,rfl,hb1'⟩;have HB1:=AA.mk hb1';clear hb1');go_ret2;exact ⟨rfl,HB1.out⟩
end Go.Proofs.YtikggnalmidlhaaGreatDoor.Print
end
section
namespace Go.Proofs.YtikggnalmidlhaaGreatDoor.Range
open Go RowKit
def NM (P:Program) (n:Nat) (gf:Nat) (fv:Array Value) (xs:List (Array Value)) (b n₀:Nat) (w:World):Prop:=
 ∀ (l:Nat) (J Jx:Nat->World->Prop) (W:World),Below w.heap.size w W->
  (∀ j A B row,J j A->A.grownBy B row->(∀ r,row=some r->r=b)->J j B)->(∀ j A B row,Jx j A->A.grownBy B row->(∀ r,row=some r->r=b)->Jx j B)->
  (∀ j x W1,xs[j]? =some x->J j W1->YieldAt Fence.wide (n - 1) P l x W1 λe W'=>(e= .returned (.bool true)/\J (j+1) W'/\Below n₀ W1 W'/\W'.heap[b]? =W1.heap[b]?)\/(e= .returned (.bool false)/\Jx j W'))->
  J 0 W->
  CallsIn Fence.wide n P gf (#[.func (.yield l) #[] #[]]++fv) W λe W'=>(∃ v,e= .returned v)/\(J xs.length W'\/∃ j,j<xs.length/\Jx j W')
def Te (B n₀ b:Nat) (I:Nat->World->Prop) (Ix:Code->Nat->World->Prop) (j:Nat) (W:World):Exit->Act->World->Prop
 | .normal,_,W'=>KeepsFrom B W W'/\(Below n₀ W W'/\W'.heap[b]? =W.heap[b]?)/\I (j+1) W'
 | .ret,_,W'=>KeepsFrom B W W'/\Ix .ret j W'
 | .exit id,_,W'=>KeepsFrom B W W'/\Ix (.exit id) j W'
 | .goto t,_,W'=>KeepsFrom B W W'/\Ix (.goto t) j W'
 | .panic _,_,_=>False
 | .outgrown,_,_=>False
theorem Kk {P:Program} {g:Operand} {ps:Array Tmp} {assign body:Code} {Q:Exit->Act->World->Prop} {a:Act} {w:World} {gf:Nat} {fv:Array Value} {α:Type} {enc:α->Array Value} {xs:List α} {n₀ b:Nat}
 (hg:a.eval g= .func (.func gf) #[] fv) (eg:∀ args w,(callFunc gf args).run P w= .ok (.enter gf args) w) (hseq:NM P 8 gf fv (xs.map enc) b n₀ w) (hn:n₀<=w.heap.size) (hbw:b<w.heap.size) (hps:∀ x∈xs,(enc x).size=ps.size)
 (I:Nat->World->Prop) (Ix:Code->Nat->World->Prop) (hI:OwnFrom w.heap.size I) (hIx:∀ c,OwnFrom w.heap.size (Ix c)) (hIb:∀ j A C,I j A->A.grownBy C (some b)->I j C) (hIxb:∀ c j A C,Ix c j A->A.grownBy C (some b)->Ix c j C) (h0:I 0 w) (a₁:α->Act)
 (hassign:∀ (l:Nat) (x:α) (W:World) (K:Act->World->Prop),x∈xs->K (a₁ x) W->
  assign.wpIn (Fence.wide.inRound l) 7 P (Exit.then K (λ_ _ _=>False)) {tmps:=(ps.zip (enc x)).foldl (λt (p,v)=>t.setIfInBounds p v) a.tmps,defers:=[]} W)
 (hbody:∀ (l j:Nat) (x:α) (W:World),xs[j]? =some x->I j W->body.wpIn (Fence.wide.inRound l) 7 P (Te w.heap.size n₀ b I Ix j W) (a₁ x) W)
 (hdone:∀ (D:Nat) (W:World),w.heap.size<=D->I xs.length W->W.heap[D]? =some (.deferred (some []))->Q .normal {a with defers:={target:= .collected D,args:=#[]}::a.defers} W)
 (hstop:∀ (D:Nat) (c:Code) (j:Nat) (W:World),w.heap.size<=D->j<xs.length->Ix c j W->W.heap[D]? =some (.deferred (some []))->c.wp P Q {a with defers:={target:= .collected D,args:=#[]}::a.defers} W):
 (Code.rangeFunc g ps assign body).wp P Q a w:=by
 refine (wpIn_wide (n:=9)).1 (wpIn_rangeFunc ?_);intro fn _;generalize hR:(λ(st:LoopState) (pe:Option Code)=>({state:=st,pending:=pe,fn:=fn,tmps:=a.tmps,params:=ps,assign:=assign,body:=body,defers:=w.heap.size}:Loop))=rec;have eR:∀ st pe,rec st pe={state:=st,pending:=pe,fn:=fn,tmps:=a.tmps,params:=ps,assign:=assign,body:=body,defers:=w.heap.size}:=λst pe=>by rw [<-hR]
 generalize hW1:(w.alloc (.deferred (some []))).alloc (.loop (rec .ready none))=W1;have b1:Below w.heap.size w W1:=by rw [<-hW1];exact ((Below.refl _ w).alloc (Nat.le_refl _) _).alloc (by simp) _
 have s1:W1.heap.size=w.heap.size+1+1:=by rw [<-hW1];simp
 have l1:W1.heap[w.heap.size+1]? =some (.loop (rec .ready none)):=by
  rw [<-hW1];have:=World.alloc_heap_new (w.alloc (.deferred (some []))) (.loop (rec .ready none));rwa [World.size_alloc] at this
 have k1:W1.heap[w.heap.size]? =some (.deferred (some [])):=by
  rw [<-hW1];exact (Below.heap_alloc _ _ _ (by simp)).trans (World.alloc_heap_new w _)
 have i1:I 0 W1:=by rw [<-hW1];exact hI.alloc _ (hI.alloc _ h0)
 refine ⟨w.heap.size+1,[{target:= .collected w.heap.size,args:=#[]}],W1,{target:= .fn (.func gf) fv,args:=#[.func (.yield (w.heap.size+1)) #[] #[]]},W1,gf,#[.func (.yield (w.heap.size+1)) #[] #[]]++fv,W1,?_,?_,λ_ _=>trivial,?_,λh=>by simp [Fence.wide] at h,?_⟩
 ·rw [<-hW1,eR];exact run_enterLoop_outer _ _ _ _ _
 ·simp only [resolve,hg];simp [go_sem,Deferred.ofValue]
 ·simp [invoke,go_sem,eg]
 have keepN:∀ {A B:World} {k:Nat} {o:Obj} {row:Option Nat},A.grownBy B row->row≠some k->A.heap[k]? =some o->B.heap[k]? =some o:=λhg hne hk=>(hg.block _ (Array.getElem?_eq_some_iff.1 hk).1 (λe=>hne e.symm)).trans hk
 refine (hseq (w.heap.size+1)
  (λj W=>I j W/\W.heap[w.heap.size+1]? =some (.loop (rec .ready none))/\W.heap[w.heap.size]? =some (.deferred (some [])))
  (λj W=>∃ c,Ix c j W/\W.heap[w.heap.size+1]? =some (.loop (rec .done (some c)))/\W.heap[w.heap.size]? =some (.deferred (some [])))
  W1 b1
  (λj A B row h hg hr=>by
   cases row with
   |none=>exact ⟨hI j A B none h.1 hg (λr e=>by cases e),keepN hg (λe=>by cases e) h.2.1,keepN hg (λe=>by cases e) h.2.2⟩
   |some r=>
    obtain rfl:=hr r rfl
    exact ⟨hIb j A B h.1 hg,keepN hg (λe=>by cases e;omega) h.2.1,keepN hg (λe=>by cases e;omega) h.2.2⟩)
  (λj A B row h hg hr=>by
   obtain ⟨c,h1,h2,h3⟩:=h
   cases row with
   |none=>exact ⟨c,hIx c j A B none h1 hg (λr e=>by cases e),keepN hg (λe=>by cases e) h2,keepN hg (λe=>by cases e) h3⟩
   |some r=>
    obtain rfl:=hr r rfl
    exact ⟨c,hIxb c j A B h1 hg,keepN hg (λe=>by cases e;omega) h2,keepN hg (λe=>by cases e;omega) h3⟩)
  ?_ ⟨i1,l1,k1⟩).mono ?_
 ·rintro j x' W hx' ⟨hi,hl,hk⟩;rw [List.getElem?_map] at hx';obtain ⟨x,hx,rfl⟩:=Option.map_eq_some_iff.1 hx';have hlt:w.heap.size+1<W.heap.size:=(Array.getElem?_eq_some_iff.1 hl).1;have hy:=run_yield (P:=P) (args:=enc x) hl (by rw [eR];exact hps x (List.mem_of_getElem? hx));rw [eR] at hy;refine ⟨fn,_,assign,body,hy,roundIn_of_wpIn trivial (hassign _ x W _ (List.mem_of_getElem? hx) ⟨_,run_beginRound hl (by rw [eR]),?_⟩)⟩;generalize hW2:W.putObj (w.heap.size+1) (.loop {rec .ready none with state:= .busy})=W2;have l2:W2.heap[w.heap.size+1]? =some (.loop {rec .ready none with state:= .busy}):=by rw [<-hW2];exact World.putObj_heap_same hlt
  have k2:W2.heap[w.heap.size]? =some (.deferred (some [])):=by rw [<-hW2];exact (World.putObj_heap_other (by omega)).trans hk
  have b2:Below n₀ W W2:=by rw [<-hW2];exact belowK_b (w:=w) hn _ _ _ _ (by omega) hl rfl rfl
  have i2:I j W2:=by rw [<-hW2];exact hI.putObj _ hi (by omega) hl rfl
  refine wpIn_mono (hbody _ j x W2 hx i2) ?_;have out:∀ (jump:Option Code) (W3:World),KeepsFrom w.heap.size W2 W3->∃ W4,(Instr.endRound (w.heap.size+1) jump).run P W3= .ok (.bool jump.isNone) W4/\W4=W3.putObj (w.heap.size+1) (.loop (rec (if jump.isNone then .ready else .done) jump))/\W3.heap[w.heap.size+1]? =some (.loop {rec .ready none with state:= .busy})/\
   W4.heap[w.heap.size+1]? =some (.loop (rec (if jump.isNone then .ready else .done) jump))/\W4.heap[w.heap.size]? =some (.deferred (some [])):=λjump W3 h3=>by
   have l3:=h3.same _ _ (by omega) l2 rfl;have k3:=h3.same _ _ (Nat.le_refl _) k2 rfl;have hr:=run_endRound (P:=P) jump l3;rw [eR] at hr;exact ⟨_,by rw [hr,eR],rfl,l3,World.putObj_heap_same (Array.getElem?_eq_some_iff.1 l3).1,(World.putObj_heap_other (by omega)).trans k3⟩
  rintro e a3 W3 hp;cases e with
  |normal=>
   obtain ⟨h1,h2,h3⟩:=hp;obtain ⟨W4,hr,rfl,l3,l4,k4⟩:=out none W3 h1;refine ⟨_,_,hr, .inl ⟨rfl,⟨hI.putObj _ h3 (by omega) l3 rfl,l4,k4⟩,(b2.trans h2.1).trans (belowK_b (w:=w) hn _ _ _ _ (by omega) l3 rfl rfl),?_⟩⟩;exact (World.putObj_heap_other (by omega)).trans (h2.2.trans (by rw [<-hW2];exact World.putObj_heap_other (by omega)))
  |ret=>
   obtain ⟨h1,h3⟩:=hp;obtain ⟨W4,hr,rfl,l3,l4,k4⟩:=out (some .ret) W3 h1;exact ⟨_,_,hr, .inr ⟨rfl, .ret,(hIx _).putObj _ h3 (by omega) l3 rfl,l4,k4⟩⟩
  |exit id=>
   obtain ⟨h1,h3⟩:=hp;obtain ⟨W4,hr,rfl,l3,l4,k4⟩:=out (some (.exit id)) W3 h1;exact ⟨_,_,hr, .inr ⟨rfl, .exit id,(hIx _).putObj _ h3 (by omega) l3 rfl,l4,k4⟩⟩
  |goto t=>
   obtain ⟨h1,h3⟩:=hp;obtain ⟨W4,hr,rfl,l3,l4,k4⟩:=out (some (.goto t)) W3 h1;exact ⟨_,_,hr, .inr ⟨rfl, .goto t,(hIx _).putObj _ h3 (by omega) l3 rfl,l4,k4⟩⟩
  |panic ch=>exact hp.elim
  |outgrown=>exact hp.elim
 ·rw [List.length_map];rintro e W2 ⟨⟨v,rfl⟩,(⟨hi,hl,hk⟩|⟨j,hj,c,hi,hl,hk⟩)⟩
  ·exact ⟨none,_,by have:=run_endLoop (P:=P) hl (by rw [eR];simp);rw [eR] at this;exact this,hdone _ _ (Nat.le_refl _) (hI.putObj _ hi (by omega) hl rfl) ((World.putObj_heap_other (by omega)).trans hk)⟩
  ·exact ⟨some c,_,by have:=run_endLoop (P:=P) hl (by rw [eR];simp);rw [eR] at this;exact this,wpIn_wide.2 (hstop _ c j _ (Nat.le_refl _) hj ((hIx c).putObj _ hi (by omega) hl rfl) ((World.putObj_heap_other (by omega)).trans hk))⟩
end Go.Proofs.YtikggnalmidlhaaGreatDoor.Range
end
section
namespace Go.Proofs.YtikggnalmidlhaaGreatDoor.Ct
open RowKit AR Aa Ad
attribute [local go_sem] BM BN Bo Bp BC BD BO BP
set_option linter.unusedVariables false
set_option linter.unusedSimpArgs false
def QD:Option Int->Value
 |none=> .nilIface
 |some c=> .iface 0 (.int .i64 c)
theorem LH (x:List UInt8):∀ y:List UInt8,(!(Op.bytesLess x y||x==y))=Op.bytesLess y x:=by
 induction x with
 |nil=>intro y;cases y<;>simp [Op.bytesLess]
 |cons a x ih=>
  intro y;cases y with
  |nil=>simp [Op.bytesLess]
  |cons b y=>
   have h:=ih y;have e1:(a==b)=decide (a.toNat=b.toNat):=by rw [Bool.eq_iff_iff,beq_iff_eq,decide_eq_true_iff,UInt8.toNat_inj]
   have e2:(b==a)=decide (b.toNat=a.toNat):=by rw [Bool.eq_iff_iff,beq_iff_eq,decide_eq_true_iff,UInt8.toNat_inj]
   have l1:decide (a<b)=decide (a.toNat<b.toNat):=by rw [Bool.eq_iff_iff,decide_eq_true_iff,decide_eq_true_iff,UInt8.lt_iff_toNat_lt]
   have l2:decide (b<a)=decide (b.toNat<a.toNat):=by rw [Bool.eq_iff_iff,decide_eq_true_iff,decide_eq_true_iff,UInt8.lt_iff_toNat_lt]
   simp only [Op.bytesLess,List.cons_beq_cons,e1,e2,l1,l2];rw [<-h];generalize Op.bytesLess x y=p;generalize (x==y)=q;rcases Nat.lt_trichotomy a.toNat b.toNat with t|t|t
   ·rw [decide_eq_true t,decide_eq_false (show ¬b.toNat<a.toNat by omega),decide_eq_false (show ¬b.toNat=a.toNat by omega)];simp
   ·rw [decide_eq_false (show ¬a.toNat<b.toNat by omega),decide_eq_false (show ¬b.toNat<a.toNat by omega),decide_eq_true t,decide_eq_true t.symm];cases p<;>cases q<;>rfl
   ·rw [decide_eq_true t,decide_eq_false (show ¬a.toNat<b.toNat by omega),decide_eq_false (show ¬a.toNat=b.toNat by omega)];simp
theorem QE {P:Program} (t:TypeId) (x y:ByteArray) (W:World):(binOp .gtr t (.string x) (.string y)).run P W= .ok (.bool (Op.bytesLess y.toList x.toList)) W:=by
 rw [show binOp .gtr t (.string x) (.string y)=pure (.bool !(Op.bytesLess x.toList y.toList||x.toList==y.toList)) by simp [binOp,Op.stringOp],LH];rfl
theorem LJ (n:Int):IntKind.u64.wrap n=n%18446744073709551616:=by simp [IntKind.wrap,IntKind.bits,IntKind.signed]
theorem NU (n:Int):IntKind.u32.wrap n=n%4294967296:=by simp [IntKind.wrap,IntKind.bits,IntKind.signed]
theorem QF (n:Int):IntKind.u8.wrap n=n%256:=by simp [IntKind.wrap,IntKind.bits,IntKind.signed]
theorem NV {w:World} {g b i:Nat} {o:Obj} (h:w.heap[g]? =some o) (hp:AA (g≠b)) (u:Value):(w.setCell ⟨b,i,none⟩ u).heap[g]? =some o:=(Below.heap_setCell w ⟨b,i,none⟩ u g hp.out).trans h
theorem xk {P:Prop} (h:P:=by (repeat (first|(with_reducible first|refine Ea ?_ _|refine CX ?_|refine EZ ?_ _|refine NV ?_ (by with_reducible assumption) _|apply OX)));(exact AA.out (by with_reducible assumption));all_goals (first|(simp only [List.setIfInBounds_toArray,List.set_cons_zero,List.set_cons_succ];done)|(simp only [List.setIfInBounds_toArray,List.set_cons_zero,List.set_cons_succ];rfl)|rfl)):P:=h
theorem xb {P:Prop} (h:P:=by repeat (first|(with_reducible first|exact HB.out|apply Bj|apply Bw|apply CK|refine Kn ?_ (AA.out (by with_reducible assumption)))|exact HB.out)):P:=h
theorem xg {P:Prop} (h:P:=by (try simp only [List.map_toArray,List.map_cons,List.map_nil]);first|done|rfl|(simp only [List.length_drop,List.length_take];rfl)|((try simp [Act.eval])<;>(try simp only [LJ,NU,QF,wrap64,wrap32])<;>omega)):P:=h
theorem GJ {w:World} {g i:Nat} {t:TypeId} {cs:Array Value} {v:Value} (h:w.heap[g]? =some (.cells cs t (0,0))) (e:cs[i]? =some v):w.cell? ⟨g,i,none⟩=some v:=(AL h i).trans e
theorem xc {P:Prop} (h:P:=by (repeat' apply And.intro)<;>(apply GJ;(repeat (with_reducible first|refine Ea ?_ _|refine CX ?_|refine EZ ?_ _));(exact AA.out (by with_reducible assumption));rfl)):P:=h
theorem Bt {w0 w w1:World} {g:Nat} {o:Obj} (_:AA (w0.heap[g]? =some o)) (hb:Below w.heap.size w w1) (h:w.heap[g]? =some o:=by (repeat (first|(with_reducible first|refine Ea ?_ _|refine CX ?_|refine EZ ?_ _|refine NV ?_ (by with_reducible assumption) _)));exact AA.out (by with_reducible assumption)):AA (w1.heap[g]? =some o):=⟨DV h hb⟩
theorem Cz {w0 w:World} {g:Nat} {o:Obj} (_:AA (w0.heap[g]? =some o)) (h:w.heap[g]? =some o:=by (repeat (first|(with_reducible first|refine Ea ?_ _|refine CX ?_|refine EZ ?_ _|refine NV ?_ (by with_reducible assumption) _)));exact AA.out (by with_reducible assumption)):g<w.heap.size:=Gj h
theorem cells3 {w:World} {g:Nat} {t:TypeId} {v0 v1 v2:Value} (h:w.heap[g]? =some (.cells #[v0,v1,v2] t (0,0))):w.cell? ⟨g,0,none⟩=some v0/\w.cell? ⟨g,1,none⟩=some v1/\w.cell? ⟨g,2,none⟩=some v2:=⟨(AL h 0).trans rfl,(AL h 1).trans rfl,(AL h 2).trans rfl⟩
theorem Bv {w:World} {g:Nat} {t:TypeId} {v0 v1 v2 v3 v4 v5 v6 v7 v8 v9 v10:Value} (h:w.heap[g]? =some (.cells #[v0,v1,v2,v3,v4,v5,v6,v7,v8,v9,v10] t (0,0))):w.cell? ⟨g,0,none⟩=some v0/\w.cell? ⟨g,1,none⟩=some v1/\w.cell? ⟨g,2,none⟩=some v2/\w.cell? ⟨g,3,none⟩=some v3/\w.cell? ⟨g,4,none⟩=some v4/\w.cell? ⟨g,5,none⟩=some v5/\w.cell? ⟨g,6,none⟩=some v6/\w.cell? ⟨g,7,none⟩=some v7/\w.cell? ⟨g,8,none⟩=some v8/\w.cell? ⟨g,9,none⟩=some v9/\w.cell? ⟨g,10,none⟩=some v10:=⟨(AL h 0).trans rfl,(AL h 1).trans rfl,(AL h 2).trans rfl,(AL h 3).trans rfl,(AL h 4).trans rfl,(AL h 5).trans rfl,(AL h 6).trans rfl,(AL h 7).trans rfl,(AL h 8).trans rfl,(AL h 9).trans rfl,(AL h 10).trans rfl⟩
theorem JG (a:Array UInt8):(ByteArray.mk a).size=a.size:=rfl
def bl:Nat->Nat->List Bool
 |0,_=>[]
 |n+1,k=>(k%2==1)::bl n (k/2)
def bm (n k:Nat):Array Bool:=⟨bl n k⟩
theorem xl {P:Prop} (h:P:=by exact AA.mk (by first|exact hG.out|((with_reducible repeat (first|apply Ck.drewN|apply Ck.drew|apply Ck.alloc));exact hG.out)|exact Ck.below hG.out xb)):P:=h
theorem G9 {g g' n:Nat} (hg:g'=n) (h:g<n):AA (g≠g'):=⟨by rw [hg];exact Nat.ne_of_lt h⟩
theorem HZ {g g' n:Nat} (hg:g'=n) (h:g<n):AA (g'≠g):=⟨by rw [hg];exact Nat.ne_of_gt h⟩
theorem Dp {w W:World} {g:Nat} (hg:g=W.heap.size) (h:Below w.heap.size w W):AA (w.heap.size<=g):=⟨by rw [hg];exact BF h⟩
theorem xq {P:Prop} (h:P:=by first|rfl|(simp;done)|(simp [*];done)):P:=h
theorem xd {P:Prop} (h:P:=by repeat (first|exact Ap.refl _|apply Ap.step)):P:=h
theorem xe {P:Prop} (h:P:=by first|rfl|(simp [Fx,Fy]<;>rfl)|(simp [*,Fx,Fy]<;>rfl)):P:=h
theorem xa {p:Prop} [Decidable p] (h:decide p=true:=by first|(with_reducible assumption)|assumption):p:=of_decide_eq_true h
theorem xR {P Q:Prop} (h0:AA P) (h:P->Q:=by intro hq_;(with_reducible repeat (first|apply Kd.Bd|apply Kd.Be|apply Kd.Bl));exact hq_):Q:=h h0.out
theorem xV {P Q:Prop} (h0:AA P) (h:P->Q:=by intro hq_;(with_reducible repeat (first|apply Kd.Og|apply Kd.Oh|apply Kd.Ht));exact hq_):Q:=h h0.out
theorem xN {P Q:Prop} (h0:AA P) (h:P->Q:=by intro hq_;(with_reducible repeat (first|apply Kd.Ob|apply Kd.Oc|apply Kd.Qa));exact hq_):Q:=h h0.out
section
variable {P:Program} {ops:Array Oper} {rest:List Oper} {o:Oper} {a:Act} {Q:Exit->Act->World->Prop} {Kc:Act->World->Prop} {S:World->Prop} {ds:List Nat} {md:Region.Mode}
theorem Dk {W:World} {N:Tmp} {cs:Array Value} {t:TypeId} (h:∀ g,g=W.heap.size->∀ w1,w1.heap[g]? =some (.cells cs t (0,0))->Below W.heap.size W w1->wpList P ops Q rest (a.put o.dst (.pointer (some ⟨g,0,none⟩))) w1) (hd:o.dst=some N:=by with_reducible rfl) (hg:o.guard=none:=by rfl)
 (hr:(execOp a.eval o).run P W= .ok (.value (.pointer (some ⟨W.heap.size,0,none⟩))) (W.alloc (.cells cs t (0,0))):=by first|(go_simp;done)|(go_simp;rfl)):wpList P ops Q (o::rest) a W:=Ij hg hd hr h
theorem Ay {i:Nat} {N:Option Tmp} {oi:Oper} {v:Value} {fuel:Nat} {l:Array Bool} {a a':Act} {w:World} (l':Array Bool) (hi:ops[i]? =some oi) (hN:oi.dst=N) (hc:O9 md ops l l' i=true) (hy:Yields P ops oi v a) (h:BZ P md ops Q S ds fuel l' a' w)
 (hQ:∀ c a w,Q (.panic c) (a.put oi.dst v) w->Q (.panic c) a w:=by exact λ_ _ _ h=>h) (ha:a.put N v=a':=by simp only [Act.put,List.setIfInBounds_toArray,List.set_cons_zero,List.set_cons_succ,DL,DU];rfl):BZ P md ops Q S ds (fuel+1) l a w:=Gh l' hi hN hc hQ hy ha h
theorem Cn {i:Nat} {N:Option Tmp} {oi:Oper} {v:Value} {fuel:Nat} {l:Array Bool} {a a':Act} {w:World} (l':Array Bool) (hi:ops[i]? =some oi) (hN:oi.dst=N) (hc:takeB md ops ds l l' i=true) (hy:YieldsIf P ops S oi v a) (hS:S w) (h:BZ P md ops Q S ds fuel l' a' w)
 (hQ:∀ c a w,Q (.panic c) (a.put oi.dst v) w->Q (.panic c) a w:=by exact λ_ _ _ h=>h) (ha:a.put N v=a':=by simp only [Act.put,List.setIfInBounds_toArray,List.set_cons_zero,List.set_cons_succ,DL,DU];rfl):BZ P md ops Q S ds (fuel+1) l a w:=OT l' hi hN hc hQ hy hS ha h
theorem DK {fuel:Nat} {l:Array Bool} {a a':Act} {w:World} {v:Value} {d:Option Tmp} (N:Option Tmp) (hN:d=N) (h:BZ P md ops Q S ds fuel l a' w) (ha:a.put N v=a':=by simp only [Act.put,List.setIfInBounds_toArray,List.set_cons_zero,List.set_cons_succ,DL,DU];rfl):BZ P md ops Q S ds fuel l (a.put d v) w:=by subst hN;subst ha;exact h
end
theorem Fx:QD none= .nilIface:=rfl
theorem Fy (c:Int):QD (some c)= .iface 0 (.int .i64 c):=rfl
end Go.Proofs.YtikggnalmidlhaaGreatDoor.Ct
end
section
namespace Go.Proofs.YtikggnalmidlhaaGreatDoor.Print
open RowKit AR Aa Ad
set_option linter.unusedVariables false
set_option linter.unusedSimpArgs false
structure Et (W0 w:World) (g n:Nat) (f:Nat->Int):Prop where
 cell:∀ j,j<n->w.cell? ⟨g,j,none⟩=some (.int .u8 (f j))
 frz:∀ j,j<n->w.frozen? ⟨g,j,none⟩=false
 below:Below W0.heap.size W0 w
 base:W0.heap.size<=g
 lt:g<w.heap.size
theorem Et.congr {W0 w:World} {g n:Nat} {f f':Nat->Int} (h:Et W0 w g n f) (e:∀ j,j<n->f j=f' j):Et W0 w g n f':=
 ⟨λj hj=>by rw [h.cell j hj,e j hj],h.frz,h.below,h.base,h.lt⟩
theorem Et.set {W0 w:World} {g n:Nat} {f:Nat->Int} (h:Et W0 w g n f) {k:Nat} (hk:k<n) (x:Int):Et W0 (w.setCell ⟨g,k,none⟩ (.int .u8 x)) g n (λj=>if j=k then x else f j):=by
 refine ⟨λj hj=>?_,λj hj=>?_,h.below.setCell h.base _,h.base,by simpa using h.lt⟩
 ·by_cases e:j=k
  ·subst e;rw [if_pos rfl];exact World.cell?_setCell_same _ _ _ (h.cell j hj)
  ·rw [if_neg e];exact (World.cell?_setCell_other _ _ _ _ (by intro e2;injection e2 with _ e3;exact e e3.symm)).trans (h.cell j hj)
 ·rw [World.frozen?_setCell];exact h.frz j hj
theorem MB (w:World) (e:TypeId) (s:ByteArray):Et w (Lib.bytesWorld w e s) w.heap.size s.size (λj=>(bytesOf s).getD j 0):=by
 refine ⟨λj hj=>?_,λj hj=>?_,Lib.bytesWorld_below w e s,Nat.le_refl _,by rw [Lib.bytesWorld_size];omega⟩
 ·rw [Lib.bytesWorld_cell w e s j hj];have hj':j<s.data.size:=hj;simp [bytesOf,List.getD,Array.getElem?_eq_getElem hj']
 ·have hb:(Lib.bytesCells w e s).size>=s.size:=by simp [Lib.bytesCells]
  simp only [World.frozen?,Lib.bytesWorld_at_new];simp;omega
theorem O0 {W0 w:World} {g n:Nat} {f:Nat->Int} (h:Et W0 w g n f) (hn:n<=9223372036854775807):Df w .u8 (some ⟨g,0,none⟩) n ((List.range n).map f):=by
 refine ⟨by simp,hn,λ_=>⟨_,rfl,λj hj=>?_⟩⟩;rw [add_plain,h.cell j (by simpa using hj)];have hj':j<n:=by simpa using hj
 simp [hj']
def Gc (c:Int):Int:=if 65<=c/\c<=90 then c+32 else c
def FQ (s:ByteArray):ByteArray:=strOfNums ((bytesOf s).map Gc)
theorem NJ (s:ByteArray):(List.range s.size).map (λj=>Gc ((bytesOf s).getD j 0))=(bytesOf s).map Gc:=by
 apply List.ext_getElem?;intro i;by_cases h:i<s.size
 ·have h':i<(bytesOf s).length:=by rw [bytesOf_length];exact h
  simp [h,h',List.getD]
 ·simp [h,bytesOf_length]
theorem MC {W0 w:World} {g k:Nat} {s:ByteArray} (h:Et W0 w g s.size (λj=>if j<k then Gc ((bytesOf s).getD j 0) else (bytesOf s).getD j 0)) {c:Int} (hk:k<s.size) (hc:c=(bytesOf s).getD k 0) (h0:65<=c) (h1:c<=90) {x:Int} (hx:x=c+32):
 Et W0 (w.setCell ⟨g,k,none⟩ (.int .u8 x)) g s.size (λj=>if j<k+1 then Gc ((bytesOf s).getD j 0) else (bytesOf s).getD j 0):=by
 refine (h.set hk x).congr λj hj=>?_
 by_cases e:j=k
 ·subst e;simp only [if_true,if_pos (Nat.lt_succ_self _), <-hc];unfold Gc;rw [if_pos ⟨h0,h1⟩,hx]
 ·simp only [if_neg e];by_cases l:j<k
  ·rw [if_pos l,if_pos (by omega)]
  ·rw [if_neg l,if_neg (by omega)]
theorem Hu {W0 w:World} {g k:Nat} {s:ByteArray} (h:Et W0 w g s.size (λj=>if j<k then Gc ((bytesOf s).getD j 0) else (bytesOf s).getD j 0)) {c:Int} (hk:k<s.size) (hc:c=(bytesOf s).getD k 0) (hn:¬(65<=c/\c<=90)):
 Et W0 w g s.size (λj=>if j<k+1 then Gc ((bytesOf s).getD j 0) else (bytesOf s).getD j 0):=by
 refine h.congr λj hj=>?_
 by_cases e:j=k
 ·subst e;simp only [if_neg (Nat.lt_irrefl _),if_pos (Nat.lt_succ_self _), <-hc];unfold Gc;rw [if_neg hn]
 ·by_cases l:j<k
  ·rw [if_pos l,if_pos (by omega)]
  ·rw [if_neg l,if_neg (by omega)]
theorem ME {W0 w:World} {g k cap:Nat} {s:ByteArray} (hs:s.size<=9223372036854775806) (h:Et W0 w g s.size (λj=>if j<k then Gc ((bytesOf s).getD j 0) else (bytesOf s).getD j 0)) (hk:s.size<=k):
 (convert 76 9 (.slice (some ⟨g,0,none⟩) s.size cap)).run Tryz.prog w= .ok (.string (FQ s)) w:=by
 have hr:=O0 (f:=λj=>Gc ((bytesOf s).getD j 0)) (h.congr λj hj=>by rw [if_pos (by omega)]) (by omega);rw [NJ] at hr;exact JJ Tryz.underlying76 Tryz.underlying5 Tryz.underlying9 hr
def Dj.f (a0:ByteArray):Option ByteArray:=if a0.size<=9223372036854775806 then some (FQ a0) else none
set_option maxHeartbeats 4000000 in
set_option maxRecDepth 100000 in
theorem Dj.calls (a0:ByteArray) (r:ByteArray) (w:World) (h:Dj.f a0=some r):
 Calls Tryz.prog 86 #[.string a0] w λe w'=>e= .returned (.string r)/\Below w.heap.size w w':=by
 unfold Dj.f at h;by_cases hs:a0.size<=9223372036854775806
 ·rw [if_pos hs] at h;obtain rfl:=Option.some.inj h;clear h;obtain ⟨wB,g,cap,hconv,HR⟩:∃ wB g cap,(convert 9 76 (.string a0)).run Tryz.prog w= .ok (.slice (some ⟨g,0,none⟩) a0.size cap) wB/\AA (Et w wB g a0.size (λj=>(bytesOf a0).getD j 0)):=
   ⟨_,_,_,Lib.run_convert_string_bytes w _ _ _ a0 Tryz.underlying9 Tryz.underlying76 Tryz.underlying5,⟨MB w _ a0⟩⟩
  go_enter Tryz.func86,Tryz.ntmps86;go_wp2;go_loopw [9] (λv9 wr=>∃ k:Nat,k<=a0.size/\v9= .int .i64 k/\AA (Et w wr g a0.size (λj=>if j<k then Gc ((bytesOf a0).getD j 0) else (bytesOf a0).getD j 0))) (λv9 _=>a0.size - (intOf v9).toNat);case atStart=>exact ⟨0,Nat.zero_le _,rfl,⟨HR.out.congr λj _=>by simp⟩⟩
  case round=>
   obtain ⟨k,hk,rfl,HK⟩:=hrel;by_cases hlt:k<a0.size
   ·obtain ⟨c,hc⟩:∃ c:Int,c=(bytesOf a0).getD k 0:=⟨_,rfl⟩;have hcell:wr.cell? ⟨g,k,none⟩=some (.int .u8 c):=by rw [HK.out.cell k hlt,if_neg (Nat.lt_irrefl _),hc]
    have hfr:=HK.out.frz k hlt;have HC:=AA.mk hc;clear hc;go_wp2
    ·go_roundw;case rel=>exact ⟨k+1,by omega,by go_num,⟨MC HK.out hlt HC.out (by assumption) (by assumption) (by omega)⟩⟩
     case measure=>simp [intOf];omega
    ·go_roundw;case rel=>exact ⟨k+1,by omega,by go_num,⟨Hu HK.out hlt HC.out (by omega)⟩⟩
     case measure=>simp [intOf];omega
    ·go_roundw;case rel=>exact ⟨k+1,by omega,by go_num,⟨Hu HK.out hlt HC.out (by omega)⟩⟩
     case measure=>simp [intOf];omega
   ·have hback:=ME (cap:=cap) hs HK.out (by omega);go_wp2;go_ret;exact ⟨rfl,HK.out.below⟩
 ·rw [if_neg hs] at h;exact absurd h (by simp)
def JW (s sep:ByteArray):List ByteArray:=Lib.splitB sep 0 (Lib.countB s sep) s
def strings_Split.f (a0 a1:ByteArray):Option (List ByteArray):=if a0.size<4294967281/\1<=a1.size then some (JW a0 a1) else none
theorem strings_Split.calls (a0 a1:ByteArray) (r:List ByteArray) (w:World) (hG:AA (Ck w)) (h:strings_Split.f a0 a1=some r):
 Calls Tryz.prog 85 #[.string a0, .string a1] w λe w'=>∃ v0_:Value,e= .returned (v0_)/\Kd.R Kd.string 9 w' w.heap.size (λ_=>True) v0_ r/\Below w.heap.size w w':=by
 unfold strings_Split.f at h;by_cases hc:a0.size<4294967281/\1<=a1.size
 ·rw [if_pos hc] at h;obtain rfl:=Option.some.inj h;obtain ⟨m,hm⟩:=hG.out.mlen;have L:=Tryz.MV;refine (Any.strings_Split {L with} L.i9 a0 a1 m w hc.1 hm hc.2).mono ?_;rintro e w' ⟨rfl,rfl⟩;have hlen:(JW a0 a1).length=Lib.countB a0 a1+1:=Lib.splitB_all a1 hc.2 0 _ a0 rfl;have hle:=Lib.countB_le a1 hc.2 a0.size a0 (Nat.le_refl _);refine ⟨_,rfl,Kd.MX (enc:=Value.string) ?_ (λ_ _=>trivial),(Below.refl _ _).alloc (Nat.le_refl _) _⟩;rw [hlen];refine ⟨by simp [encs,hlen], .inr ⟨w.heap.size,_,((JW a0 a1).map Value.string).toArray,rfl,Nat.le_refl _,?_,Nat.le_refl _,by unfold maxLen;omega,?_,?_⟩⟩
  ·exact (show ∀ (w:World) (o:Obj),(w.alloc o).heap[w.heap.size]? =some o from λw o=>Array.getElem?_push_size) w _
  ·simp [hlen]
  ·rw [<-hlen,Nat.mul_one];exact List.take_of_length_le (by simp)
 ·rw [if_neg hc] at h;exact absurd h (by simp)
end Go.Proofs.YtikggnalmidlhaaGreatDoor.Print
end
