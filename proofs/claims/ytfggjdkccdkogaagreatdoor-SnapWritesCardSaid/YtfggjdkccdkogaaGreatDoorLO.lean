/- An argument that is a slice of cookies: opened as one list. -/
import Derived.Test.YtfggjdkccdkogaaGreatDoorPrint0
import Derived.Test.YtfggjdkccdkogaaGreatDoorTie
import Derived.HandedShaped
import Derived.ProofKit
import Derived.LaidMore
import Derived.LaidLaws
import Derived.Lay
import Derived.OpenShut
import Derived.Stop.Joined
import Derived.Deep.Slices
import Derived.Deep.Fields
import Derived.ChangeSame
import Derived.ChangeArms
section
namespace Go.Proofs.YtfggjdkccdkogaaGreatDoor.Print
set_option linter.unusedVariables false
set_option linter.unusedSimpArgs false
open ChangeShapes WideShapes ChangeAt RowKit
abbrev Kh:List (String×DataW Unit):=Rows.snapUpsRow.laid
theorem Ny {P:Program} {n nm:String} {d:DataW Unit} {r:List (String×DataW Unit)} {W:World} {g ti:Nat} {ms:Array (String×TypeId)} (h:laidMet P ((n, .iface nm d)::r) W)
 (hg:P.globalNamed n=some g) (ht:(P.globals[g]?).map (·.type)=some ti) (hi:P.underlying ti=some (.interface ms)):∃ tp p,W.var? P n=some #[.iface tp p]:=by
 obtain ⟨ps,⟨g0,t0,cs0,f0,p0,q0,hg0,ht0,hv0,hd0,_,e0⟩,_,_⟩:=h;obtain rfl:=Option.some.inj (hg.symm.trans hg0);obtain rfl:=Option.some.inj (ht.symm.trans ht0);obtain ⟨f1,u,v,hcs,_,_⟩:=iface_of_trod hi hd0;refine ⟨u,v,?_⟩;rw [hv0];obtain ⟨l0⟩:=cs0;simp only at hcs;rw [hcs]
set_option maxRecDepth 100000 in
theorem I1 {W:World} (h:laidMetH Tryz.prog Kh W) (hsh:W.ShapedOpen Tryz.prog):D8 W:=by
 rw [MakeChecks.laidMetH_plain _ _ _ (by kernel_rfl)] at h;have h2:=laidMet.tail (laidMet.tail h);have h3:=laidMet.tail h2;have h3:=laidMet.tail h3;have h4:=laidMet.tail h3;obtain ⟨m,hm⟩:=Tryz.QG.s1_3 W hsh;refine ⟨?_,?_,?_
 ,⟨m,hm⟩
 ⟩
 ·have t:=Lib.tabIs_of_head (k:= .u64) (zs:=Lib.pow10Tab) (g:=5) (by kernel_rfl) (by kernel_rfl) (n:=20) Tryz.underlying194 Tryz.underlying71 (by kernel_rfl) (by kernel_rfl) h2;exact Eq.mp (congrArg (λz=>Lib.TabIs Tryz.prog W z .u64 Lib.pow10Tab) (by kernel_rfl)) t
 ·have t:=Ny h4 (g:=1) (by kernel_rfl) (by kernel_rfl) Tryz.underlying155;obtain ⟨tp,p,hv⟩:=t;exact ⟨tp,p,Eq.mp (congrArg (λz=>W.var? Tryz.prog z=some #[.iface tp p]) (by kernel_rfl)) hv⟩
 ·have t:=Ny h3 (g:=2) (by kernel_rfl) (by kernel_rfl) Tryz.underlying155;obtain ⟨tp,p,hv⟩:=t;exact ⟨tp,p,Eq.mp (congrArg (λz=>W.var? Tryz.prog z=some #[.iface tp p]) (by kernel_rfl)) hv⟩
theorem Ex {H:Type} {enc:TypeId×Value->H} {a:Assume} {C:Checked} {os:Os} {f:FuncId} {fn:Func} {s:ChangeSpec} {conds:List PathCond} {apart fresh handsOn again:Bool} {X:World->Array Value->Prop}
 (hX:∀ (w w':World) (args:Array Value),w.heap=w'.heap->X w args->X w' args)
 (own:ownKnob C.prog.godebug=none) (started:os.Started) (noInit:C.prog.inits.idxOf? f=none) (hfn:C.prog.funcs[f]? =some fn)
 (witness:∃ (w:World) (tape:Tape) (i:Input),w.os=os/\(w.forCall tape i).Shaped C.prog/\i.vars=[]/\Input.okWide C.prog (w.forCall tape i) .any w.heap.size f i/\
  ((s.pre enc C.prog fn conds apart (w.forCall tape i).memory i.args/\X (w.forCall tape i).memory i.args)/\sizedMet enc C.prog fn (OpenSpec.ofChange s) apart (w.forCall tape i).memory i.args)/\a.holds C.prog (lone (Frame.enter C.prog f i.args .normal) [] (w.forCall tape i)))
 (contract:∀ (W:World) (base:Nat) (args:Array Value) (ds gs:List (DataW H)) (before:List MemPlace),
  (∀ (j:Nat) t v,fn.params[j]? =some t->args[j]? =some v->Value.okWide C.prog W .any base t v)->
  DataW.Whole enc C.prog fn.params.toList s.vars apart W args.toList ds gs before->
  conds.all (PathCond.test C.prog ⟨fn.params.toList,ds,s.plain.varTypes C.prog,gs⟩)=true->
  (DataW.weightsEach C.prog (fn.params.toList++s.plain.varTypes C.prog) (ds++gs)).all (· <=reachBytes)=true->X W args->W.ShapedOpen C.prog->
  a.holds C.prog (lone (Frame.enter C.prog f args .normal) [] W)->
  Calls C.prog f args W λe W'=>∃ v,e= .returned v/\s.post enc C.prog fn apart fresh handsOn again W args v W'):
 ReturnsInHanded a C os f .any (λw args=>(s.pre enc C.prog fn conds apart w args/\X w args)/\sizedMet enc C.prog fn (OpenSpec.ofChange s) apart w args) (s.post enc C.prog fn apart fresh handsOn again):=by
 refine returnsInHanded_of_calls own started noInit witness ?_;intro w tape i _ hsh _ hok hpre hholds;obtain ⟨_,_,_,fn',hfn',_,_,_,_,hval⟩:=hok;have e:fn'=fn:=Option.some.inj (hfn'.symm.trans hfn);subst e;obtain ⟨⟨⟨ds,gs,before,hw,hc⟩,hx⟩,hz⟩:=hpre;have hw':=DataW.Whole.of_heap (w':=w.forCall tape i) (by rfl) hw;refine (contract (w.forCall tape i) w.heap.size i.args ds gs before hval hw' hc (hz.weights hw) (hX _ _ _ (by rfl) hx) hsh hholds).mono λe W' ⟨v,he,hp⟩=>?_
 subst he;exact ChangeSpec.post_blind hp
theorem I4 (os:Os) (args:Array Value):laidMetH Tryz.prog Kh ((World.laidAll Tryz.prog os Kh).forCall (λ_ _=>0) ⟨#[],args,[]⟩).memory:=by
 rw [MakeChecks.laidMetH_plain _ _ _ (by kernel_rfl)];exact laidMet_laidAll args (by kernel_rfl) (by kernel_rfl)
end Go.Proofs.YtfggjdkccdkogaaGreatDoor.Print
end
section
namespace Go.Proofs.YtfggjdkccdkogaaGreatDoor.Print
open Go RowKit ChangeShapes WideShapes Deep Ac Aq Aw
set_option linter.unusedVariables false
section
variable {H:Type} {enc:TypeId×Value->H} {P:Program} {w:World} {base:Nat} {spare:Nat->Bool} {held:Bool}
theorem P9 {t e:TypeId} {fs:Array Field} {fuel:Nat} {cs:List Value} {x:DataW H×List MemPlace} (ht:P.underlying t=some (.slice e)) (he:P.underlying e=some (.struct fs))
 (hone:oneCellFields P fs=true) (hC:P.cellsOf e=fs.size) (h:DataW.trod enc P w base spare held fuel t cs=some x):
 cs=[.slice none 0 0]\/∃ (a:Addr) (len cap:Nat),cs=[.slice (some a) len cap]/\len<=cap/\cap<=maxLen/\
  ∀ i,i<len->∀ (j:Nat) (f:Field),fs[j]? =some f->∃ (v:Value) (y:DataW H×List MemPlace) (n:Nat),w.cell? (a.add (i*fs.size+j))=some v/\DataW.trod enc P w base spare held n f.type [v]=some y:=by
 rcases open_slice ht h with h0|⟨a,len,cap,m,n,D,Pl,hcs,hb,hl,hm,hmm,hx,hi⟩
 ·exact .inl h0.1
 ·refine .inr ⟨a,len,cap,hcs,hl,hm,λi hin j f hj=>?_⟩;obtain ⟨cs',hc,ht'⟩:=hi i (by rw [hmm];split<;>omega);rw [hC] at hc;obtain ⟨ys,n',hn',hy,hlen,hyl,hf⟩:=DataW.trod_struct he ht';obtain ⟨_,hcl,hat⟩:=World.cells?_some hc;obtain ⟨ho,hk⟩:=hone_of hone j f hj;have hjl:j<fs.size:=(Array.getElem?_eq_some_iff.1 hj).1;have hcell:=hat j hjl;have hv:cs'[j]? =some (cs'[j]'(by omega)):=List.getElem?_eq_getElem (by omega);have h1:=hf j f hj;rw [ho,hk] at h1;have hone':(cs'.drop j).take 1=[cs'[j]'(by omega)]:=by
   rw [List.drop_eq_getElem_cons (by omega)];rfl
  rw [hone'] at h1;have hys:ys[j]? =some (ys[j]'(by omega)):=List.getElem?_eq_getElem (by omega);refine ⟨_,_,n',?_,h1.trans hys⟩;rw [<-Go.Deep.add_add,hcell,hv]
end
theorem Ls {α:Type} {Q:Nat->α->Prop}:∀ (n:Nat),(∀ i,i<n->∃ x,Q i x)->∃ l:List α,l.length=n/\∀ j x,l[j]? =some x->Q j x
 |0,_=>⟨[],rfl,λj x h=>by simp at h⟩
 |n+1,h=>by
  obtain ⟨l,hl,hq⟩:=Ls n (λi hi=>h i (by omega));obtain ⟨x,hx⟩:=h n (by omega);refine ⟨l++[x],by simp [hl],λj y hj=>?_⟩;rcases Nat.lt_or_ge j l.length with hlt|hge
  ·rw [List.getElem?_append_left hlt] at hj;exact hq j y hj
  ·rw [List.getElem?_append_right hge] at hj;have h0:j - l.length=0:=by
    cases hz:j - l.length with
    |zero=>rfl
    |succ m=>rw [hz] at hj;simp at hj
   rw [h0] at hj;obtain rfl:x=y:=by simpa using hj
   have:j=n:=by omega
   subst this;exact hx
set_option maxRecDepth 100000 in
theorem Nz {H:Type} {enc:TypeId×Value->H} {w:World} {base:Nat} {spare:Nat->Bool} {held:Bool} {r:Reach} {b0:Nat} {v:Value} {d:DataW H} {ps:List MemPlace}
 (hv:Value.okWide Tryz.prog w r b0 40 v) (h:DataW.Trod enc Tryz.prog w base spare held 40 v d ps):
 ∃ (a:Option Addr) (c:Nat) (l:List Cz),v= .slice a l.length c/\Kd.C k25 w a l.length l/\l.length<=c/\∀ x∈l,x.f0.size<=9223372036854775807/\x.f1.size<=9223372036854775807/\x.f2.size<=9223372036854775807/\x.f3.size<=9223372036854775807/\(Lit.int .i64 x.f4).wf=true/\(Lit.int .i64 x.f5).wf=true/\(Lit.int .i64 x.f6).wf=true/\(Lit.int .i64 x.f10).wf=true:=by
 have hu:=Tryz.underlying40;have he:=Tryz.underlying25;have hi:=Tryz.underlying3;have hs:=Tryz.underlying9;have hb:=Tryz.underlying4;obtain ⟨a,len,cap,rfl⟩:=okWide_slice hu hv;obtain ⟨fuel,hf⟩:=h;rcases P9 hu he (by kernel_rfl) (by kernel_rfl) hf with hcs|⟨x,len',cap',hcs,hl,hm,hall⟩
 ·simp [Value.cells] at hcs;obtain ⟨rfl,rfl,rfl⟩:=hcs;exact ⟨none,0,[],rfl,⟨rfl,by simp,λh=>by simp at h⟩,Nat.le_refl _,λx hx=>by simp at hx⟩
 ·simp [Value.cells] at hcs;obtain ⟨rfl,rfl,rfl⟩:=hcs;have key:∀ i,i<len->∃ y:Cz,(w.cell? (x.add (i*11+0))=some (.string y.f0)/\w.cell? (x.add (i*11+1))=some (.string y.f1)/\w.cell? (x.add (i*11+2))=some (.string y.f2)/\w.cell? (x.add (i*11+3))=some (.string y.f3)/\w.cell? (x.add (i*11+4))=some (.int .i64 y.f4)/\w.cell? (x.add (i*11+5))=some (.int .i64 y.f5)/\w.cell? (x.add (i*11+6))=some (.int .i64 y.f6)/\w.cell? (x.add (i*11+7))=some (.bool y.f7)/\w.cell? (x.add (i*11+8))=some (.bool y.f8)/\w.cell? (x.add (i*11+9))=some (.bool y.f9)/\w.cell? (x.add (i*11+10))=some (.int .i64 y.f10))/\(y.f0.size<=9223372036854775807/\y.f1.size<=9223372036854775807/\y.f2.size<=9223372036854775807/\y.f3.size<=9223372036854775807/\(Lit.int .i64 y.f4).wf=true/\(Lit.int .i64 y.f5).wf=true/\(Lit.int .i64 y.f6).wf=true/\(Lit.int .i64 y.f10).wf=true):=by
   intro i hlt;obtain ⟨v0,y0,n0,c0,t0⟩:=hall i hlt 0 _ rfl;obtain ⟨v1,y1,n1,c1,t1⟩:=hall i hlt 1 _ rfl;obtain ⟨v2,y2,n2,c2,t2⟩:=hall i hlt 2 _ rfl;obtain ⟨v3,y3,n3,c3,t3⟩:=hall i hlt 3 _ rfl;obtain ⟨v4,y4,n4,c4,t4⟩:=hall i hlt 4 _ rfl;obtain ⟨v5,y5,n5,c5,t5⟩:=hall i hlt 5 _ rfl;obtain ⟨v6,y6,n6,c6,t6⟩:=hall i hlt 6 _ rfl;obtain ⟨v7,y7,n7,c7,t7⟩:=hall i hlt 7 _ rfl;obtain ⟨v8,y8,n8,c8,t8⟩:=hall i hlt 8 _ rfl;obtain ⟨v9,y9,n9,c9,t9⟩:=hall i hlt 9 _ rfl;obtain ⟨v10,y10,n10,c10,t10⟩:=hall i hlt 10 _ rfl;obtain ⟨m0,e0,_,w0⟩:=DataW.trod_string hs t0;obtain ⟨m1,e1,_,w1⟩:=DataW.trod_string hs t1;obtain ⟨m2,e2,_,w2⟩:=DataW.trod_string hs t2;obtain ⟨m3,e3,_,w3⟩:=DataW.trod_string hs t3;obtain ⟨m4,e4,_,w4⟩:=DataW.trod_int hi t4;obtain ⟨m5,e5,_,w5⟩:=DataW.trod_int hi t5;obtain ⟨m6,e6,_,w6⟩:=DataW.trod_int hi t6;obtain ⟨m7,e7,_⟩:=DataW.trod_bool hb t7;obtain ⟨m8,e8,_⟩:=DataW.trod_bool hb t8;obtain ⟨m9,e9,_⟩:=DataW.trod_bool hb t9;obtain ⟨m10,e10,_,w10⟩:=DataW.trod_int hi t10;obtain rfl:=(List.cons.inj e0).1;obtain rfl:=(List.cons.inj e1).1;obtain rfl:=(List.cons.inj e2).1;obtain rfl:=(List.cons.inj e3).1;obtain rfl:=(List.cons.inj e4).1;obtain rfl:=(List.cons.inj e5).1;obtain rfl:=(List.cons.inj e6).1;obtain rfl:=(List.cons.inj e7).1;obtain rfl:=(List.cons.inj e8).1;obtain rfl:=(List.cons.inj e9).1;obtain rfl:=(List.cons.inj e10).1;exact ⟨⟨m0,m1,m2,m3,m4,m5,m6,m7,m8,m9,m10⟩,⟨c0,c1,c2,c3,c4,c5,c6,c7,c8,c9,c10⟩,Nat.le_trans w0 (by unfold maxLen;omega),Nat.le_trans w1 (by unfold maxLen;omega),Nat.le_trans w2 (by unfold maxLen;omega),Nat.le_trans w3 (by unfold maxLen;omega),w4,w5,w6,w10⟩
  obtain ⟨l,hlen,hq⟩:=Ls len key;subst hlen;refine ⟨some x,cap,l,rfl,⟨rfl,by unfold maxLen at hm;omega,λ_=>⟨x,rfl,λj p hj=>⟨_,rfl,Xx w p,λi u hu=>?_⟩⟩⟩,hl,λy hy=>?_⟩
  ·obtain ⟨⟨h0,h1,h2,h3,h4,h5,h6,h7,h8,h9,h10⟩,_⟩:=hq j p hj
   match i,hu with
   |0,hu=>obtain rfl:=Option.some.inj hu;exact h0
   |1,hu=>obtain rfl:=Option.some.inj hu;exact h1
   |2,hu=>obtain rfl:=Option.some.inj hu;exact h2
   |3,hu=>obtain rfl:=Option.some.inj hu;exact h3
   |4,hu=>obtain rfl:=Option.some.inj hu;exact h4
   |5,hu=>obtain rfl:=Option.some.inj hu;exact h5
   |6,hu=>obtain rfl:=Option.some.inj hu;exact h6
   |7,hu=>obtain rfl:=Option.some.inj hu;exact h7
   |8,hu=>obtain rfl:=Option.some.inj hu;exact h8
   |9,hu=>obtain rfl:=Option.some.inj hu;exact h9
   |10,hu=>obtain rfl:=Option.some.inj hu;exact h10
   |i+11,hu=>simp at hu
  ·obtain ⟨j,hj⟩:=List.getElem?_of_mem hy;exact (hq j y hj).2
end Go.Proofs.YtfggjdkccdkogaaGreatDoor.Print
end
