/- What a row lists as laid gives the walks what they ask of the world (the power table and the two errors of strconv), and the program's own start meets it. -/
import Derived.Test.YtikggnalmidlhaaGreatDoorM2
import Derived.Test.YtikggnalmidlhaaGreatDoorTie
import Derived.HandedShaped
import Derived.ProofKit
import Derived.LaidMore
import Derived.LaidLaws
import Derived.Lay
import Derived.OpenShut
import Derived.Stop.Joined
namespace Go.Proofs.YtikggnalmidlhaaGreatDoor.Print
set_option linter.unusedVariables false
set_option linter.unusedSimpArgs false
open ChangeShapes WideShapes ChangeAt RowKit
abbrev OO:List (String×DataW Unit):=Rows.netsWritesRow.laid
theorem Kl {P:Program} {n nm:String} {d:DataW Unit} {r:List (String×DataW Unit)} {W:World} {g ti:Nat} {ms:Array (String×TypeId)} (h:laidMet P ((n, .iface nm d)::r) W)
 (hg:P.globalNamed n=some g) (ht:(P.globals[g]?).map (·.type)=some ti) (hi:P.underlying ti=some (.interface ms)):∃ tp p,W.var? P n=some #[.iface tp p]:=by
 obtain ⟨ps,⟨g0,t0,cs0,f0,p0,q0,hg0,ht0,hv0,hd0,_,e0⟩,_,_⟩:=h;obtain rfl:=Option.some.inj (hg.symm.trans hg0);obtain rfl:=Option.some.inj (ht.symm.trans ht0);obtain ⟨f1,u,v,hcs,_,_⟩:=iface_of_trod hi hd0;refine ⟨u,v,?_⟩;rw [hv0];obtain ⟨l0⟩:=cs0;simp only at hcs;rw [hcs]
set_option maxRecDepth 100000 in
theorem QB {W:World} (h:laidMetH Tryz.prog OO W) (hsh:W.ShapedOpen Tryz.prog):Ck W:=by
 rw [MakeChecks.laidMetH_plain _ _ _ (by kernel_rfl)] at h;have h2:=laidMet.tail (laidMet.tail h);have h3:=laidMet.tail h2;have h3:=laidMet.tail h3;have h4:=laidMet.tail h3;obtain ⟨m,hm⟩:=Tryz.MV.s1_3 W hsh;refine ⟨?_,?_,?_
 ,⟨m,hm⟩
 ⟩
 ·have t:=Lib.tabIs_of_head (k:= .u64) (zs:=Lib.pow10Tab) (g:=3) (by kernel_rfl) (by kernel_rfl) (n:=20) Tryz.underlying160 Tryz.underlying104 (by kernel_rfl) (by kernel_rfl) h2;exact Eq.mp (congrArg (λz=>Lib.TabIs Tryz.prog W z .u64 Lib.pow10Tab) (by kernel_rfl)) t
 ·have t:=Kl h4 (g:=1) (by kernel_rfl) (by kernel_rfl) Tryz.underlying81;obtain ⟨tp,p,hv⟩:=t;exact ⟨tp,p,Eq.mp (congrArg (λz=>W.var? Tryz.prog z=some #[.iface tp p]) (by kernel_rfl)) hv⟩
 ·have t:=Kl h3 (g:=2) (by kernel_rfl) (by kernel_rfl) Tryz.underlying81;obtain ⟨tp,p,hv⟩:=t;exact ⟨tp,p,Eq.mp (congrArg (λz=>W.var? Tryz.prog z=some #[.iface tp p]) (by kernel_rfl)) hv⟩
theorem H6 {H:Type} {enc:TypeId×Value->H} {a:Assume} {C:Checked} {os:Os} {f:FuncId} {fn:Func} {s:ChangeSpec} {conds:List PathCond} {apart fresh handsOn again:Bool} {X:World->Array Value->Prop}
 (hX:∀ (w w':World) (args:Array Value),w.heap=w'.heap->X w args->X w' args)
 (own:ownKnob C.prog.godebug=none) (started:os.Started) (noInit:C.prog.inits.idxOf? f=none) (hfn:C.prog.funcs[f]? =some fn)
 (witness:∃ (w:World) (tape:Tape) (i:Input),w.os=os/\(w.forCall tape i).Shaped C.prog/\i.vars=[]/\Input.okWide C.prog (w.forCall tape i) .any w.heap.size f i/\
  ((s.pre enc C.prog fn conds apart (w.forCall tape i).memory i.args/\X (w.forCall tape i).memory i.args)/\sizedMet enc C.prog fn (OpenSpec.ofChange s) apart (w.forCall tape i).memory i.args)/\a.holds C.prog (lone (Frame.enter C.prog f i.args .normal) [] (w.forCall tape i)))
 (contract:∀ (W:World) (base:Nat) (args:Array Value) (ds gs:List (DataW H)) (before:List MemPlace),
  (∀ (j:Nat) t v,fn.params[j]? =some t->args[j]? =some v->Value.okWide C.prog W .any base t v)->
  DataW.Whole enc C.prog fn.params.toList s.vars apart W args.toList ds gs before->
  conds.all (PathCond.test C.prog ⟨fn.params.toList,ds,s.plain.varTypes C.prog,gs⟩)=true->
  (DataW.weightsEach C.prog (fn.params.toList++s.plain.varTypes C.prog) (ds++gs)).all (· <=reachBytes)=true->X W args->W.ShapedOpen C.prog->
  a.holds C.prog (lone (Frame.enter C.prog f args .normal) [] W)->
  Calls C.prog f args W λe W'=>∃ v,e= .returned v/\s.post enc C.prog fn apart fresh handsOn again W args v W'):
 ReturnsInHanded a C os f .any (λw args=>(s.pre enc C.prog fn conds apart w args/\X w args)/\sizedMet enc C.prog fn (OpenSpec.ofChange s) apart w args) (s.post enc C.prog fn apart fresh handsOn again):=by
 refine returnsInHanded_of_calls own started noInit witness ?_;intro w tape i _ hsh _ hok hpre hholds;obtain ⟨_,_,_,fn',hfn',_,_,_,_,hval⟩:=hok;have e:fn'=fn:=Option.some.inj (hfn'.symm.trans hfn);subst e;obtain ⟨⟨⟨ds,gs,before,hw,hc⟩,hx⟩,hz⟩:=hpre;have hw':=DataW.Whole.of_heap (w':=w.forCall tape i) (by rfl) hw;refine (contract (w.forCall tape i) w.heap.size i.args ds gs before hval hw' hc (hz.weights hw) (hX _ _ _ (by rfl) hx) hsh hholds).mono λe W' ⟨v,he,hp⟩=>?_
 subst he;exact ChangeSpec.post_blind hp
theorem QC (os:Os) (args:Array Value):laidMetH Tryz.prog OO ((World.laidAll Tryz.prog os OO).forCall (λ_ _=>0) ⟨#[],args,[]⟩).memory:=by
 rw [MakeChecks.laidMetH_plain _ _ _ (by kernel_rfl)];exact laidMet_laidAll args (by kernel_rfl) (by kernel_rfl)
end Go.Proofs.YtikggnalmidlhaaGreatDoor.Print
