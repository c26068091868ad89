/- Words that the printed texts of this claim use: those of the kit's print (as_ its print.sh writes them for a claim) that are used here, in one text, the others left out by a program of this session. No condition. -/
import Derived.OrdersHeld
import Derived.Deep.RegionHeld3
import Derived.Laws.BitsLemmas
import Derived.RowKit
import Derived.Below
import Derived.Deep.Draws
import Derived.Deep.AppendLies
import Derived.Maps.AppendAt
import Derived.OwnWalk
import Derived.Laws.BytesArg
import Derived.Laws.MakeOwn
import Derived.Laws.OwnMore
import Derived.Deep.OwnRows
import Derived.Tactics
import Derived.Lib.ConvBytes
import Derived.Laws.Slices
import Derived.WalkKit
import Derived.KernelRfl
import Derived.RowKit3
import Derived.Deep.LoopGhost
import Derived.Deep.QuietTactic
import Derived.BigQuiet
import Derived.WideLaws
import Derived.Deep.DeepCutAuto
import Derived.Deep.CutBlock
import Derived.Laws.Rows
import Derived.Lib.AppendStr
import Derived.ArgAppend
import Derived.Laws.IdiomCopy
import Derived.Laws.StructEq
section
namespace Go.Proofs.YtikggnalmidlhaaGreatDoor.Aa
section
variable {P:Program} {ops:Array Oper} {Q:Exit->Act->World->Prop} {md:Region.Mode} {S:World->Prop} {ds:List Nat}
def Region.Ez (md:Region.Mode) (ops:Array Oper) (i:Nat):Nat->Nat->Bool
 |0,_=>false
 |fuel+1,d=>match ops[d]? with
  |some o=>o.after.any λe=>Region.binds md e&&(e.on==i||Region.Ez md ops i fuel e.on)
  |none=>false
def Region.H9 (md:Region.Mode) (ops:Array Oper) (listed:Array Bool):Bool:=
 (List.range ops.size).all λj=> !listed.getD j false||match ops[j]? with
  |some o=>o.after.all λe=> !Region.binds md e||listed.getD e.on false
  |none=>true
def Region.lastB (md:Region.Mode) (ops:Array Oper) (listed:Array Bool) (ds:List Nat) (i:Nat):Bool:=
 ds.all λd=>listed.getD d true||Region.Ez md ops i ops.size d
def Dz (md:Region.Mode) (ops:Array Oper) (listed:Array Bool):Prop:=
 ∀ j oj,ops[j]? =some oj->listed.getD j false=true->∀ e∈oj.after,Region.binds md e=true->listed.getD e.on false=true
theorem Region.LU {listed:Array Bool} (h:Region.H9 md ops listed=true):Dz md ops listed:=by
 intro j oj hj hl e he hb;have hlt:j<ops.size:=(Array.getElem?_eq_some_iff.1 hj).1;have h1:=List.all_eq_true.1 h j (List.mem_range.2 hlt);simp only [hl,hj,Bool.not_true,Bool.false_or] at h1;have h2:=Array.all_eq_true_iff_forall_mem.1 h1 e he;simpa [hb] using h2
theorem Dz.set {listed:Array Bool} {i:Nat} (h:Dz md ops listed) (hi:i∈Region.ready md ops listed):Dz md ops (listed.setIfInBounds i true):=by
 obtain ⟨_,oi,hoi,hall⟩:=mem_ready.1 hi;intro j oj hj hl e he hb;by_cases hij:i=j
 ·subst hij;have:oj=oi:=Option.some.inj (hj.symm.trans hoi);subst this;exact getD_set_true (hall e he hb)
 ·rw [getD_set_ne false hij] at hl;exact getD_set_true (h j oj hj hl e he hb)
theorem Region.IA {listed:Array Bool} {i:Nat} (hc:Dz md ops listed):∀ (fuel d:Nat),Region.Ez md ops i fuel d=true->listed.getD d false=true->listed.getD i false=true
 |0,_,h,_=>by simp [Region.Ez] at h
 |fuel+1,d,h,hl=>by
  unfold Region.Ez at h;cases ho:ops[d]? with
  |none=>rw [ho] at h;simp at h
  |some o=>
   rw [ho] at h;obtain ⟨e,he,h1⟩:=Array.any_eq_true'.1 h;simp only [Bool.and_eq_true,Bool.or_eq_true,beq_iff_eq] at h1;have hle:=hc d o ho hl e he h1.1;rcases h1.2 with h2|h2
   ·rw [<-h2];exact hle
   ·exact Region.IA hc fuel e.on h2 hle
theorem Region.JH {listed:Array Bool} {i d fuel:Nat} (hc:Dz md ops listed) (hr:Region.Ez md ops i fuel d=true) (hun:listed.getD i true=false):d∉Region.ready md ops listed:=by
 intro hd;obtain ⟨_,o,ho,hall⟩:=mem_ready.1 hd;have hi:listed.getD i false=true:=by
  cases fuel with
  |zero=>simp [Region.Ez] at hr
  |succ n=>
   unfold Region.Ez at hr;rw [ho] at hr;obtain ⟨e,he,h1⟩:=Array.any_eq_true'.1 hr;simp only [Bool.and_eq_true,Bool.or_eq_true,beq_iff_eq] at h1;have hle:=hall e he h1.1;rcases h1.2 with h2|h2
   ·rw [<-h2];exact hle
   ·exact Region.IA hc n e.on h2 hle
 rcases Nat.lt_or_ge i listed.size with h'|h'
 ·simp [h'] at hun hi;rw [hun] at hi;cases hi
 ·simp [Array.getElem?_eq_none h'] at hun
def BZ (P:Program) (md:Region.Mode) (ops:Array Oper) (Q:Exit->Act->World->Prop) (S:World->Prop) (ds:List Nat):Nat->Array Bool->Act->World->Prop
 |0,listed,a,w=>Region.ready md ops listed=[]/\Q .normal a w
 |fuel+1,listed,a,w=>
  (Region.ready md ops listed=[]->Q .normal a w)/\
  ∀ i∈Region.ready md ops listed,wpOp P ops Q i (λa' w'=>(i∉ds->S w->S w')/\BZ P md ops Q S ds fuel (listed.setIfInBounds i true) a' w') a w
theorem Ha:∀ (fuel:Nat) (listed:Array Bool) (a:Act) (w:World),BZ P md ops Q S ds fuel listed a w->wpAny P md ops Q fuel listed a w
 |0,_,_,_,h=>h
 |fuel+1,_,_,_,h=>⟨h.1,λi hi=>wpOp_mono (λa' w' h'=>Ha fuel _ a' w' h'.2) (h.2 i hi)⟩
theorem JI {i:Nat} {oi:Oper} {v:Value} (hi:ops[i]? =some oi) (hsel:∀ (j:Nat) (o:Oper) cs b,ops[j]? =some o->o.op≠ .select cs b)
 (hQ:∀ c a w,Q (.panic c) (a.put oi.dst v) w->Q (.panic c) a w) (n:Nat):
 ∀ (fuel:Nat) (listed:Array Bool) (a:Act) (w:World),
  (∀ j oj,ops[j]? =some oj->j≠i->listed.getD j true=false->(∀ e∈oj.after,Region.binds md e=true->e.on≠i)->oi.apart ops oj=true)->
  Dz md ops listed->(∀ d∈ds,listed.getD d true=false->Region.Ez md ops i n d=true)->
  i∈Region.ready md ops listed->YieldsIf P ops S oi v a->S w->
  BZ P md ops Q S ds fuel (listed.setIfInBounds i true) (a.put oi.dst v) w->BZ P md ops Q S ds (fuel+1) listed a w:=by
 intro fuel;induction fuel with
 |zero=>
  intro listed a w _ _ _ hr hy hS H;refine ⟨λh=>(by rw [h] at hr;cases hr),λj hj=>?_⟩;by_cases hji:j=i
  ·subst hji;exact hy.wpOp hi hS ⟨λ_ h=>h,H⟩
  ·have:=ready_mono hj hji;rw [H.1] at this;cases this
 |succ fuel ih=>
  intro listed a w hfree hc hd hr hy hS H;refine ⟨λh=>(by rw [h] at hr;cases hr),λj hj=>?_⟩;by_cases hji:j=i
  ·subst hji;exact hy.wpOp hi hS ⟨λ_ h=>h,H⟩
  ·have h1:=H.2 j (ready_mono hj hji);obtain ⟨hjun,oj,hoj,hall⟩:=mem_ready.1 hj;have hiun:=(mem_ready.1 hr).1;have hnot:∀ e∈oj.after,Region.binds md e=true->e.on≠i:=λe he hb heq=>by
    have h1:=hall e he hb;rw [heq] at h1;rcases Nat.lt_or_ge i listed.size with h'|h'
    ·simp [h'] at hiun h1;rw [hiun] at h1;cases h1
    ·simp [Array.getElem?_eq_none h'] at h1
   have hjd:j∉ds:=λhm=>Region.JH hc (hd j hm hjun) hiun hj
   have h2:=wpOp_putIf hoj (hfree j oj hoj hji hjun hnot) (λcs b=>hsel i oi cs b hi) (λcs b=>hsel j oj cs b hoj) hQ hy h1;have hfree':∀ k ok,ops[k]? =some ok->k≠i->(listed.setIfInBounds j true).getD k true=false->
    (∀ e∈ok.after,Region.binds md e=true->e.on≠i)->oi.apart ops ok=true:=λk ok hk hki hun hno=>by
    refine hfree k ok hk hki ?_ hno;by_cases hjk:j=k
    ·subst hjk;exact hjun
    ·rw [getD_set_ne true hjk] at hun;exact hun
   have hd':∀ d∈ds,(listed.setIfInBounds j true).getD d true=false->Region.Ez md ops i n d=true:=λd hm hun=>by
    refine hd d hm ?_;by_cases hjk:j=d
    ·subst hjk;exact hjun
    ·rw [getD_set_ne true hjk] at hun;exact hun
   refine wpOp_mono (λa' w' h3=>⟨h3.2.1,ih (listed.setIfInBounds j true) a' w' hfree' (hc.set hj) hd' (ready_mono hr (Ne.symm hji)) h3.1 (h3.2.1 hjd hS) ?_⟩) h2;rw [Array.setIfInBounds_comm _ _ hji];exact h3.2.2
theorem KM {i:Nat} {oi:Oper} {v:Value} (hi:ops[i]? =some oi) (hsel:∀ (j:Nat) (o:Oper) cs b,ops[j]? =some o->o.op≠ .select cs b)
 (hQ:∀ c a w,Q (.panic c) (a.put oi.dst v) w->Q (.panic c) a w):
 ∀ (fuel:Nat) (listed:Array Bool) (a:Act) (w:World),
  (∀ j oj,ops[j]? =some oj->j≠i->listed.getD j true=false->(∀ e∈oj.after,Region.binds md e=true->e.on≠i)->oi.apart ops oj=true)->
  i∈Region.ready md ops listed->Yields P ops oi v a->
  BZ P md ops Q S ds fuel (listed.setIfInBounds i true) (a.put oi.dst v) w->BZ P md ops Q S ds (fuel+1) listed a w:=by
 intro fuel;induction fuel with
 |zero=>
  intro listed a w _ hr hy H;refine ⟨λh=>(by rw [h] at hr;cases hr),λj hj=>?_⟩;by_cases hji:j=i
  ·subst hji;exact (hy.yieldsIf (S:=λ_=>True)).wpOp hi trivial ⟨λ_ h=>h,H⟩
  ·have:=ready_mono hj hji;rw [H.1] at this;cases this
 |succ fuel ih=>
  intro listed a w hfree hr hy H;refine ⟨λh=>(by rw [h] at hr;cases hr),λj hj=>?_⟩;by_cases hji:j=i
  ·subst hji;exact (hy.yieldsIf (S:=λ_=>True)).wpOp hi trivial ⟨λ_ h=>h,H⟩
  ·have h1:=H.2 j (ready_mono hj hji);obtain ⟨hjun,oj,hoj,hall⟩:=mem_ready.1 hj;have hiun:=(mem_ready.1 hr).1;have hnot:∀ e∈oj.after,Region.binds md e=true->e.on≠i:=λe he hb heq=>by
    have h1:=hall e he hb;rw [heq] at h1;rcases Nat.lt_or_ge i listed.size with h'|h'
    ·simp [h'] at hiun h1;rw [hiun] at h1;cases h1
    ·simp [Array.getElem?_eq_none h'] at h1
   have h2:=wpOp_put hoj (hfree j oj hoj hji hjun hnot) (λcs b=>hsel i oi cs b hi) (λcs b=>hsel j oj cs b hoj) hQ hy h1;have hfree':∀ k ok,ops[k]? =some ok->k≠i->(listed.setIfInBounds j true).getD k true=false->
    (∀ e∈ok.after,Region.binds md e=true->e.on≠i)->oi.apart ops ok=true:=λk ok hk hki hun hno=>by
    refine hfree k ok hk hki ?_ hno;by_cases hjk:j=k
    ·subst hjk;exact hjun
    ·rw [getD_set_ne true hjk] at hun;exact hun
   refine wpOp_mono (λa' w' h3=>⟨h3.2.1,ih (listed.setIfInBounds j true) a' w' hfree' (ready_mono hr (Ne.symm hji)) h3.1 ?_⟩) h2;rw [Array.setIfInBounds_comm _ _ hji];exact h3.2.2
theorem Jc {i:Nat} {oi:Oper} {v:Value} {fuel:Nat} {listed:Array Bool} {a:Act} {w:World} (hi:ops[i]? =some oi)
 (hs:Region.noSelect ops=true) (hf:Region.free md ops listed i=true) (hr:(Region.ready md ops listed).contains i=true)
 (hc:Region.H9 md ops listed=true) (hl:Region.lastB md ops listed ds i=true)
 (hQ:∀ c a w,Q (.panic c) (a.put oi.dst v) w->Q (.panic c) a w) (hy:YieldsIf P ops S oi v a) (hS:S w)
 (h:BZ P md ops Q S ds fuel (listed.setIfInBounds i true) (a.put oi.dst v) w):BZ P md ops Q S ds (fuel+1) listed a w:=
 JI hi (Region.noSelect_spec hs) hQ ops.size fuel listed a w (Region.free_spec hi hf) (Region.LU hc)
  (λd hm hun=>by have:=List.all_eq_true.1 hl d hm;rw [hun] at this;simpa using this) (by simpa using hr) hy hS h
theorem KN {rs:List Nat} {fuel:Nat} {listed:Array Bool} {a:Act} {w:World} (hr:Region.ready md ops listed=rs) (hne:rs≠[])
 (h:∀ i∈rs,wpOp P ops Q i (λa' w'=>(i∉ds->S w->S w')/\BZ P md ops Q S ds fuel (listed.setIfInBounds i true) a' w') a w):BZ P md ops Q S ds (fuel+1) listed a w:=
 ⟨λh0=>absurd (hr▸h0) hne,hr▸h⟩
theorem Jd {listed:Array Bool} {a:Act} {w:World} (hr:Region.ready md ops listed=[]) (h:Q .normal a w):
 ∀ fuel,BZ P md ops Q S ds fuel listed a w
 |0=>⟨hr,h⟩
 |_+1=>⟨λ_=>h,by rw [hr];simp⟩
theorem Je {id:Nat} {a:Act} {w:World} (hm:P.follows .mixedOrders=true)
 (h:BZ P .any ops Q S ds ops.size (Array.replicate ops.size false) a {w with drawn:=w.drawn+1}):(Code.region id ops true).wp P Q a w:=
 wp_region_any hm (Ha _ _ _ _ h)
end
section
variable {P:Program} {ops:Array Oper} {Q:Exit->Act->World->Prop} {md:Region.Mode} {S:World->Prop} {ds:List Nat}
def Dc (P:Program) (md:Region.Mode) (ops:Array Oper) (Q:Exit->Act->World->Prop) (S:World->Prop) (ds:List Nat) (fuel:Nat) (listed:Array Bool) (a:Act) (w:World) (rs:List Nat):Prop:=
 ∀ i∈rs,wpOp P ops Q i (λa' w'=>(i∉ds->S w->S w')/\BZ P md ops Q S ds fuel (listed.setIfInBounds i true) a' w') a w
theorem Dc.nil {fuel:Nat} {listed:Array Bool} {a:Act} {w:World}:Dc P md ops Q S ds fuel listed a w []:=λ_ h=>by cases h
theorem Dc.cons {fuel:Nat} {listed:Array Bool} {a:Act} {w:World} {i:Nat} {o:Oper} {rs:List Nat} (ho:ops[i]? =some o) (hd:i∉ds)
 (h:∀ K':Act->World->Prop,Shut (∀ a w,S w->(S w->BZ P md ops Q S ds fuel (listed.setIfInBounds i true) a w)->K' a w)->if Region.wanted o (yielded ops a.tmps)=true then Oper.wp P o a w K' Q else K' (a.put o.dst undef) w)
 (hs:Dc P md ops Q S ds fuel listed a w rs):Dc P md ops Q S ds fuel listed a w (i::rs):=λj hj=>by
 rcases List.mem_cons.1 hj with rfl|hj
 ·exact wpOp_step ho (λK' hK=>h K' (λa w hS hW=>hK a w ⟨λ_ _=>hS,hW hS⟩))
 ·exact hs j hj
theorem Dc.O8 {fuel:Nat} {listed:Array Bool} {a:Act} {w:World} {i:Nat} {o:Oper} {rs:List Nat} (ho:ops[i]? =some o) (hd:i∈ds)
 (h:∀ K':Act->World->Prop,Shut (∀ a w,BZ P md ops Q S ds fuel (listed.setIfInBounds i true) a w->K' a w)->if Region.wanted o (yielded ops a.tmps)=true then Oper.wp P o a w K' Q else K' (a.put o.dst undef) w)
 (hs:Dc P md ops Q S ds fuel listed a w rs):Dc P md ops Q S ds fuel listed a w (i::rs):=λj hj=>by
 rcases List.mem_cons.1 hj with rfl|hj
 ·exact wpOp_step ho (λK' hK=>h K' (λa w hW=>hK a w ⟨λhn=>absurd hd hn,hW⟩))
 ·exact hs j hj
theorem GV {rs:List Nat} {fuel:Nat} {listed:Array Bool} {a:Act} {w:World} (hr:Region.ready md ops listed=rs) (hne:rs≠[])
 (h:Dc P md ops Q S ds fuel listed a w rs):BZ P md ops Q S ds (fuel+1) listed a w:=KN hr hne h
theorem Eg {id n:Nat} {a:Act} {w:World} (l:Array Bool) (hm:P.follows .mixedOrders=true) (hn:ops.size=n) (hl:Array.replicate n false=l) (hS:S w.drew)
 (h:S w.drew->BZ P .any ops Q S ds n l a w.drew):(Code.region id ops true).wp P Q a w:=by
 subst hn;subst hl;exact Je hm (h hS)
def takeB (md:Region.Mode) (ops:Array Oper) (ds:List Nat) (l l':Array Bool) (i:Nat):Bool:=
 Region.noSelect ops&&Region.free md ops l i&&(Region.ready md ops l).contains i&&Region.H9 md ops l&&Region.lastB md ops l ds i&&(l.setIfInBounds i true==l')
theorem OT {i:Nat} {N:Option Tmp} {oi:Oper} {v:Value} {fuel:Nat} {l:Array Bool} {a:Act} {w:World} (l':Array Bool) (hi:ops[i]? =some oi) (hN:oi.dst=N) (hc:takeB md ops ds l l' i=true)
 (hQ:∀ c a w,Q (.panic c) (a.put oi.dst v) w->Q (.panic c) a w) (hy:YieldsIf P ops S oi v a) (hS:S w) {a':Act} (ha:a.put N v=a')
 (h:BZ P md ops Q S ds fuel l' a' w):BZ P md ops Q S ds (fuel+1) l a w:=by
 subst ha;subst hN;simp only [takeB,Bool.and_eq_true,beq_iff_eq] at hc;obtain ⟨⟨⟨⟨⟨h1,h2⟩,h3⟩,h4⟩,h5⟩,h6⟩:=hc;subst h6;exact Jc hi h1 h2 h3 h4 h5 hQ hy hS h
def O9 (md:Region.Mode) (ops:Array Oper) (l l':Array Bool) (i:Nat):Bool:=
 Region.noSelect ops&&Region.free md ops l i&&(Region.ready md ops l).contains i&&(l.setIfInBounds i true==l')
theorem Gh {i:Nat} {N:Option Tmp} {oi:Oper} {v:Value} {fuel:Nat} {l:Array Bool} {a:Act} {w:World} (l':Array Bool) (hi:ops[i]? =some oi) (hN:oi.dst=N) (hc:O9 md ops l l' i=true)
 (hQ:∀ c a w,Q (.panic c) (a.put oi.dst v) w->Q (.panic c) a w) (hy:Yields P ops oi v a) {a':Act} (ha:a.put N v=a')
 (h:BZ P md ops Q S ds fuel l' a' w):BZ P md ops Q S ds (fuel+1) l a w:=by
 subst ha;subst hN;simp only [O9,Bool.and_eq_true,beq_iff_eq] at hc;obtain ⟨⟨⟨h1,h2⟩,h3⟩,h6⟩:=hc;subst h6;exact KM hi (Region.noSelect_spec h1) hQ fuel l a w (Region.free_spec hi h2) (by simpa using h3) hy h
def Ig (md:Region.Mode) (ops:Array Oper) (l l':Array Bool) (i:Nat):Bool:=(Region.ready md ops l==[i])&&(l.setIfInBounds i true==l')
theorem D8 {i:Nat} {N:Option Tmp} {oi:Oper} {fuel:Nat} {l:Array Bool} {a:Act} {w:World} (l':Array Bool) (hi:ops[i]? =some oi) (hN:oi.dst=N) (hc:Ig md ops l l' i=true) (hd:i∉ds)
 (h:∀ K:Act->World->Prop,Shut (∀ a' w',S w'->(S w'->BZ P md ops Q S ds fuel l' a' w')->K a' w')->if Region.wanted oi (yielded ops a.tmps)=true then Oper.wp P oi a w K Q else K (a.put N undef) w):
 BZ P md ops Q S ds (fuel+1) l a w:=by
 subst hN;simp only [Ig,Bool.and_eq_true,beq_iff_eq] at hc;obtain ⟨h1,h2⟩:=hc;subst h2;exact GV h1 (by simp) (Dc.cons hi hd (λK hK=>h K hK) Dc.nil)
theorem Um {i:Nat} {N:Option Tmp} {oi:Oper} {fuel:Nat} {l:Array Bool} {a:Act} {w:World} (l':Array Bool) (hi:ops[i]? =some oi) (hN:oi.dst=N) (hc:Ig md ops l l' i=true) (hd:i∈ds)
 (h:∀ K:Act->World->Prop,Shut (∀ a' w',BZ P md ops Q S ds fuel l' a' w'->K a' w')->if Region.wanted oi (yielded ops a.tmps)=true then Oper.wp P oi a w K Q else K (a.put N undef) w):
 BZ P md ops Q S ds (fuel+1) l a w:=by
 subst hN;simp only [Ig,Bool.and_eq_true,beq_iff_eq] at hc;obtain ⟨h1,h2⟩:=hc;subst h2;exact GV h1 (by simp) (Dc.O8 hi hd (λK hK=>h K hK) Dc.nil)
theorem Fe {l:Array Bool} {a:Act} {w:World} {n:Nat} (hr:(Region.ready md ops l==[])=true) (h:Q .normal a w):BZ P md ops Q S ds n l a w:=Jd (by simpa using hr) h n
theorem VR {fuel:Nat} {l:Array Bool} {a a':Act} {w:World} (ha:a=a') (h:BZ P md ops Q S ds fuel l a' w):BZ P md ops Q S ds fuel l a w:=by
 subst ha;exact h
theorem call_ {oi:Oper} {N:Option Tmp} {a:Act} {w:World} {K:Act->World->Prop} (f:FuncId) (args:Array Value) (hw:Region.wanted oi (yielded ops a.tmps)=true) (hN:oi.dst=N) (hrun:(execOp a.eval oi).run P w= .ok (.enter f args) w)
 (h:Calls P f args w λe w'=>∃ v,e= .returned v/\K (a.put N v) w'):if Region.wanted oi (yielded ops a.tmps)=true then Oper.wp P oi a w K Q else K (a.put N undef) w:=by
 rw [if_pos hw];subst hN;unfold Oper.wp;rw [hrun,Oper.upon_enter];refine h.mono λe w'' hh=>?_
 obtain ⟨v,rfl,hk⟩:=hh;exact hk
theorem LV {f:FuncId} {fn:Func} (hf:P.funcs[f]? =some fn) (hname:(fn.name== "runtime.NumGoroutine")=false) (hb:fn.body.isSome=true) (args:Array Value) (w:World):(callFunc f args).run P w= .ok (.enter f args) w:=by
 have h1:fn.name≠ "runtime.NumGoroutine":=by simpa using hname
 obtain ⟨c,hc⟩:=Option.isSome_iff_exists.1 hb;simp [callFunc,hf,h1,hc]
theorem Dy {oi:Oper} {N:Option Tmp} {a:Act} {w:World} {K:Act->World->Prop} {f:FuncId} {fn:Func} {as_:Array Operand} {ts:Array TypeId} (hf:P.funcs[f]? =some fn) (hname:(fn.name== "runtime.NumGoroutine")=false) (hb:fn.body.isSome=true) (args:Array Value)
 (hw:Region.wanted oi (yielded ops a.tmps)=true) (hN:oi.dst=N) (hop:oi.op= .call {callee:= .value (.func f),args:=as_,argTypes:=ts}) (hargs:as_.map a.eval=args)
 (h:Calls P f args w λe w'=>∃ v,e= .returned v/\K (a.put N v) w'):if Region.wanted oi (yielded ops a.tmps)=true then Oper.wp P oi a w K Q else K (a.put N undef) w:=by
 refine call_ f args hw hN ?_ h;have he:=LV hf hname hb args w;unfold execOp;simp [hop,resolve,Deferred.ofValue,invoke,Act.eval,hargs,he]
theorem Ak {rest:List Oper} {oi:Oper} {a:Act} {w:World} (N:Option Tmp) (hd:oi.dst=N) (hg:oi.guard=none) {f:FuncId} {fn:Func} {as_:Array Operand} {ts:Array TypeId} (hf:P.funcs[f]? =some fn) (hname:(fn.name== "runtime.NumGoroutine")=false) (hb:fn.body.isSome=true) (args:Array Value)
 (hop:oi.op= .call {callee:= .value (.func f),args:=as_,argTypes:=ts}) (hargs:as_.map a.eval=args)
 (h:Calls P f args w λe w'=>∃ v,e= .returned v/\wpList P ops Q rest (a.put N v) w'):wpList P ops Q (oi::rest) a w:=by
 refine wpList_plain hg λK hK=>?_
 have he:=LV hf hname hb args w;have hrun:(execOp a.eval oi).run P w= .ok (.enter f args) w:=by
  unfold execOp;simp [hop,resolve,Deferred.ofValue,invoke,Act.eval,hargs,he]
 unfold Oper.wp;rw [hrun,Oper.upon_enter];refine h.mono λe w'' hh=>?_
 obtain ⟨v,rfl,hk⟩:=hh;subst hd;exact hK _ _ hk
theorem QL {oi:Oper} {a:Act} {w w1:World} {K:Act->World->Prop} (hw:Region.wanted oi (yielded ops a.tmps)=true) (hN:oi.dst=none) (hrun:(execOp a.eval oi).run P w= .ok .skip w1)
 (h:K a w1):if Region.wanted oi (yielded ops a.tmps)=true then Oper.wp P oi a w K Q else K (a.put none undef) w:=by
 rw [if_pos hw];unfold Oper.wp;rw [hrun];show K (a.put oi.dst undef) w1;rw [hN];exact h
theorem DL (n:Int):IntKind.i64.wrap n=Go.RowKit.wrap64 n:=by unfold Go.RowKit.wrap64;exact IntKind.wrap_i64 n
theorem DU (n:Int):IntKind.i32.wrap n=Go.RowKit.wrap32 n:=by unfold Go.RowKit.wrap32;exact IntKind.wrap_i32 n
end
end Go.Proofs.YtikggnalmidlhaaGreatDoor.Aa
end
section
set_option linter.unusedVariables false
set_option linter.unusedSimpArgs false
namespace Go.Proofs.YtikggnalmidlhaaGreatDoor.AR
open RowKit
structure AA (p:Prop):Prop where mk::(out:p)
structure Ap (w w':World):Prop where mk::(out:∃ n,w'=w.drewN n)
theorem Ap.refl (w:World):Ap w w:=⟨⟨0,rfl⟩⟩
theorem Ap.step {w w':World} (h:Ap w w') (n:Nat):Ap w (w'.drewN n):=by
 obtain ⟨m,rfl⟩:=h;exact ⟨⟨m+n,World.drewN_drewN ..⟩⟩
theorem Ap.grown {w w':World} (h:Ap w w'):Grown w w':=by
 obtain ⟨n,rfl⟩:=h;induction n with
 |zero=>exact Grown.refl _
 |succ n ih=>rw [<-World.drew_drewN];exact Grown.drew ih
theorem Ap.below {w w':World} (h:Ap w w'):Below w.heap.size w w':=by
 obtain ⟨n,rfl⟩:=h;induction n with
 |zero=>exact Below.refl _ _
 |succ n ih=>rw [<-World.drew_drewN];exact ih.drew
def rd (xs:List Int) (i:Int):Int:=xs.getD i.toNat 0
def bt (s:ByteArray) (i:Int):Int:=if h:i.toNat<s.size then ((s[i.toNat]'h).toNat:Int) else 0
theorem Br (s:ByteArray) (i:Int):∀ h:i.toNat<s.size,((s[i.toNat]'h).toNat:Int)=bt s i:=λh=>by simp [bt,h]
theorem Fz (s:ByteArray) (i:Int):0<=bt s i/\bt s i<=255:=by
 unfold bt;split
 ·rename_i h;have:=(s[i.toNat]'h).toNat_lt;omega
 ·omega
def nums (k:IntKind) (xs:List Int):List Value:=xs.map λx=> .int k x
theorem Bj {w W:World} (h:Below w.heap.size w W) (o:Obj):Below w.heap.size w (W.alloc o):=h.alloc h.size o
theorem Eo {B:Nat} {w W:World} (h:Below B w W):Below B w W.drew:=⟨h.os,h.tape,h.output,h.size,h.block⟩
theorem Bw {B:Nat} {w W:World} (h:Below B w W) (n:Nat):Below B w (W.drewN n):=⟨h.os,h.tape,h.output,h.size,h.block⟩
theorem NY {B:Nat} {w w1 w2:World} (h:Below B w w1) (hB:B<=w1.heap.size) (k:Below w1.heap.size w1 w2):Below B w w2:=
 h.trans ⟨k.os,k.tape,k.output,k.size,λi hi=>k.block i (Nat.lt_of_lt_of_le hi hB)⟩
theorem Jf {w w1:World} (h:Below w.heap.size w w1) (row:Option Nat):w.grownBy w1 row:=⟨h.os,h.tape,h.output,h.size,λi hi _=>h.block i hi⟩
theorem AJ {w w1:World} (h:Below w.heap.size w w1) {a:Addr} {v:Value} (hc:w.cell? a=some v):w1.cell? a=some v:=(h.cell (World.block_lt_of_cell? w a hc)).trans hc
theorem add_plain (g j:Nat):(⟨g,0,none⟩:Addr).add j=⟨g,j,none⟩:=by unfold Addr.add;split<;>simp_all
def Df (w:World) (k:IntKind) (A:Option Addr) (n:Nat) (xs:List Int):Prop:=
 xs.length=n/\n<=9223372036854775807/\(0<n->∃ ad,A=some ad/\∀ j,j<n->w.cell? (ad.add j)=some (.int k (xs.getD j 0)))
theorem Df.at_ {w:World} {k:IntKind} {A:Option Addr} {n:Nat} {xs:List Int} (h:Df w k A n xs) (i:Int) (h0:0<=i) (h1:i<n):∃ ad,A=some ad/\w.cell? (ad.add i.toNat)=some (.int k (rd xs i)):=by
 obtain ⟨ad,e,hc⟩:=h.2.2 (by omega);exact ⟨ad,e,hc _ (by omega)⟩
theorem Df.below {w w1:World} {k:IntKind} {A:Option Addr} {n:Nat} {xs:List Int} (h:Df w k A n xs) (hb:Below w.heap.size w w1):Df w1 k A n xs:=
 ⟨h.1,h.2.1,λhn=>by
  obtain ⟨ad,e,hc⟩:=h.2.2 hn
  exact ⟨ad,e,λj hj=>AJ hb (hc j hj)⟩⟩
theorem Rp (W:World) (base:Nat) (e:TypeId) (size:Nat):W.ownsRow base e size (.slice none 0 0) 0 []:=⟨by simp, .inl ⟨rfl,rfl⟩⟩
theorem IB {w:World} {base:Nat} {e:TypeId} {size n:Nat} {v:Value} {xs:List Value} (h:w.ownsRow base e size v n xs) (k:Nat) (hk:v.ownBlock=some k):base<=k:=by
 rcases h.2 with ⟨rfl,_⟩|⟨g,cap,cur,rfl,hb,_⟩
 ·simp [Value.ownBlock] at hk
 ·have:g=k:=by simpa [Value.ownBlock] using hk
  omega
theorem QM {w:World} {base:Nat} {e:TypeId} {size n:Nat} {v:Value} {xs:List Value} (h:w.ownsRow base e size v n xs) (k:Nat) (hk:v.ownBlock=some k):k<w.heap.size:=by
 rcases h.2 with ⟨rfl,_⟩|⟨g,cap,cur,rfl,hb,hh,_⟩
 ·simp [Value.ownBlock] at hk
 ·have:g=k:=by simpa [Value.ownBlock] using hk
  subst this;exact (Array.getElem?_eq_some_iff.1 hh).1
theorem IC {w w1:World} {base:Nat} {e:TypeId} {size n:Nat} {v:Value} {xs:List Value} (h:w.ownsRow base e size v n xs) (hb:Below w.heap.size w w1):w1.ownsRow base e size v n xs:=
 h.kept (Jf hb none) (by cases v.ownBlock<;>simp)
theorem Jg {P:Program} {w:World} {base n:Nat} {e' src dst e:TypeId} {v:Value} {xs:List Int} (hs:P.underlying src=some (.slice e)) (he:P.underlying e=some (.int .u8)) (hd:P.underlying dst=some .string)
 (h:w.ownsRow base e' 1 v n (nums .u8 xs)):(convert src dst v).run P w= .ok (.string (strOfNums xs)) w:=by
 have hl:xs.length=n:=by have:=h.1;simp [nums] at this;exact this
 rcases h.2 with ⟨rfl,rfl⟩|⟨g,cap,cur,rfl,_⟩
 ·obtain rfl:xs=[]:=List.eq_nil_of_length_eq_zero hl;exact run_convert_bytes_nil w src e hs he 0 0 dst hd
 ·refine run_convert_bytes_arg w src e hs he g 0 n cap xs hl (λi hi=>?_) dst hd;have hc:=h.cells (g:=g) rfl i (.int .u8 (xs.getD i 0)) (by simp [nums,List.getElem?_eq_getElem (show i<xs.length by omega),List.getD_eq_getElem?_getD]);have ha:(⟨g,0,none⟩:Addr).add i=⟨g,0+i,none⟩:=by unfold Addr.add;split<;>simp_all
  rwa [ha] at hc
def bytesOf (s:ByteArray):List Int:=s.data.toList.map λb=>(b.toNat:Int)
theorem Gi (s:ByteArray):s.data.toList.length=s.size:=by rw [Array.length_toList];rfl
theorem bytesOf_length (s:ByteArray):(bytesOf s).length=s.size:=by rw [bytesOf,List.length_map,Gi]
theorem Jh (s:ByteArray) (i:Int):rd (bytesOf s) i=bt s i:=by
 unfold rd bt bytesOf;split
 ·rename_i h;have h':i.toNat<s.data.toList.length:=by rw [Gi];exact h
  simp [List.getD_eq_getElem?_getD,List.getElem?_eq_getElem h'];rfl
 ·rename_i h;have h':s.data.toList.length<=i.toNat:=by rw [Gi];omega
  simp [List.getD_eq_getElem?_getD,List.getElem?_eq_none h']
theorem Df.OT {w:World} {k:IntKind} {A:Option Addr} {n:Nat} {xs:List Int} (h:Df w k A n xs) (i:Nat) (hi:i<=n):Df w k A i (xs.take i):=by
 refine ⟨by rw [List.length_take,h.1];omega,by have:=h.2.1;omega,λhp=>?_⟩;obtain ⟨ad,e,hc⟩:=h.2.2 (by omega);refine ⟨ad,e,λj hj=>?_⟩;rw [hc j (by omega)];simp [List.getD_eq_getElem?_getD,hj]
def Bz {α:Type} (a b:Option α):Prop:=∀ r,a=some r->b=some r
theorem Bz.refl {α:Type} (a:Option α):Bz a a:=λ_ h=>h
theorem Bz.none {α:Type} (b:Option α):Bz Option.none b:=λ_ h=>by cases h
theorem Bz.trans {α:Type} {a b c:Option α} (h:Bz a b) (k:Bz b c):Bz a c:=λr hr=>k r (h r hr)
theorem Bz.ite {α:Type} {c:Prop} [Decidable c] {a a' b b':Option α} (h:Bz a a') (k:Bz b b'):Bz (if c then a else b) (if c then a' else b'):=by
 split
 ·exact h
 ·exact k
theorem Bz.bind {α β:Type} {a a':Option α} {f f':α->Option β} (h:Bz a a') (k:∀ x,Bz (f x) (f' x)):Bz (a.bind f) (a'.bind f'):=by
 intro r hr;obtain ⟨x,hx,hf⟩:=Option.bind_eq_some_iff.1 hr;exact Option.bind_eq_some_iff.2 ⟨x,h x hx,k x r hf⟩
theorem Bz.map {α β:Type} {a a':Option α} (f:α->β) (h:Bz a a'):Bz (a.map f) (a'.map f):=by
 intro r hr;obtain ⟨x,hx,hf⟩:=Option.map_eq_some_iff.1 hr;exact Option.map_eq_some_iff.2 ⟨x,h x hx,hf⟩
def CG {α:Type} (R:α->List Value->Prop) (size:Nat) (ps:List α) (cs:List Value):Prop:=
 cs.length=ps.length*size/\∀ j p,ps[j]? =some p->R p ((cs.drop (j*size)).take size)
theorem CG.none {α:Type} (R:α->List Value->Prop) (size:Nat):CG R size [] []:=⟨by simp,λj p h=>by simp at h⟩
theorem CG.snoc {α:Type} {R:α->List Value->Prop} {size:Nat} {ps:List α} {cs c:List Value} {p:α} (h:CG R size ps cs) (hp:R p c) (hc:c.length=size):CG R size (ps++[p]) (cs++c):=by
 refine ⟨by rw [List.length_append,h.1,hc,List.length_append,List.length_singleton,Nat.add_mul,Nat.one_mul],λj q hq=>?_⟩;rcases Nat.lt_or_ge j ps.length with hj|hj
 ·rw [List.getElem?_append_left hj] at hq;have h1:j*size+size<=cs.length:=by rw [h.1, <-Nat.succ_mul];exact Nat.mul_le_mul_right _ hj
  have h2:=h.2 j q hq;rw [List.drop_append_of_le_length (by omega),List.take_append_of_le_length (by rw [List.length_drop];omega)];exact h2
 ·have hj':j=ps.length:=by
   have:=(List.getElem?_eq_some_iff.1 hq).1;rw [List.length_append,List.length_singleton] at this;omega
  subst hj';have hq':p=q:=by simpa using hq
  subst hq';rw [<-h.1,List.drop_left, <-hc,List.take_length];exact hp
theorem CG.GK {α:Type} {R R':α->List Value->Prop} {size:Nat} {ps:List α} {cs:List Value} (h:CG R size ps cs) (hR:∀ p c,R p c->R' p c):CG R' size ps cs:=⟨h.1,λj p hj=>hR _ _ (h.2 j p hj)⟩
def Dl {α:Type} (R:α->List Value->Prop) (size:Nat) (w:World) (A:Option Addr) (n:Nat) (ps:List α):Prop:=
 ps.length=n/\n<=9223372036854775807/\(0<n->∃ ad,A=some ad/\∀ j p,ps[j]? =some p->∃ c,c.length=size/\R p c/\∀ i u,c[i]? =some u->w.cell? (ad.add (j*size+i))=some u)
theorem Dl.VG {α:Type} {R:α->List Value->Prop} {size:Nat} {w:World} {A:Option Addr} {n:Nat} {ps:List α} (h:Dl R size w A n ps) (d:α) (i:Int) (h0:0<=i) (h1:i<n):
 ∃ ad c,A=some ad/\c.length=size/\R (ps.getD i.toNat d) c/\∀ j u,c[j]? =some u->w.cell? (ad.add (i.toNat*size+j))=some u:=by
 obtain ⟨ad,e,hc⟩:=h.2.2 (by omega);have hl:i.toNat<ps.length:=by have:=h.1;omega
 obtain ⟨c,hs,hr,hcell⟩:=hc i.toNat _ (List.getElem?_eq_getElem hl);refine ⟨ad,c,e,hs,?_,hcell⟩;rw [List.getD_eq_getElem?_getD,List.getElem?_eq_getElem hl];exact hr
theorem Dl.GK {α:Type} {R R':α->List Value->Prop} {size:Nat} {w w1:World} {A:Option Addr} {n:Nat} {ps:List α} (h:Dl R size w A n ps) (hb:Below w.heap.size w w1) (hR:∀ p c,R p c->R' p c):Dl R' size w1 A n ps:=
 ⟨h.1,h.2.1,λhn=>by
  obtain ⟨ad,e,hc⟩:=h.2.2 hn
  refine ⟨ad,e,λj p hj=>?_⟩
  obtain ⟨c,hs,hr,hcell⟩:=hc j p hj
  exact ⟨c,hs,hR _ _ hr,λi u hu=>AJ hb (hcell i u hu)⟩⟩
theorem KO {α:Type} {R:α->List Value->Prop} {w:World} {base n size:Nat} {e:TypeId} {v:Value} {ps:List α} {cs:List Value} (h:w.ownsRow base e size v n cs) (hR:CG R size ps cs) (hn:ps.length=n):
 ∃ A c,v= .slice A n c/\Dl R size w A n ps:=by
 rcases Nat.eq_zero_or_pos n with h0|h0
 ·rcases h.2 with ⟨rfl,rfl⟩|⟨g,cap,cur,rfl,_⟩
  ·exact ⟨none,0,rfl,hn,by omega,λhp=>absurd hp (by omega)⟩
  ·exact ⟨_,cap,rfl,hn,by omega,λhp=>absurd hp (by omega)⟩
 ·obtain ⟨g,cap,rfl,_,_⟩:=h.form h0;have hm:n<=9223372036854775807:=by
   rcases h.2 with ⟨_,h1⟩|⟨g',cap',cur,he,_,_,h1,h2,_⟩
   ·omega
   ·simp only [maxLen] at h2;omega
  refine ⟨_,cap,rfl,hn,hm,λ_=>⟨_,rfl,λj p hj=>⟨(cs.drop (j*size)).take size,?_,hR.2 j p hj,λi u hu=>?_⟩⟩⟩
  ·have hjl:=(List.getElem?_eq_some_iff.1 hj).1;have h1:j*size+size<=cs.length:=by rw [hR.1, <-Nat.succ_mul];exact Nat.mul_le_mul_right _ hjl
   rw [List.length_take,List.length_drop];omega
  ·refine h.cells (g:=g) rfl _ u ?_;rw [List.getElem?_take] at hu;split at hu
   ·rw [List.getElem?_drop] at hu;exact hu
   ·cases hu
theorem Cc (ad:Addr) (m j:Nat) (hj:0<j):ad.add (m+j)=⟨(ad.add m).block,(ad.add m).off+j,none⟩:=by
 unfold Addr.add;by_cases hm:m=0
 ·subst hm;simp [Nat.ne_of_gt hj]
 ·simp [hm,Nat.add_assoc]
section
variable {P:Program} {ops:Array Oper} {rest:List Oper} {o:Oper} {a:Act} {Q:Exit->Act->World->Prop}
theorem FV {w0 W:World} (base:Nat) (hgd:o.guard=none) (s x:Operand) (t e:TypeId) (z:Value) (size bytes:Nat)
 (ho:o.op= .call {callee:= .builtin .append,args:=#[s,x],argTypes:=#[t,t]})
 (ht:P.underlying t=some (.slice e)) (hinfo:(P.info? e).map (λi=>(i.zero,i.size,i.bytes))=some (some z,size,bytes)) (hz:z.cells.size=size) (hs0:0<size) (hb0:0<bytes)
 (v:Value) (n:Nat) (xs ys:List Value) (hs:a.eval s=v) (hx:a.eval x= .slice (some ⟨W.heap.size,0,none⟩) 1 1) (hys:ys.length=size) (h1:∀ u∈ys,u.oneCell'=true)
 (HO:W.ownsRow base e size v n xs) (HB:Below base w0 W) (hbase:base<=W.heap.size) (hl:(n+1)*bytes<=140737488355328)
 (h:∀ v1 w1,w1.ownsRow base e size v1 (n+1) (xs++ys)->Below base w0 w1->W.grownBy w1 v.ownBlock->(v1.ownBlock=v.ownBlock\/∃ b,v1.ownBlock=some b/\W.heap.size<=b)->wpList P ops Q rest (a.put o.dst v1) w1):
 wpList P ops Q (o::rest) a (W.alloc (.cells ys.toArray e)):=by
 obtain ⟨i0,hi,hzz⟩:=Option.map_eq_some_iff.1 hinfo;simp only [Prod.mk.injEq] at hzz;obtain ⟨hz0,hz1,hz2⟩:=hzz;have hlen:n+1<=140737488355328:=Nat.le_trans (Nat.le_mul_of_pos_right _ hb0) hl;refine wpList_append_own_at (W.alloc (.cells ys.toArray e)) hgd s x t ho base e i0 z size bytes ht hi hz0 hz1 hz2 hz hs0 v n xs hs (HO.alloc _) ⟨W.heap.size,0,none⟩ 1 1 ys hx (by rw [hys];simp)
  (by simpa using World.news_of_block (cs:=ys.toArray) (t:=e) (fr:=(0,0)) (heap_alloc_new W (.cells ys.toArray e))) h1 (by simp only [maxLen];omega) hl (by simp;omega) ?_
 intro v1 w1 hown hg _ hat;refine h v1 w1 hown ((HB.alloc hbase _).grown hg (by simp;omega) (IB HO)) (World.grownBy.trans (World.grownBy_alloc W _ _) hg) ?_;rcases hat with hat|hat
 ·exact .inl hat
 ·exact .inr ⟨_,hat,by simp⟩
end
theorem own_ne {w:World} {base:Nat} {e t:TypeId} {size n g:Nat} {v:Value} {xs:List Value} {cs:Array Value} (h:w.ownsRow base e size v n xs) (hg:w.heap[g]? =some (.cells cs t (0,0))) (hne:e≠t):some g≠v.ownBlock:=by
 rcases h.2 with ⟨rfl,_⟩|⟨g',cap,cur,rfl,_,hh,_⟩
 ·simp [Value.ownBlock]
 ·intro he;have:g=g':=by simpa [Value.ownBlock] using he
  subst this;rw [hg] at hh;injection hh with hh
  injection hh with _ ht
  exact hne ht.symm
theorem Rq {w:World} {g:Nat} {t:TypeId} {cs:Array Value} (h:w.heap[g]? =some (.cells cs t (0,0))) (i:Nat) (u:Value):(w.setCell ⟨g,i,none⟩ u).heap[g]? =some (.cells (cs.setIfInBounds i u) t (0,0)):=by
 simp [World.setCell,Array.getElem?_modify,h]
theorem Gj {w:World} {g:Nat} {o:Obj} (h:w.heap[g]? =some o):g<w.heap.size:=(Array.getElem?_eq_some_iff.1 h).1
theorem AL {w:World} {g:Nat} {t:TypeId} {cs:Array Value} (h:w.heap[g]? =some (.cells cs t (0,0))) (i:Nat):w.cell? ⟨g,i,none⟩=cs[i]? :=cell_of_row w g i cs t (0,0) h
theorem AX {w:World} {g:Nat} {t:TypeId} {cs:Array Value} (h:w.heap[g]? =some (.cells cs t (0,0))) (i:Nat):w.frozen? ⟨g,i,none⟩=false:=by simp [World.frozen?,h]
theorem EY {w w1:World} {g:Nat} {o:Obj} {row:Option Nat} (h:w.heap[g]? =some o) (hg:w.grownBy w1 row) (hne:some g≠row):w1.heap[g]? =some o:=(hg.block g (Gj h) hne).trans h
def EP (w w':World) (g:Nat) (row:Option Nat):Prop:=w.heap.size<=w'.heap.size/\∀ i,i<w.heap.size->i≠g->some i≠row->w'.heap[i]? =w.heap[i]?
theorem EP.refl (w:World) (g:Nat) (row:Option Nat):EP w w g row:=⟨Nat.le_refl _,λ_ _ _ _=>rfl⟩
theorem EP.of_below {w w1:World} (h:Below w.heap.size w w1) (g:Nat) (row:Option Nat):EP w w1 g row:=⟨h.size,λi hi _ _=>h.block i hi⟩
theorem EP.trans {w w1 w2:World} {g:Nat} {row row1:Option Nat} (h:EP w w1 g row) (k:EP w1 w2 g row1) (hr:row1=row\/∃ b,row1=some b/\w.heap.size<=b):EP w w2 g row:=
 ⟨Nat.le_trans h.1 k.1,λi hi hg hn=>by
  refine (k.2 i (Nat.lt_of_lt_of_le hi h.1) hg ?_).trans (h.2 i hi hg hn)
  rcases hr with rfl|⟨b,rfl,hb⟩
  ·exact hn
  ·intro e
   injection e with e
   omega⟩
theorem EP.blk {w w1:World} {g g':Nat} {row:Option Nat} {o:Obj} (h:EP w w1 g row) (hb:w.heap[g']? =some o) (hg:g'≠g) (hr:some g'≠row):w1.heap[g']? =some o:=(h.2 g' (Gj hb) hg hr).trans hb
theorem EP.own {w w1:World} {g:Nat} {row:Option Nat} {base:Nat} {e:TypeId} {size n:Nat} {v:Value} {xs:List Value} (h:EP w w1 g row) (ho:w.ownsRow base e size v n xs) (hg:v.ownBlock≠some g) (hr:v.ownBlock=none\/v.ownBlock≠row):w1.ownsRow base e size v n xs:=by
 obtain ⟨h1,h2⟩:=ho;refine ⟨h1,?_⟩;rcases h2 with h2|⟨b,cap,cur,rfl,hb,hh,r⟩
 ·exact .inl h2
 ·refine .inr ⟨b,cap,cur,rfl,hb,h.blk hh ?_ ?_,r⟩
  ·intro e;exact hg (by rw [<-e];rfl)
  ·rcases hr with hr|hr
   ·simp [Value.ownBlock] at hr
   ·exact hr
def Ev {α:Type} (g:Nat->Option α) (r:α):Prop:=∃ K,∀ k,K<=k->g k=some r
theorem Ev.now {α:Type} (r:α):Ev (λ_=>some r) r:=⟨0,λ_ _=>rfl⟩
theorem Ev.rounds {α:Type} {g:Nat->Option α} {r:α} (h:Ev g r):∃ k,g k=some r:=by
 obtain ⟨K,h⟩:=h;exact ⟨K,h K (Nat.le_refl _)⟩
theorem Ev.bind {α β:Type} {g:Nat->Option α} {f:Nat->α->Option β} {a:α} {r:β} (h:Ev g a) (k:Ev (λn=>f n a) r):Ev (λn=>(g n).bind (f n)) r:=by
 obtain ⟨K,h⟩:=h;obtain ⟨K',k⟩:=k;refine ⟨max K K',λn hn=>?_⟩;have h1:=h n (by omega);have h2:=k n (by omega);simp only [h1,Option.bind_some];exact h2
theorem Ev.step {α:Type} {g f:Nat->Option α} {r:α} (h:∀ k,g (k+1)=f k) (k:Ev f r):Ev g r:=by
 obtain ⟨K,k⟩:=k;refine ⟨K+1,λn hn=>?_⟩;obtain ⟨m,rfl⟩:∃ m,n=m+1:=⟨n - 1,by omega⟩;rw [h];exact k m (by omega)
theorem Ev.congr {α:Type} {g f:Nat->Option α} {r:α} (h:∀ k,g k=f k) (k:Ev f r):Ev g r:=by
 obtain ⟨K,k⟩:=k;exact ⟨K,λn hn=>(h n).trans (k n hn)⟩
theorem EU {w:World} {base base':Nat} {e:TypeId} {size n:Nat} {v:Value} {xs:List Value} (h:w.ownsRow base e size v n xs) (hb:base'<=base):w.ownsRow base' e size v n xs:=by
 obtain ⟨h1,h2⟩:=h;refine ⟨h1,?_⟩;rcases h2 with h2|⟨g,cap,cur,rfl,hg,r⟩
 ·exact .inl h2
 ·exact .inr ⟨g,cap,cur,rfl,Nat.le_trans hb hg,r⟩
section
variable {α:Type} {enc:α->Value} {d:α}
def encs (enc:α->Value) (xs:List α):List Value:=xs.map enc
def Cf (d:α) (xs:List α) (i:Int):α:=xs.getD i.toNat d
theorem I6 (xs:List α):(encs enc xs).length=xs.length:=by simp [encs]
def Dq (enc:α->Value) (d:α) (w:World) (A:Option Addr) (n:Nat) (xs:List α):Prop:=
 xs.length=n/\n<=9223372036854775807/\(0<n->∃ ad,A=some ad/\∀ j,j<n->w.cell? (ad.add j)=some (enc (xs.getD j d)))
theorem Dq.at_ {w:World} {A:Option Addr} {n:Nat} {xs:List α} (h:Dq enc d w A n xs) (i:Int) (h0:0<=i) (h1:i<n):∃ ad,A=some ad/\w.cell? (ad.add i.toNat)=some (enc (Cf d xs i)):=by
 obtain ⟨ad,e,hc⟩:=h.2.2 (by omega);exact ⟨ad,e,hc _ (by omega)⟩
theorem Dq.below {w w1:World} {A:Option Addr} {n:Nat} {xs:List α} (h:Dq enc d w A n xs) (hb:Below w.heap.size w w1):Dq enc d w1 A n xs:=
 ⟨h.1,h.2.1,λhn=>by
  obtain ⟨ad,e,hc⟩:=h.2.2 hn
  exact ⟨ad,e,λj hj=>AJ hb (hc j hj)⟩⟩
theorem Dq.OT {w:World} {A:Option Addr} {n:Nat} {xs:List α} (h:Dq enc d w A n xs) (i:Nat) (hi:i<=n):Dq enc d w A i (xs.take i):=by
 refine ⟨by rw [List.length_take,h.1];omega,by have:=h.2.1;omega,λhp=>?_⟩;obtain ⟨ad,e,hc⟩:=h.2.2 (by omega);refine ⟨ad,e,λj hj=>?_⟩;rw [hc j (by omega)];simp [List.getD_eq_getElem?_getD,hj]
end
theorem EZ {w:World} {g:Nat} {o:Obj} (h:w.heap[g]? =some o) (o':Obj):(w.alloc o').heap[g]? =some o:=(Below.heap_alloc w o' g (Gj h)).trans h
theorem CX {w:World} {g:Nat} {o:Obj} (h:w.heap[g]? =some o):w.drew.heap[g]? =some o:=h
theorem Ea {w:World} {g:Nat} {o:Obj} (h:w.heap[g]? =some o) (n:Nat):(w.drewN n).heap[g]? =some o:=h
theorem DV {w w1:World} {g:Nat} {o:Obj} (h:w.heap[g]? =some o) (hb:Below w.heap.size w w1):w1.heap[g]? =some o:=(hb.block g (Gj h)).trans h
theorem Eh (w:World) (o:Obj):(w.alloc o).heap[w.heap.size]? =some o:=heap_alloc_new w o
section
variable {P:Program}
theorem DC {fn:Func} {p u:Tmp} {ty:TypeId} (h:fn.results=#[.cell p ty, .tmp u]) (tmps:Array Value) (w:World) (g:Nat) (t:TypeId) (cs:Array Value) (fr:Nat×Nat) (d:TypeDesc)
 (hp:tmps.getD p undef= .pointer (some ⟨g,0,none⟩)) (hg:w.heap[g]? =some (.cells cs t fr))
 (hu:P.underlying ty=some d) (hd:(match d with| .struct _| .array _ _=>true|_=>false)=true) (hi:(P.info? ty).map (·.size)=some cs.size):
 (results fn tmps).run P w= .ok (.tuple #[.agg cs,tmps.getD u undef]) w:=by
 have hp':tmps[p]?.getD undef= .pointer (some ⟨g,0,none⟩):=by simpa using hp
 simp [results,h,hp',asAddr,run_loadVar_row w g t ty cs fr d hg hu hd hi]
end
theorem Tk {w:World} {base n m c size:Nat} {e:TypeId} {A:Option Addr} {xs:List Value} (h:w.ownsRow base e size (.slice A m c) n xs):m<=c:=by
 rcases h.2 with ⟨he,_⟩|⟨g,cap,cur,he,_,_,hnc,_⟩
 ·injection he with _ h2 h3
  omega
 ·injection he with _ h2 h3
  omega
def D5 {α:Type} (R:α->List Value->Prop) (e:TypeId) (size:Nat) (w:World) (base:Nat) (v:Value) (ps:List α):Prop:=
 ∃ inner,w.ownsRow base e size v ps.length inner/\CG R size ps inner
section
variable {α:Type} {R R':α->List Value->Prop} {e:TypeId} {size:Nat} {w w1:World} {base:Nat} {v:Value} {ps:List α}
theorem D5.none_ (R:α->List Value->Prop) (e:TypeId) (size:Nat) (w:World) (base:Nat):D5 R e size w base (.slice none 0 0) []:=⟨[],Rp _ _ _ _,CG.none _ _⟩
theorem D5.GK (h:D5 R e size w base v ps) (hR:∀ p c,R p c->R' p c):D5 R' e size w base v ps:=by
 obtain ⟨inner,ho,hr⟩:=h;exact ⟨inner,ho,hr.GK hR⟩
theorem D5.below (h:D5 R e size w base v ps) (hb:Below w.heap.size w w1):D5 R e size w1 base v ps:=by
 obtain ⟨inner,ho,hr⟩:=h;exact ⟨inner,IC ho hb,hr⟩
theorem D5.reads (h:D5 R e size w base v ps):∃ A c,v= .slice A ps.length c/\ps.length<=c/\Dl R size w A ps.length ps:=by
 obtain ⟨inner,ho,hr⟩:=h;obtain ⟨A,c,rfl,hrow⟩:=KO ho hr rfl;exact ⟨A,c,rfl,Tk ho,hrow⟩
theorem D5.QN (h:D5 R e size w base v ps) {g:Nat} {t:TypeId} {cells:Array Value} (hb:w.heap[g]? =some (.cells cells t (0,0))) (ht:e≠t):some g≠v.ownBlock:=by
 obtain ⟨inner,ho,hr⟩:=h;exact own_ne ho hb ht
end
section
variable {P:Program} {ops:Array Oper} {rest:List Oper} {o:Oper} {a:Act} {Q:Exit->Act->World->Prop} {α:Type} {R:α->List Value->Prop}
theorem D5.append {w0 W:World} (base:Nat) (hgd:o.guard=none) (s x:Operand) (t e:TypeId) (z:Value) (size bytes:Nat)
 (ho:o.op= .call {callee:= .builtin .append,args:=#[s,x],argTypes:=#[t,t]})
 (ht:P.underlying t=some (.slice e)) (hinfo:(P.info? e).map (λi=>(i.zero,i.size,i.bytes))=some (some z,size,bytes)) (hz:z.cells.size=size) (hs0:0<size) (hb0:0<bytes)
 (v:Value) (ps:List α) (p:α) (cs:List Value) (hs:a.eval s=v) (hx:a.eval x= .slice (some ⟨W.heap.size,0,none⟩) 1 1) (hp:R p cs) (hcs:cs.length=size) (h1:∀ u∈cs,u.oneCell'=true)
 (HO:D5 R e size W base v ps) (HB:Below base w0 W) (hbase:base<=W.heap.size) (hl:(ps.length+1)*bytes<=140737488355328)
 (h:∀ v1 w1,D5 R e size w1 base v1 (ps++[p])->Below base w0 w1->W.grownBy w1 v.ownBlock->(v1.ownBlock=v.ownBlock\/∃ b,v1.ownBlock=some b/\W.heap.size<=b)->wpList P ops Q rest (a.put o.dst v1) w1):
 wpList P ops Q (o::rest) a (W.alloc (.cells cs.toArray e)):=by
 obtain ⟨inner,hown,hr⟩:=HO;refine FV base hgd s x t e z size bytes ho ht hinfo hz hs0 hb0 v ps.length inner cs hs hx hcs h1 hown HB hbase hl ?_;intro v1 w1 hown1 hb1 hg1 hat1;exact h v1 w1 ⟨inner++cs,by rw [List.length_append,List.length_singleton];exact hown1,hr.snoc hp hcs⟩ hb1 hg1 hat1
end
theorem Dl.Tm {α:Type} {R:α->List Value->Prop} {size:Nat} {w:World} {ad:Addr} {n:Nat} {ps:List α} (h:Dl R size w (some ad) n ps):
 ∃ inner,CG R size ps inner/\∀ j u,inner[j]? =some u->w.cell? (ad.add j)=some u:=by
 have key:∀ m,m<=ps.length->∃ inner,CG R size (ps.take m) inner/\∀ j u,inner[j]? =some u->w.cell? (ad.add j)=some u:=by
  intro m;induction m with
  |zero=>exact λ_=>⟨[],CG.none _ _,λj u hu=>by simp at hu⟩
  |succ m ih=>
   intro hm;obtain ⟨inner,hr,hc⟩:=ih (by omega);obtain ⟨ad',he,hcell⟩:=h.2.2 (by have:=h.1;omega);injection he with he
   subst he;obtain ⟨c,hcl,hp,hcc⟩:=hcell m _ (List.getElem?_eq_getElem (show m<ps.length by omega));refine ⟨inner++c,?_,λj u hu=>?_⟩
   ·rw [List.take_succ_eq_append_getElem (show m<ps.length by omega)];exact hr.snoc hp hcl
   ·have hil:inner.length=m*size:=by rw [hr.1,List.length_take,Nat.min_eq_left (by omega)]
    rcases Nat.lt_or_ge j inner.length with hj|hj
    ·rw [List.getElem?_append_left hj] at hu;exact hc j u hu
    ·rw [List.getElem?_append_right hj] at hu;have:=hcc (j - inner.length) u hu;rwa [hil,Nat.add_sub_cancel' (by omega)] at this
 obtain ⟨inner,hr,hc⟩:=key ps.length (Nat.le_refl _);rw [List.take_length] at hr;exact ⟨inner,hr,hc⟩
structure Kd (α:Type) where
 sz:Nat
 E:List Nat
 K:World->α->List Value->Prop
 M:World->Nat->(Nat->Prop)->α->List Value->Prop
 K_len:∀ {w x cs},K w x cs->cs.length=sz
 K_one:∀ {w x cs},K w x cs->∀ u∈cs,u.oneCell'=true
 K_below:∀ {w w1:World} {x cs},Below w.heap.size w w1->K w x cs->K w1 x cs
 K_of_M:∀ {w base ok x cs},M w base ok x cs->K w x cs
 M_mono:∀ {w base ok ok' x cs},(∀ k,ok k->ok' k)->M w base ok x cs->M w base ok' x cs
 M_bound:∀ {w:World} {base ok x cs},M w base ok x cs->M w base (λk=>ok k/\base<=k/\k<w.heap.size/\∃ q,q∈E/\∃ cells,w.heap[k]? =some (.cells cells q (0,0))) x cs
 M_move:∀ {w w1:World} {base ok x cs},(∀ k,ok k->w1.heap[k]? =w.heap[k]?)->M w base ok x cs->M w1 base ok x cs
 M_lower:∀ {w base base' ok x cs},base'<=base->M w base ok x cs->M w base' ok x cs
theorem QO {w w1:World} {base:Nat} {e:TypeId} {size n:Nat} {v:Value} {xs:List Value} (h:w.ownsRow base e size v n xs) (hm:∀ k,v.ownBlock=some k->w1.heap[k]? =w.heap[k]?):w1.ownsRow base e size v n xs:=by
 obtain ⟨h1,h2⟩:=h;refine ⟨h1,?_⟩;rcases h2 with h2|⟨g,cap,cur,rfl,hg,hh,r⟩
 ·exact .inl h2
 ·exact .inr ⟨g,cap,cur,rfl,hg,(hm g (by simp [Value.ownBlock])).trans hh,r⟩
theorem Km {w:World} {base:Nat} {e:TypeId} {size n:Nat} {v:Value} {xs:List Value} (h:w.ownsRow base e size v n xs) (k:Nat) (hk:v.ownBlock=some k):∃ cells,w.heap[k]? =some (.cells cells e (0,0)):=by
 rcases h.2 with ⟨rfl,_⟩|⟨g,cap,cur,rfl,hg,hh,r⟩
 ·simp [Value.ownBlock] at hk
 ·have:g=k:=by simpa [Value.ownBlock] using hk
  subst this;exact ⟨cur,hh⟩
namespace Kd
def C {α:Type} (d:Kd α) (w:World) (A:Option Addr) (n:Nat) (xs:List α):Prop:=Dl (d.K w) d.sz w A n xs
def R {α:Type} (d:Kd α) (e:Nat) (w:World) (base:Nat) (ok:Nat->Prop) (v:Value) (xs:List α):Prop:=
 (∀ k,v.ownBlock=some k->ok k)/\D5 (d.M w base (λk=>ok k/\some k≠v.ownBlock)) e d.sz w base v xs
section
variable {α:Type} {d:Kd α} {e:Nat} {w w1:World} {base:Nat} {ok ok':Nat->Prop} {v:Value} {xs:List α}
theorem DW {A:Option Addr} {n:Nat} (h:d.C w A n xs) (hb:Below w.heap.size w w1):d.C w1 A n xs:=Dl.GK h hb (λ_ _ hp=>d.K_below hb hp)
theorem Eu (d:Kd α) (e:Nat) (w:World) (base:Nat) (ok:Nat->Prop):d.R e w base ok (.slice none 0 0) []:=⟨λk hk=>by simp [Value.ownBlock] at hk,D5.none_ _ _ _ _ _⟩
theorem CQ (h:d.R e w base ok v xs) (hok:∀ k,ok k->ok' k):d.R e w base ok' v xs:=⟨λk hk=>hok k (h.1 k hk),h.2.GK (λ_ _ hp=>d.M_mono (λk hk=>⟨hok k hk.1,hk.2⟩) hp)⟩
theorem Ei (h:d.R e w base ok v xs):d.R e w base (λk=>ok k/\base<=k/\k<w.heap.size/\∃ q,q∈e::d.E/\∃ cells,w.heap[k]? =some (.cells cells q (0,0))) v xs:=by
 obtain ⟨h0,inner,ho,hr⟩:=h;refine ⟨λk hk=>?_,inner,ho,hr.GK (λ_ _ hp=>d.M_mono (λk hk=>?_) (d.M_bound hp))⟩
 ·obtain ⟨cells,hc⟩:=Km ho k hk;exact ⟨h0 k hk,IB ho k hk,QM ho k hk,e,List.mem_cons_self,cells,hc⟩
 ·obtain ⟨⟨h1,h2⟩,h3,h4,q,hq,hc⟩:=hk;exact ⟨⟨h1,h3,h4,q,List.mem_cons_of_mem _ hq,hc⟩,h2⟩
theorem Ih (h:d.R e w base ok v xs) (hm:∀ k,ok k->w1.heap[k]? =w.heap[k]?):d.R e w1 base ok v xs:=by
 obtain ⟨h0,inner,ho,hr⟩:=h;exact ⟨h0,inner,QO ho (λk hk=>hm k (h0 k hk)),hr.GK (λ_ _ hp=>d.M_move (λk hk=>hm k hk.1) hp)⟩
theorem Cm {base':Nat} (h:d.R e w base ok v xs) (hb:base'<=base):d.R e w base' ok v xs:=by
 obtain ⟨h0,inner,ho,hr⟩:=h;exact ⟨h0,inner,EU ho hb,hr.GK (λ_ _ hp=>d.M_lower hb hp)⟩
theorem LW (h:d.R e w base ok v xs) (hm:∀ k,ok k->k<w.heap.size->w1.heap[k]? =w.heap[k]?):d.R e w1 base ok v xs:=
 CQ (Ih (Ei h) (λk hk=>hm k hk.1 hk.2.2.1)) (λ_ hk=>hk.1)
theorem QP {x:α} {cs:List Value} (h:d.M w base ok x cs) (hm:∀ k,ok k->k<w.heap.size->w1.heap[k]? =w.heap[k]?):d.M w1 base ok x cs:=
 d.M_mono (λ_ hk=>hk.1) (d.M_move (λk hk=>hm k hk.1 hk.2.2.1) (d.M_bound h))
theorem BX (h:d.R e w base ok v xs) (hb:Below w.heap.size w w1):d.R e w1 base ok v xs:=LW h (λk _ hk=>hb.block k hk)
theorem OU {x:α} {cs:List Value} (h:d.M w base ok x cs) (hb:Below w.heap.size w w1):d.M w1 base ok x cs:=QP h (λk _ hk=>hb.block k hk)
theorem CY (h:d.R e w base ok v xs) {p:Addr} (hok:∀ k,ok k->k≠p.block) (u:Value):d.R e (w.setCell p u) base ok v xs:=LW h (λk ho _=>Below.heap_setCell w p u k (hok k ho))
theorem CS (h:d.R e w base ok v xs) {g t:Nat} {cells:Array Value} (hb:w.heap[g]? =some (.cells cells t (0,0))) (ht:∀ q,q∈e::d.E->q≠t):d.R e w base (λk=>ok k/\k≠g) v xs:=
 CQ (Ei h) (λk hk=>⟨hk.1,by
  obtain ⟨_,_,_,q,hq,cells',hc⟩:=hk
  rintro rfl
  rw [hc] at hb
  injection hb with hb
  injection hb with _ hb
  exact ht q hq hb⟩)
theorem JP (h:d.R e w base ok v xs):∃ A c,v= .slice A xs.length c/\xs.length<=c/\d.C w A xs.length xs:=by
 obtain ⟨A,c,he,hl,hr⟩:=D5.reads h.2;exact ⟨A,c,he,hl,hr.GK (Below.refl _ _) (λ_ _ hp=>d.K_of_M hp)⟩
theorem CE (h:d.R e w base ok v xs):∃ A c,v= .slice A xs.length c:=by
 obtain ⟨A,c,he,_⟩:=JP h;exact ⟨A,c,he⟩
theorem QQ (h:d.R e w base ok v xs):∃ inner,w.ownsRow base e d.sz v xs.length inner:=by
 obtain ⟨_,inner,ho,_⟩:=h;exact ⟨inner,ho⟩
theorem Tn (h:d.R e w base ok v xs) {g t:Nat} {cells:Array Value} (hb:w.heap[g]? =some (.cells cells t (0,0))) (ht:e≠t):some g≠v.ownBlock:=D5.QN h.2 hb ht
end
def scalar {α:Type} (enc:α->Value) (h1:∀ x,(enc x).oneCell'=true):Kd α where
 sz:=1
 E:=[]
 K:=λ_ x cs=>cs=[enc x]
 M:=λ_ _ _ x cs=>cs=[enc x]
 K_len:=λh=>by rw [h];rfl
 K_one:=λh u hu=>by
  rw [h] at hu;rw [List.mem_singleton.1 hu];exact h1 _
 K_below:=λ_ h=>h
 K_of_M:=λh=>h
 M_mono:=λ_ h=>h
 M_bound:=λh=>h
 M_move:=λ_ h=>h
 M_lower:=λ_ h=>h
def int (k:IntKind):Kd Int:=scalar (Value.int k) (λ_=>rfl)
def bool:Kd Bool:=scalar Value.bool (λ_=>rfl)
def string:Kd ByteArray:=scalar Value.string (λ_=>rfl)
def slice {α:Type} (e:Nat) (d:Kd α):Kd (List α) where
 sz:=1
 E:=e::d.E
 K:=λw xs cs=>∃ A c,cs=[.slice A xs.length c]/\xs.length<=c/\d.C w A xs.length xs
 M:=λw base ok xs cs=>∃ v,cs=[v]/\d.R e w base ok v xs
 K_len:=by
  rintro w x cs ⟨A,c,rfl,_⟩;rfl
 K_one:=by
  rintro w x cs ⟨A,c,rfl,_⟩ u hu;rw [List.mem_singleton.1 hu];rfl
 K_below:=by
  rintro w w1 x cs hb ⟨A,c,rfl,hl,hr⟩;exact ⟨A,c,rfl,hl,DW hr hb⟩
 K_of_M:=by
  rintro w base ok x cs ⟨v,rfl,h⟩;obtain ⟨A,c,rfl,hl,hr⟩:=JP h;exact ⟨A,c,rfl,hl,hr⟩
 M_mono:=by
  rintro w base ok ok' x cs hok ⟨v,rfl,h⟩;exact ⟨v,rfl,CQ h hok⟩
 M_bound:=by
  rintro w base ok x cs ⟨v,rfl,h⟩;exact ⟨v,rfl,Ei h⟩
 M_move:=by
  rintro w w1 base ok x cs hm ⟨v,rfl,h⟩;exact ⟨v,rfl,Ih h hm⟩
 M_lower:=by
  rintro w base base' ok x cs hb ⟨v,rfl,h⟩;exact ⟨v,rfl,Cm h hb⟩
def pair {α β:Type} (a:Kd α) (b:Kd β):Kd (α×β) where
 sz:=a.sz+b.sz
 E:=a.E++b.E
 K:=λw x cs=>∃ c0 c1,cs=c0++c1/\a.K w x.1 c0/\b.K w x.2 c1
 M:=λw base ok x cs=>∃ c0 c1,cs=c0++c1/\a.M w base ok x.1 c0/\b.M w base ok x.2 c1
 K_len:=by
  rintro w x cs ⟨c0,c1,rfl,h0,h1⟩;rw [List.length_append,a.K_len h0,b.K_len h1]
 K_one:=by
  rintro w x cs ⟨c0,c1,rfl,h0,h1⟩ u hu;rcases List.mem_append.1 hu with hu|hu
  ·exact a.K_one h0 u hu
  ·exact b.K_one h1 u hu
 K_below:=by
  rintro w w1 x cs hb ⟨c0,c1,rfl,h0,h1⟩;exact ⟨c0,c1,rfl,a.K_below hb h0,b.K_below hb h1⟩
 K_of_M:=by
  rintro w base ok x cs ⟨c0,c1,rfl,h0,h1⟩;exact ⟨c0,c1,rfl,a.K_of_M h0,b.K_of_M h1⟩
 M_mono:=by
  rintro w base ok ok' x cs hok ⟨c0,c1,rfl,h0,h1⟩;exact ⟨c0,c1,rfl,a.M_mono hok h0,b.M_mono hok h1⟩
 M_bound:=by
  rintro w base ok x cs ⟨c0,c1,rfl,h0,h1⟩;refine ⟨c0,c1,rfl,a.M_mono ?_ (a.M_bound h0),b.M_mono ?_ (b.M_bound h1)⟩
  ·rintro k ⟨h2,h3,h4,q,hq,hc⟩;exact ⟨h2,h3,h4,q,List.mem_append_left _ hq,hc⟩
  ·rintro k ⟨h2,h3,h4,q,hq,hc⟩;exact ⟨h2,h3,h4,q,List.mem_append_right _ hq,hc⟩
 M_move:=by
  rintro w w1 base ok x cs hm ⟨c0,c1,rfl,h0,h1⟩;exact ⟨c0,c1,rfl,a.M_move hm h0,b.M_move hm h1⟩
 M_lower:=by
  rintro w base base' ok x cs hb ⟨c0,c1,rfl,h0,h1⟩;exact ⟨c0,c1,rfl,a.M_lower hb h0,b.M_lower hb h1⟩
def VH {α β:Type} (d:Kd α) (f:β->α):Kd β where
 sz:=d.sz
 E:=d.E
 K:=λw x cs=>d.K w (f x) cs
 M:=λw base ok x cs=>d.M w base ok (f x) cs
 K_len:=d.K_len
 K_one:=d.K_one
 K_below:=d.K_below
 K_of_M:=d.K_of_M
 M_mono:=d.M_mono
 M_bound:=d.M_bound
 M_move:=d.M_move
 M_lower:=d.M_lower
theorem QR {α:Type} {d:Kd α} {w:World} {A:Option Addr} {n:Nat} {xs:List α} (h:d.C w A n xs) (z:α) (i:Int) (h0:0<=i) (h1:i<n):
 ∃ ad c,A=some ad/\c.length=d.sz/\d.K w (xs.getD i.toNat z) c/\∀ j u,c[j]? =some u->w.cell? (ad.add (i.toNat*d.sz+j))=some u:=Dl.VG h z i h0 h1
theorem NZ {α:Type} {d:Kd α} {e base:Nat} {ok okp:Nat->Prop} {W w1:World} {v v1:Value} {xs:List α} {p:α} {inner cs:List Value} (h0:∀ k,v.ownBlock=some k->ok k) (hr:CG (d.M W base (λk=>ok k/\some k≠v.ownBlock)) d.sz xs inner) (hp:d.M W base okp p cs) (hokp:∀ k,okp k->ok k/\some k≠v.ownBlock) (hfresh:∀ k,W.heap.size<=k->ok k)
 (hown:w1.ownsRow base e d.sz v1 (xs.length+1) (inner++cs)) (hg:W.grownBy w1 v.ownBlock) (hat:v1.ownBlock=v.ownBlock\/∃ b,v1.ownBlock=some b/\W.heap.size<=b):d.R e w1 base ok v1 (xs++[p]):=by
 have hne:∀ k,some k≠v.ownBlock->k<W.heap.size->some k≠v1.ownBlock:=by
  intro k hk hlt;rcases hat with hat|⟨b,hb,hle⟩
  ·rw [hat];exact hk
  ·rw [hb];intro he;injection he with he
   omega
 have step:∀ {q:α} {c:List Value} {o:Nat->Prop},d.M W base o q c->(∀ k,o k->ok k/\some k≠v.ownBlock)->d.M w1 base (λk=>ok k/\some k≠v1.ownBlock) q c:=by
  intro q c o hq ho;have h1:=d.M_move (w1:=w1) (λk hk=>hg.block k hk.2.2.1 (ho k hk.1).2) (d.M_bound hq);exact d.M_mono (λk hk=>⟨(ho k hk.1).1,hne k (ho k hk.1).2 hk.2.2.1⟩) h1
 refine ⟨λk hk=>?_,inner++cs,by rw [List.length_append,List.length_singleton];exact hown,?_⟩
 ·rcases hat with hat|⟨b,hb,hle⟩
  ·exact h0 k (hat▸hk)
  ·rw [hb] at hk;injection hk with hk
   exact hfresh k (by omega)
 ·exact (hr.GK (λ_ _ hq=>step hq (λ_ hk=>hk))).snoc (step hp hokp) (d.K_len (d.K_of_M hp))
section
variable {P:Program} {ops:Array Oper} {rest:List Oper} {o:Oper} {a:Act} {Q:Exit->Act->World->Prop} {α:Type}
theorem Ej (d:Kd α) {w0 W:World} (base:Nat) (hgd:o.guard=none) (s x:Operand) (t e:TypeId) (z:Value) (bytes:Nat)
 (ho:o.op= .call {callee:= .builtin .append,args:=#[s,x],argTypes:=#[t,t]})
 (ht:P.underlying t=some (.slice e)) (hinfo:(P.info? e).map (λi=>(i.zero,i.size,i.bytes))=some (some z,d.sz,bytes)) (hz:z.cells.size=d.sz) (hs0:0<d.sz) (hb0:0<bytes)
 (v:Value) (xs:List α) (p:α) (cs:List Value) (ok okp:Nat->Prop) (hs:a.eval s=v) (hx:a.eval x= .slice (some ⟨W.heap.size,0,none⟩) 1 1) (hp:d.M W base okp p cs) (hokp:∀ k,okp k->ok k/\some k≠v.ownBlock) (hfresh:∀ k,W.heap.size<=k->ok k)
 (HO:d.R e W base ok v xs) (HB:Below base w0 W) (hbase:base<=W.heap.size) (hl:(xs.length+1)*bytes<=140737488355328)
 (h:∀ v1 w1,d.R e w1 base ok v1 (xs++[p])->Below base w0 w1->W.grownBy w1 v.ownBlock->(v1.ownBlock=v.ownBlock\/∃ b,v1.ownBlock=some b/\W.heap.size<=b)->wpList P ops Q rest (a.put o.dst v1) w1):
 wpList P ops Q (o::rest) a (W.alloc (.cells cs.toArray e)):=by
 obtain ⟨h0,inner,hown,hr⟩:=HO;refine FV base hgd s x t e z d.sz bytes ho ht hinfo hz hs0 hb0 v xs.length inner cs hs hx (d.K_len (d.K_of_M hp)) (d.K_one (d.K_of_M hp)) hown HB hbase hl ?_;intro v1 w1 hown1 hb1 hg1 hat1;exact h v1 w1 (NZ h0 hr hp hokp hfresh hown1 hg1 hat1) hb1 hg1 hat1
end
theorem MW {α:Type} {enc:α->Value} (xs:List α):CG (λ(x:α) (cs:List Value)=>cs=[enc x]) 1 xs (encs enc xs):=by
 refine ⟨by simp [encs],λj p hj=>?_⟩;obtain ⟨hl,hp⟩:=List.getElem?_eq_some_iff.1 hj;have hl':j<(encs enc xs).length:=by rw [I6];exact hl
 rw [Nat.mul_one,List.drop_eq_getElem_cons hl'];simp [encs,hp]
theorem MX {α:Type} {enc:α->Value} {h1:∀ x,(enc x).oneCell'=true} {e:Nat} {w:World} {base:Nat} {ok:Nat->Prop} {v:Value} {xs:List α} (ho:w.ownsRow base e 1 v xs.length (encs enc xs)) (hok:∀ k,v.ownBlock=some k->ok k):(scalar enc h1).R e w base ok v xs:=⟨hok,encs enc xs,ho,MW xs⟩
theorem Ji {α:Type} {enc:α->Value} {h1:∀ x,(enc x).oneCell'=true} {e:Nat} {w:World} {base:Nat} {ok:Nat->Prop} {v:Value} {xs:List α} (h:(scalar enc h1).R e w base ok v xs):w.ownsRow base e 1 v xs.length (encs enc xs):=by
 obtain ⟨_,inner,ho,hr⟩:=h;have:inner=encs enc xs:=by
  apply List.ext_getElem?;intro j;rcases Nat.lt_or_ge j xs.length with hj|hj
  ·have h2:=hr.2 j _ (List.getElem?_eq_getElem hj);have hl:j<inner.length:=by have:=hr.1;simp [scalar] at this;omega
   have h3:(inner.drop (j*1)).take 1=[enc xs[j]]:=h2;rw [Nat.mul_one,List.drop_eq_getElem_cons hl] at h3;have h4:inner[j]=enc xs[j]:=by
    have h5:=congrArg List.head? h3;rw [List.take_succ_cons] at h5;exact Option.some.inj h5
   rw [List.getElem?_eq_getElem hl,h4];simp [encs,List.getElem?_eq_getElem hj]
  ·have h3:inner.length=xs.length:=by have:=hr.1;simp [scalar] at this;omega
   rw [List.getElem?_eq_none (by omega),List.getElem?_eq_none (by rw [I6];omega)]
 rw [<-this];exact ho
theorem Jj {α:Type} {enc:α->Value} {d:α} {h1:∀ x,(enc x).oneCell'=true} {w:World} {A:Option Addr} {n:Nat} {xs:List α} (h:(scalar enc h1).C w A n xs):Dq enc d w A n xs:=by
 refine ⟨h.1,h.2.1,λhn=>?_⟩;obtain ⟨ad,e,hc⟩:=h.2.2 hn;refine ⟨ad,e,λj hj=>?_⟩;have hl:j<xs.length:=by have:=h.1;omega
 obtain ⟨c,_,hK,hcell⟩:=hc j _ (List.getElem?_eq_getElem hl);have hK':c=[enc xs[j]]:=hK;subst hK';have:=hcell 0 _ rfl;simpa [scalar,List.getD_eq_getElem?_getD,List.getElem?_eq_getElem hl] using this
end Kd
namespace Kd
structure VV {α β:Type} (F:Kd α->Kd β):Prop where
 sz:∀ d d':Kd α,d.sz=d'.sz->(F d).sz=(F d').sz
 K:∀ d d':Kd α,d.sz=d'.sz->(∀ w x cs,d.K w x cs->d'.K w x cs)->∀ w x cs,(F d).K w x cs->(F d').K w x cs
 M:∀ d d':Kd α,d.sz=d'.sz->(∀ w base ok x cs,d.M w base ok x cs->d'.M w base ok x cs)->∀ w base ok x cs,(F d).M w base ok x cs->(F d').M w base ok x cs
end Kd
namespace Kd
theorem IE {α:Type} {d:Kd α} {e base:Nat} {ok:Nat->Prop} {W w1:World} {u v v1:Value} {xs:List α} (h:d.R e W base (λk=>ok k/\some k≠v.ownBlock) u xs) (hg:W.grownBy w1 v.ownBlock) (hat:v1.ownBlock=v.ownBlock\/∃ b,v1.ownBlock=some b/\W.heap.size<=b):d.R e w1 base (λk=>ok k/\some k≠v1.ownBlock) u xs:=by
 refine CQ (Ih (Ei h) (λk hk=>hg.block k hk.2.2.1 hk.1.2)) (λk hk=>⟨hk.1.1,?_⟩);rcases hat with hat|⟨b,hb,hle⟩
 ·rw [hat];exact hk.1.2
 ·rw [hb];intro he;injection he with he
  have:=hk.2.2.1;omega
end Kd
namespace Kd
section
variable {α β:Type} {d:Kd α} {d':Kd β} {e e':Nat} {w w1 W:World} {base b b':Nat} {ok ok' okv oku:Nat->Prop} {v u:Value} {xs:List α} {ys:List β}
theorem Bd (h:d.R e w base ok v xs) (o:Obj):d.R e (w.alloc o) base ok v xs:=BX h (Bj (Below.refl _ _) o)
theorem Bl (h:d.R e w base ok v xs):d.R e w.drew base ok v xs:=BX h (Eo (Below.refl _ _))
theorem Be (h:d.R e w base ok v xs) (m:Nat):d.R e (w.drewN m) base ok v xs:=BX h (Bw (Below.refl _ _) m)
theorem CZ {A:Option Addr} {n:Nat} (h:d.C w A n xs) (o:Obj):d.C (w.alloc o) A n xs:=DW h (Bj (Below.refl _ _) o)
theorem Cs {A:Option Addr} {n:Nat} (h:d.C w A n xs):d.C w.drew A n xs:=DW h (Eo (Below.refl _ _))
theorem Cb {A:Option Addr} {n:Nat} (h:d.C w A n xs) (m:Nat):d.C (w.drewN m) A n xs:=DW h (Bw (Below.refl _ _) m)
theorem TG (d:Kd α) (w:World):d.C w none ([]:List α).length []:=⟨rfl,by simp,λh=>absurd h (Nat.lt_irrefl 0)⟩
theorem BH {A:Option Addr} {n c:Nat} (h:d.R e w base ok (.slice A n c) xs):n=xs.length/\n<=c/\d.C w A xs.length xs:=by
 obtain ⟨A',c',he,hl,hr⟩:=JP h;injection he with h1 h2 h3
 subst h1;exact ⟨h2,by omega,hr⟩
theorem MZ (h:d.R e w base ok v xs):∀ k,v.ownBlock=some k->k<w.heap.size:=by
 obtain ⟨inner,ho⟩:=QQ h;exact QM ho
theorem D6 (h:d.R e w base ok v xs):∀ k,v.ownBlock=some k->base<=k:=by
 obtain ⟨inner,ho⟩:=QQ h;exact IB ho
theorem Jk (h:d.R e w base ok v xs) {g:Nat} (hok:∀ k,ok k->k≠g):some g≠v.ownBlock:=λe=>hok g (h.1 g e.symm) rfl
end
section
variable {w W:World} {A:Option Addr} {n:Nat}
theorem QS {k:IntKind} {xs:List Int} (h:(Kd.int k).C w A n xs) (i:Int) (h0:0<=i) (h1:i<n):∃ ad,A=some ad/\w.cell? (ad.add i.toNat)=some (.int k (rd xs i)):=
 Dq.at_ (Jj (enc:=Value.int k) (d:=(0:Int)) (h1:=λ_=>rfl) h) i h0 h1
theorem DF {xs:List ByteArray} (h:Kd.string.C w A n xs) (i:Int) (h0:0<=i) (h1:i<n):∃ ad,A=some ad/\w.cell? (ad.add i.toNat)=some (.string (Cf ByteArray.empty xs i)):=
 Dq.at_ (Jj (enc:=Value.string) (d:=ByteArray.empty) (h1:=λ_=>rfl) h) i h0 h1
variable {α:Type} {enc:α->Value} {h1:∀ x,(enc x).oneCell'=true} {e base g cap:Nat} {ok:Nat->Prop} {xs:List α}
end
section
variable {P:Program} {ops:Array Oper} {rest:List Oper} {o:Oper} {a:Act} {Q:Exit->Act->World->Prop}
theorem Ii {W w1:World} {v:Value} (hgd:o.guard=none) (hrun:(execOp a.eval o).run P W= .ok (.value v) w1) (h:wpList P ops Q rest (a.put o.dst v) w1):wpList P ops Q (o::rest) a W:=by
 refine wpList_plain hgd λK hK=>?_
 unfold Oper.wp;rw [hrun];exact hK _ _ h
variable {α:Type}
theorem OV (d:Kd α) {w0 W:World} (base e:Nat) (hgd:o.guard=none) {N:Tmp} (_hd:o.dst=some N) {xs:List α} {inner:List Value} {ok okp:Nat->Prop}
 (hrun:(execOp a.eval o).run P W= .ok (.value (.slice (some ⟨W.heap.size,0,none⟩) xs.length xs.length)) (W.alloc (.cells inner.toArray e)))
 (hrep:CG (d.M W base okp) d.sz xs inner) (hok:∀ k,okp k->ok k) (hfresh:ok W.heap.size) (HB:Below base w0 W) (hbase:base<=W.heap.size) (hm:xs.length<=9223372036854775807)
 (h:∀ v1 w1,d.R e w1 base ok v1 xs->Below base w0 w1->W.grownBy w1 none->(∃ b,v1.ownBlock=some b/\W.heap.size<=b)->wpList P ops Q rest (a.put o.dst v1) w1):wpList P ops Q (o::rest) a W:=by
 refine Ii hgd hrun (h _ _ ⟨λk hk=>?_,inner,?_,?_⟩ (HB.alloc hbase _) (World.grownBy_alloc W _ none) ⟨W.heap.size,by simp [Value.ownBlock],Nat.le_refl _⟩)
 ·have:W.heap.size=k:=by simpa [Value.ownBlock] using hk
  subst this;exact hfresh
 ·have h2:=World.ownsRow_lit (base:=base) (e:=e) (size:=d.sz) W inner.toArray xs.length hbase (by simpa [maxLen] using hm) (by simpa using hrep.1);simpa using h2
 ·refine hrep.GK (λp c hp=>d.M_mono (λk hk=>⟨hok k hk.1,λhe=>?_⟩) (OU (d.M_bound hp) (Bj (Below.refl _ _) _)));have h3:k=W.heap.size:=by simpa [Value.ownBlock] using he
  have:=hk.2.2.1;omega
end
end Kd
section
variable {P:Program}
theorem QT (t e:TypeId) (kh:IntKind) {i:TypeInfo} (ht:P.underlying t=some (.slice e)) (hi:P.info? e=some i) (A:Option Addr) (n c:Nat) (j:Int) (h0:0<=j) (hm:j<=n) (hc:n<=c):
 ∀ W:World,(Instr.slice t (.slice A n c) none (some (.int kh j)) none).run P W= .ok (.slice A j.toNat c) W:=by
 intro W;have hel:P.elem t=e:=by simp [Program.elem,ht]
 have hu:P.underlying t=some (.slice (P.elem t)):=by rw [hel];exact ht
 have ha:(A.map λx=>x.add 0)=A:=by cases A<;>simp [Addr.add]
 rw [run_slice_h W t A n c hu kh j h0 (by omega),hel];simp [sizeOf,typeInfo,hi,sliced,Result.andThen,ha]
theorem Jl (t e:TypeId) (kl:IntKind) {i:TypeInfo} (ht:P.underlying t=some (.slice e)) (hi:P.info? e=some i) (size:Nat) (hsz:i.size=size) (A:Option Addr) (n c:Nat) (j:Int) (h0:0<=j) (hm:j<=n):
 ∀ W:World,(Instr.slice t (.slice A n c) (some (.int kl j)) none none).run P W= .ok (.slice (if c=j.toNat then A else A.map (·.add (j.toNat*size))) (n - j.toNat) (c - j.toNat)) W:=by
 intro W;have hel:P.elem t=e:=by simp [Program.elem,ht]
 have hu:P.underlying t=some (.slice (P.elem t)):=by rw [hel];exact ht
 rw [run_slice_l W t A n c hu kl j h0 hm,hel];simp [sizeOf,typeInfo,hi,hsz,sliced,Result.andThen]
end
def PD (w:World) (base:Nat) (e:TypeId) (size:Nat) (v:Value) (n:Nat) (xs:List Value):Prop:=
 xs.length=n*size/\
 ((n=0/\∃ A,v= .slice A 0 0/\∀ a,A=some a->base<=a.block/\∃ cur,w.heap[a.block]? =some (.cells cur e (0,0)))\/
  ∃ g off cap cur,v= .slice (some ⟨g,off*size,none⟩) n cap/\base<=g/\w.heap[g]? =some (.cells cur e (0,0))/\n<=cap/\off+cap<=maxLen/\cur.size=(off+cap)*size/\(cur.toList.drop (off*size)).take (n*size)=xs)
section
variable {w w1:World} {base n size:Nat} {e:TypeId} {v:Value} {xs:List Value}
theorem QU (h:w.ownsRow base e size v n xs):PD w base e size v n xs:=by
 obtain ⟨h1,h2⟩:=h;refine ⟨h1,?_⟩;rcases h2 with ⟨rfl,h0⟩|⟨g,cap,cur,rfl,hb,hh,hnc,hcm,hcs,ht⟩
 ·exact .inl ⟨h0,none,rfl,λa ha=>by cases ha⟩
 ·exact .inr ⟨g,0,cap,cur,by rw [Nat.zero_mul],hb,hh,hnc,by rw [Nat.zero_add];exact hcm,by rw [Nat.zero_add];exact hcs,by rw [Nat.zero_mul,List.drop_zero];exact ht⟩
theorem Tp (h:PD w base e size v n xs) (hm:∀ k,v.ownBlock=some k->w1.heap[k]? =w.heap[k]?):PD w1 base e size v n xs:=by
 obtain ⟨h1,h2⟩:=h;refine ⟨h1,?_⟩;rcases h2 with ⟨h0,A,rfl,hA⟩|⟨g,off,cap,cur,rfl,hg,hh,r⟩
 ·refine .inl ⟨h0,A,rfl,λa ha=>?_⟩;obtain ⟨hb,cur,hc⟩:=hA a ha;subst ha;exact ⟨hb,cur,(hm a.block (by simp [Value.ownBlock])).trans hc⟩
 ·exact .inr ⟨g,off,cap,cur,rfl,hg,(hm g (by simp [Value.ownBlock])).trans hh,r⟩
theorem OW (h:PD w base e size v n xs) (k:Nat) (hk:v.ownBlock=some k):base<=k/\∃ cells,w.heap[k]? =some (.cells cells e (0,0)):=by
 rcases h.2 with ⟨_,A,rfl,hA⟩|⟨g,off,cap,cur,rfl,hg,hh,r⟩
 ·cases A with
  |none=>simp [Value.ownBlock] at hk
  |some a=>
   have:a.block=k:=by simpa [Value.ownBlock] using hk
   subst this;exact hA a rfl
 ·have:g=k:=by simpa [Value.ownBlock] using hk
  subst this;exact ⟨hg,cur,hh⟩
theorem VI (h:PD w base e size v n xs) (k:Nat) (hk:v.ownBlock=some k):k<w.heap.size:=by
 obtain ⟨_,cells,hc⟩:=OW h k hk;exact (Array.getElem?_eq_some_iff.1 hc).1
end
namespace Kd
def Q {α:Type} (d:Kd α) (e:Nat) (w:World) (base:Nat) (ok:Nat->Prop) (v:Value) (xs:List α):Prop:=
 (∀ k,v.ownBlock=some k->ok k)/\∃ inner,PD w base e d.sz v xs.length inner/\CG (d.M w base (λk=>ok k/\some k≠v.ownBlock)) d.sz xs inner
section
variable {α:Type} {d:Kd α} {e:Nat} {w w1 W:World} {base:Nat} {ok ok':Nat->Prop} {v:Value} {xs:List α}
theorem Tq (h:d.R e w base ok v xs):d.Q e w base ok v xs:=by
 obtain ⟨h0,inner,ho,hr⟩:=h;exact ⟨h0,inner,QU ho,hr⟩
theorem F3 (d:Kd α) (e:Nat) (w:World) (base:Nat) (ok:Nat->Prop):d.Q e w base ok (.slice none 0 0) []:=Tq (Eu d e w base ok)
theorem Tt (h:d.Q e w base ok v xs) (hok:∀ k,ok k->ok' k):d.Q e w base ok' v xs:=by
 obtain ⟨h0,inner,ho,hr⟩:=h;exact ⟨λk hk=>hok k (h0 k hk),inner,ho,hr.GK (λ_ _ hp=>d.M_mono (λk hk=>⟨hok k hk.1,hk.2⟩) hp)⟩
theorem Rs (h:d.Q e w base ok v xs):d.Q e w base (λk=>ok k/\base<=k/\k<w.heap.size/\∃ q,q∈e::d.E/\∃ cells,w.heap[k]? =some (.cells cells q (0,0))) v xs:=by
 obtain ⟨h0,inner,ho,hr⟩:=h;refine ⟨λk hk=>?_,inner,ho,hr.GK (λ_ _ hp=>d.M_mono (λk hk=>?_) (d.M_bound hp))⟩
 ·obtain ⟨hb,cells,hc⟩:=OW ho k hk;exact ⟨h0 k hk,hb,VI ho k hk,e,List.mem_cons_self,cells,hc⟩
 ·obtain ⟨⟨h1,h2⟩,h3,h4,q,hq,hc⟩:=hk;exact ⟨⟨h1,h3,h4,q,List.mem_cons_of_mem _ hq,hc⟩,h2⟩
theorem Tu (h:d.Q e w base ok v xs) (hm:∀ k,ok k->w1.heap[k]? =w.heap[k]?):d.Q e w1 base ok v xs:=by
 obtain ⟨h0,inner,ho,hr⟩:=h;exact ⟨h0,inner,Tp ho (λk hk=>hm k (h0 k hk)),hr.GK (λ_ _ hp=>d.M_move (λk hk=>hm k hk.1) hp)⟩
theorem Tv (h:d.Q e w base ok v xs) (hm:∀ k,ok k->k<w.heap.size->w1.heap[k]? =w.heap[k]?):d.Q e w1 base ok v xs:=Tt (Tu (Rs h) (λk hk=>hm k hk.1 hk.2.2.1)) (λ_ hk=>hk.1)
theorem LX (h:d.Q e w base ok v xs) (hb:Below w.heap.size w w1):d.Q e w1 base ok v xs:=Tv h (λk _ hk=>hb.block k hk)
theorem U5 (h:d.Q e w base ok v xs) (o:Obj):d.Q e (w.alloc o) base ok v xs:=LX h (Bj (Below.refl _ _) o)
theorem VJ (h:d.Q e w base ok v xs):d.Q e w.drew base ok v xs:=LX h (Eo (Below.refl _ _))
theorem U6 (h:d.Q e w base ok v xs) (m:Nat):d.Q e (w.drewN m) base ok v xs:=LX h (Bw (Below.refl _ _) m)
end
end Kd
namespace Kd
section
variable {α:Type} {d:Kd α} {e e':Nat} {w w1 W:World} {base:Nat} {ok:Nat->Prop} {u v:Value} {xs:List α}
theorem Rt (h:d.R e w base ok v xs):∀ k,v.ownBlock=some k->∃ cells,w.heap[k]? =some (.cells cells e (0,0)):=by
 obtain ⟨inner,ho⟩:=QQ h;exact λk hk=>Km ho k hk
theorem Ru (h:d.R e W base ok u xs) (hty:∀ k,v.ownBlock=some k->∃ cells,W.heap[k]? =some (.cells cells e' (0,0))) (ht:∀ q,q∈e::d.E->q≠e') (hg:W.grownBy w1 v.ownBlock):d.R e w1 base ok u xs:=by
 refine CQ (Ih (Ei h) (λk hk=>hg.block k hk.2.2.1 (λhe=>?_))) (λ_ hk=>hk.1);obtain ⟨_,_,_,q,hq,cells,hc⟩:=hk;obtain ⟨cells',hc'⟩:=hty k he.symm;rw [hc] at hc';injection hc' with hc'
 injection hc' with _ hc'
 exact ht q hq hc'
theorem Ma (hu:d.R e W base ok u xs) (hbase:∀ k,v.ownBlock=some k->W.heap.size<=k) (hb:Below W.heap.size W w1):d.R e w1 base (λk=>ok k/\some k≠v.ownBlock) u xs:=
 CQ (Ih (Ei hu) (λk hk=>hb.block k hk.2.2.1)) (λk hk=>⟨hk.1,λhe=>by have:=hbase k he.symm;have:=hk.2.2.1;omega⟩)
theorem QV (h:d.R e w1 W.heap.size ok v xs) (hlt:∀ k,u.ownBlock=some k->k<W.heap.size):d.R e w1 W.heap.size (λk=>ok k/\some k≠u.ownBlock) v xs:=
 CQ (Ei h) (λk hk=>⟨hk.1,λhe=>by have:=hlt k he.symm;have:=hk.2.1;omega⟩)
theorem fresh' (hlt:∀ k,u.ownBlock=some k->k<W.heap.size):∀ k,W.heap.size<=k->some k≠u.ownBlock:=λk hk he=>by have:=hlt k he.symm;omega
end
end Kd
namespace Kd
theorem Mc {α:Type} {R:α->List Value->Prop} {size:Nat} {ps qs:List α} {cs ds:List Value} (h:CG R size ps cs) (h':CG R size qs ds):CG R size (ps++qs) (cs++ds):=by
 refine ⟨by rw [List.length_append,List.length_append,h.1,h'.1,Nat.add_mul],λj p hj=>?_⟩;rcases Nat.lt_or_ge j ps.length with hlt|hge
 ·rw [List.getElem?_append_left hlt] at hj;have hle:j*size+size<=cs.length:=by rw [h.1, <-Nat.succ_mul];exact Nat.mul_le_mul_right _ hlt
  rw [List.drop_append_of_le_length (by omega),List.take_append_of_le_length (by rw [List.length_drop];omega)];exact h.2 j p hj
 ·rw [List.getElem?_append_right hge] at hj;have h2:=h'.2 (j - ps.length) p hj;have hle:ps.length*size<=j*size:=Nat.mul_le_mul_right _ hge;rw [List.drop_append,List.drop_eq_nil_of_le (by rw [h.1];exact hle),List.nil_append,h.1, <-Nat.sub_mul];exact h2
section
variable {P:Program} {ops:Array Oper} {rest:List Oper} {o:Oper} {a:Act} {Q:Exit->Act->World->Prop} {α:Type}
theorem KP (d:Kd α) {Rr:α->List Value->Prop} {w0 W:World} (base:Nat) (hgd:o.guard=none) (s x:Operand) (t e:TypeId) (z:Value) (bytes:Nat)
 (ho:o.op= .call {callee:= .builtin .append,args:=#[s,x],argTypes:=#[t,t]})
 (ht:P.underlying t=some (.slice e)) (hinfo:(P.info? e).map (λi=>(i.zero,i.size,i.bytes))=some (some z,d.sz,bytes)) (hz:z.cells.size=d.sz) (hs0:0<d.sz) (hb0:0<bytes)
 (v:Value) (xs ys:List α) (A:Option Addr) (m c:Nat) (ok okp:Nat->Prop) (hs:a.eval s=v) (hx:a.eval x= .slice A m c)
 (HO:d.R e W base ok v xs) (HR:Dl Rr d.sz W A m ys) (hKM:∀ x cs,Rr x cs->d.M W base okp x cs) (hokp:∀ k,okp k->ok k/\some k≠v.ownBlock) (hfresh:∀ k,W.heap.size<=k->ok k)
 (HB:Below base w0 W) (hbase:base<=W.heap.size) (hl:(xs.length+m)*bytes<=140737488355328)
 (h:∀ v1 w1,d.R e w1 base ok v1 (xs++ys)->Below base w0 w1->W.grownBy w1 v.ownBlock->(v1.ownBlock=v.ownBlock\/∃ b,v1.ownBlock=some b/\W.heap.size<=b)->wpList P ops Q rest (a.put o.dst v1) w1):
 wpList P ops Q (o::rest) a W:=by
 obtain ⟨i0,hi,hzz⟩:=Option.map_eq_some_iff.1 hinfo;simp only [Prod.mk.injEq] at hzz;obtain ⟨hz0,hz1,hz2⟩:=hzz;have hm:ys.length=m:=HR.1;have hlen:xs.length+m<=140737488355328:=Nat.le_trans (Nat.le_mul_of_pos_right _ hb0) hl;obtain ⟨hok,inner,hown,hr⟩:=HO;have hrun:∃ v1 w1,(Builtin.append_ #[t,t] o.type #[v, .slice A m c]).run P W= .ok v1 w1/\d.R e w1 base ok v1 (xs++ys)/\W.grownBy w1 v.ownBlock/\(v1.ownBlock=v.ownBlock\/∃ b,v1.ownBlock=some b/\W.heap.size<=b):=by
  rcases A with _|ad
  ·have h0:m=0:=by
    rcases Nat.eq_zero_or_pos m with h0|h0
    ·exact h0
    ·obtain ⟨ad,h,_⟩:=HR.2.2 h0;cases h
   subst h0;obtain rfl:ys=[]:=List.eq_nil_of_length_eq_zero hm;refine ⟨v,W,?_,by rw [List.append_nil];exact ⟨hok,inner,hown,hr⟩,World.grownBy.refl W _, .inl rfl⟩;rcases hown.2 with ⟨rfl,hn⟩|⟨g,cap,cur,rfl,_,_,hnc,_⟩
   ·simp [Builtin.append_,run_underlying ht,sizeOf,typeInfo,hi,Builtin.lenOf,Builtin.firstCells]
   ·simp [Builtin.append_,run_underlying ht,sizeOf,typeInfo,hi,Builtin.lenOf,Builtin.firstCells,hnc,storeCells]
  ·obtain ⟨news,hnr,hnc⟩:=Dl.Tm HR;have hnM:CG (d.M W base okp) d.sz ys news:=hnr.GK (λp c hp=>hKM p c hp);have hone:∀ u∈news,u.oneCell'=true:=by
    intro u hu;obtain ⟨q,hq,rfl⟩:=List.mem_iff_getElem.1 hu;have hql:q/d.sz<ys.length:=by
     rw [Nat.div_lt_iff_lt_mul hs0];rw [<-hnM.1];exact hq
    have hc:=hnM.2 (q/d.sz) _ (List.getElem?_eq_getElem hql);refine d.K_one (d.K_of_M hc) _ ?_;rw [List.mem_iff_getElem?];refine ⟨q%d.sz,?_⟩;rw [List.getElem?_take,if_pos (Nat.mod_lt _ hs0),List.getElem?_drop,Nat.mul_comm,Nat.div_add_mod,List.getElem?_eq_getElem hq]
   obtain ⟨v1,w1,hrun,h2,hg,_,hat⟩:=run_append_own_at (P:=P) W base t o.type e i0 z d.sz bytes ht hi hz0 hz1 hz2 hz hs0 v xs.length inner hown ad m c news (by rw [hnM.1,hm]) hnc hone (by simp only [maxLen];omega) hl hbase;have hat':v1.ownBlock=v.ownBlock\/∃ b,v1.ownBlock=some b/\W.heap.size<=b:=by
    rcases hat with hat|hat
    ·exact .inl hat
    ·exact .inr ⟨_,hat,Nat.le_refl _⟩
   have hne:∀ k,some k≠v.ownBlock->k<W.heap.size->some k≠v1.ownBlock:=by
    intro k hk hlt;rcases hat' with hat|⟨b,hb,hle⟩
    ·rw [hat];exact hk
    ·rw [hb];intro he;injection he with he
     omega
   have step:∀ {q:α} {c:List Value} {o:Nat->Prop},d.M W base o q c->(∀ k,o k->ok k/\some k≠v.ownBlock)->d.M w1 base (λk=>ok k/\some k≠v1.ownBlock) q c:=by
    intro q c o hq ho;have h1:=d.M_move (w1:=w1) (λk hk=>hg.block k hk.2.2.1 (ho k hk.1).2) (d.M_bound hq);exact d.M_mono (λk hk=>⟨(ho k hk.1).1,hne k (ho k hk.1).2 hk.2.2.1⟩) h1
   refine ⟨v1,w1,hrun,⟨λk hk=>?_,inner++news,by rw [List.length_append,hm];exact h2,Mc (hr.GK (λ_ _ hq=>step hq (λ_ hk=>hk))) (hnM.GK (λ_ _ hq=>step hq hokp))⟩,hg,hat'⟩;rcases hat' with hat|⟨b,hb,hle⟩
   ·exact hok k (hat▸hk)
   ·rw [hb] at hk;injection hk with hk
    exact hfresh k (by omega)
 obtain ⟨v1,w1,hr1,h1,hg,hat⟩:=hrun;refine wpList_plain hgd λK hK=>?_
 unfold Oper.wp execOp;simp only [ho,resolve,invoke,builtin,Sem.run_bind,Sem.run_pure,Result.andThen_ok,List.map_toArray,List.map_cons,List.map_nil,hs,hx,hr1];exact hK _ _ (h v1 w1 h1 (HB.grown hg hbase (IB hown)) hg hat)
end
end Kd
theorem add_add (a:Addr) (i j:Nat):(a.add i).add j=a.add (i+j):=by
 unfold Addr.add;by_cases h1:i=0<;>by_cases h2:j=0<;>simp [h1,h2,Nat.add_assoc]
namespace Kd
section
variable {α:Type} {k:Kd α} {w:World} {A:Option Addr} {xs:List α} {m c:Nat}
theorem Tw (h:k.C w A xs.length xs) (hm:m<=xs.length):k.C w A (xs.take m).length (xs.take m):=by
 have hl:(xs.take m).length=m:=by rw [List.length_take];omega
 refine ⟨rfl,by rw [hl];have:=h.2.1;omega,λhp=>?_⟩;obtain ⟨ad,e,hc⟩:=h.2.2 (by omega);refine ⟨ad,e,λj p hj=>hc j p ?_⟩;rw [List.getElem?_take] at hj;split at hj
 ·exact hj
 ·cases hj
theorem Tx (h:k.C w A xs.length xs) (hm:m<=xs.length) (hc:xs.length<=c):k.C w (if c=m then A else A.map (·.add (m*k.sz))) (xs.drop m).length (xs.drop m):=by
 have hl:(xs.drop m).length=xs.length - m:=List.length_drop;refine ⟨rfl,by rw [hl];have:=h.2.1;omega,λhp=>?_⟩;rw [hl] at hp;obtain ⟨ad,rfl,hcell⟩:=h.2.2 (by omega);rw [if_neg (by omega)];refine ⟨ad.add (m*k.sz),rfl,λj p hj=>?_⟩;rw [List.getElem?_drop] at hj;obtain ⟨cs,h1,h2,h3⟩:=hcell (m+j) p hj;refine ⟨cs,h1,h2,λi u hu=>?_⟩;rw [add_add,show m*k.sz+(j*k.sz+i)=(m+j)*k.sz+i by rw [Nat.add_mul];omega];exact h3 i u hu
end
end Kd
theorem JJ {P:Program} {w:World} {src dst e:TypeId} {A:Option Addr} {n c:Nat} {xs:List Int} (hs:P.underlying src=some (.slice e)) (he:P.underlying e=some (.int .u8)) (hd:P.underlying dst=some .string)
 (h:Df w .u8 A n xs):(convert src dst (.slice A n c)).run P w= .ok (.string (strOfNums xs)) w:=by
 have hn:xs.length=n:=h.1;rcases A with _|ad
 ·have h0:n=0:=by
   rcases Nat.eq_zero_or_pos n with h0|h0
   ·exact h0
   ·obtain ⟨ad,h',_⟩:=h.2.2 h0;cases h'
  subst h0;obtain rfl:xs=[]:=List.eq_nil_of_length_eq_zero hn;exact run_convert_bytes_nil w src e hs he 0 c dst hd
 ·have hl:(loadCells ad n).run P w= .ok (xs.map (Value.int .u8)).toArray w:=by
   have:=run_loadCells_list (P:=P) w ad (xs.map (Value.int .u8)) (λj v hj=>by
    have hjl:j<xs.length:=by
     rcases Nat.lt_or_ge j xs.length with h'|h'
     ·exact h'
     ·rw [List.getElem?_eq_none (by rw [List.length_map];exact h')] at hj
      cases hj
    obtain ⟨ad',he',hc⟩:=h.2.2 (by omega)
    injection he' with he'
    subst he'
    rw [hc j (by omega)]
    rw [List.getElem?_map,List.getElem?_eq_getElem hjl] at hj
    simp at hj
    subst hj
    simp [List.getD_eq_getElem?_getD,List.getElem?_eq_getElem hjl])
   simpa [hn] using this
  rw [run_convert_bytes_string w src dst e _ n c hs he hd,run_bytesToString w ad n c xs hl,foldl_push_bytes];simp [strOfNums,ByteArray.empty,ByteArray.emptyWithCapacity];rfl
theorem BF {w W:World} (h:Below w.heap.size w W):w.heap.size<=W.heap.size:=h.size
theorem AP {w W w2:World} (h:Below w.heap.size w W) (k:Below W.heap.size W w2):Below w.heap.size w w2:=NY h h.size k
theorem Df.nil (W:World) (k:IntKind):Df W k none ([]:List Int).length []:=⟨rfl,by simp,λh=>absurd h (Nat.lt_irrefl 0)⟩
theorem Df.drewN {W:World} {k:IntKind} {A:Option Addr} {n:Nat} {xs:List Int} (h:Df W k A n xs) (m:Nat):Df (W.drewN m) k A n xs:=h
theorem Kn {w W:World} {g j:Nat} {v:Value} (h:Below w.heap.size w W) (hg:w.heap.size<=g):Below w.heap.size w (W.setCell ⟨g,j,none⟩ v):=h.setCell hg _
theorem Dq.nil {α:Type} (enc:α->Value) (d:α) (W:World):Dq enc d W none ([]:List α).length []:=⟨rfl,by simp,λh=>absurd h (Nat.lt_irrefl 0)⟩
theorem Dq.drewN {α:Type} {enc:α->Value} {d:α} {W:World} {A:Option Addr} {n:Nat} {xs:List α} (h:Dq enc d W A n xs) (m:Nat):Dq enc d (W.drewN m) A n xs:=h
theorem cell_far {W:World} {p a:Addr} (h:a.block≠p.block) (u:Value):(W.setCell p u).cell? a=W.cell? a:=by
 have:=Below.heap_setCell W p u a.block h;simp [World.cell?,this]
theorem OX {w:World} {g:Nat} {t:TypeId} {cs cs':Array Value} (h:w.heap[g]? =some (.cells cs t (0,0))) (i:Nat) (u:Value) (e:cs.setIfInBounds i u=cs'):(w.setCell ⟨g,i,none⟩ u).heap[g]? =some (.cells cs' t (0,0)):=e▸Rq h i u
theorem CK {base:Nat} {w W:World} (h:Below base w W):Below base w W.drew:=h.drew
namespace Kd
section
variable {α β:Type} {d:Kd α} {d':Kd β} {e e' base base' n:Nat} {ok ok':Nat->Prop} {w W w1 W1:World} {v u:Value} {xs:List α} {ys:List β} {A:Option Addr} {c:Nat}
end
end Kd
namespace Kd
section
variable {α:Type} {d:Kd α} {e base g:Nat} {ok:Nat->Prop} {w w1:World} {v:Value} {xs:List α} {o:Obj}
theorem QW (h:d.R e w base ok v xs) (a:Nat) (ha:w.heap.size<=a):d.R e w base (λk=>ok k/\k≠a) v xs:=CQ (Ei h) (λk hk=>⟨hk.1,by have:=hk.2.2.1;omega⟩)
theorem Ty (h:d.R e w1 w.heap.size ok v xs) (hb:w.heap[g]? =some o):d.R e w1 w.heap.size (λk=>ok k/\k≠g) v xs:=CQ (Ei h) (λk hk=>⟨hk.1,by have:=Gj hb;have:=hk.2.1;omega⟩)
theorem Ep (hb:w.heap[g]? =some o):∀ k,w.heap.size<=k->k≠g:=λk hk=>by have:=Gj hb;omega
end
end Kd
section
variable {P:Program} {ops:Array Oper} {rest:List Oper} {o:Oper} {a:Act} {Q:Exit->Act->World->Prop}
theorem Ij {W:World} (hgd:o.guard=none) {N:Tmp} (_hd:o.dst=some N) {cs:Array Value} {t:TypeId}
 (hrun:(execOp a.eval o).run P W= .ok (.value (.pointer (some ⟨W.heap.size,0,none⟩))) (W.alloc (.cells cs t (0,0))))
 (h:∀ g,g=W.heap.size->∀ w1,w1.heap[g]? =some (.cells cs t (0,0))->Below W.heap.size W w1->wpList P ops Q rest (a.put o.dst (.pointer (some ⟨g,0,none⟩))) w1):wpList P ops Q (o::rest) a W:=
 Kd.Ii hgd hrun (h _ rfl _ (Eh W _) (Bj (Below.refl _ _) _))
end
section
variable {P:Program} {ops:Array Oper} {rest:List Oper} {o:Oper} {a:Act} {Q:Exit->Act->World->Prop}
theorem TH {W w1:World} (hgd:o.guard=none) {t:TypeId} {p:Tmp} {v:Operand} (_ho:o.op= .store t (.tmp p) v) (hN:o.dst=none)
 (hrun:(execOp a.eval o).run P W= .ok .skip w1) (h:∀ w',w'=w1->wpList P ops Q rest a w'):wpList P ops Q (o::rest) a W:=by
 refine wpList_plain hgd λK hK=>?_
 unfold Oper.wp;rw [hrun];show K (a.put o.dst undef) w1;rw [hN];exact hK _ _ (h _ rfl)
end
section
variable {P:Program} {ops:Array Oper} {rest:List Oper} {o:Oper} {a:Act} {Q:Exit->Act->World->Prop} {W:World}
theorem F4 {N:Tmp} (_hN:o.dst=some N) (h:wpList P ops Q (o::rest) a W):wpList P ops Q (o::rest) a W:=h
theorem C8 {t:TypeId} {p:Tmp} {v:Operand} (_ho:o.op= .store t (.tmp p) v) (h:wpList P ops Q (o::rest) a W):wpList P ops Q (o::rest) a W:=h
end
section
variable {P:Program} {ops:Array Oper} {o:Oper} {a:Act} {Q:Exit->Act->World->Prop} {Kc:Act->World->Prop}
theorem Jm {W w1:World} {v:Value} (hw:Region.wanted o (yielded ops a.tmps)=true) (hrun:(execOp a.eval o).run P W= .ok (.value v) w1) (h:Kc (a.put o.dst v) w1):if Region.wanted o (yielded ops a.tmps)=true then Oper.wp P o a W Kc Q else Kc (a.put o.dst undef) W:=by
 rw [if_pos hw];unfold Oper.wp;rw [hrun];exact h
theorem Un {W:World} (hw:Region.wanted o (yielded ops a.tmps)=true) {N:Tmp} (_hd:o.dst=some N) {cs:Array Value} {t:TypeId}
 (hrun:(execOp a.eval o).run P W= .ok (.value (.pointer (some ⟨W.heap.size,0,none⟩))) (W.alloc (.cells cs t (0,0))))
 (h:∀ g,g=W.heap.size->∀ w1,w1.heap[g]? =some (.cells cs t (0,0))->Below W.heap.size W w1->Kc (a.put o.dst (.pointer (some ⟨g,0,none⟩))) w1):if Region.wanted o (yielded ops a.tmps)=true then Oper.wp P o a W Kc Q else Kc (a.put o.dst undef) W:=
 Jm hw hrun (h _ rfl _ (Eh W _) (Bj (Below.refl _ _) _))
namespace Kd
variable {α:Type}
theorem FW (d:Kd α) {w0 W:World} (base e:Nat) (hw:Region.wanted o (yielded ops a.tmps)=true) {N:Tmp} (_hd:o.dst=some N) {xs:List α} {inner:List Value} {ok okp:Nat->Prop}
 (hrun:(execOp a.eval o).run P W= .ok (.value (.slice (some ⟨W.heap.size,0,none⟩) xs.length xs.length)) (W.alloc (.cells inner.toArray e)))
 (hrep:CG (d.M W base okp) d.sz xs inner) (hok:∀ k,okp k->ok k) (hfresh:ok W.heap.size) (HB:Below base w0 W) (hbase:base<=W.heap.size) (hm:xs.length<=9223372036854775807)
 (h:∀ v1 w1,d.R e w1 base ok v1 xs->Below base w0 w1->W.grownBy w1 none->(∃ b,v1.ownBlock=some b/\W.heap.size<=b)->Kc (a.put o.dst v1) w1):if Region.wanted o (yielded ops a.tmps)=true then Oper.wp P o a W Kc Q else Kc (a.put o.dst undef) W:=by
 refine Jm hw hrun (h _ _ ⟨λk hk=>?_,inner,?_,?_⟩ (HB.alloc hbase _) (World.grownBy_alloc W _ none) ⟨W.heap.size,by simp [Value.ownBlock],Nat.le_refl _⟩)
 ·have:W.heap.size=k:=by simpa [Value.ownBlock] using hk
  subst this;exact hfresh
 ·have h2:=World.ownsRow_lit (base:=base) (e:=e) (size:=d.sz) W inner.toArray xs.length hbase (by simpa [maxLen] using hm) (by simpa using hrep.1);simpa using h2
 ·refine hrep.GK (λp c hp=>d.M_mono (λk hk=>⟨hok k hk.1,λhe=>?_⟩) (OU (d.M_bound hp) (Bj (Below.refl _ _) _)));have h3:k=W.heap.size:=by simpa [Value.ownBlock] using he
  have:=hk.2.2.1;omega
end Kd
end
inductive QX (P:Program) (tmps:Array Value) (w:World):List ResultVar->List Value->Prop where
 |nil:QX P tmps w [] []
 |tmp {u:Tmp} {rs:List ResultVar} {vs:List Value} (h:QX P tmps w rs vs):QX P tmps w (.tmp u::rs) (tmps.getD u undef::vs)
 |cell {p:Tmp} {ty:TypeId} {rs:List ResultVar} {vs:List Value} (g:Nat) (t:TypeId) (cs:Array Value) (fr:Nat×Nat) (d:TypeDesc)
  (hp:tmps.getD p undef= .pointer (some ⟨g,0,none⟩)) (hg:w.heap[g]? =some (.cells cs t fr))
  (hu:P.underlying ty=some d) (hd:(match d with| .struct _| .array _ _=>true|_=>false)=true) (hi:(P.info? ty).map (·.size)=some cs.size)
  (h:QX P tmps w rs vs):QX P tmps w (.cell p ty::rs) (.agg cs::vs)
end Go.Proofs.YtikggnalmidlhaaGreatDoor.AR
end
section
namespace Go.Proofs.YtikggnalmidlhaaGreatDoor.AR
open RowKit
namespace Kd
def tag {α:Type} (f:Nat->Nat) (d:Kd α):Kd (α×Nat) where
 sz:=d.sz
 E:=d.E
 K:=λw x cs=>d.K w x.1 cs
 M:=λw base ok x cs=>d.M w base (λk=>ok k/\f k=x.2) x.1 cs
 K_len:=λh=>d.K_len h
 K_one:=λh=>d.K_one h
 K_below:=λhb h=>d.K_below hb h
 K_of_M:=λh=>d.K_of_M h
 M_mono:=λhok h=>d.M_mono (λk hk=>⟨hok k hk.1,hk.2⟩) h
 M_bound:=λh=>d.M_mono (λ_ hk=>⟨⟨hk.1.1,hk.2⟩,hk.1.2⟩) (d.M_bound h)
 M_move:=λhm h=>d.M_move (λk hk=>hm k hk.1) h
 M_lower:=λhb h=>d.M_lower hb h
def raw (sz:Nat):Kd (List Value) where
 sz:=sz
 E:=[]
 K:=λ_ x cs=>cs=x/\cs.length=sz/\∀ u∈cs,u.oneCell'=true
 M:=λ_ _ _ x cs=>cs=x/\cs.length=sz/\∀ u∈cs,u.oneCell'=true
 K_len:=λh=>h.2.1
 K_one:=λh=>h.2.2
 K_below:=λ_ h=>h
 K_of_M:=λh=>h
 M_mono:=λ_ h=>h
 M_bound:=λh=>h
 M_move:=λ_ h=>h
 M_lower:=λ_ h=>h
def S {α:Type} (d:Kd α) (e:Nat) (w:World) (base:Nat) (ok:Nat->Prop) (v:Value) (xs:List α):Prop:=∃ f,(tag f d).R e w base ok v xs.zipIdx
section
variable {α β:Type} {d:Kd α} {d':Kd β} {e e':Nat} {w w1 W:World} {base b:Nat} {ok ok' okv oku:Nat->Prop} {u v:Value} {xs:List α} {ys:List β}
theorem OY (hE:d.E=[]) (h:d.R e w base ok v xs):d.R e w base (λk=>some k=v.ownBlock) v xs:=by
 obtain ⟨h0,inner,ho,hr⟩:=h;refine ⟨λk hk=>hk.symm,inner,ho,hr.GK (λp c hp=>d.M_mono (λk hk=>?_) (d.M_bound hp))⟩;obtain ⟨_,_,_,q,hq,_⟩:=hk;rw [hE] at hq;cases hq
theorem F5 (d:Kd α) (e:Nat) (w:World) (base:Nat) (ok:Nat->Prop):S d e w base ok (.slice none 0 0) []:=⟨λ_=>0,Eu _ _ _ _ _⟩
theorem Tz (h:S d e w base ok v xs) (hok:∀ k,ok k->ok' k):S d e w base ok' v xs:=by
 obtain ⟨f,h⟩:=h;exact ⟨f,CQ h hok⟩
theorem Rv (h:S d e w base ok v xs):S d e w base (λk=>ok k/\base<=k/\k<w.heap.size/\∃ q,q∈e::d.E/\∃ cells,w.heap[k]? =some (.cells cells q (0,0))) v xs:=by
 obtain ⟨f,h⟩:=h;exact ⟨f,Ei h⟩
theorem T9 (h:S d e w base ok v xs) (hm:∀ k,ok k->w1.heap[k]? =w.heap[k]?):S d e w1 base ok v xs:=by
 obtain ⟨f,h⟩:=h;exact ⟨f,Ih h hm⟩
theorem UA (h:S d e w base ok v xs) (hm:∀ k,ok k->k<w.heap.size->w1.heap[k]? =w.heap[k]?):S d e w1 base ok v xs:=
 Tz (T9 (Rv h) (λk hk=>hm k hk.1 hk.2.2.1)) (λ_ hk=>hk.1)
theorem LY (h:S d e w base ok v xs) (hb:Below w.heap.size w w1):S d e w1 base ok v xs:=UA h (λk _ hk=>hb.block k hk)
theorem U7 (h:S d e w base ok v xs) (o:Obj):S d e (w.alloc o) base ok v xs:=LY h (Bj (Below.refl _ _) o)
theorem VK (h:S d e w base ok v xs):S d e w.drew base ok v xs:=LY h (Eo (Below.refl _ _))
theorem U8 (h:S d e w base ok v xs) (m:Nat):S d e (w.drewN m) base ok v xs:=LY h (Bw (Below.refl _ _) m)
end
def gap {α:Type} (f:Nat->Nat) (d:Kd α) (i:Nat) (c:List Value):Kd (α×Nat) where
 sz:=d.sz
 E:=d.E
 K:=λw x cs=>(x.2=i->cs=c/\cs.length=d.sz/\∀ u∈cs,u.oneCell'=true)/\(x.2≠i->d.K w x.1 cs)
 M:=λw base ok x cs=>(x.2=i->cs=c/\cs.length=d.sz/\∀ u∈cs,u.oneCell'=true)/\(x.2≠i->d.M w base (λk=>ok k/\f k=x.2) x.1 cs)
 K_len:=λ {w x cs} h=>by
  by_cases hx:x.2=i
  ·exact (h.1 hx).2.1
  ·exact d.K_len (h.2 hx)
 K_one:=λ {w x cs} h=>by
  by_cases hx:x.2=i
  ·exact (h.1 hx).2.2
  ·exact d.K_one (h.2 hx)
 K_below:=λhb h=>⟨h.1,λhx=>d.K_below hb (h.2 hx)⟩
 K_of_M:=λh=>⟨h.1,λhx=>d.K_of_M (h.2 hx)⟩
 M_mono:=λhok h=>⟨h.1,λhx=>d.M_mono (λk hk=>⟨hok k hk.1,hk.2⟩) (h.2 hx)⟩
 M_bound:=λh=>⟨h.1,λhx=>d.M_mono (λ_ hk=>⟨⟨hk.1.1,hk.2⟩,hk.1.2⟩) (d.M_bound (h.2 hx))⟩
 M_move:=λhm h=>⟨h.1,λhx=>d.M_move (λk hk=>hm k hk.1) (h.2 hx)⟩
 M_lower:=λhb h=>⟨h.1,λhx=>d.M_lower hb (h.2 hx)⟩
def H {α:Type} (d:Kd α) (e:Nat) (w:World) (base:Nat) (ok:Nat->Prop) (v:Value) (xs:List α) (i:Int) (oki:Nat->Prop) (c:List Value):Prop:=
 (∀ k,oki k->ok k)/\∃ f,(gap f d i.toNat c).R e w base (λk=>ok k/\¬oki k) v xs.zipIdx
end Kd
end Go.Proofs.YtikggnalmidlhaaGreatDoor.AR
end
section
namespace Go.Proofs.YtikggnalmidlhaaGreatDoor.AR
open RowKit
namespace Kd
structure Heap {α:Type} (d:Kd α):Prop where
 K:∀ {w w1:World} {x:α} {cs:List Value},(∀ k,k<w.heap.size->w1.heap[k]? =w.heap[k]?)->d.K w x cs->d.K w1 x cs
theorem PE {w w1:World} (hb:∀ k,k<w.heap.size->w1.heap[k]? =w.heap[k]?) {a:Addr} {v:Value} (h:w.cell? a=some v):w1.cell? a=some v:=by
 have:=hb a.block (World.block_lt_of_cell? w a h);simpa [World.cell?,this] using h
theorem Heap.C {α:Type} {d:Kd α} (hd:Heap d) {w w1:World} {A:Option Addr} {n:Nat} {xs:List α} (hb:∀ k,k<w.heap.size->w1.heap[k]? =w.heap[k]?) (h:d.C w A n xs):d.C w1 A n xs:=
 ⟨h.1,h.2.1,λhn=>by
  obtain ⟨ad,e,hc⟩:=h.2.2 hn
  refine ⟨ad,e,λj p hj=>?_⟩
  obtain ⟨c,hs,hr,hcell⟩:=hc j p hj
  exact ⟨c,hs,hd.K hb hr,λi u hu=>PE hb (hcell i u hu)⟩⟩
end Kd
end Go.Proofs.YtikggnalmidlhaaGreatDoor.AR
end
section
namespace Go.Proofs.YtikggnalmidlhaaGreatDoor.AR
open RowKit
def Kept (w W:World) (S:Nat->Prop):Prop:=w.heap.size<=W.heap.size/\∀ i,i<w.heap.size->¬S i->W.heap[i]? =w.heap[i]?
section
variable {w W W2:World} {S S2 S':Nat->Prop}
theorem Kept.refl (w:World) (S:Nat->Prop):Kept w w S:=⟨Nat.le_refl _,λ_ _ _=>rfl⟩
theorem Kept.of_below (h:Below w.heap.size w W) (S:Nat->Prop):Kept w W S:=⟨h.size,λi hi _=>h.block i hi⟩
theorem Kept.mono (h:Kept w W S) (hs:∀ k,S k->S' k):Kept w W S':=⟨h.1,λi hi hn=>h.2 i hi (λhk=>hn (hs i hk))⟩
theorem Kept.TI (h:Kept w W S) (k:Kept W W2 S2) (hs:∀ k,S2 k->S k\/w.heap.size<=k):Kept w W2 S:=
 ⟨Nat.le_trans h.1 k.1,λi hi hn=>(k.2 i (Nat.lt_of_lt_of_le hi h.1) (λh2=>(hs i h2).elim hn (λh3=>by omega))).trans (h.2 i hi hn)⟩
theorem Kept.below (h:Kept w W S) (hb:Below W.heap.size W W2):Kept w W2 S:=h.TI (Kept.of_below hb (λ_=>False)) (λ_ hk=>hk.elim)
theorem Kept.alloc (h:Kept w W S) (o:Obj):Kept w (W.alloc o) S:=h.below (Bj (Below.refl _ _) o)
theorem Kept.drew (h:Kept w W S):Kept w W.drew S:=h
theorem Kept.drewN (h:Kept w W S) (m:Nat):Kept w (W.drewN m) S:=h
theorem Kept.setCell (h:Kept w W S) {p:Addr} (hp:S p.block\/w.heap.size<=p.block) (u:Value):Kept w (W.setCell p u) S:=
 h.TI (S2:=λk=>k=p.block) ⟨by simp [World.setCell],λi _ hn=>Below.heap_setCell W p u i hn⟩ (λk hk=>by rw [hk];exact hp)
theorem cell_kept {a:Addr} {v:Value} (hc:W.cell? a=some v) (hk:Kept W W2 S) (hne:¬S a.block):W2.cell? a=some v:=by
 have:=hk.2 a.block (World.block_lt_of_cell? W a hc) hne;simpa [World.cell?,this] using hc
end
end Go.Proofs.YtikggnalmidlhaaGreatDoor.AR
end
section
namespace Go.Proofs.YtikggnalmidlhaaGreatDoor.AR
open RowKit
def E5 (P:World->Prop) (W:World) (ok:Nat->Prop):Prop:=∀ W':World,(∀ k,ok k->k<W.heap.size->W'.heap[k]? =W.heap[k]?)->P W'
theorem Rw {W W1:World} {k:Nat} (h:W1.heap[k]? =W.heap[k]?) (hlt:k<W.heap.size):k<W1.heap.size:=by
 rw [Array.getElem?_eq_getElem hlt] at h;exact (Array.getElem?_eq_some_iff.1 h).1
namespace E5
variable {P Q:World->Prop} {W W1:World} {ok ok':Nat->Prop}
theorem now (h:E5 P W ok):P W:=h W (λ_ _ _=>rfl)
theorem mono (h:E5 P W ok) (hok:∀ k,ok k->ok' k):E5 P W ok':=λW' hW=>h W' (λk hk hlt=>hW k (hok k hk) hlt)
theorem bound (h:E5 P W ok):E5 P W (λk=>ok k/\k<W.heap.size):=λW' hW=>h W' (λk hk hlt=>hW k ⟨hk,hlt⟩ hlt)
theorem step (h:E5 P W ok) (hm:∀ k,ok k->k<W.heap.size->W1.heap[k]? =W.heap[k]?):E5 P W1 ok:=λW' hW=>h W' (λk hk hlt=>(hW k hk (Rw (hm k hk hlt) hlt)).trans (hm k hk hlt))
theorem imp (h:E5 P W ok) (hi:∀ W',P W'->Q W'):E5 Q W ok:=λW' hW=>hi W' (h W' hW)
theorem old (h:E5 P W ok) (hb:Below W.heap.size W W1):E5 P W1 (λk=>ok k/\k<W.heap.size):=(h.bound).step (λk _ hlt=>hb.block k hlt)
end E5
namespace Kd
def F {α:Type} (d:Kd α) (W:World) (ok:Nat->Prop) (A:Option Addr) (n:Nat) (xs:List α):Prop:=E5 (λW=>d.C W A n xs) W ok
def FK {α:Type} (d:Kd α) (W:World) (ok:Nat->Prop) (x:α) (c:List Value):Prop:=E5 (λW=>d.K W x c) W ok
section
variable {α β:Type} {d:Kd α} {e base n n' cc g N:Nat} {ok ok' okp S:Nat->Prop} {w w0 w1 W W1:World} {A A':Option Addr} {u v v1:Value} {xs:List α} {xs':List β} {d':Kd β} {x:α} {c:List Value}
theorem Uo (h:F d W ok A n xs):d.C W A n xs:=E5.now h
theorem Na (h:F d W ok A n xs) (hok:∀ k,ok k->ok' k):F d W ok' A n xs:=E5.mono h hok
theorem Rx (h:F d W ok A n xs):F d W (λk=>ok k/\k<W.heap.size) A n xs:=E5.bound h
theorem UB (h:F d W ok A n xs) (hm:∀ k,ok k->k<W.heap.size->W1.heap[k]? =W.heap[k]?):F d W1 ok A n xs:=E5.step h hm
theorem TJ (h:F d W ok A n xs) (hi:∀ W',d.C W' A n xs->d'.C W' A' n' xs'):F d' W ok A' n' xs':=E5.imp h hi
theorem JQ (h:F d W ok A n xs) (hb:Below W.heap.size W W1):F d W1 ok A n xs:=UB h (λk _ hlt=>hb.block k hlt)
theorem Ry (h:F d W ok A n xs) (o:Obj):F d (W.alloc o) ok A n xs:=JQ h (Bj (Below.refl _ _) o)
theorem UC (h:F d W ok A n xs):F d W.drew ok A n xs:=JQ h (Eo (Below.refl _ _))
theorem Rz (h:F d W ok A n xs) (m:Nat):F d (W.drewN m) ok A n xs:=JQ h (Bw (Below.refl _ _) m)
theorem Uq (d:Kd α) (W:World) (ok:Nat->Prop):F d W ok none ([]:List α).length []:=λW' _=>TG d W'
theorem QY (h:F d W ok A n xs) (hbase:∀ k,v.ownBlock=some k->W.heap.size<=k) (hb:Below W.heap.size W W1):F d W1 (λk=>ok k/\some k≠v.ownBlock) A n xs:=
 Na (E5.old h hb) (λk hk=>⟨hk.1,λhe=>by have:=hbase k he.symm;have:=hk.2;omega⟩)
theorem QZ (h:F d W ok A n xs) (a:Nat) (ha:W.heap.size<=a):F d W (λk=>ok k/\k≠a) A n xs:=Na (Rx h) (λk hk=>⟨hk.1,by have:=hk.2;omega⟩)
theorem VL (h:d.R e W base ok (.slice A n cc) xs):F d W ok A n xs:=λW' hW=>by
 have h2:=BH (LW h hW);rw [h2.1];exact h2.2.2
theorem Nb (h:FK d W ok x c):d.K W x c:=E5.now h
theorem LZ (h:FK d W ok x c) (hok:∀ k,ok k->ok' k):FK d W ok' x c:=E5.mono h hok
theorem Md (h:FK d W ok x c):FK d W (λk=>ok k/\k<W.heap.size) x c:=E5.bound h
theorem OZ (h:FK d W ok x c) (hm:∀ k,ok k->k<W.heap.size->W1.heap[k]? =W.heap[k]?):FK d W1 ok x c:=E5.step h hm
theorem R3 (h:d.M W base ok x c):FK d W ok x c:=λ_ hW=>d.K_of_M (QP h hW)
end
end Kd
end Go.Proofs.YtikggnalmidlhaaGreatDoor.AR
end
section
namespace Go.Proofs.YtikggnalmidlhaaGreatDoor.AR
open RowKit
namespace Kd
def chunks (sz:Nat) (n:Nat) (inner:List Value):List (List Value):=(List.range n).map λj=>(inner.drop (j*sz)).take sz
theorem DZ (sz n:Nat) (inner:List Value):(chunks sz n inner).length=n:=by simp [chunks]
theorem PG {sz n:Nat} {inner:List Value} {j:Nat} (hj:j<n):(chunks sz n inner)[j]? =some ((inner.drop (j*sz)).take sz):=by simp [chunks,hj]
theorem Hm {sz n:Nat} {inner:List Value} {j:Nat} {c:List Value} (h:(chunks sz n inner)[j]? =some c):c=(inner.drop (j*sz)).take sz:=by
 have hj:j<n:=by have:=(List.getElem?_eq_some_iff.1 h).1;rwa [DZ] at this
 rw [PG hj] at h;injection h with h
 exact h.symm
theorem Me {α:Type} {Rr:α->List Value->Prop} {sz:Nat} {xs:List α} {inner:List Value} (h:CG Rr sz xs inner) (hR:∀ x c,Rr x c->c.length=sz/\∀ u∈c,u.oneCell'=true):CG (λx cs=>cs=x/\cs.length=sz/\∀ u∈cs,u.oneCell'=true) sz (chunks sz xs.length inner) inner:=by
 refine ⟨by rw [DZ];exact h.1,λj p hj=>?_⟩;have hjl:j<xs.length:=by have:=(List.getElem?_eq_some_iff.1 hj).1;rwa [DZ] at this
 have hp:=Hm hj;exact ⟨hp.symm,hR _ _ (h.2 j _ (List.getElem?_eq_getElem hjl))⟩
section
variable {α:Type} {d:Kd α} {e base n cc g:Nat} {ok ok' okp S:Nat->Prop} {w w1 W W1:World} {A:Option Addr} {u v v1:Value} {xs:List α} {x:α} {c:List Value}
def N {α:Type} (d:Kd α) (e:Nat) (w:World) (base:Nat) (ok:Nat->Prop) (v:Value) (xs:List α):Prop:=
 (∀ k,v.ownBlock=some k->ok k)/\∃ rows:List (List Value),rows.length=xs.length/\(raw d.sz).R e w base (λk=>some k=v.ownBlock) v rows/\∀ (j:Nat) (x:α) (c:List Value),xs[j]? =some x->rows[j]? =some c->FK d w (λk=>ok k/\some k≠v.ownBlock) x c
theorem PH {sz:Nat} {rows:List (List Value)} (h:(raw sz).R e w base ok v rows):(raw sz).R e w base (λk=>some k=v.ownBlock) v rows:=OY rfl h
theorem VW (h:d.R e w base ok v xs):N d e w base ok v xs:=by
 obtain ⟨h0,inner,ho,hr⟩:=h;refine ⟨h0,chunks d.sz xs.length inner,DZ _ _ _,⟨λk hk=>hk.symm,inner,by rw [DZ];exact ho,Me hr (λx c hp=>⟨d.K_len (d.K_of_M hp),d.K_one (d.K_of_M hp)⟩)⟩,λj x c hx hc=>?_⟩;rw [Hm hc];exact R3 (hr.2 j x hx)
theorem F6 (d:Kd α) (e:Nat) (w:World) (base:Nat) (ok:Nat->Prop):N d e w base ok (.slice none 0 0) []:=VW (Eu _ _ _ _ _)
theorem UD (h:N d e w base ok v xs) (hok:∀ k,ok k->ok' k):N d e w base ok' v xs:=by
 obtain ⟨h0,rows,hl,hR,hf⟩:=h;exact ⟨λk hk=>hok k (h0 k hk),rows,hl,hR,λj x c hx hc=>LZ (hf j x c hx hc) (λk hk=>⟨hok k hk.1,hk.2⟩)⟩
theorem VM (h:N d e w base ok v xs):∀ k,v.ownBlock=some k->k<w.heap.size:=by
 obtain ⟨_,rows,_,hR,_⟩:=h;exact MZ hR
theorem Ho (h:N d e w base ok v xs):∀ k,v.ownBlock=some k->base<=k:=by
 obtain ⟨_,rows,_,hR,_⟩:=h;exact D6 hR
theorem R4 (h:N d e w base ok v xs):N d e w base (λk=>ok k/\k<w.heap.size) v xs:=by
 have hlt:=VM h;obtain ⟨h0,rows,hl,hR,hf⟩:=h;exact ⟨λk hk=>⟨h0 k hk,hlt k hk⟩,rows,hl,hR,λj x c hx hc=>LZ (Md (hf j x c hx hc)) (λk hk=>⟨⟨hk.1.1,hk.2⟩,hk.1.2⟩)⟩
theorem Oa {base':Nat} (h:N d e w base ok v xs) (hb:base'<=base):N d e w base' ok v xs:=by
 obtain ⟨h0,rows,hl,hR,hf⟩:=h;exact ⟨h0,rows,hl,Cm hR hb,hf⟩
theorem UE (h:N d e w base ok v xs) (hm:∀ k,ok k->k<w.heap.size->w1.heap[k]? =w.heap[k]?):N d e w1 base ok v xs:=by
 obtain ⟨h0,rows,hl,hR,hf⟩:=h;exact ⟨h0,rows,hl,LW hR (λk hk hlt=>hm k (h0 k hk.symm) hlt),λj x c hx hc=>OZ (hf j x c hx hc) (λk hk hlt=>hm k hk.1 hlt)⟩
theorem JR (h:N d e w base ok v xs) (hb:Below w.heap.size w w1):N d e w1 base ok v xs:=UE h (λk _ hk=>hb.block k hk)
theorem Ob (h:N d e w base ok v xs) (o:Obj):N d e (w.alloc o) base ok v xs:=JR h (Bj (Below.refl _ _) o)
theorem Qa (h:N d e w base ok v xs):N d e w.drew base ok v xs:=JR h (Eo (Below.refl _ _))
theorem Oc (h:N d e w base ok v xs) (m:Nat):N d e (w.drewN m) base ok v xs:=JR h (Bw (Below.refl _ _) m)
theorem Mf (h:N d e W base ok v xs) (hbase:∀ k,u.ownBlock=some k->W.heap.size<=k) (hb:Below W.heap.size W w1):N d e w1 base (λk=>ok k/\some k≠u.ownBlock) v xs:=
 UD (JR (R4 h) hb) (λk hk=>⟨hk.1,λhe=>by have:=hbase k he.symm;have:=hk.2;omega⟩)
theorem Od (h:N d e w base ok v xs):∃ A c,v= .slice A xs.length c:=by
 obtain ⟨_,rows,hl,hR,_⟩:=h;obtain ⟨A,c,he⟩:=CE hR;exact ⟨A,c,by rw [he,hl]⟩
theorem IG {n c:Nat} (h:N d e w base ok (.slice A n c) xs):n=xs.length/\n<=c/\d.C w A xs.length xs:=by
 obtain ⟨_,rows,hl,hR,hf⟩:=h;obtain ⟨hn,hc,hC⟩:=BH hR;refine ⟨by omega,hc,?_⟩;rw [hl] at hC;refine ⟨rfl,hC.2.1,λhp=>?_⟩;obtain ⟨ad,he,hcell⟩:=hC.2.2 hp;refine ⟨ad,he,λj p hj=>?_⟩;have hjl:j<rows.length:=by have:=(List.getElem?_eq_some_iff.1 hj).1;omega
 obtain ⟨c',hcl,hK,hcc⟩:=hcell j _ (List.getElem?_eq_getElem hjl);have hk:=Nb (hf j p _ hj (List.getElem?_eq_getElem hjl));refine ⟨c',hcl,?_,hcc⟩;rw [show c'=rows[j] from hK.1];exact hk
end
end Kd
end Go.Proofs.YtikggnalmidlhaaGreatDoor.AR
end
section
namespace Go.Proofs.YtikggnalmidlhaaGreatDoor.AR
open RowKit
section
variable {P:Program} {d:Nat} {xs ys:Array Value} {f:Field} {fs:List Field} {a b:Value} {r s:Bool} {w:World}
theorem Mg (hn:(f.name== "_")=false) (ha:(part f.type xs f.offset).run P w= .ok a w) (hb:(part f.type ys f.offset).run P w= .ok b w) (he:(Op.equalIn d f.type a b).run P w= .ok r w):(Op.eqFields d xs ys [f]).run P w= .ok r w:=by
 have hn':f.name≠ "_":=by simpa using hn
 simp only [Op.eqFields,if_pos hn',Sem.run_bind,ha,hb,he,Result.andThen_ok];cases r<;>simp
theorem D9 (hn:(f.name== "_")=false) (ha:(part f.type xs f.offset).run P w= .ok a w) (hb:(part f.type ys f.offset).run P w= .ok b w) (he:(Op.equalIn d f.type a b).run P w= .ok r w) (hr:(Op.eqFields d xs ys fs).run P w= .ok s w):(Op.eqFields d xs ys (f::fs)).run P w= .ok (r&&s) w:=by
 have hn':f.name≠ "_":=by simpa using hn
 rw [Op.eqFields];simp only [if_pos hn',Sem.run_bind,ha,hb,he,Result.andThen_ok];cases r
 ·simp
 ·simpa using hr
theorem Qb {t:TypeId} {fs:Array Field} (hu:P.underlying t=some (.struct fs)) (hp:P.stoodInHeld t=false) (h:(Op.eqFields d xs ys fs.toList).run P w= .ok r w):(Op.equalIn (d+1) t (.agg xs) (.agg ys)).run P w= .ok r w:=by
 have hf:P.fieldsOf t=fs:=by simp [Program.fieldsOf,hu]
 rw [run_equalIn_struct (P:=P) w d t xs ys (by rw [hf];exact hu) hp,hf];exact h
end
end Go.Proofs.YtikggnalmidlhaaGreatDoor.AR
end
section
namespace Go.Proofs.YtikggnalmidlhaaGreatDoor.Aa
open Go.Proofs.YtikggnalmidlhaaGreatDoor.AR (AA)
def Gt (md:Region.Mode) (o:Oper):List Nat:=(o.after.toList.filter (λe=>Region.binds md e)).map (λe=>e.on)
def La (md:Region.Mode) (ops:Array Oper) (i:Nat) (oi:Oper):List Nat:=(List.range ops.size).filter λj=> !(j==i)&&match ops[j]? with
 |some oj=> !(oj.after.any (λe=>Region.binds md e&&e.on==i)||oi.apart ops oj)
 |none=>false
def E8 (md:Region.Mode) (ops:Array Oper):Bool×List (List Nat×List Nat):=(Region.noSelect ops,(List.range ops.size).map λi=>match ops[i]? with
 |some o=>(Gt md o,La md ops i o)
 |none=>([],[]))
def Ff (T:List (List Nat×List Nat)) (l:List Bool) (i:Nat):Bool:= !l.getD i true&&match T[i]? with
 |some r=>r.1.all (λj=>l.getD j false)
 |none=>false
def Jn (T:List (List Nat×List Nat)) (l:List Bool):List Nat:=(List.range T.length).filter (Ff T l)
def Mh (T:List (List Nat×List Nat)) (l:List Bool) (i:Nat):Bool:=match T[i]? with
 |some r=>r.2.all (λj=>l.getD j true)
 |none=>false
def JS (T:List (List Nat×List Nat)) (l:List Bool):Bool:=(List.range T.length).all λj=> !l.getD j false||match T[j]? with
 |some r=>r.1.all (λk=>l.getD k false)
 |none=>true
def Ik (T:List (List Nat×List Nat)) (i:Nat):Nat->Nat->Bool
 |0,_=>false
 |fuel+1,d=>match T[d]? with
  |some r=>r.1.any λj=>j==i||Ik T i fuel j
  |none=>false
def lastT (T:List (List Nat×List Nat)) (l:List Bool) (ds:List Nat) (i:Nat):Bool:=ds.all λd=>l.getD d true||Ik T i T.length d
section
variable {md:Region.Mode} {ops:Array Oper} {T:Bool×List (List Nat×List Nat)} {l l' li lj lk:Array Bool} {ds:List Nat} {i j k:Nat}
theorem gd (l:Array Bool) (j:Nat) (b:Bool):l.getD j b=l.toList.getD j b:=by simp [Array.getD_eq_getD_getElem?,List.getD_eq_getElem?_getD]
theorem Ko (o:Oper) (p:Nat->Bool):o.after.all (λe=> !Region.binds md e||p e.on)=(Gt md o).all p:=by
 unfold Gt;rw [<-Array.all_toList];induction o.after.toList with
 |nil=>rfl
 |cons e r ih=>
  rw [List.all_cons,ih,List.filter_cons];cases h:Region.binds md e<;>simp
theorem PI (o:Oper) (p:Nat->Bool):o.after.any (λe=>Region.binds md e&&p e.on)=(Gt md o).any p:=by
 unfold Gt;rw [<-Array.any_toList];induction o.after.toList with
 |nil=>rfl
 |cons e r ih=>
  rw [List.any_cons,ih,List.filter_cons];cases h:Region.binds md e<;>simp
theorem Fg:(E8 md ops).2.length=ops.size:=by simp [E8]
theorem Gu {o:Oper} (h:ops[i]? =some o):(E8 md ops).2[i]? =some (Gt md o,La md ops i o):=by
 have hi:=(Array.getElem?_eq_some_iff.1 h).1;unfold E8;rw [List.getElem?_map,List.getElem?_range hi,Option.map_some,h]
theorem Gv (h:ops[i]? =none):(E8 md ops).2[i]? =none:=by
 have hi:ops.size<=i:=Array.getElem?_eq_none_iff.1 h;exact List.getElem?_eq_none (by rw [Fg];exact hi)
theorem Nc:Ff (E8 md ops).2 l.toList i=(!l.getD i true&&((ops[i]?).map (·.after.all λe=> !Region.binds md e||l.getD e.on false)).getD false):=by
 unfold Ff;rw [gd];cases h:ops[i]? with
 |none=>rw [Gv h];rfl
 |some o=>
  rw [Gu h];simp only [Option.map_some,Option.getD_some];rw [<-Ko];simp only [gd]
theorem ready_eq:Region.ready md ops l=Jn (E8 md ops).2 l.toList:=by
 unfold Region.ready Jn;rw [Fg];refine List.filter_congr (λi _=>?_);rw [Nc]
theorem free_eq:Region.free md ops l i=Mh (E8 md ops).2 l.toList i:=by
 unfold Region.free Mh;cases h:ops[i]? with
 |none=>rw [Gv h]
 |some oi=>
  rw [Gu h];simp only [La];rw [List.all_filter];congr 1;funext j;rw [gd];cases hj:ops[j]? with
  |none=>cases (j==i)<;>cases (l.toList.getD j true)<;>simp
  |some oj=>
   cases (j==i)<;>cases (l.toList.getD j true)<;>cases (oj.after.any (λe=>Region.binds md e&&e.on==i)||oi.apart ops oj)<;>simp_all
theorem PK:Region.H9 md ops l=JS (E8 md ops).2 l.toList:=by
 unfold Region.H9 JS;rw [Fg];congr 1;funext j;rw [gd];cases h:ops[j]? with
 |none=>rw [Gv h]
 |some o=>
  rw [Gu h];simp only
  rw [<-Ko];simp only [gd]
theorem Mi:∀ (fuel d:Nat),Region.Ez md ops i fuel d=Ik (E8 md ops).2 i fuel d
 |0,_=>rfl
 |fuel+1,d=>by
  unfold Region.Ez Ik;cases h:ops[d]? with
  |none=>rw [Gv h]
  |some o=>
   rw [Gu h];simp only
   rw [<-PI];congr 1;funext e;rw [Mi fuel]
theorem R5:Region.lastB md ops l ds i=lastT (E8 md ops).2 l.toList ds i:=by
 unfold Region.lastB lastT;rw [Fg];congr 1;funext d;rw [gd,Mi]
theorem I7 (h:Ff T.2 l.toList i=true) (hT:E8 md ops=T):(Region.ready md ops l).contains i=true:=by
 subst hT;rw [ready_eq];unfold Jn;rw [List.contains_iff_mem,List.mem_filter,List.mem_range];refine ⟨?_,h⟩;unfold Ff at h;rw [Bool.and_eq_true] at h;cases hq:(E8 md ops).2[i]? with
 |none=>rw [hq] at h;simp at h
 |some r=>exact (List.getElem?_eq_some_iff.1 hq).1
theorem Nf (h:(l.toList.set i true==l'.toList)=true):(l.setIfInBounds i true==l')=true:=by
 rw [beq_iff_eq] at h⊢
 apply Array.ext';rw [Array.toList_setIfInBounds];exact h
def Ur (T:Bool×List (List Nat×List Nat)) (l l':List Bool) (i:Nat):Bool:=T.1&&Mh T.2 l i&&Ff T.2 l i&&(l.set i true==l')
theorem Ar (hT:E8 md ops=T) (h:Ur T l.toList l'.toList i=true):O9 md ops l l' i=true:=by
 simp only [Ur,Bool.and_eq_true] at h;obtain ⟨⟨⟨h1,h2⟩,h3⟩,h4⟩:=h;have h5:=I7 h3 hT;have h6:=Nf h4;subst hT;simp only [O9,Bool.and_eq_true];exact ⟨⟨⟨h1,by rw [free_eq];exact h2⟩,h5⟩,h6⟩
def Qc (T:Bool×List (List Nat×List Nat)) (ds:List Nat) (l l':List Bool) (i:Nat):Bool:=T.1&&Mh T.2 l i&&Ff T.2 l i&&JS T.2 l&&lastT T.2 l ds i&&(l.set i true==l')
theorem R6 (hT:E8 md ops=T) (h:Qc T ds l.toList l'.toList i=true):takeB md ops ds l l' i=true:=by
 simp only [Qc,Bool.and_eq_true] at h;obtain ⟨⟨⟨⟨⟨h1,h2⟩,h3⟩,h4⟩,h5⟩,h6⟩:=h;have h7:=I7 h3 hT;have h8:=Nf h6;subst hT;simp only [takeB,Bool.and_eq_true];exact ⟨⟨⟨⟨⟨h1,by rw [free_eq];exact h2⟩,h7⟩,by rw [PK];exact h4⟩,by rw [R5];exact h5⟩,h8⟩
theorem C9 (hT:E8 md ops=T) (h:(Jn T.2 l.toList==[i]&&l.toList.set i true==l'.toList)=true):Ig md ops l l' i=true:=by
 simp only [Bool.and_eq_true] at h;obtain ⟨h1,h2⟩:=h;subst hT;simp only [Ig,Bool.and_eq_true];exact ⟨by rw [ready_eq];exact h1,Nf h2⟩
theorem FD (hT:E8 md ops=T) (h:(Jn T.2 l.toList==[])=true):(Region.ready md ops l==[])=true:=by
 subst hT;rw [ready_eq];exact h
def UF (B:List Nat) (d:Nat):List Nat->Nat
 |[]=>0
 |n::r=>(2^n|||(if n<d then B.getD n 0 else 0))|||UF B d r
def FE (T:List (List Nat×List Nat)) (B:List Nat):Bool:=(List.range T.length).all λd=>match T[d]? with
 |some r=>(B.getD d 0|||UF B d r.1)==UF B d r.1
 |none=>false
theorem Oe {B:List Nat} {d i:Nat}:∀ {ns:List Nat},(UF B d ns).testBit i=true->∃ n∈ns,n=i\/(n<d/\(B.getD n 0).testBit i=true)
 |[],h=>by simp [UF] at h
 |n::r,h=>by
  unfold UF at h;rw [Nat.testBit_or,Nat.testBit_or,Bool.or_eq_true,Bool.or_eq_true] at h;rcases h with (h|h)|h
  ·rw [Nat.testBit_two_pow] at h;exact ⟨n,List.mem_cons_self, .inl (by simpa using h)⟩
  ·by_cases hn:n<d
   ·rw [if_pos hn] at h;exact ⟨n,List.mem_cons_self, .inr ⟨hn,h⟩⟩
   ·rw [if_neg hn] at h;simp at h
  ·obtain ⟨m,hm,h2⟩:=Oe h;exact ⟨m,List.mem_cons_of_mem _ hm,h2⟩
theorem Kq {T:List (List Nat×List Nat)} {B:List Nat} (hB:FE T B=true):∀ (fuel d:Nat),d<fuel->d<T.length->(B.getD d 0).testBit i=true->Ik T i fuel d=true
 |0,d,h,_,_=>by omega
 |fuel+1,d,h,hd,hb=>by
  have h1:=List.all_eq_true.1 hB d (List.mem_range.2 hd);cases hr:T[d]? with
  |none=>rw [hr] at h1;simp at h1
  |some r=>
   rw [hr] at h1;simp only [beq_iff_eq] at h1;have h2:(UF B d r.1).testBit i=true:=by rw [<-h1,Nat.testBit_or,hb,Bool.true_or]
   obtain ⟨n,hn,h3⟩:=Oe h2;unfold Ik;rw [hr];simp only
   rw [List.any_eq_true];refine ⟨n,hn,?_⟩;rcases h3 with rfl|⟨h4,h5⟩
   ·simp
   ·rw [Kq hB fuel n (by omega) (by omega) h5,Bool.or_true]
def TK (T:List (List Nat×List Nat)) (B:List Nat) (l:List Bool) (ds:List Nat) (i:Nat):Bool:=ds.all λd=>l.getD d true||(decide (d<T.length)&&(B.getD d 0).testBit i)
def TL (T:Bool×List (List Nat×List Nat)) (B:List Nat) (ds:List Nat) (l l':List Bool) (i:Nat):Bool:=T.1&&Mh T.2 l i&&Ff T.2 l i&&JS T.2 l&&TK T.2 B l ds i&&(l.set i true==l')
theorem CJ {B:List Nat} (hT:E8 md ops=T) (hB:FE T.2 B=true) (h:TL T B ds l.toList l'.toList i=true):takeB md ops ds l l' i=true:=by
 refine R6 hT ?_;simp only [TL,Qc,Bool.and_eq_true] at h⊢
 obtain ⟨⟨⟨⟨⟨h1,h2⟩,h3⟩,h4⟩,h5⟩,h6⟩:=h;refine ⟨⟨⟨⟨⟨h1,h2⟩,h3⟩,h4⟩,?_⟩,h6⟩;unfold TK at h5;unfold lastT;rw [List.all_eq_true] at h5⊢
 intro d hd;have h7:=h5 d hd;rw [Bool.or_eq_true,Bool.and_eq_true,decide_eq_true_eq] at h7;rcases h7 with h7|⟨h8,h9⟩
 ·rw [h7,Bool.true_or]
 ·rw [Kq hB _ d h8 h8 h9,Bool.or_true]
theorem EH {P:Program} {Q:Exit->Act->World->Prop} {S:World->Prop} {n:Nat} {a:Act} {w:World} {B:List Nat} (hT:E8 md ops=T) (hB:FE T.2 B=true) (h:AA (E8 md ops=T)->AA (FE T.2 B=true)->BZ P md ops Q S ds n l a w):BZ P md ops Q S ds n l a w:=h ⟨hT⟩ ⟨hB⟩
end
def Hd:Code->Nat->Option (Array Oper)
 | .region id ops _,k=>if id==k then some ops else none
 | .seq a b,k=>match Hd a k with
  |some o=>some o
  |none=>Hd b k
 | .cond _ a b,k=>match Hd a k with
  |some o=>some o
  |none=>Hd b k
 | .block _ c,k=>Hd c k
 | .loop c,k=>Hd c k
 | .scope c,k=>Hd c k
 | .rangeFunc _ _ a b,k=>match Hd a k with
  |some o=>some o
  |none=>Hd b k
 |_,_=>none
def opsOf (f:Func) (k:Nat):Array Oper:=((f.body.bind λc=>Hd c k)).getD #[]
end Go.Proofs.YtikggnalmidlhaaGreatDoor.Aa
end
section
namespace Go.Proofs.YtikggnalmidlhaaGreatDoor.AR
open RowKit
section
variable {P:Program} {ops:Array Oper} {rest:List Oper} {o:Oper} {a:Act} {Q:Exit->Act->World->Prop} {W:World}
theorem Hq (hw:Region.wanted o (yielded ops a.tmps)=true) (h:wpList P ops Q ({o with guard:=none}::rest) a W):wpList P ops Q (o::rest) a W:=by
 have h1:Region.wanted {o with guard:=none} (yielded ops a.tmps)=true:=rfl;unfold wpList at h⊢
 rw [if_pos h1] at h;rw [if_pos hw];exact h
end
end Go.Proofs.YtikggnalmidlhaaGreatDoor.AR
end
section
namespace Go.Proofs.YtikggnalmidlhaaGreatDoor.Aa
end Go.Proofs.YtikggnalmidlhaaGreatDoor.Aa
end
section
namespace Go.Proofs.YtikggnalmidlhaaGreatDoor.AR
open RowKit
namespace Kd
section
variable {α:Type} {d:Kd α} {e base n cap g:Nat} {ok ok' okp:Nat->Prop} {w w1 W:World} {v v1:Value} {xs ys:List α}
theorem UG {rows:List (List Value)} (hR:(raw d.sz).R e w1 base (λk=>k=W.heap.size) v1 rows) (hg:W.grownBy w1 none) (hat:∃ b,v1.ownBlock=some b/\W.heap.size<=b) (hl:rows.length=xs.length) (hf:∀ (j:Nat) (x:α) (c:List Value),xs[j]? =some x->rows[j]? =some c->FK d W okp x c)
 (hok:∀ k,okp k->ok k) (hfresh:ok W.heap.size):N d e w1 base ok v1 xs:=by
 obtain ⟨b,hb,hle⟩:=hat;refine ⟨λk hk=>by rw [hR.1 k hk];exact hfresh,rows,hl,PH hR,λj x c hx hc=>?_⟩;refine LZ (OZ (Md (hf j x c hx hc)) (λk hk hlt=>hg.block k hlt (by simp))) (λk hk=>⟨hok k hk.1,λhe=>?_⟩);rw [hb] at he;injection he with he
 have:=hk.2;omega
end
section
variable {P:Program} {ops:Array Oper} {rest:List Oper} {o:Oper} {a:Act} {Q:Exit->Act->World->Prop} {Kc:Act->World->Prop} {α:Type}
theorem Jo (d:Kd α) {w0 W:World} (base e:Nat) (hw:Region.wanted o (yielded ops a.tmps)=true) {N':Tmp} (_hd:o.dst=some N') {xs:List α} {inner:List Value} {ok okp:Nat->Prop}
 (hrun:(execOp a.eval o).run P W= .ok (.value (.slice (some ⟨W.heap.size,0,none⟩) xs.length xs.length)) (W.alloc (.cells inner.toArray e)))
 (hrep:CG (FK d W okp) d.sz xs inner) (hok:∀ k,okp k->ok k) (hfresh:ok W.heap.size) (HB:Below base w0 W) (hbase:base<=W.heap.size) (hm:xs.length<=9223372036854775807)
 (h:∀ v1 w1,N d e w1 base ok v1 xs->Below base w0 w1->W.grownBy w1 none->(∃ b,v1.ownBlock=some b/\W.heap.size<=b)->Kc (a.put o.dst v1) w1):
 if Region.wanted o (yielded ops a.tmps)=true then Oper.wp P o a W Kc Q else Kc (a.put o.dst undef) W:=by
 refine FW (raw d.sz) base e hw _hd (xs:=chunks d.sz xs.length inner) (inner:=inner) (ok:=λk=>k=W.heap.size) (okp:=λ_=>False) (by rw [DZ];exact hrun) (Me hrep (λy c hk=>⟨d.K_len (Nb hk),d.K_one (Nb hk)⟩)) (λ_ hk=>hk.elim) rfl HB hbase (by rw [DZ];exact hm) ?_;intro v1 w1 hr hb hg hat;exact h v1 w1 (UG hr hg hat (DZ _ _ _) (λj y c hy hc=>by rw [Hm hc];exact hrep.2 j y hy) hok hfresh) hb hg hat
end
end Kd
end Go.Proofs.YtikggnalmidlhaaGreatDoor.AR
end
section
namespace Go.Proofs.YtikggnalmidlhaaGreatDoor.Ad
open RowKit AR
theorem BM (k k':IntKind) (x y:Int):Builtin.max2 (.int k x) (.int k' y)=pure (.int k (if x<y then y else x)):=by simp only [Builtin.max2,gt_iff_lt]
theorem BN (k k':IntKind) (x y:Int):Builtin.min2 (.int k x) (.int k' y)=pure (.int k (if y<x then y else x)):=by simp only [Builtin.min2]
theorem Bo (ats:Array TypeId) (ty:TypeId) (a b:Value):Builtin.max_ ats ty #[a,b]=(Builtin.max2 a b>>=λs=>pure s):=by simp only [Builtin.max_,List.foldlM_cons,List.foldlM_nil]
theorem Bp (ats:Array TypeId) (ty:TypeId) (a b:Value):Builtin.min_ ats ty #[a,b]=(Builtin.min2 a b>>=λs=>pure s):=by simp only [Builtin.min_,List.foldlM_cons,List.foldlM_nil]
theorem BC (ats:Array TypeId) (ty:TypeId) (a b c:Value):Builtin.max_ ats ty #[a,b,c]=(Builtin.max2 a b>>=λs=>Builtin.max2 s c>>=λs=>pure s):=by simp only [Builtin.max_,List.foldlM_cons,List.foldlM_nil]
theorem BD (ats:Array TypeId) (ty:TypeId) (a b c:Value):Builtin.min_ ats ty #[a,b,c]=(Builtin.min2 a b>>=λs=>Builtin.min2 s c>>=λs=>pure s):=by simp only [Builtin.min_,List.foldlM_cons,List.foldlM_nil]
theorem BO (ats:Array TypeId) (ty:TypeId) (a b c d:Value):Builtin.max_ ats ty #[a,b,c,d]=(Builtin.max2 a b>>=λs=>Builtin.max2 s c>>=λs=>Builtin.max2 s d>>=λs=>pure s):=by simp only [Builtin.max_,List.foldlM_cons,List.foldlM_nil]
theorem BP (ats:Array TypeId) (ty:TypeId) (a b c d:Value):Builtin.min_ ats ty #[a,b,c,d]=(Builtin.min2 a b>>=λs=>Builtin.min2 s c>>=λs=>Builtin.min2 s d>>=λs=>pure s):=by simp only [Builtin.min_,List.foldlM_cons,List.foldlM_nil]
end Go.Proofs.YtikggnalmidlhaaGreatDoor.Ad
namespace Go.Proofs.YtikggnalmidlhaaGreatDoor.AR
open RowKit
section
variable {P:Program} {ops:Array Oper} {rest:List Oper} {o:Oper} {a:Act} {Q:Exit->Act->World->Prop} {W:World}
theorem AO {f:FuncId} {as_:Array Operand} {ts:Array TypeId} (_ho:o.op= .call {callee:= .value (.func f),args:=as_,argTypes:=ts}) (h:wpList P ops Q (o::rest) a W):wpList P ops Q (o::rest) a W:=h
theorem DR {b:Builtin} {xs:Array Operand} {ts:Array TypeId} (_ho:o.op= .call {callee:= .builtin b,args:=xs,argTypes:=ts}) (h:wpList P ops Q (o::rest) a W):wpList P ops Q (o::rest) a W:=h
end
theorem Hr (w:World) (n:Nat):w.drewN n=w.drewN n:=rfl
end Go.Proofs.YtikggnalmidlhaaGreatDoor.AR
namespace Go.Proofs.YtikggnalmidlhaaGreatDoor.AR
open RowKit
namespace Kd
def V {α:Type} (d:Kd α) (_e:Nat) (W:World) (_base:Nat) (ok:Nat->Prop) (v:Value) (xs:List α):Prop:=∃ A c,v= .slice A xs.length c/\xs.length<=c/\F d W ok A xs.length xs
section
variable {α β:Type} {d:Kd α} {e base base' n m c g N' lo hi:Nat} {ok ok' S:Nat->Prop} {w W w1:World} {A:Option Addr} {ad:Addr} {u v v1:Value} {xs:List α}
theorem Jp (h:V d e W base ok v xs) (hF:∀ A,F d W ok A xs.length xs->F d w1 ok' A xs.length xs):V d e w1 base' ok' v xs:=by
 obtain ⟨A,c,hv,hl,hf⟩:=h;exact ⟨A,c,hv,hl,hF A hf⟩
theorem Qd (hl:xs.length<=c) (hf:F d W ok A xs.length xs):V d e W base ok (.slice A xs.length c) xs:=⟨A,c,rfl,hl,hf⟩
theorem Lb (h:V d e W base ok (.slice A n c) xs):n=xs.length/\n<=c/\F d W ok A xs.length xs:=by
 obtain ⟨A',c',hv,hl,hf⟩:=h;injection hv with ha hn hc
 subst ha;subst hc;exact ⟨hn,by rw [hn];exact hl,hf⟩
theorem Dv (h:V d e W base ok (.slice A n c) xs):n=xs.length/\n<=c/\d.C W A xs.length xs:=⟨(Lb h).1,(Lb h).2.1,Uo (Lb h).2.2⟩
theorem U9 (h:V d e W base ok (.slice A n c) xs):F d W ok A n xs:=by
 obtain ⟨hn,_,hf⟩:=Lb h;rw [hn];exact hf
theorem F7 (d:Kd α) (e:Nat) (W:World) (base:Nat) (ok:Nat->Prop):V d e W base ok (.slice none 0 0) []:=⟨none,0,rfl,Nat.le_refl _,Uq d W ok⟩
theorem VX (h:d.R e W base ok v xs):V d e W base' ok v xs:=by
 obtain ⟨A,c,rfl⟩:=CE h;exact ⟨A,c,rfl,(BH h).2.1,VL h⟩
theorem GL (h:V d e W base ok v xs) (hok:∀ k,ok k->ok' k):V d e W base ok' v xs:=Jp h (λ_ hf=>Na hf hok)
theorem Es (h:V d e W base ok v xs) (hb:Below W.heap.size W w1):V d e w1 base ok v xs:=Jp h (λ_ hf=>JQ hf hb)
theorem Og (h:V d e W base ok v xs) (o:Obj):V d e (W.alloc o) base ok v xs:=Jp h (λ_ hf=>Ry hf o)
theorem Ht (h:V d e W base ok v xs):V d e W.drew base ok v xs:=Jp h (λ_ hf=>UC hf)
theorem Oh (h:V d e W base ok v xs) (m:Nat):V d e (W.drewN m) base ok v xs:=Jp h (λ_ hf=>Rz hf m)
theorem Cv (h:V d e W base ok v xs) (hbase:∀ k,u.ownBlock=some k->W.heap.size<=k) (hb:Below W.heap.size W w1):V d e w1 base (λk=>ok k/\some k≠u.ownBlock) v xs:=Jp h (λ_ hf=>QY hf hbase hb)
theorem Ew (h:V d e W base ok v xs) (a:Nat) (ha:W.heap.size<=a):V d e W base (λk=>ok k/\k≠a) v xs:=Jp h (λ_ hf=>QZ hf a ha)
theorem Qe (h:F d W ok A xs.length xs) (hm:m<=xs.length):F d W ok A (xs.take m).length (xs.take m):=TJ h (λ_ hC=>Tw hC hm)
theorem Qf (h:F d W ok A xs.length xs) (hm:m<=xs.length) (hc:xs.length<=c):F d W ok (if c=m then A else A.map (·.add (m*d.sz))) (xs.drop m).length (xs.drop m):=TJ h (λ_ hC=>Tx hC hm hc)
theorem Eb {l:List α} (hl:l.length<=c) (hf:F d W ok A l.length l):FK (Kd.slice e d) W ok l [.slice A l.length c]:=λW' hW=>⟨A,c,rfl,hl,hf W' hW⟩
theorem Lc {M:Nat->Prop} (h:d.R e w1 W.heap.size ok v xs) (hle:w.heap.size<=W.heap.size) (hM:∀ k,w.heap.size<=k->M k):d.R e w1 W.heap.size (λk=>M k/\ok k) v xs:=CQ (Ei h) (λk hk=>⟨hM k (Nat.le_trans hle hk.2.1),hk.1⟩)
end
end Kd
end Go.Proofs.YtikggnalmidlhaaGreatDoor.AR
end
section
namespace Go.Proofs.YtikggnalmidlhaaGreatDoor.AR
theorem CG.one {α:Type} {R:α->List Value->Prop} {ps:List α} {cs:List Value} {p:α} {v:Value} (hp:R p [v]) (h:CG R 1 ps cs):CG R 1 (p::ps) (v::cs):=by
 refine ⟨by simp [h.1],λj q hq=>?_⟩;cases j with
 |zero=>
  simp only [List.getElem?_cons_zero,Option.some.injEq] at hq;subst hq;simpa using hp
 |succ j=>
  simp only [List.getElem?_cons_succ] at hq;have h1:=h.2 j q hq;simpa [Nat.mul_one] using h1
theorem CG.front {α:Type} {R:α->List Value->Prop} {size:Nat} {ps:List α} {cs c all:List Value} {p:α} (hp:R p c) (hc:c.length=size) (h:CG R size ps cs) (ha:c++cs=all):CG R size (p::ps) all:=by
 subst ha;refine ⟨by rw [List.length_append,hc,h.1,List.length_cons,Nat.succ_mul,Nat.add_comm],λj q hq=>?_⟩;cases j with
 |zero=>
  simp only [List.getElem?_cons_zero,Option.some.injEq] at hq;subst hq;rw [Nat.zero_mul,List.drop_zero,List.take_append_of_le_length (by omega),List.take_of_length_le (by omega)];exact hp
 |succ j=>
  simp only [List.getElem?_cons_succ] at hq;have h1:=h.2 j q hq;rw [Nat.succ_mul,List.drop_append,List.drop_of_length_le (by rw [hc];exact Nat.le_add_left _ _),List.nil_append,hc,Nat.add_sub_cancel];exact h1
theorem CG.c2 {α:Type} {R:α->List Value->Prop} {ps:List α} {cs:List Value} {p:α} {va vb:Value} (hp:R p [va,vb]) (h:CG R 2 ps cs):CG R 2 (p::ps) (va::vb::cs):=CG.front hp rfl h rfl
theorem CG.c3 {α:Type} {R:α->List Value->Prop} {ps:List α} {cs:List Value} {p:α} {va vb vc:Value} (hp:R p [va,vb,vc]) (h:CG R 3 ps cs):CG R 3 (p::ps) (va::vb::vc::cs):=CG.front hp rfl h rfl
theorem CG.c4 {α:Type} {R:α->List Value->Prop} {ps:List α} {cs:List Value} {p:α} {va vb vc vd:Value} (hp:R p [va,vb,vc,vd]) (h:CG R 4 ps cs):CG R 4 (p::ps) (va::vb::vc::vd::cs):=CG.front hp rfl h rfl
theorem CG.c5 {α:Type} {R:α->List Value->Prop} {ps:List α} {cs:List Value} {p:α} {va vb vc vd ve:Value} (hp:R p [va,vb,vc,vd,ve]) (h:CG R 5 ps cs):CG R 5 (p::ps) (va::vb::vc::vd::ve::cs):=CG.front hp rfl h rfl
theorem CG.c6 {α:Type} {R:α->List Value->Prop} {ps:List α} {cs:List Value} {p:α} {va vb vc vd ve vf:Value} (hp:R p [va,vb,vc,vd,ve,vf]) (h:CG R 6 ps cs):CG R 6 (p::ps) (va::vb::vc::vd::ve::vf::cs):=CG.front hp rfl h rfl
theorem CG.c7 {α:Type} {R:α->List Value->Prop} {ps:List α} {cs:List Value} {p:α} {va vb vc vd ve vf vg:Value} (hp:R p [va,vb,vc,vd,ve,vf,vg]) (h:CG R 7 ps cs):CG R 7 (p::ps) (va::vb::vc::vd::ve::vf::vg::cs):=CG.front hp rfl h rfl
theorem CG.c8 {α:Type} {R:α->List Value->Prop} {ps:List α} {cs:List Value} {p:α} {va vb vc vd ve vf vg vh:Value} (hp:R p [va,vb,vc,vd,ve,vf,vg,vh]) (h:CG R 8 ps cs):CG R 8 (p::ps) (va::vb::vc::vd::ve::vf::vg::vh::cs):=CG.front hp rfl h rfl
theorem CG.c9 {α:Type} {R:α->List Value->Prop} {ps:List α} {cs:List Value} {p:α} {va vb vc vd ve vf vg vh vi:Value} (hp:R p [va,vb,vc,vd,ve,vf,vg,vh,vi]) (h:CG R 9 ps cs):CG R 9 (p::ps) (va::vb::vc::vd::ve::vf::vg::vh::vi::cs):=CG.front hp rfl h rfl
theorem CG.c10 {α:Type} {R:α->List Value->Prop} {ps:List α} {cs:List Value} {p:α} {va vb vc vd ve vf vg vh vi vj:Value} (hp:R p [va,vb,vc,vd,ve,vf,vg,vh,vi,vj]) (h:CG R 10 ps cs):CG R 10 (p::ps) (va::vb::vc::vd::ve::vf::vg::vh::vi::vj::cs):=CG.front hp rfl h rfl
end Go.Proofs.YtikggnalmidlhaaGreatDoor.AR
end
