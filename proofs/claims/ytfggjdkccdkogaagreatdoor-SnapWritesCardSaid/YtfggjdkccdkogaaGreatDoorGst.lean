/- A walk's state: what is below, what is laid, the boxes that are held; and steps that keep it. No condition. -/
import Derived.Test.YtfggjdkccdkogaaGreatDoorPrint0
import Derived.Outline
namespace Go.Proofs.YtfggjdkccdkogaaGreatDoor.Print
open RowKit Ac Aq Aw
set_option linter.unusedVariables false
set_option linter.unusedSimpArgs false
abbrev Bs:=List (Nat×Array Value×TypeId)
inductive Me:Bs->Nat->Array Value->TypeId->Array Value->Bs->Prop
 |head {g cs t cs' l}:Me ((g,cs,t)::l) g cs t cs' ((g,cs',t)::l)
 |tail {q g cs t cs' l l'}:Me l g cs t cs' l'->Me (q::l) g cs t cs' (q::l')
structure St (w W:World) (bs:Bs):Prop where
 b:Below w.heap.size w W
 x:∀ p∈bs,W.heap[p.1]? =some (.cells p.2.1 p.2.2 (0,0))/\w.heap.size<=p.1
 n:bs.Pairwise λp q=>p.1≠q.1
section
variable {w W W':World} {bs bs':Bs} {g i:Nat} {cs cs':Array Value} {t:TypeId}
theorem Me.mem (h:Me bs g cs t cs' bs'):(g,cs,t)∈bs:=by
 induction h with
 |head=>exact .head _
 |tail _ ih=>exact .tail _ ih
theorem Me.key (h:Me bs g cs t cs' bs'):bs'.map (·.1)=bs.map (·.1):=by
 induction h with
 |head=>rfl
 |tail _ ih=>rw [List.map_cons,List.map_cons,ih]
theorem Me.far (h:Me bs g cs t cs' bs') (n:bs.Pairwise λp q=>p.1≠q.1):∀ p∈bs',p=(g,cs',t)\/(p∈bs/\p.1≠g):=by
 induction h with
 |head=>
  intro p hp;rcases List.mem_cons.1 hp with rfl|hp
  ·exact .inl rfl
  ·exact .inr ⟨.tail _ hp,λe=>(List.pairwise_cons.1 n).1 p hp e.symm⟩
 |tail hu ih=>
  intro p hp;rcases List.mem_cons.1 hp with rfl|hp
  ·exact .inr ⟨.head _,(List.pairwise_cons.1 n).1 _ hu.mem⟩
  ·exact (ih (List.pairwise_cons.1 n).2 p hp).imp id λh=>⟨.tail _ h.1,h.2⟩
theorem Pz {l l':Bs} (e:l'.map (·.1)=l.map (·.1)) (n:l.Pairwise λp q=>p.1≠q.1):l'.Pairwise λp q=>p.1≠q.1:=by
 have h:(l'.map (·.1)).Pairwise (· ≠ ·):=by rw [e];exact List.pairwise_map.2 n
 exact List.pairwise_map.1 h
theorem St.start (w:World):AA (St w w []):=⟨⟨Below.refl _ _,by simp, .nil⟩⟩
theorem St.below (S:AA (St w W bs)) (h:Below W.heap.size W W'):AA (St w W' bs):=
 ⟨⟨AO S.out.b h,λp hp=>⟨DN (S.out.x p hp).1 h,(S.out.x p hp).2⟩,S.out.n⟩⟩
theorem St.upd (S:AA (St w W bs)) (hu:Me bs g cs t cs' bs') (hn:W'.heap[g]? =some (.cells cs' t (0,0))) (hk:∀ i o,i≠g->W.heap[i]? =some o->W'.heap[i]? =some o) (hb:Below w.heap.size w W'):AA (St w W' bs'):=
 ⟨⟨hb,λp hp=>by
  rcases hu.far S.out.n p hp with rfl|⟨h,hne⟩
  ·exact ⟨hn,(S.out.x _ hu.mem).2⟩
  ·exact ⟨hk _ _ hne (S.out.x p h).1,(S.out.x p h).2⟩,Pz hu.key S.out.n⟩⟩
theorem St.set (S:AA (St w W bs)) (v:Value) (hu:Me bs g cs t (cs.setIfInBounds i v) bs'):AA (St w (W.setCell ⟨g,i,none⟩ v) bs'):=
 St.upd S hu (heap_setCell_same W g i cs t v (S.out.x _ hu.mem).1) (λk o hk h=>(heap_setCell_other W ⟨g,i,none⟩ k v hk).trans h) (S.out.b.setCell (p:=⟨g,i,none⟩) (S.out.x _ hu.mem).2 _)
theorem St.row (S:AA (St w W bs)) (hu:Me bs g cs t cs' bs'):AA (St w (W.setRow g cs') bs'):=
 St.upd S hu (setRow_heap W g cs cs' t (0,0) (S.out.x _ hu.mem).1) (λk o hk h=>(setRow_other W g k cs' hk).trans h)
  {S.out.b with size:=by simpa using S.out.b.size,block:=λi hi=>(setRow_other W g i cs' (by have:=(S.out.x _ hu.mem).2;omega)).trans (S.out.b.block i hi)}
theorem St.push (S:AA (St w W bs)) (hg:g=W.heap.size) (h:W'.heap[g]? =some (.cells cs t (0,0))) (hb:Below W.heap.size W W'):AA (St w W' ((g,cs,t)::bs)):=by
 obtain ⟨S2⟩:=St.below S hb;refine ⟨⟨S2.b,λp hp=>?_,List.pairwise_cons.2 ⟨λp hp e=>?_,S2.n⟩⟩⟩
 ·rcases List.mem_cons.1 hp with rfl|hp
  ·exact ⟨h,by rw [hg];exact S.out.b.size⟩
  ·exact S2.x p hp
 ·have:=(Array.getElem?_eq_some_iff.1 (S.out.x p hp).1).1;simp only at e;omega
theorem St.front (S:AA (St w W bs)) (hu:Me bs g cs t cs' bs'):∃ L,AA (St w W ((g,cs,t)::L))/\∀ W',AA (St w W' ((g,cs',t)::L))->AA (St w W' bs'):=by
 refine ⟨bs.filter λp=>decide (p.1≠g),⟨⟨S.out.b,λp hp=>?_,List.pairwise_cons.2 ⟨λp hp=>?_,S.out.n.filter _⟩⟩⟩,λW' T=>⟨⟨T.out.b,λp hp=>?_,Pz hu.key S.out.n⟩⟩⟩
 ·rcases List.mem_cons.1 hp with rfl|hp
  ·exact S.out.x _ hu.mem
  ·exact S.out.x p (List.mem_filter.1 hp).1
 ·exact λe=>of_decide_eq_true (List.mem_filter.1 hp).2 e.symm
 ·rcases hu.far S.out.n p hp with rfl|⟨h,hne⟩
  ·exact T.out.x _ (.head _)
  ·exact T.out.x p (.tail _ (List.mem_filter.2 ⟨h,decide_eq_true hne⟩))
theorem St.drop {p:Nat×Array Value×TypeId} (S:AA (St w W (p::bs))):AA (St w W bs):=⟨⟨S.out.b,λq hq=>S.out.x q (.tail _ hq),(List.pairwise_cons.1 S.out.n).2⟩⟩
theorem St.drawn (S:AA (St w W bs)) (h:BP W W'):AA (St w W' bs):=by
 obtain ⟨n,rfl⟩:=h;exact St.below S (Ce (Below.refl _ _) _)
theorem St.cell (S:AA (St w W bs)) {v:Value} (hm:(g,cs,t)∈bs) (hv:cs[i]? =some v):W.cell? ⟨g,i,none⟩=some v:=JG (S.out.x _ hm).1 hv
theorem St.laid (S:AA (St w W bs)) (hG:AA (D8 w)):AA (D8 W):=⟨D8.below hG.out S.out.b⟩
theorem St.G7 {f:FuncId} {args:Array Value} {r:Ending} (S:AA (St w W bs)) (h:Calls Tryz.prog f args W λe W'=>e=r/\Below W.heap.size W W'):Calls Tryz.prog f args W λe W'=>e=r/\AA (St w W' bs):=h.mono λ_ _ h=>⟨h.1,St.below S h.2⟩
theorem St.Uf {f:FuncId} {args:Array Value} {r:Ending} (S:AA (St w W bs)) (h:Calls Tryz.prog f args W λe W'=>e=r/\BP W W'):Calls Tryz.prog f args W λe W'=>e=r/\AA (St w W' bs):=h.mono λ_ _ h=>⟨h.1,St.drawn S h.2⟩
end
def P5 (d:TypeDesc):Bool:=match d with| .struct _| .array _ _=>true|_=>false
section
variable {w W:World} {bs bs':Bs} {ops:Array Oper} {rest:List Oper} {o:Oper} {a:Act} {Q:Exit->Act->World->Prop} {N:Tmp} {cs cs':Array Value} {t ty:TypeId} {x y:Operand} {g i:Nat} {d:TypeDesc}
theorem Gg {F:Nat->Act} (cs:Array Value) (t:TypeId) (h:∀ g W',AA (St w W' ((g,cs,t)::bs))->wpList Tryz.prog ops Q rest (F g) W') (S:AA (St w W bs):=by with_reducible assumption) (hd:o.dst=some N:=by with_reducible rfl) (hg:o.guard=none:=by rfl)
 (hr:(execOp a.eval o).run Tryz.prog W= .ok (.value (.pointer (some ⟨W.heap.size,0,none⟩))) (W.alloc (.cells cs t (0,0))):=by first|(go_simp;done)|(go_simp;rfl)) (ha:∀ g,a.put o.dst (.pointer (some ⟨g,0,none⟩))=F g:=by intro g;simp only [Act.put,List.setIfInBounds_toArray,List.set_cons_zero,List.set_cons_succ];rfl):wpList Tryz.prog ops Q (o::rest) a W:=
 Ju hg hd hr λg hg w1 hb hB=>by rw [ha g];exact h g w1 (St.push S hg hb hB)
theorem Db (_:o.op= .load ty x) (h:wpList Tryz.prog ops Q (o::rest) a W):wpList Tryz.prog ops Q (o::rest) a W:=h
theorem Yr (h:wpList Tryz.prog ops Q ({o with guard:=none}::rest) a W) (hw:Region.wanted o (yielded ops a.tmps)=true:=by rfl):wpList Tryz.prog ops Q (o::rest) a W:=by
 have h1:Region.wanted {o with guard:=none} (yielded ops a.tmps)=true:=rfl;unfold wpList at h⊢
 rw [if_pos h1] at h;rw [if_pos hw];exact h
theorem Ke {a':Act} {bs₁:Bs} (h:wpList Tryz.prog ops Q rest a' W) (S:AA (St w W bs):=by with_reducible assumption) (ho:o.op= .load ty x:=by with_reducible rfl) (hg:o.guard=none:=by rfl) (hx:a.eval x= .pointer (some ⟨g,0,none⟩):=by exact rfl)
 (hu:Tryz.prog.underlying ty=some d:=by with_reducible assumption) (hm:Me bs g cs t #[] bs₁:=by with_reducible first|exact .head|exact .tail .head|exact .tail (.tail .head)|exact .tail (.tail (.tail .head))|exact .tail (.tail (.tail (.tail .head)))) (hi:(Tryz.prog.info? ty).map (·.size)=some cs.size:=by kernel_rfl) (hk:P5 d=true:=by exact rfl) (ha:a.put o.dst (.agg cs)=a':=by simp only [Act.put,List.setIfInBounds_toArray,List.set_cons_zero,List.set_cons_succ];rfl):wpList Tryz.prog ops Q (o::rest) a W:=by
 subst ha;exact wpList_load_row hg ty x ho g hx t cs (0,0) d (S.out.x _ hm.mem).1 hu (by cases d<;>exact hk) hi h
theorem Gs {v:Value} {a':Act} {bs₁:Bs} (h:wpList Tryz.prog ops Q rest a' W) (S:AA (St w W bs):=by with_reducible assumption) (ho:o.op= .load ty x:=by with_reducible rfl) (hg:o.guard=none:=by rfl) (hx:a.eval x= .pointer (some ⟨g,i,none⟩):=by exact rfl)
 (hu:Tryz.prog.underlying ty=some d:=by with_reducible assumption) (hk:P5 d=false:=by exact rfl) (hm:Me bs g cs t #[] bs₁:=by with_reducible first|exact .head|exact .tail .head|exact .tail (.tail .head)|exact .tail (.tail (.tail .head))|exact .tail (.tail (.tail (.tail .head)))) (hv:cs[i]? =some v:=by exact rfl) (ha:a.put o.dst v=a':=by simp only [Act.put,List.setIfInBounds_toArray,List.set_cons_zero,List.set_cons_succ];rfl):wpList Tryz.prog ops Q (o::rest) a W:=by
 subst ha;have hc:=St.cell S hm.mem hv;have hagg:(isAgg ty).run Tryz.prog W= .ok false W:=by
  unfold isAgg;rw [Sem.run_bind,run_underlying hu W];cases d<;>first|rfl|(simp [P5] at hk;done)
 have hrun:(execOp a.eval o).run Tryz.prog W= .ok (.value v) W:=by
  unfold execOp;simp [ho,hx,Instr.loadAt,Instr.sureAddr,loadVar,Sem.run_bind,hagg,hc]
 exact Kd.LV hg hrun h
theorem Gh (h:∀ W',AA (St w W' bs')->wpList Tryz.prog ops Q rest a W') (S:AA (St w W bs):=by with_reducible assumption) (ho:o.op= .store ty x y:=by with_reducible rfl) (hg:o.guard=none:=by rfl) (hd:o.dst=none:=by rfl) (hx:a.eval x= .pointer (some ⟨g,0,none⟩):=by exact rfl)
 (hy:a.eval y= .agg cs':=by exact rfl) (hu:Me bs g cs t cs' bs':=by with_reducible first|exact .head|exact .tail .head|exact .tail (.tail .head)|exact .tail (.tail (.tail .head))|exact .tail (.tail (.tail (.tail .head)))) (hi:(Tryz.prog.info? ty).map (·.size)=some cs'.size:=by kernel_rfl) (hs:cs.size=cs'.size:=by exact rfl) (h1:cs'.all (·.oneCell')=true:=by simp [Value.oneCell']):wpList Tryz.prog ops Q (o::rest) a W:=
 wpList_store_row hg ty x y ho g cs' hx hy t cs (S.out.x _ hu.mem).1 hi hs h1 (by rw [hd];exact h _ (St.row S hu))
theorem Mf {v:Value} (S:St w W bs) (hm:(g,cs,t)∈bs) (hi:i<cs.size) (h1:v.oneCell'=true) (hz:(Tryz.prog.info? ty).map (·.size)=some 1):(storeVar ty ⟨g,i,none⟩ v).run Tryz.prog W= .ok () (W.setCell ⟨g,i,none⟩ v):=by
 have hv:v.cells=#[v]:=by cases v<;>first|rfl|(simp [Value.oneCell'] at h1;done)
 have hadd:(⟨g,i,none⟩:Addr).add 0=⟨g,i,none⟩:=by unfold Addr.add;split<;>simp_all
 cases hq:Tryz.prog.info? ty with
 |none=>simp [hq] at hz
 |some d=>
  have hs:d.size=1:=by simpa [hq] using hz
  have hc:W.cell? ⟨g,i,none⟩=some cs[i]:=(cell_of_row W g i cs t (0,0) (S.x _ hm).1).trans (by simp [hi]);have hf:W.frozen? ⟨g,i,none⟩=false:=frozen_of_row W g i cs t (S.x _ hm).1;simp [storeVar,sizeOf,typeInfo,hq,hv,hs,storeCells,hadd,run_store Tryz.prog W _ v _ h1,hc,hf]
theorem KH {v:Value} {bs₁:Bs} (h:∀ W',AA (St w W' bs')->wpList Tryz.prog ops Q rest a W') (S:AA (St w W bs):=by with_reducible assumption) (ho:o.op= .store ty x y:=by with_reducible rfl) (hg:o.guard=none:=by rfl) (hd:o.dst=none:=by rfl) (hx:a.eval x= .pointer (some ⟨g,i,none⟩):=by exact rfl)
 (hz:(Tryz.prog.info? ty).map (·.size)=some 1:=by kernel_rfl) (hy:a.eval y=v:=by (try go_simp);rfl) (hu:Me bs g cs t (cs.setIfInBounds i v) bs₁:=by with_reducible first|exact .head|exact .tail .head|exact .tail (.tail .head)|exact .tail (.tail (.tail .head))|exact .tail (.tail (.tail (.tail .head))))
 (hc:bs₁=bs':=by simp only [List.setIfInBounds_toArray,List.set_cons_zero,List.set_cons_succ];rfl) (hi:i<cs.size:=by simp) (h1:v.oneCell'=true:=by rfl):wpList Tryz.prog ops Q (o::rest) a W:=by
 subst hc;refine wpList_plain hg λK hK=>?_
 unfold Oper.wp execOp;simp only [ho,hx,hy,Instr.storeAt,Instr.sureAddr,Sem.run_bind,Sem.run_pure,Result.andThen_ok,Mf S.out hu.mem hi h1 hz];have e:a.put o.dst undef=a:=by rw [hd];rfl
 exact hK _ _ (by rw [e];exact h _ (St.set S v hu))
end
end Go.Proofs.YtfggjdkccdkogaaGreatDoor.Print
