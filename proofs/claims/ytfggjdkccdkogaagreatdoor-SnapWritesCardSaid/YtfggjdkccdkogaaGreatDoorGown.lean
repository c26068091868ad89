/- A row of cookies that a walk makes for itself, held beside its boxes. No condition. -/
import Derived.Test.YtfggjdkccdkogaaGreatDoorGst
namespace Go.Proofs.YtfggjdkccdkogaaGreatDoor.Print
open RowKit Ac Aq Aw
set_option linter.unusedVariables false
set_option linter.unusedSimpArgs false
abbrev Md:=Cz
abbrev Zl (x:Md):List Value:=[.string x.f0, .string x.f1, .string x.f2, .string x.f3, .int .i64 x.f4, .int .i64 x.f5, .int .i64 x.f6, .bool x.f7, .bool x.f8, .bool x.f9, .int .i64 x.f10]
abbrev Pn (x:Md):Array Value:=#[.string x.f0, .string x.f1, .string x.f2, .string x.f3, .int .i64 x.f4, .int .i64 x.f5, .int .i64 x.f6, .bool x.f7, .bool x.f8, .bool x.f9, .int .i64 x.f10]
section
variable {w W W':World} {v:Value} {xs:List Md} {base:Nat} {ok ok':Nat->Prop} {L F:Bs}
theorem UZ (h:Kd.R k25 25 W base ok v xs) (hm:∀ k,v.ownBlock=some k->W'.heap[k]? =W.heap[k]?) (ho:∀ k,v.ownBlock=some k->ok' k):Kd.R k25 25 W' base ok' v xs:=by
 obtain ⟨h0,inner,hw,hr⟩:=h;exact ⟨ho,inner,QI hw hm,hr.I6 (λp cs hp=>by obtain rfl:=TR hp;exact Fe _ _ _ _)⟩
def Gm (w:World) (L:Bs) (v:Value) (xs:List Md):Prop:=∀ W:World,(∀ p∈L,W.heap[p.1]? =some (.cells p.2.1 p.2.2 (0,0)))->Kd.R k25 25 W w.heap.size (λk=>∃ p∈L,p.1=k) v xs
theorem Gm.nil (w:World):AA (Gm w [] (.slice none 0 0) []):=⟨λW _=>Kd.Em _ _ _ _ _⟩
theorem Gm.mk (S:AA (St w W F)) (h:Kd.R k25 25 W w.heap.size (λk=>∀ p∈F,p.1≠k) v xs):∃ L,AA (St w W (F++L))/\AA (Gm w L v xs):=by
 cases hv:v.ownBlock with
 |none=>exact ⟨[],by rw [List.append_nil];exact S,⟨λW2 _=>UZ h (λk hk=>by rw [hv] at hk;cases hk) (λk hk=>by rw [hv] at hk;cases hk)⟩⟩
 |some b=>
  have hown:=h.2;obtain ⟨inner,ho,hr⟩:=hown;obtain ⟨cells,hc⟩:=OA ho b hv;refine ⟨[(b,cells,25)],⟨⟨S.out.b,λp hp=>?_,List.pairwise_append.2 ⟨S.out.n,List.pairwise_singleton _ _,λp hp q hq=>?_⟩⟩⟩,⟨λW2 h2=>?_⟩⟩
  ·rcases List.mem_append.1 hp with hp|hp
   ·exact S.out.x p hp
   ·obtain rfl:=List.mem_singleton.1 hp;exact ⟨hc,I5 ho b hv⟩
  ·obtain rfl:=List.mem_singleton.1 hq;exact h.1 b hv p hp
  ·have e2:=h2 _ (.head _);refine UZ h (λk hk=>?_) (λk hk=>⟨_, .head _,?_⟩)<;>(rw [hv] at hk;obtain rfl:=Option.some.inj hk)
   ·exact e2.trans hc.symm
   ·rfl
theorem Gm.reads (S:AA (St w W (F++L))) (R:AA (Gm w L v xs)):Kd.R k25 25 W w.heap.size (λk=>∃ p∈L,p.1=k) v xs:=R.out W λp hp=>(S.out.x p (List.mem_append_right _ hp)).1
theorem Xu:(Tryz.prog.info? 25).map (λi=>(i.zero,i.size,i.bytes))=some (some (.agg #[.string ⟨#[]⟩, .string ⟨#[]⟩, .string ⟨#[]⟩, .string ⟨#[]⟩, .int .i64 0, .int .i64 0, .int .i64 0, .bool false, .bool false, .bool false, .int .i64 0]),11,104):=by kernel_rfl
variable {ops:Array Oper} {rest:List Oper} {o:Oper} {a:Act} {Q:Exit->Act->World->Prop} {s y:Operand}
theorem WL (F:Bs) (x:Md) (hl:xs.length<=1000) (S:AA (St w W (F++L))) (R:AA (Gm w L v xs)) (h:∀ v' W' L',AA (St w W' (F++L'))->AA (Gm w L' v' (xs++[x]))->wpList Tryz.prog ops Q rest (a.put o.dst v') W')
 (ho:o.op= .call {callee:= .builtin .append,args:=#[s,y],argTypes:=#[40,40]}:=by with_reducible rfl) (hg:o.guard=none:=by rfl) (hs:a.eval s=v:=by exact rfl) (hy:a.eval y= .slice (some ⟨W.heap.size,0,none⟩) 1 1:=by exact rfl):
 wpList Tryz.prog ops Q (o::rest) a (W.alloc (.cells (Zl x).toArray 25)):=by
 have hR:=Gm.reads S R;refine Kd.Eb k25 (w0:=w) w.heap.size hg s y 40 25 _ 104 ho Tryz.underlying40 Xu rfl (by decide) (by decide) v xs x (Zl x) (λk=>∀ p∈F,p.1≠k) (λ_=>False) hs hy (Fe _ _ _ x) (λ_ hk=>hk.elim) (λk hk p hp e=>?_) (Kd.CK hR λk hk p hp e=>?_) S.out.b S.out.b.size (by omega) ?_
 ·have:=(Array.getElem?_eq_some_iff.1 (S.out.x p (List.mem_append_left _ hp)).1).1;omega
 ·obtain ⟨q,hq,rfl⟩:=hk;exact (List.pairwise_append.1 S.out.n).2.2 p hp q hq e
 ·intro v1 w1 hR1 hB1 hg1 hown;have S1:AA (St w w1 F):=⟨⟨hB1,λp hp=>⟨?_,(S.out.x p (List.mem_append_left _ hp)).2⟩,(List.pairwise_append.1 S.out.n).1⟩⟩
  ·obtain ⟨L',S',R'⟩:=Gm.mk S1 hR1;exact h v1 w1 L' S' R'
  ·have hx:=(S.out.x p (List.mem_append_left _ hp)).1;refine (hg1.block p.1 (Array.getElem?_eq_some_iff.1 hx).1 λe=>?_).trans hx;obtain ⟨q,hq,e2⟩:=hR.1 p.1 e.symm;exact (List.pairwise_append.1 S.out.n).2.2 p hp q hq e2.symm
end
end Go.Proofs.YtfggjdkccdkogaaGreatDoor.Print
