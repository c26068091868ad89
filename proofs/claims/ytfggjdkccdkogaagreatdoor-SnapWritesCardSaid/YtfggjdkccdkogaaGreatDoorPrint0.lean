/- Printed by a program of this claim's session (xprint.py): the machine's side: each Go function as a Lean function, and that a call of it comes to what that tells; the row of a statement. No condition. -/
import Derived.Test.YtfggjdkccdkogaaGreatDoorGB
namespace Go.Proofs.YtfggjdkccdkogaaGreatDoor.Print
open RowKit Ac Aq Aw
attribute [local go_sem] DC DD DX DY Co Cq DI DJ
set_option linter.unusedVariables false
set_option linter.unusedSimpArgs false
def Ui:Option Int->Value
 |none=> .nilIface
 |some c=> .iface 0 (.int .i64 c)
theorem Ot (x:List UInt8):∀ y:List UInt8,(!(Op.bytesLess x y||x==y))=Op.bytesLess y x:=by
 induction x with
 |nil=>intro y;cases y<;>simp [Op.bytesLess]
 |cons a x ih=>
  intro y;cases y with
  |nil=>simp [Op.bytesLess]
  |cons b y=>
   have h:=ih y;have e1:(a==b)=decide (a.toNat=b.toNat):=by rw [Bool.eq_iff_iff,beq_iff_eq,decide_eq_true_iff,UInt8.toNat_inj]
   have e2:(b==a)=decide (b.toNat=a.toNat):=by rw [Bool.eq_iff_iff,beq_iff_eq,decide_eq_true_iff,UInt8.toNat_inj]
   have l1:decide (a<b)=decide (a.toNat<b.toNat):=by rw [Bool.eq_iff_iff,decide_eq_true_iff,decide_eq_true_iff,UInt8.lt_iff_toNat_lt]
   have l2:decide (b<a)=decide (b.toNat<a.toNat):=by rw [Bool.eq_iff_iff,decide_eq_true_iff,decide_eq_true_iff,UInt8.lt_iff_toNat_lt]
   simp only [Op.bytesLess,List.cons_beq_cons,e1,e2,l1,l2];rw [<-h];generalize Op.bytesLess x y=p;generalize (x==y)=q;rcases Nat.lt_trichotomy a.toNat b.toNat with t|t|t
   ·rw [decide_eq_true t,decide_eq_false (show ¬b.toNat<a.toNat by omega),decide_eq_false (show ¬b.toNat=a.toNat by omega)];simp
   ·rw [decide_eq_false (show ¬a.toNat<b.toNat by omega),decide_eq_false (show ¬b.toNat<a.toNat by omega),decide_eq_true t,decide_eq_true t.symm];cases p<;>cases q<;>rfl
   ·rw [decide_eq_true t,decide_eq_false (show ¬a.toNat<b.toNat by omega),decide_eq_false (show ¬a.toNat=b.toNat by omega)];simp
theorem Uj {P:Program} (t:TypeId) (x y:ByteArray) (W:World):(binOp .gtr t (.string x) (.string y)).run P W= .ok (.bool (Op.bytesLess y.toList x.toList)) W:=by
 rw [show binOp .gtr t (.string x) (.string y)=pure (.bool !(Op.bytesLess x.toList y.toList||x.toList==y.toList)) by simp [binOp,Op.stringOp],Ot];rfl
theorem KI (n:Int):IntKind.u64.wrap n=n%18446744073709551616:=by simp [IntKind.wrap,IntKind.bits,IntKind.signed]
theorem LK (n:Int):IntKind.u32.wrap n=n%4294967296:=by simp [IntKind.wrap,IntKind.bits,IntKind.signed]
theorem N7 (n:Int):IntKind.u8.wrap n=n%256:=by simp [IntKind.wrap,IntKind.bits,IntKind.signed]
theorem Q6 {w:World} {g b i:Nat} {o:Obj} (h:w.heap[g]? =some o) (hp:AA (g≠b)) (u:Value):(w.setCell ⟨b,i,none⟩ u).heap[g]? =some o:=(Below.heap_setCell w ⟨b,i,none⟩ u g hp.out).trans h
theorem xk {P:Prop} (h:P:=by (repeat (first|(with_reducible first|refine Gn ?_ _|refine Bd ?_|refine GQ ?_ _|refine Q6 ?_ (by with_reducible assumption) _|apply MN)));(exact AA.out (by with_reducible assumption));all_goals (first|(simp only [List.setIfInBounds_toArray,List.set_cons_zero,List.set_cons_succ];done)|(simp only [List.setIfInBounds_toArray,List.set_cons_zero,List.set_cons_succ];rfl)|rfl)):P:=h
theorem xb {P:Prop} (h:P:=by repeat (first|(with_reducible first|exact HB.out|apply Bu|apply Ce|apply Bb|refine I8 ?_ (AA.out (by with_reducible assumption)))|exact HB.out)):P:=h
theorem xg {P:Prop} (h:P:=by (try simp only [List.map_toArray,List.map_cons,List.map_nil]);first|done|rfl|(simp only [List.length_drop,List.length_take];rfl)|((try simp [Act.eval])<;>(try simp only [KI,LK,N7,wrap64,wrap32])<;>omega)):P:=h
theorem JG {w:World} {g i:Nat} {t:TypeId} {cs:Array Value} {v:Value} (h:w.heap[g]? =some (.cells cs t (0,0))) (e:cs[i]? =some v):w.cell? ⟨g,i,none⟩=some v:=(AJ h i).trans e
theorem xc {P:Prop} (h:P:=by (repeat' apply And.intro)<;>(apply JG;(repeat (with_reducible first|refine Gn ?_ _|refine Bd ?_|refine GQ ?_ _));(exact AA.out (by with_reducible assumption));rfl)):P:=h
theorem bL {w0 w w1:World} {g:Nat} {o:Obj} (_:AA (w0.heap[g]? =some o)) (hb:Below w.heap.size w w1) (h:w.heap[g]? =some o:=by (repeat (first|(with_reducible first|refine Gn ?_ _|refine Bd ?_|refine GQ ?_ _|refine Q6 ?_ (by with_reducible assumption) _)));exact AA.out (by with_reducible assumption)):AA (w1.heap[g]? =some o):=⟨DN h hb⟩
theorem Cs {w0 w:World} {g:Nat} {o:Obj} (_:AA (w0.heap[g]? =some o)) (h:w.heap[g]? =some o:=by (repeat (first|(with_reducible first|refine Gn ?_ _|refine Bd ?_|refine GQ ?_ _|refine Q6 ?_ (by with_reducible assumption) _)));exact AA.out (by with_reducible assumption)):g<w.heap.size:=IV h
theorem cells3 {w:World} {g:Nat} {t:TypeId} {v0 v1 v2:Value} (h:w.heap[g]? =some (.cells #[v0,v1,v2] t (0,0))):w.cell? ⟨g,0,none⟩=some v0/\w.cell? ⟨g,1,none⟩=some v1/\w.cell? ⟨g,2,none⟩=some v2:=⟨(AJ h 0).trans rfl,(AJ h 1).trans rfl,(AJ h 2).trans rfl⟩
theorem LM {w:World} {g:Nat} {t:TypeId} {v0 v1 v2 v3 v4 v5 v6 v7:Value} (h:w.heap[g]? =some (.cells #[v0,v1,v2,v3,v4,v5,v6,v7] t (0,0))):w.cell? ⟨g,0,none⟩=some v0/\w.cell? ⟨g,1,none⟩=some v1/\w.cell? ⟨g,2,none⟩=some v2/\w.cell? ⟨g,3,none⟩=some v3/\w.cell? ⟨g,4,none⟩=some v4/\w.cell? ⟨g,5,none⟩=some v5/\w.cell? ⟨g,6,none⟩=some v6/\w.cell? ⟨g,7,none⟩=some v7:=⟨(AJ h 0).trans rfl,(AJ h 1).trans rfl,(AJ h 2).trans rfl,(AJ h 3).trans rfl,(AJ h 4).trans rfl,(AJ h 5).trans rfl,(AJ h 6).trans rfl,(AJ h 7).trans rfl⟩
theorem Gf {w:World} {g:Nat} {t:TypeId} {v0 v1 v2 v3 v4 v5 v6 v7 v8 v9:Value} (h:w.heap[g]? =some (.cells #[v0,v1,v2,v3,v4,v5,v6,v7,v8,v9] t (0,0))):w.cell? ⟨g,0,none⟩=some v0/\w.cell? ⟨g,1,none⟩=some v1/\w.cell? ⟨g,2,none⟩=some v2/\w.cell? ⟨g,3,none⟩=some v3/\w.cell? ⟨g,4,none⟩=some v4/\w.cell? ⟨g,5,none⟩=some v5/\w.cell? ⟨g,6,none⟩=some v6/\w.cell? ⟨g,7,none⟩=some v7/\w.cell? ⟨g,8,none⟩=some v8/\w.cell? ⟨g,9,none⟩=some v9:=⟨(AJ h 0).trans rfl,(AJ h 1).trans rfl,(AJ h 2).trans rfl,(AJ h 3).trans rfl,(AJ h 4).trans rfl,(AJ h 5).trans rfl,(AJ h 6).trans rfl,(AJ h 7).trans rfl,(AJ h 8).trans rfl,(AJ h 9).trans rfl⟩
theorem BK {w:World} {g:Nat} {t:TypeId} {v0 v1 v2 v3 v4 v5 v6 v7 v8 v9 v10:Value} (h:w.heap[g]? =some (.cells #[v0,v1,v2,v3,v4,v5,v6,v7,v8,v9,v10] t (0,0))):w.cell? ⟨g,0,none⟩=some v0/\w.cell? ⟨g,1,none⟩=some v1/\w.cell? ⟨g,2,none⟩=some v2/\w.cell? ⟨g,3,none⟩=some v3/\w.cell? ⟨g,4,none⟩=some v4/\w.cell? ⟨g,5,none⟩=some v5/\w.cell? ⟨g,6,none⟩=some v6/\w.cell? ⟨g,7,none⟩=some v7/\w.cell? ⟨g,8,none⟩=some v8/\w.cell? ⟨g,9,none⟩=some v9/\w.cell? ⟨g,10,none⟩=some v10:=⟨(AJ h 0).trans rfl,(AJ h 1).trans rfl,(AJ h 2).trans rfl,(AJ h 3).trans rfl,(AJ h 4).trans rfl,(AJ h 5).trans rfl,(AJ h 6).trans rfl,(AJ h 7).trans rfl,(AJ h 8).trans rfl,(AJ h 9).trans rfl,(AJ h 10).trans rfl⟩
theorem Uk (a:Array UInt8):(ByteArray.mk a).size=a.size:=rfl
def bl:Nat->Nat->List Bool
 |0,_=>[]
 |n+1,k=>(k%2==1)::bl n (k/2)
def bm (n k:Nat):Array Bool:=⟨bl n k⟩
theorem xl {P:Prop} (h:P:=by exact AA.mk (by first|exact hG.out|((with_reducible repeat (first|apply D8.drewN|apply D8.drew|apply D8.alloc));exact hG.out)|exact D8.below hG.out xb)):P:=h
theorem GM {g g' n:Nat} (hg:g'=n) (h:g<n):AA (g≠g'):=⟨by rw [hg];exact Nat.ne_of_lt h⟩
theorem GN {g g' n:Nat} (hg:g'=n) (h:g<n):AA (g'≠g):=⟨by rw [hg];exact Nat.ne_of_gt h⟩
theorem Dq {w W:World} {g:Nat} (hg:g=W.heap.size) (h:Below w.heap.size w W):AA (w.heap.size<=g):=⟨by rw [hg];exact Ai h⟩
theorem xq {P:Prop} (h:P:=by first|rfl|(simp;done)|(simp [*];done)):P:=h
theorem xd {P:Prop} (h:P:=by repeat (first|exact BP.refl _|apply BP.step)):P:=h
theorem xe {P:Prop} (h:P:=by first|rfl|(simp [EI,EJ]<;>rfl)|(simp [*,EI,EJ]<;>rfl)):P:=h
theorem xa {p:Prop} [Decidable p] (h:decide p=true:=by first|(with_reducible assumption)|assumption):p:=of_decide_eq_true h
theorem xR {P Q:Prop} (h0:AA P) (h:P->Q:=by intro hq_;(with_reducible repeat (first|apply Kd.BX|apply Kd.BZ|apply Kd.Bc));exact hq_):Q:=h h0.out
theorem xV {P Q:Prop} (h0:AA P) (h:P->Q:=by intro hq_;(with_reducible repeat (first|apply Kd.SQ|apply Kd.SV|apply Kd.KP));exact hq_):Q:=h h0.out
theorem xN {P Q:Prop} (h0:AA P) (h:P->Q:=by intro hq_;(with_reducible repeat (first|apply Kd.SH|apply Kd.SI|apply Kd.VB));exact hq_):Q:=h h0.out
section
variable {P:Program} {ops:Array Oper} {rest:List Oper} {o:Oper} {a:Act} {Q:Exit->Act->World->Prop} {Kc:Act->World->Prop} {S:World->Prop} {ds:List Nat} {md:Region.Mode}
theorem Dp {W:World} {N:Tmp} {cs:Array Value} {t:TypeId} (h:∀ g,g=W.heap.size->∀ w1,w1.heap[g]? =some (.cells cs t (0,0))->Below W.heap.size W w1->wpList P ops Q rest (a.put o.dst (.pointer (some ⟨g,0,none⟩))) w1) (hd:o.dst=some N:=by with_reducible rfl) (hg:o.guard=none:=by rfl)
 (hr:(execOp a.eval o).run P W= .ok (.value (.pointer (some ⟨W.heap.size,0,none⟩))) (W.alloc (.cells cs t (0,0))):=by first|(go_simp;done)|(go_simp;rfl)):wpList P ops Q (o::rest) a W:=Ju hg hd hr h
theorem AZ {i:Nat} {N:Option Tmp} {oi:Oper} {v:Value} {fuel:Nat} {l:Array Bool} {a a':Act} {w:World} (l':Array Bool) (hi:ops[i]? =some oi) (hN:oi.dst=N) (hc:Ta md ops l l' i=true) (hy:Yields P ops oi v a) (h:Bv P md ops Q S ds fuel l' a' w)
 (hQ:∀ c a w,Q (.panic c) (a.put oi.dst v) w->Q (.panic c) a w:=by exact λ_ _ _ h=>h) (ha:a.put N v=a':=by simp only [Act.put,List.setIfInBounds_toArray,List.set_cons_zero,List.set_cons_succ,CE,CU];rfl):Bv P md ops Q S ds (fuel+1) l a w:=D7 l' hi hN hc hQ hy ha h
theorem Cu {i:Nat} {N:Option Tmp} {oi:Oper} {v:Value} {fuel:Nat} {l:Array Bool} {a a':Act} {w:World} (l':Array Bool) (hi:ops[i]? =some oi) (hN:oi.dst=N) (hc:takeB md ops ds l l' i=true) (hy:YieldsIf P ops S oi v a) (hS:S w) (h:Bv P md ops Q S ds fuel l' a' w)
 (hQ:∀ c a w,Q (.panic c) (a.put oi.dst v) w->Q (.panic c) a w:=by exact λ_ _ _ h=>h) (ha:a.put N v=a':=by simp only [Act.put,List.setIfInBounds_toArray,List.set_cons_zero,List.set_cons_succ,CE,CU];rfl):Bv P md ops Q S ds (fuel+1) l a w:=R8 l' hi hN hc hQ hy hS ha h
theorem Be {fuel:Nat} {l:Array Bool} {a a':Act} {w:World} {v:Value} {d:Option Tmp} (N:Option Tmp) (hN:d=N) (h:Bv P md ops Q S ds fuel l a' w) (ha:a.put N v=a':=by simp only [Act.put,List.setIfInBounds_toArray,List.set_cons_zero,List.set_cons_succ,CE,CU];rfl):Bv P md ops Q S ds fuel l (a.put d v) w:=by subst hN;subst ha;exact h
end
theorem EI:Ui none= .nilIface:=rfl
theorem EJ (c:Int):Ui (some c)= .iface 0 (.int .i64 c):=rfl
theorem info5:(Tryz.prog.info? 5).map (λi=>(i.zero,i.size,i.bytes))=some (some (.int .u8 0),1,1):=by kernel_rfl
theorem Xe:(Tryz.prog.info? 9).map (λi=>(i.zero,i.size,i.bytes))=some (some (.string ⟨#[]⟩),1,16):=by kernel_rfl
theorem IQ:(Tryz.prog.info? 25).map (λi=>(i.zero,i.size,i.bytes))=some (some (.agg #[(.string ⟨#[]⟩),(.string ⟨#[]⟩),(.string ⟨#[]⟩),(.string ⟨#[]⟩),(.int .i64 0),(.int .i64 0),(.int .i64 0),(.bool false),(.bool false),(.bool false),(.int .i64 0)]),11,104):=by kernel_rfl
theorem Jt:(Tryz.prog.info? 129).map (λi=>(i.zero,i.size,i.bytes))=some (some (.agg #[(.string ⟨#[]⟩),(.string ⟨#[]⟩),(.string ⟨#[]⟩),(.string ⟨#[]⟩),(.string ⟨#[]⟩),(.string ⟨#[]⟩),(.string ⟨#[]⟩),(.int .i64 0),(.int .i64 0),(.int .i64 0),(.bool false),(.bool false),(.bool false),(.int .i64 0)]),14,152):=by kernel_rfl
structure LP where
 f0:ByteArray
 f1:ByteArray
 f2:ByteArray
def z84:LP:=⟨(⟨#[]⟩:ByteArray),(⟨#[]⟩:ByteArray),(⟨#[]⟩:ByteArray)⟩
def Zc:Kd LP:=Kd.Ze (Kd.pair Kd.string (Kd.pair Kd.string Kd.string)) (λx:LP=>(x.f0,x.f1,x.f2))
theorem Ul {w:World} {x:LP} {cs:List Value} (h:Zc.K w x cs):cs=[.string x.f0, .string x.f1, .string x.f2]:=by
 obtain ⟨_,_,rfl,rfl,⟨_,_,rfl,rfl,rfl⟩⟩:=h;exact rfl
theorem WV (w:World) (base:Nat) (ok:Nat->Prop) (x:LP):Zc.M w base ok x [.string x.f0, .string x.f1, .string x.f2]:=⟨[.string x.f0],[.string x.f1, .string x.f2],rfl,rfl,⟨[.string x.f1],[.string x.f2],rfl,rfl,rfl⟩⟩
structure Cz where
 f0:ByteArray
 f1:ByteArray
 f2:ByteArray
 f3:ByteArray
 f4:Int
 f5:Int
 f6:Int
 f7:Bool
 f8:Bool
 f9:Bool
 f10:Int
def z25:Cz:=⟨(⟨#[]⟩:ByteArray),(⟨#[]⟩:ByteArray),(⟨#[]⟩:ByteArray),(⟨#[]⟩:ByteArray),(0:Int),(0:Int),(0:Int),false,false,false,(0:Int)⟩
def k25:Kd Cz:=Kd.Ze (Kd.pair Kd.string (Kd.pair Kd.string (Kd.pair Kd.string (Kd.pair Kd.string (Kd.pair (Kd.int .i64) (Kd.pair (Kd.int .i64) (Kd.pair (Kd.int .i64) (Kd.pair Kd.bool (Kd.pair Kd.bool (Kd.pair Kd.bool (Kd.int .i64))))))))))) (λx:Cz=>(x.f0,x.f1,x.f2,x.f3,x.f4,x.f5,x.f6,x.f7,x.f8,x.f9,x.f10))
theorem QA {w:World} {x:Cz} {cs:List Value} (h:k25.K w x cs):cs=[.string x.f0, .string x.f1, .string x.f2, .string x.f3, .int .i64 x.f4, .int .i64 x.f5, .int .i64 x.f6, .bool x.f7, .bool x.f8, .bool x.f9, .int .i64 x.f10]:=by
 obtain ⟨_,_,rfl,rfl,⟨_,_,rfl,rfl,⟨_,_,rfl,rfl,⟨_,_,rfl,rfl,⟨_,_,rfl,rfl,⟨_,_,rfl,rfl,⟨_,_,rfl,rfl,⟨_,_,rfl,rfl,⟨_,_,rfl,rfl,⟨_,_,rfl,rfl,rfl⟩⟩⟩⟩⟩⟩⟩⟩⟩⟩:=h;exact rfl
theorem TR {w:World} {base:Nat} {ok:Nat->Prop} {x:Cz} {cs:List Value} (h:k25.M w base ok x cs):cs=[.string x.f0, .string x.f1, .string x.f2, .string x.f3, .int .i64 x.f4, .int .i64 x.f5, .int .i64 x.f6, .bool x.f7, .bool x.f8, .bool x.f9, .int .i64 x.f10]:=by
 obtain ⟨_,_,rfl,rfl,⟨_,_,rfl,rfl,⟨_,_,rfl,rfl,⟨_,_,rfl,rfl,⟨_,_,rfl,rfl,⟨_,_,rfl,rfl,⟨_,_,rfl,rfl,⟨_,_,rfl,rfl,⟨_,_,rfl,rfl,⟨_,_,rfl,rfl,rfl⟩⟩⟩⟩⟩⟩⟩⟩⟩⟩:=h;exact rfl
theorem Xx (w:World) (x:Cz):k25.K w x [.string x.f0, .string x.f1, .string x.f2, .string x.f3, .int .i64 x.f4, .int .i64 x.f5, .int .i64 x.f6, .bool x.f7, .bool x.f8, .bool x.f9, .int .i64 x.f10]:=⟨[.string x.f0],[.string x.f1, .string x.f2, .string x.f3, .int .i64 x.f4, .int .i64 x.f5, .int .i64 x.f6, .bool x.f7, .bool x.f8, .bool x.f9, .int .i64 x.f10],rfl,rfl,⟨[.string x.f1],[.string x.f2, .string x.f3, .int .i64 x.f4, .int .i64 x.f5, .int .i64 x.f6, .bool x.f7, .bool x.f8, .bool x.f9, .int .i64 x.f10],rfl,rfl,⟨[.string x.f2],[.string x.f3, .int .i64 x.f4, .int .i64 x.f5, .int .i64 x.f6, .bool x.f7, .bool x.f8, .bool x.f9, .int .i64 x.f10],rfl,rfl,⟨[.string x.f3],[.int .i64 x.f4, .int .i64 x.f5, .int .i64 x.f6, .bool x.f7, .bool x.f8, .bool x.f9, .int .i64 x.f10],rfl,rfl,⟨[.int .i64 x.f4],[.int .i64 x.f5, .int .i64 x.f6, .bool x.f7, .bool x.f8, .bool x.f9, .int .i64 x.f10],rfl,rfl,⟨[.int .i64 x.f5],[.int .i64 x.f6, .bool x.f7, .bool x.f8, .bool x.f9, .int .i64 x.f10],rfl,rfl,⟨[.int .i64 x.f6],[.bool x.f7, .bool x.f8, .bool x.f9, .int .i64 x.f10],rfl,rfl,⟨[.bool x.f7],[.bool x.f8, .bool x.f9, .int .i64 x.f10],rfl,rfl,⟨[.bool x.f8],[.bool x.f9, .int .i64 x.f10],rfl,rfl,⟨[.bool x.f9],[.int .i64 x.f10],rfl,rfl,rfl⟩⟩⟩⟩⟩⟩⟩⟩⟩⟩
theorem Fe (w:World) (base:Nat) (ok:Nat->Prop) (x:Cz):k25.M w base ok x [.string x.f0, .string x.f1, .string x.f2, .string x.f3, .int .i64 x.f4, .int .i64 x.f5, .int .i64 x.f6, .bool x.f7, .bool x.f8, .bool x.f9, .int .i64 x.f10]:=⟨[.string x.f0],[.string x.f1, .string x.f2, .string x.f3, .int .i64 x.f4, .int .i64 x.f5, .int .i64 x.f6, .bool x.f7, .bool x.f8, .bool x.f9, .int .i64 x.f10],rfl,rfl,⟨[.string x.f1],[.string x.f2, .string x.f3, .int .i64 x.f4, .int .i64 x.f5, .int .i64 x.f6, .bool x.f7, .bool x.f8, .bool x.f9, .int .i64 x.f10],rfl,rfl,⟨[.string x.f2],[.string x.f3, .int .i64 x.f4, .int .i64 x.f5, .int .i64 x.f6, .bool x.f7, .bool x.f8, .bool x.f9, .int .i64 x.f10],rfl,rfl,⟨[.string x.f3],[.int .i64 x.f4, .int .i64 x.f5, .int .i64 x.f6, .bool x.f7, .bool x.f8, .bool x.f9, .int .i64 x.f10],rfl,rfl,⟨[.int .i64 x.f4],[.int .i64 x.f5, .int .i64 x.f6, .bool x.f7, .bool x.f8, .bool x.f9, .int .i64 x.f10],rfl,rfl,⟨[.int .i64 x.f5],[.int .i64 x.f6, .bool x.f7, .bool x.f8, .bool x.f9, .int .i64 x.f10],rfl,rfl,⟨[.int .i64 x.f6],[.bool x.f7, .bool x.f8, .bool x.f9, .int .i64 x.f10],rfl,rfl,⟨[.bool x.f7],[.bool x.f8, .bool x.f9, .int .i64 x.f10],rfl,rfl,⟨[.bool x.f8],[.bool x.f9, .int .i64 x.f10],rfl,rfl,⟨[.bool x.f9],[.int .i64 x.f10],rfl,rfl,rfl⟩⟩⟩⟩⟩⟩⟩⟩⟩⟩
def AB (xs:List Cz) (i:Int):Cz:=xs.getD i.toNat z25
theorem Dw {w:World} {A:Option Addr} {n:Nat} {xs:List Cz} (h:Kd.C k25 w A n xs) (i:Int) (h0:0<=i) (h1:i<n):∃ ad,A=some ad/\w.cell? (ad.add (i.toNat*11))=some (.string (AB xs i).f0)/\w.cell? ⟨(ad.add (i.toNat*11)).block,(ad.add (i.toNat*11)).off+1,none⟩=some (.string (AB xs i).f1)/\w.cell? ⟨(ad.add (i.toNat*11)).block,(ad.add (i.toNat*11)).off+2,none⟩=some (.string (AB xs i).f2)/\w.cell? ⟨(ad.add (i.toNat*11)).block,(ad.add (i.toNat*11)).off+3,none⟩=some (.string (AB xs i).f3)/\w.cell? ⟨(ad.add (i.toNat*11)).block,(ad.add (i.toNat*11)).off+4,none⟩=some (.int .i64 (AB xs i).f4)/\w.cell? ⟨(ad.add (i.toNat*11)).block,(ad.add (i.toNat*11)).off+5,none⟩=some (.int .i64 (AB xs i).f5)/\w.cell? ⟨(ad.add (i.toNat*11)).block,(ad.add (i.toNat*11)).off+6,none⟩=some (.int .i64 (AB xs i).f6)/\w.cell? ⟨(ad.add (i.toNat*11)).block,(ad.add (i.toNat*11)).off+7,none⟩=some (.bool (AB xs i).f7)/\w.cell? ⟨(ad.add (i.toNat*11)).block,(ad.add (i.toNat*11)).off+8,none⟩=some (.bool (AB xs i).f8)/\w.cell? ⟨(ad.add (i.toNat*11)).block,(ad.add (i.toNat*11)).off+9,none⟩=some (.bool (AB xs i).f9)/\w.cell? ⟨(ad.add (i.toNat*11)).block,(ad.add (i.toNat*11)).off+10,none⟩=some (.int .i64 (AB xs i).f10):=by
 obtain ⟨ad,c,e,_,hK,hc0⟩:=Kd.U1 h z25 i h0 h1;have hc:∀ j u,c[j]? =some u->w.cell? (ad.add (i.toNat*11+j))=some u:=hc0;obtain rfl:=QA hK;exact ⟨ad,e,hc 0 _ rfl,by rw [<-D5 _ _ 1 (by omega)];exact hc 1 _ rfl,by rw [<-D5 _ _ 2 (by omega)];exact hc 2 _ rfl,by rw [<-D5 _ _ 3 (by omega)];exact hc 3 _ rfl,by rw [<-D5 _ _ 4 (by omega)];exact hc 4 _ rfl,by rw [<-D5 _ _ 5 (by omega)];exact hc 5 _ rfl,by rw [<-D5 _ _ 6 (by omega)];exact hc 6 _ rfl,by rw [<-D5 _ _ 7 (by omega)];exact hc 7 _ rfl,by rw [<-D5 _ _ 8 (by omega)];exact hc 8 _ rfl,by rw [<-D5 _ _ 9 (by omega)];exact hc 9 _ rfl,by rw [<-D5 _ _ 10 (by omega)];exact hc 10 _ rfl⟩
structure CO where
 f0:LP
 f1:Cz
def QB:CO:=⟨z84,z25⟩
def En:Kd CO:=Kd.Ze (Kd.pair Zc k25) (λx:CO=>(x.f0,x.f1))
theorem TS {w:World} {x:CO} {cs:List Value} (h:En.K w x cs):cs=[.string x.f0.f0, .string x.f0.f1, .string x.f0.f2, .string x.f1.f0, .string x.f1.f1, .string x.f1.f2, .string x.f1.f3, .int .i64 x.f1.f4, .int .i64 x.f1.f5, .int .i64 x.f1.f6, .bool x.f1.f7, .bool x.f1.f8, .bool x.f1.f9, .int .i64 x.f1.f10]:=by
 obtain ⟨_,_,rfl,s0,s3⟩:=h;obtain rfl:=Ul s0;obtain rfl:=QA s3;exact rfl
theorem QC (w:World) (base:Nat) (ok:Nat->Prop) (x:CO):En.M w base ok x [.string x.f0.f0, .string x.f0.f1, .string x.f0.f2, .string x.f1.f0, .string x.f1.f1, .string x.f1.f2, .string x.f1.f3, .int .i64 x.f1.f4, .int .i64 x.f1.f5, .int .i64 x.f1.f6, .bool x.f1.f7, .bool x.f1.f8, .bool x.f1.f9, .int .i64 x.f1.f10]:=⟨[.string x.f0.f0, .string x.f0.f1, .string x.f0.f2],[.string x.f1.f0, .string x.f1.f1, .string x.f1.f2, .string x.f1.f3, .int .i64 x.f1.f4, .int .i64 x.f1.f5, .int .i64 x.f1.f6, .bool x.f1.f7, .bool x.f1.f8, .bool x.f1.f9, .int .i64 x.f1.f10],rfl,(WV w base ok x.f0),(Fe w base ok x.f1)⟩
def Ak (xs:List CO) (i:Int):CO:=xs.getD i.toNat QB
theorem Ou {w:World} {A:Option Addr} {n:Nat} {xs:List CO} (h:Kd.C En w A n xs) (i:Int) (h0:0<=i) (h1:i<n):∃ ad,A=some ad/\w.cell? (ad.add (i.toNat*14))=some (.string (Ak xs i).f0.f0)/\w.cell? ⟨(ad.add (i.toNat*14)).block,(ad.add (i.toNat*14)).off+1,none⟩=some (.string (Ak xs i).f0.f1)/\w.cell? ⟨(ad.add (i.toNat*14)).block,(ad.add (i.toNat*14)).off+2,none⟩=some (.string (Ak xs i).f0.f2)/\w.cell? ⟨(ad.add (i.toNat*14)).block,(ad.add (i.toNat*14)).off+3,none⟩=some (.string (Ak xs i).f1.f0)/\w.cell? ⟨(ad.add (i.toNat*14)).block,(ad.add (i.toNat*14)).off+4,none⟩=some (.string (Ak xs i).f1.f1)/\w.cell? ⟨(ad.add (i.toNat*14)).block,(ad.add (i.toNat*14)).off+5,none⟩=some (.string (Ak xs i).f1.f2)/\w.cell? ⟨(ad.add (i.toNat*14)).block,(ad.add (i.toNat*14)).off+6,none⟩=some (.string (Ak xs i).f1.f3)/\w.cell? ⟨(ad.add (i.toNat*14)).block,(ad.add (i.toNat*14)).off+7,none⟩=some (.int .i64 (Ak xs i).f1.f4)/\w.cell? ⟨(ad.add (i.toNat*14)).block,(ad.add (i.toNat*14)).off+8,none⟩=some (.int .i64 (Ak xs i).f1.f5)/\w.cell? ⟨(ad.add (i.toNat*14)).block,(ad.add (i.toNat*14)).off+9,none⟩=some (.int .i64 (Ak xs i).f1.f6)/\w.cell? ⟨(ad.add (i.toNat*14)).block,(ad.add (i.toNat*14)).off+10,none⟩=some (.bool (Ak xs i).f1.f7)/\w.cell? ⟨(ad.add (i.toNat*14)).block,(ad.add (i.toNat*14)).off+11,none⟩=some (.bool (Ak xs i).f1.f8)/\w.cell? ⟨(ad.add (i.toNat*14)).block,(ad.add (i.toNat*14)).off+12,none⟩=some (.bool (Ak xs i).f1.f9)/\w.cell? ⟨(ad.add (i.toNat*14)).block,(ad.add (i.toNat*14)).off+13,none⟩=some (.int .i64 (Ak xs i).f1.f10):=by
 obtain ⟨ad,c,e,_,hK,hc0⟩:=Kd.U1 h QB i h0 h1;have hc:∀ j u,c[j]? =some u->w.cell? (ad.add (i.toNat*14+j))=some u:=hc0;obtain rfl:=TS hK;exact ⟨ad,e,hc 0 _ rfl,by rw [<-D5 _ _ 1 (by omega)];exact hc 1 _ rfl,by rw [<-D5 _ _ 2 (by omega)];exact hc 2 _ rfl,by rw [<-D5 _ _ 3 (by omega)];exact hc 3 _ rfl,by rw [<-D5 _ _ 4 (by omega)];exact hc 4 _ rfl,by rw [<-D5 _ _ 5 (by omega)];exact hc 5 _ rfl,by rw [<-D5 _ _ 6 (by omega)];exact hc 6 _ rfl,by rw [<-D5 _ _ 7 (by omega)];exact hc 7 _ rfl,by rw [<-D5 _ _ 8 (by omega)];exact hc 8 _ rfl,by rw [<-D5 _ _ 9 (by omega)];exact hc 9 _ rfl,by rw [<-D5 _ _ 10 (by omega)];exact hc 10 _ rfl,by rw [<-D5 _ _ 11 (by omega)];exact hc 11 _ rfl,by rw [<-D5 _ _ 12 (by omega)];exact hc 12 _ rfl,by rw [<-D5 _ _ 13 (by omega)];exact hc 13 _ rfl⟩
def H8 (xs:List (List CO)) (i:Int):(List CO):=xs.getD i.toNat ([]:List CO)
theorem Xf {w:World} {A:Option Addr} {n:Nat} {xs:List (List CO)} (h:Kd.C (Kd.slice 129 En) w A n xs) (i:Int) (h0:0<=i) (h1:i<n):∃ ad A0 c0,A=some ad/\w.cell? (ad.add i.toNat)=some (.slice A0 (H8 xs i).length c0)/\(H8 xs i).length<=c0/\En.C w A0 (H8 xs i).length (H8 xs i):=by
 obtain ⟨ad,c,e,_,hK,hc0⟩:=Kd.U1 h ([]:List CO) i h0 h1;have hc:∀ j u,c[j]? =some u->w.cell? (ad.add (i.toNat*1+j))=some u:=hc0;obtain ⟨A0,c0,rfl,l0,g0⟩:=hK;exact ⟨ad,A0,c0,e,by have hq:=hc 0 _ rfl;rwa [Nat.mul_one,Nat.add_zero] at hq,l0,g0⟩
structure Zn where
 f0:(List CO)
structure Zo where
 f0:Zn
structure Zu where
 f0:Zo
structure Zp where
 f0:Int
 f1:Int
 f2:Int
end Go.Proofs.YtfggjdkccdkogaaGreatDoor.Print
