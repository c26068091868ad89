/- Printed by a program of this claim's session (xprint.py): the machine's side: each Go function as a Lean function, and that a call of it comes to what that tells; the row of a statement. No condition. -/
import Derived.Test.YtccmackhhppbdaaGreatDoorGB
namespace Go.Proofs.YtccmackhhppbdaaGreatDoor.Print
open RowKit Af BI BM
attribute [local go_sem] Ck Cm DC DD CW CX Cn Co
set_option linter.unusedVariables false
set_option linter.unusedSimpArgs false
def Nr:Option Int->Value
 |none=> .nilIface
 |some c=> .iface 0 (.int .i64 c)
theorem Jv (x:List UInt8):∀ y:List UInt8,(!(Op.bytesLess x y||x==y))=Op.bytesLess y x:=by
 induction x with
 |nil=>intro y;cases y<;>simp [Op.bytesLess]
 |cons a x ih=>
  intro y;cases y with
  |nil=>simp [Op.bytesLess]
  |cons b y=>
   have h:=ih y;have e1:(a==b)=decide (a.toNat=b.toNat):=by rw [Bool.eq_iff_iff,beq_iff_eq,decide_eq_true_iff,UInt8.toNat_inj]
   have e2:(b==a)=decide (b.toNat=a.toNat):=by rw [Bool.eq_iff_iff,beq_iff_eq,decide_eq_true_iff,UInt8.toNat_inj]
   have l1:decide (a<b)=decide (a.toNat<b.toNat):=by rw [Bool.eq_iff_iff,decide_eq_true_iff,decide_eq_true_iff,UInt8.lt_iff_toNat_lt]
   have l2:decide (b<a)=decide (b.toNat<a.toNat):=by rw [Bool.eq_iff_iff,decide_eq_true_iff,decide_eq_true_iff,UInt8.lt_iff_toNat_lt]
   simp only [Op.bytesLess,List.cons_beq_cons,e1,e2,l1,l2];rw [<-h];generalize Op.bytesLess x y=p;generalize (x==y)=q;rcases Nat.lt_trichotomy a.toNat b.toNat with t|t|t
   ·rw [decide_eq_true t,decide_eq_false (show ¬b.toNat<a.toNat by omega),decide_eq_false (show ¬b.toNat=a.toNat by omega)];simp
   ·rw [decide_eq_false (show ¬a.toNat<b.toNat by omega),decide_eq_false (show ¬b.toNat<a.toNat by omega),decide_eq_true t,decide_eq_true t.symm];cases p<;>cases q<;>rfl
   ·rw [decide_eq_true t,decide_eq_false (show ¬a.toNat<b.toNat by omega),decide_eq_false (show ¬a.toNat=b.toNat by omega)];simp
theorem Ns {P:Program} (t:TypeId) (x y:ByteArray) (W:World):(binOp .gtr t (.string x) (.string y)).run P W= .ok (.bool (Op.bytesLess y.toList x.toList)) W:=by
 rw [show binOp .gtr t (.string x) (.string y)=pure (.bool !(Op.bytesLess x.toList y.toList||x.toList==y.toList)) by simp [binOp,Op.stringOp],Jv];rfl
theorem Jw (n:Int):IntKind.u64.wrap n=n%18446744073709551616:=by simp [IntKind.wrap,IntKind.bits,IntKind.signed]
theorem LV (n:Int):IntKind.u32.wrap n=n%4294967296:=by simp [IntKind.wrap,IntKind.bits,IntKind.signed]
theorem Nt (n:Int):IntKind.u8.wrap n=n%256:=by simp [IntKind.wrap,IntKind.bits,IntKind.signed]
theorem LW {w:World} {g b i:Nat} {o:Obj} (h:w.heap[g]? =some o) (hp:AA (g≠b)) (u:Value):(w.setCell ⟨b,i,none⟩ u).heap[g]? =some o:=(Below.heap_setCell w ⟨b,i,none⟩ u g hp.out).trans h
theorem xk {P:Prop} (h:P:=by (repeat (first|(with_reducible first|refine ES ?_ _|refine CS ?_|refine ER ?_ _|refine LW ?_ (by with_reducible assumption) _|apply MN)));(exact AA.out (by with_reducible assumption));all_goals (first|(simp only [List.setIfInBounds_toArray,List.set_cons_zero,List.set_cons_succ];done)|(simp only [List.setIfInBounds_toArray,List.set_cons_zero,List.set_cons_succ];rfl)|rfl)):P:=h
theorem xb {P:Prop} (h:P:=by repeat (first|(with_reducible first|exact HB.out|apply Bi|apply CR|apply Cg|refine Jc ?_ (AA.out (by with_reducible assumption)))|exact HB.out)):P:=h
theorem xg {P:Prop} (h:P:=by (try simp only [List.map_toArray,List.map_cons,List.map_nil]);first|done|rfl|(simp only [List.length_drop,List.length_take];rfl)|((try simp [Act.eval])<;>(try simp only [Jw,LV,Nt,wrap64,wrap32])<;>omega)):P:=h
theorem F8 {w:World} {g i:Nat} {t:TypeId} {cs:Array Value} {v:Value} (h:w.heap[g]? =some (.cells cs t (0,0))) (e:cs[i]? =some v):w.cell? ⟨g,i,none⟩=some v:=(AO h i).trans e
theorem xc {P:Prop} (h:P:=by (repeat' apply And.intro)<;>(apply F8;(repeat (with_reducible first|refine ES ?_ _|refine CS ?_|refine ER ?_ _));(exact AA.out (by with_reducible assumption));rfl)):P:=h
theorem Ay {w0 w w1:World} {g:Nat} {o:Obj} (_:AA (w0.heap[g]? =some o)) (hb:Below w.heap.size w w1) (h:w.heap[g]? =some o:=by (repeat (first|(with_reducible first|refine ES ?_ _|refine CS ?_|refine ER ?_ _|refine LW ?_ (by with_reducible assumption) _)));exact AA.out (by with_reducible assumption)):AA (w1.heap[g]? =some o):=⟨Ca h hb⟩
theorem Ba {w0 w:World} {g:Nat} {o:Obj} (_:AA (w0.heap[g]? =some o)) (h:w.heap[g]? =some o:=by (repeat (first|(with_reducible first|refine ES ?_ _|refine CS ?_|refine ER ?_ _|refine LW ?_ (by with_reducible assumption) _)));exact AA.out (by with_reducible assumption)):g<w.heap.size:=GK h
theorem cells3 {w:World} {g:Nat} {t:TypeId} {v0 v1 v2:Value} (h:w.heap[g]? =some (.cells #[v0,v1,v2] t (0,0))):w.cell? ⟨g,0,none⟩=some v0/\w.cell? ⟨g,1,none⟩=some v1/\w.cell? ⟨g,2,none⟩=some v2:=⟨(AO h 0).trans rfl,(AO h 1).trans rfl,(AO h 2).trans rfl⟩
theorem Aw {w:World} {g:Nat} {t:TypeId} {v0 v1 v2 v3 v4 v5 v6 v7 v8 v9 v10:Value} (h:w.heap[g]? =some (.cells #[v0,v1,v2,v3,v4,v5,v6,v7,v8,v9,v10] t (0,0))):w.cell? ⟨g,0,none⟩=some v0/\w.cell? ⟨g,1,none⟩=some v1/\w.cell? ⟨g,2,none⟩=some v2/\w.cell? ⟨g,3,none⟩=some v3/\w.cell? ⟨g,4,none⟩=some v4/\w.cell? ⟨g,5,none⟩=some v5/\w.cell? ⟨g,6,none⟩=some v6/\w.cell? ⟨g,7,none⟩=some v7/\w.cell? ⟨g,8,none⟩=some v8/\w.cell? ⟨g,9,none⟩=some v9/\w.cell? ⟨g,10,none⟩=some v10:=⟨(AO h 0).trans rfl,(AO h 1).trans rfl,(AO h 2).trans rfl,(AO h 3).trans rfl,(AO h 4).trans rfl,(AO h 5).trans rfl,(AO h 6).trans rfl,(AO h 7).trans rfl,(AO h 8).trans rfl,(AO h 9).trans rfl,(AO h 10).trans rfl⟩
def bl:Nat->Nat->List Bool
 |0,_=>[]
 |n+1,k=>(k%2==1)::bl n (k/2)
def bm (n k:Nat):Array Bool:=⟨bl n k⟩
theorem xl {P:Prop} (h:P:=by exact AA.mk (by first|exact hG.out|((with_reducible repeat (first|apply DT.drewN|apply DT.drew|apply DT.alloc));exact hG.out)|exact DT.below hG.out xb)):P:=h
theorem D7 {g g' n:Nat} (hg:g'=n) (h:g<n):AA (g≠g'):=⟨by rw [hg];exact Nat.ne_of_lt h⟩
theorem D8 {g g' n:Nat} (hg:g'=n) (h:g<n):AA (g'≠g):=⟨by rw [hg];exact Nat.ne_of_gt h⟩
theorem Cw {w W:World} {g:Nat} (hg:g=W.heap.size) (h:Below w.heap.size w W):AA (w.heap.size<=g):=⟨by rw [hg];exact Av h⟩
theorem xq {P:Prop} (h:P:=by first|rfl|(simp;done)|(simp [*];done)):P:=h
theorem xd {P:Prop} (h:P:=by repeat (first|exact BA.refl _|apply BA.step)):P:=h
theorem xe {P:Prop} (h:P:=by first|rfl|(simp [EO,EP]<;>rfl)|(simp [*,EO,EP]<;>rfl)):P:=h
theorem xa {p:Prop} [Decidable p] (h:decide p=true:=by first|(with_reducible assumption)|assumption):p:=of_decide_eq_true h
theorem xR {P Q:Prop} (h0:AA P) (h:P->Q:=by intro hq_;(with_reducible repeat (first|apply Kd.Ar|apply Kd.Au|apply Kd.BB));exact hq_):Q:=h h0.out
theorem xV {P Q:Prop} (h0:AA P) (h:P->Q:=by intro hq_;(with_reducible repeat (first|apply Kd.MX|apply Kd.MZ|apply Kd.Gw));exact hq_):Q:=h h0.out
theorem xN {P Q:Prop} (h0:AA P) (h:P->Q:=by intro hq_;(with_reducible repeat (first|apply Kd.MR|apply Kd.MU|apply Kd.OL));exact hq_):Q:=h h0.out
section
variable {P:Program} {ops:Array Oper} {rest:List Oper} {o:Oper} {a:Act} {Q:Exit->Act->World->Prop} {Kc:Act->World->Prop} {S:World->Prop} {ds:List Nat} {md:Region.Mode}
theorem Cv {W:World} {N:Tmp} {cs:Array Value} {t:TypeId} (h:∀ g,g=W.heap.size->∀ w1,w1.heap[g]? =some (.cells cs t (0,0))->Below W.heap.size W w1->wpList P ops Q rest (a.put o.dst (.pointer (some ⟨g,0,none⟩))) w1) (hd:o.dst=some N:=by with_reducible rfl) (hg:o.guard=none:=by rfl)
 (hr:(execOp a.eval o).run P W= .ok (.value (.pointer (some ⟨W.heap.size,0,none⟩))) (W.alloc (.cells cs t (0,0))):=by first|(go_simp;done)|(go_simp;rfl)):wpList P ops Q (o::rest) a W:=Jd hg hd hr h
theorem Ci {i:Nat} {N:Option Tmp} {oi:Oper} {v:Value} {fuel:Nat} {l:Array Bool} {a a':Act} {w:World} (l':Array Bool) (hi:ops[i]? =some oi) (hN:oi.dst=N) (hc:M4 md ops l l' i=true) (hy:Yields P ops oi v a) (h:BV P md ops Q S ds fuel l' a' w)
 (hQ:∀ c a w,Q (.panic c) (a.put oi.dst v) w->Q (.panic c) a w:=by exact λ_ _ _ h=>h) (ha:a.put N v=a':=by simp only [Act.put,List.setIfInBounds_toArray,List.set_cons_zero,List.set_cons_succ,Cq,Cx];rfl):BV P md ops Q S ds (fuel+1) l a w:=GI l' hi hN hc hQ hy ha h
theorem Dt {i:Nat} {N:Option Tmp} {oi:Oper} {v:Value} {fuel:Nat} {l:Array Bool} {a a':Act} {w:World} (l':Array Bool) (hi:ops[i]? =some oi) (hN:oi.dst=N) (hc:takeB md ops ds l l' i=true) (hy:YieldsIf P ops S oi v a) (hS:S w) (h:BV P md ops Q S ds fuel l' a' w)
 (hQ:∀ c a w,Q (.panic c) (a.put oi.dst v) w->Q (.panic c) a w:=by exact λ_ _ _ h=>h) (ha:a.put N v=a':=by simp only [Act.put,List.setIfInBounds_toArray,List.set_cons_zero,List.set_cons_succ,Cq,Cx];rfl):BV P md ops Q S ds (fuel+1) l a w:=MI l' hi hN hc hQ hy hS ha h
theorem Dy {fuel:Nat} {l:Array Bool} {a a':Act} {w:World} {v:Value} {d:Option Tmp} (N:Option Tmp) (hN:d=N) (h:BV P md ops Q S ds fuel l a' w) (ha:a.put N v=a':=by simp only [Act.put,List.setIfInBounds_toArray,List.set_cons_zero,List.set_cons_succ,Cq,Cx];rfl):BV P md ops Q S ds fuel l (a.put d v) w:=by subst hN;subst ha;exact h
end
theorem EO:Nr none= .nilIface:=rfl
theorem EP (c:Int):Nr (some c)= .iface 0 (.int .i64 c):=rfl
theorem QF:(Tryz.prog.info? 9).map (λi=>(i.zero,i.size,i.bytes))=some (some (.string ⟨#[]⟩),1,16):=by kernel_rfl
theorem GH:(Tryz.prog.info? 45).map (λi=>(i.zero,i.size,i.bytes))=some (some (.agg #[(.string ⟨#[]⟩),(.string ⟨#[]⟩),(.string ⟨#[]⟩),(.string ⟨#[]⟩),(.int .i64 0),(.int .i64 0),(.int .i64 0),(.bool false),(.bool false),(.bool false),(.int .i64 0)]),11,104):=by kernel_rfl
theorem Hu:(Tryz.prog.info? 65).map (λi=>(i.zero,i.size,i.bytes))=some (some (.agg #[(.string ⟨#[]⟩),(.string ⟨#[]⟩),(.string ⟨#[]⟩),(.string ⟨#[]⟩),(.string ⟨#[]⟩),(.string ⟨#[]⟩),(.string ⟨#[]⟩),(.int .i64 0),(.int .i64 0),(.int .i64 0),(.bool false),(.bool false),(.bool false),(.int .i64 0)]),14,152):=by kernel_rfl
structure SA where
 f0:Int
 f1:Int
 f2:Int
structure Hw where
 f0:ByteArray
 f1:ByteArray
 f2:ByteArray
def z53:Hw:=⟨(⟨#[]⟩:ByteArray),(⟨#[]⟩:ByteArray),(⟨#[]⟩:ByteArray)⟩
def Rq:Kd Hw:=Kd.Ru (Kd.pair Kd.string (Kd.pair Kd.string Kd.string)) (λx:Hw=>(x.f0,x.f1,x.f2))
theorem Nu {w:World} {x:Hw} {cs:List Value} (h:Rq.K w x cs):cs=[.string x.f0, .string x.f1, .string x.f2]:=by
 obtain ⟨_,_,rfl,rfl,⟨_,_,rfl,rfl,rfl⟩⟩:=h;exact rfl
theorem PN (w:World) (base:Nat) (ok:Nat->Prop) (x:Hw):Rq.M w base ok x [.string x.f0, .string x.f1, .string x.f2]:=⟨[.string x.f0],[.string x.f1, .string x.f2],rfl,rfl,⟨[.string x.f1],[.string x.f2],rfl,rfl,rfl⟩⟩
structure CB where
 f0:ByteArray
 f1:ByteArray
 f2:ByteArray
 f3:ByteArray
 f4:Int
 f5:Int
 f6:Int
 f7:Bool
 f8:Bool
 f9:Bool
 f10:Int
def z45:CB:=⟨(⟨#[]⟩:ByteArray),(⟨#[]⟩:ByteArray),(⟨#[]⟩:ByteArray),(⟨#[]⟩:ByteArray),(0:Int),(0:Int),(0:Int),false,false,false,(0:Int)⟩
def Ec:Kd CB:=Kd.Ru (Kd.pair Kd.string (Kd.pair Kd.string (Kd.pair Kd.string (Kd.pair Kd.string (Kd.pair (Kd.int .i64) (Kd.pair (Kd.int .i64) (Kd.pair (Kd.int .i64) (Kd.pair Kd.bool (Kd.pair Kd.bool (Kd.pair Kd.bool (Kd.int .i64))))))))))) (λx:CB=>(x.f0,x.f1,x.f2,x.f3,x.f4,x.f5,x.f6,x.f7,x.f8,x.f9,x.f10))
theorem Kb {w:World} {x:CB} {cs:List Value} (h:Ec.K w x cs):cs=[.string x.f0, .string x.f1, .string x.f2, .string x.f3, .int .i64 x.f4, .int .i64 x.f5, .int .i64 x.f6, .bool x.f7, .bool x.f8, .bool x.f9, .int .i64 x.f10]:=by
 obtain ⟨_,_,rfl,rfl,⟨_,_,rfl,rfl,⟨_,_,rfl,rfl,⟨_,_,rfl,rfl,⟨_,_,rfl,rfl,⟨_,_,rfl,rfl,⟨_,_,rfl,rfl,⟨_,_,rfl,rfl,⟨_,_,rfl,rfl,⟨_,_,rfl,rfl,rfl⟩⟩⟩⟩⟩⟩⟩⟩⟩⟩:=h;exact rfl
theorem QY (w:World) (x:CB):Ec.K w x [.string x.f0, .string x.f1, .string x.f2, .string x.f3, .int .i64 x.f4, .int .i64 x.f5, .int .i64 x.f6, .bool x.f7, .bool x.f8, .bool x.f9, .int .i64 x.f10]:=⟨[.string x.f0],[.string x.f1, .string x.f2, .string x.f3, .int .i64 x.f4, .int .i64 x.f5, .int .i64 x.f6, .bool x.f7, .bool x.f8, .bool x.f9, .int .i64 x.f10],rfl,rfl,⟨[.string x.f1],[.string x.f2, .string x.f3, .int .i64 x.f4, .int .i64 x.f5, .int .i64 x.f6, .bool x.f7, .bool x.f8, .bool x.f9, .int .i64 x.f10],rfl,rfl,⟨[.string x.f2],[.string x.f3, .int .i64 x.f4, .int .i64 x.f5, .int .i64 x.f6, .bool x.f7, .bool x.f8, .bool x.f9, .int .i64 x.f10],rfl,rfl,⟨[.string x.f3],[.int .i64 x.f4, .int .i64 x.f5, .int .i64 x.f6, .bool x.f7, .bool x.f8, .bool x.f9, .int .i64 x.f10],rfl,rfl,⟨[.int .i64 x.f4],[.int .i64 x.f5, .int .i64 x.f6, .bool x.f7, .bool x.f8, .bool x.f9, .int .i64 x.f10],rfl,rfl,⟨[.int .i64 x.f5],[.int .i64 x.f6, .bool x.f7, .bool x.f8, .bool x.f9, .int .i64 x.f10],rfl,rfl,⟨[.int .i64 x.f6],[.bool x.f7, .bool x.f8, .bool x.f9, .int .i64 x.f10],rfl,rfl,⟨[.bool x.f7],[.bool x.f8, .bool x.f9, .int .i64 x.f10],rfl,rfl,⟨[.bool x.f8],[.bool x.f9, .int .i64 x.f10],rfl,rfl,⟨[.bool x.f9],[.int .i64 x.f10],rfl,rfl,rfl⟩⟩⟩⟩⟩⟩⟩⟩⟩⟩
theorem EY (w:World) (base:Nat) (ok:Nat->Prop) (x:CB):Ec.M w base ok x [.string x.f0, .string x.f1, .string x.f2, .string x.f3, .int .i64 x.f4, .int .i64 x.f5, .int .i64 x.f6, .bool x.f7, .bool x.f8, .bool x.f9, .int .i64 x.f10]:=⟨[.string x.f0],[.string x.f1, .string x.f2, .string x.f3, .int .i64 x.f4, .int .i64 x.f5, .int .i64 x.f6, .bool x.f7, .bool x.f8, .bool x.f9, .int .i64 x.f10],rfl,rfl,⟨[.string x.f1],[.string x.f2, .string x.f3, .int .i64 x.f4, .int .i64 x.f5, .int .i64 x.f6, .bool x.f7, .bool x.f8, .bool x.f9, .int .i64 x.f10],rfl,rfl,⟨[.string x.f2],[.string x.f3, .int .i64 x.f4, .int .i64 x.f5, .int .i64 x.f6, .bool x.f7, .bool x.f8, .bool x.f9, .int .i64 x.f10],rfl,rfl,⟨[.string x.f3],[.int .i64 x.f4, .int .i64 x.f5, .int .i64 x.f6, .bool x.f7, .bool x.f8, .bool x.f9, .int .i64 x.f10],rfl,rfl,⟨[.int .i64 x.f4],[.int .i64 x.f5, .int .i64 x.f6, .bool x.f7, .bool x.f8, .bool x.f9, .int .i64 x.f10],rfl,rfl,⟨[.int .i64 x.f5],[.int .i64 x.f6, .bool x.f7, .bool x.f8, .bool x.f9, .int .i64 x.f10],rfl,rfl,⟨[.int .i64 x.f6],[.bool x.f7, .bool x.f8, .bool x.f9, .int .i64 x.f10],rfl,rfl,⟨[.bool x.f7],[.bool x.f8, .bool x.f9, .int .i64 x.f10],rfl,rfl,⟨[.bool x.f8],[.bool x.f9, .int .i64 x.f10],rfl,rfl,⟨[.bool x.f9],[.int .i64 x.f10],rfl,rfl,rfl⟩⟩⟩⟩⟩⟩⟩⟩⟩⟩
def AB (xs:List CB) (i:Int):CB:=xs.getD i.toNat z45
theorem CP {w:World} {A:Option Addr} {n:Nat} {xs:List CB} (h:Kd.C Ec w A n xs) (i:Int) (h0:0<=i) (h1:i<n):∃ ad,A=some ad/\w.cell? (ad.add (i.toNat*11))=some (.string (AB xs i).f0)/\w.cell? ⟨(ad.add (i.toNat*11)).block,(ad.add (i.toNat*11)).off+1,none⟩=some (.string (AB xs i).f1)/\w.cell? ⟨(ad.add (i.toNat*11)).block,(ad.add (i.toNat*11)).off+2,none⟩=some (.string (AB xs i).f2)/\w.cell? ⟨(ad.add (i.toNat*11)).block,(ad.add (i.toNat*11)).off+3,none⟩=some (.string (AB xs i).f3)/\w.cell? ⟨(ad.add (i.toNat*11)).block,(ad.add (i.toNat*11)).off+4,none⟩=some (.int .i64 (AB xs i).f4)/\w.cell? ⟨(ad.add (i.toNat*11)).block,(ad.add (i.toNat*11)).off+5,none⟩=some (.int .i64 (AB xs i).f5)/\w.cell? ⟨(ad.add (i.toNat*11)).block,(ad.add (i.toNat*11)).off+6,none⟩=some (.int .i64 (AB xs i).f6)/\w.cell? ⟨(ad.add (i.toNat*11)).block,(ad.add (i.toNat*11)).off+7,none⟩=some (.bool (AB xs i).f7)/\w.cell? ⟨(ad.add (i.toNat*11)).block,(ad.add (i.toNat*11)).off+8,none⟩=some (.bool (AB xs i).f8)/\w.cell? ⟨(ad.add (i.toNat*11)).block,(ad.add (i.toNat*11)).off+9,none⟩=some (.bool (AB xs i).f9)/\w.cell? ⟨(ad.add (i.toNat*11)).block,(ad.add (i.toNat*11)).off+10,none⟩=some (.int .i64 (AB xs i).f10):=by
 obtain ⟨ad,c,e,_,hK,hc0⟩:=Kd.OB h z45 i h0 h1;have hc:∀ j u,c[j]? =some u->w.cell? (ad.add (i.toNat*11+j))=some u:=hc0;obtain rfl:=Kb hK;exact ⟨ad,e,hc 0 _ rfl,by rw [<-CV _ _ 1 (by omega)];exact hc 1 _ rfl,by rw [<-CV _ _ 2 (by omega)];exact hc 2 _ rfl,by rw [<-CV _ _ 3 (by omega)];exact hc 3 _ rfl,by rw [<-CV _ _ 4 (by omega)];exact hc 4 _ rfl,by rw [<-CV _ _ 5 (by omega)];exact hc 5 _ rfl,by rw [<-CV _ _ 6 (by omega)];exact hc 6 _ rfl,by rw [<-CV _ _ 7 (by omega)];exact hc 7 _ rfl,by rw [<-CV _ _ 8 (by omega)];exact hc 8 _ rfl,by rw [<-CV _ _ 9 (by omega)];exact hc 9 _ rfl,by rw [<-CV _ _ 10 (by omega)];exact hc 10 _ rfl⟩
structure Cb where
 f0:Hw
 f1:CB
def z65:Cb:=⟨z53,z45⟩
def Ed:Kd Cb:=Kd.Ru (Kd.pair Rq Ec) (λx:Cb=>(x.f0,x.f1))
theorem Nv {w:World} {x:Cb} {cs:List Value} (h:Ed.K w x cs):cs=[.string x.f0.f0, .string x.f0.f1, .string x.f0.f2, .string x.f1.f0, .string x.f1.f1, .string x.f1.f2, .string x.f1.f3, .int .i64 x.f1.f4, .int .i64 x.f1.f5, .int .i64 x.f1.f6, .bool x.f1.f7, .bool x.f1.f8, .bool x.f1.f9, .int .i64 x.f1.f10]:=by
 obtain ⟨_,_,rfl,s0,s3⟩:=h;obtain rfl:=Nu s0;obtain rfl:=Kb s3;exact rfl
theorem MH (w:World) (base:Nat) (ok:Nat->Prop) (x:Cb):Ed.M w base ok x [.string x.f0.f0, .string x.f0.f1, .string x.f0.f2, .string x.f1.f0, .string x.f1.f1, .string x.f1.f2, .string x.f1.f3, .int .i64 x.f1.f4, .int .i64 x.f1.f5, .int .i64 x.f1.f6, .bool x.f1.f7, .bool x.f1.f8, .bool x.f1.f9, .int .i64 x.f1.f10]:=⟨[.string x.f0.f0, .string x.f0.f1, .string x.f0.f2],[.string x.f1.f0, .string x.f1.f1, .string x.f1.f2, .string x.f1.f3, .int .i64 x.f1.f4, .int .i64 x.f1.f5, .int .i64 x.f1.f6, .bool x.f1.f7, .bool x.f1.f8, .bool x.f1.f9, .int .i64 x.f1.f10],rfl,(PN w base ok x.f0),(EY w base ok x.f1)⟩
def Ai (xs:List Cb) (i:Int):Cb:=xs.getD i.toNat z65
theorem LX {w:World} {A:Option Addr} {n:Nat} {xs:List Cb} (h:Kd.C Ed w A n xs) (i:Int) (h0:0<=i) (h1:i<n):∃ ad,A=some ad/\w.cell? (ad.add (i.toNat*14))=some (.string (Ai xs i).f0.f0)/\w.cell? ⟨(ad.add (i.toNat*14)).block,(ad.add (i.toNat*14)).off+1,none⟩=some (.string (Ai xs i).f0.f1)/\w.cell? ⟨(ad.add (i.toNat*14)).block,(ad.add (i.toNat*14)).off+2,none⟩=some (.string (Ai xs i).f0.f2)/\w.cell? ⟨(ad.add (i.toNat*14)).block,(ad.add (i.toNat*14)).off+3,none⟩=some (.string (Ai xs i).f1.f0)/\w.cell? ⟨(ad.add (i.toNat*14)).block,(ad.add (i.toNat*14)).off+4,none⟩=some (.string (Ai xs i).f1.f1)/\w.cell? ⟨(ad.add (i.toNat*14)).block,(ad.add (i.toNat*14)).off+5,none⟩=some (.string (Ai xs i).f1.f2)/\w.cell? ⟨(ad.add (i.toNat*14)).block,(ad.add (i.toNat*14)).off+6,none⟩=some (.string (Ai xs i).f1.f3)/\w.cell? ⟨(ad.add (i.toNat*14)).block,(ad.add (i.toNat*14)).off+7,none⟩=some (.int .i64 (Ai xs i).f1.f4)/\w.cell? ⟨(ad.add (i.toNat*14)).block,(ad.add (i.toNat*14)).off+8,none⟩=some (.int .i64 (Ai xs i).f1.f5)/\w.cell? ⟨(ad.add (i.toNat*14)).block,(ad.add (i.toNat*14)).off+9,none⟩=some (.int .i64 (Ai xs i).f1.f6)/\w.cell? ⟨(ad.add (i.toNat*14)).block,(ad.add (i.toNat*14)).off+10,none⟩=some (.bool (Ai xs i).f1.f7)/\w.cell? ⟨(ad.add (i.toNat*14)).block,(ad.add (i.toNat*14)).off+11,none⟩=some (.bool (Ai xs i).f1.f8)/\w.cell? ⟨(ad.add (i.toNat*14)).block,(ad.add (i.toNat*14)).off+12,none⟩=some (.bool (Ai xs i).f1.f9)/\w.cell? ⟨(ad.add (i.toNat*14)).block,(ad.add (i.toNat*14)).off+13,none⟩=some (.int .i64 (Ai xs i).f1.f10):=by
 obtain ⟨ad,c,e,_,hK,hc0⟩:=Kd.OB h z65 i h0 h1;have hc:∀ j u,c[j]? =some u->w.cell? (ad.add (i.toNat*14+j))=some u:=hc0;obtain rfl:=Nv hK;exact ⟨ad,e,hc 0 _ rfl,by rw [<-CV _ _ 1 (by omega)];exact hc 1 _ rfl,by rw [<-CV _ _ 2 (by omega)];exact hc 2 _ rfl,by rw [<-CV _ _ 3 (by omega)];exact hc 3 _ rfl,by rw [<-CV _ _ 4 (by omega)];exact hc 4 _ rfl,by rw [<-CV _ _ 5 (by omega)];exact hc 5 _ rfl,by rw [<-CV _ _ 6 (by omega)];exact hc 6 _ rfl,by rw [<-CV _ _ 7 (by omega)];exact hc 7 _ rfl,by rw [<-CV _ _ 8 (by omega)];exact hc 8 _ rfl,by rw [<-CV _ _ 9 (by omega)];exact hc 9 _ rfl,by rw [<-CV _ _ 10 (by omega)];exact hc 10 _ rfl,by rw [<-CV _ _ 11 (by omega)];exact hc 11 _ rfl,by rw [<-CV _ _ 12 (by omega)];exact hc 12 _ rfl,by rw [<-CV _ _ 13 (by omega)];exact hc 13 _ rfl⟩
def Ez (xs:List (List Cb)) (i:Int):(List Cb):=xs.getD i.toNat ([]:List Cb)
theorem QG {w:World} {A:Option Addr} {n:Nat} {xs:List (List Cb)} (h:Kd.C (Kd.slice 65 Ed) w A n xs) (i:Int) (h0:0<=i) (h1:i<n):∃ ad A0 c0,A=some ad/\w.cell? (ad.add i.toNat)=some (.slice A0 (Ez xs i).length c0)/\(Ez xs i).length<=c0/\Ed.C w A0 (Ez xs i).length (Ez xs i):=by
 obtain ⟨ad,c,e,_,hK,hc0⟩:=Kd.OB h ([]:List Cb) i h0 h1;have hc:∀ j u,c[j]? =some u->w.cell? (ad.add (i.toNat*1+j))=some u:=hc0;obtain ⟨A0,c0,rfl,l0,g0⟩:=hK;exact ⟨ad,A0,c0,e,by have hq:=hc 0 _ rfl;rwa [Nat.mul_one,Nat.add_zero] at hq,l0,g0⟩
structure R5 where
 f0:(List Cb)
structure R6 where
 f0:R5
structure SB where
 f0:R6
end Go.Proofs.YtccmackhhppbdaaGreatDoor.Print
