/- Several parts of the claim's proof in one text, said short by a program of this session. No condition. -/
import Derived.Test.YtfggjdkccdkogaaGreatDoorProg
import Derived.Test.YtfggjdkccdkogaaGreatDoorWMore
import Derived.WalkMore
import Derived.Scope
section
namespace Go.Proofs.YtfggjdkccdkogaaGreatDoor.EE
open RowKit Ac Aq Aw
attribute [local go_sem] DC DD DX DY Co Cq DI DJ
set_option linter.unusedVariables false
set_option linter.unusedSimpArgs false
def Ui:Option Int->Value
 |none=> .nilIface
 |some c=> .iface 0 (.int .i64 c)
theorem Ot (x:List UInt8):∀ y:List UInt8,(!(Op.bytesLess x y||x==y))=Op.bytesLess y x:=by
 induction x with
 |nil=>intro y;cases y<;>simp [Op.bytesLess]
 |cons a x ih=>
  intro y;cases y with
  |nil=>simp [Op.bytesLess]
  |cons b y=>
   have h:=ih y;have e1:(a==b)=decide (a.toNat=b.toNat):=by rw [Bool.eq_iff_iff,beq_iff_eq,decide_eq_true_iff,UInt8.toNat_inj]
   have e2:(b==a)=decide (b.toNat=a.toNat):=by rw [Bool.eq_iff_iff,beq_iff_eq,decide_eq_true_iff,UInt8.toNat_inj]
   have l1:decide (a<b)=decide (a.toNat<b.toNat):=by rw [Bool.eq_iff_iff,decide_eq_true_iff,decide_eq_true_iff,UInt8.lt_iff_toNat_lt]
   have l2:decide (b<a)=decide (b.toNat<a.toNat):=by rw [Bool.eq_iff_iff,decide_eq_true_iff,decide_eq_true_iff,UInt8.lt_iff_toNat_lt]
   simp only [Op.bytesLess,List.cons_beq_cons,e1,e2,l1,l2];rw [<-h];generalize Op.bytesLess x y=p;generalize (x==y)=q;rcases Nat.lt_trichotomy a.toNat b.toNat with t|t|t
   ·rw [decide_eq_true t,decide_eq_false (show ¬b.toNat<a.toNat by omega),decide_eq_false (show ¬b.toNat=a.toNat by omega)];simp
   ·rw [decide_eq_false (show ¬a.toNat<b.toNat by omega),decide_eq_false (show ¬b.toNat<a.toNat by omega),decide_eq_true t,decide_eq_true t.symm];cases p<;>cases q<;>rfl
   ·rw [decide_eq_true t,decide_eq_false (show ¬a.toNat<b.toNat by omega),decide_eq_false (show ¬a.toNat=b.toNat by omega)];simp
theorem Uj {P:Program} (t:TypeId) (x y:ByteArray) (W:World):(binOp .gtr t (.string x) (.string y)).run P W= .ok (.bool (Op.bytesLess y.toList x.toList)) W:=by
 rw [show binOp .gtr t (.string x) (.string y)=pure (.bool !(Op.bytesLess x.toList y.toList||x.toList==y.toList)) by simp [binOp,Op.stringOp],Ot];rfl
theorem KI (n:Int):IntKind.u64.wrap n=n%18446744073709551616:=by simp [IntKind.wrap,IntKind.bits,IntKind.signed]
theorem LK (n:Int):IntKind.u32.wrap n=n%4294967296:=by simp [IntKind.wrap,IntKind.bits,IntKind.signed]
theorem N7 (n:Int):IntKind.u8.wrap n=n%256:=by simp [IntKind.wrap,IntKind.bits,IntKind.signed]
theorem Q6 {w:World} {g b i:Nat} {o:Obj} (h:w.heap[g]? =some o) (hp:AA (g≠b)) (u:Value):(w.setCell ⟨b,i,none⟩ u).heap[g]? =some o:=(Below.heap_setCell w ⟨b,i,none⟩ u g hp.out).trans h
theorem xk {P:Prop} (h:P:=by (repeat (first|(with_reducible first|refine Gn ?_ _|refine Bd ?_|refine GQ ?_ _|refine Q6 ?_ (by with_reducible assumption) _|apply MN)));(exact AA.out (by with_reducible assumption));all_goals (first|(simp only [List.setIfInBounds_toArray,List.set_cons_zero,List.set_cons_succ];done)|(simp only [List.setIfInBounds_toArray,List.set_cons_zero,List.set_cons_succ];rfl)|rfl)):P:=h
theorem xb {P:Prop} (h:P:=by repeat (first|(with_reducible first|exact HB.out|apply Bu|apply Ce|apply Bb|refine I8 ?_ (AA.out (by with_reducible assumption)))|exact HB.out)):P:=h
theorem xg {P:Prop} (h:P:=by (try simp only [List.map_toArray,List.map_cons,List.map_nil]);first|done|rfl|(simp only [List.length_drop,List.length_take];rfl)|((try simp [Act.eval])<;>(try simp only [KI,LK,N7,wrap64,wrap32])<;>omega)):P:=h
theorem JG {w:World} {g i:Nat} {t:TypeId} {cs:Array Value} {v:Value} (h:w.heap[g]? =some (.cells cs t (0,0))) (e:cs[i]? =some v):w.cell? ⟨g,i,none⟩=some v:=(AJ h i).trans e
theorem xc {P:Prop} (h:P:=by (repeat' apply And.intro)<;>(apply JG;(repeat (with_reducible first|refine Gn ?_ _|refine Bd ?_|refine GQ ?_ _));(exact AA.out (by with_reducible assumption));rfl)):P:=h
theorem bL {w0 w w1:World} {g:Nat} {o:Obj} (_:AA (w0.heap[g]? =some o)) (hb:Below w.heap.size w w1) (h:w.heap[g]? =some o:=by (repeat (first|(with_reducible first|refine Gn ?_ _|refine Bd ?_|refine GQ ?_ _|refine Q6 ?_ (by with_reducible assumption) _)));exact AA.out (by with_reducible assumption)):AA (w1.heap[g]? =some o):=⟨DN h hb⟩
theorem Cs {w0 w:World} {g:Nat} {o:Obj} (_:AA (w0.heap[g]? =some o)) (h:w.heap[g]? =some o:=by (repeat (first|(with_reducible first|refine Gn ?_ _|refine Bd ?_|refine GQ ?_ _|refine Q6 ?_ (by with_reducible assumption) _)));exact AA.out (by with_reducible assumption)):g<w.heap.size:=IV h
theorem cells3 {w:World} {g:Nat} {t:TypeId} {v0 v1 v2:Value} (h:w.heap[g]? =some (.cells #[v0,v1,v2] t (0,0))):w.cell? ⟨g,0,none⟩=some v0/\w.cell? ⟨g,1,none⟩=some v1/\w.cell? ⟨g,2,none⟩=some v2:=⟨(AJ h 0).trans rfl,(AJ h 1).trans rfl,(AJ h 2).trans rfl⟩
theorem LM {w:World} {g:Nat} {t:TypeId} {v0 v1 v2 v3 v4 v5 v6 v7:Value} (h:w.heap[g]? =some (.cells #[v0,v1,v2,v3,v4,v5,v6,v7] t (0,0))):w.cell? ⟨g,0,none⟩=some v0/\w.cell? ⟨g,1,none⟩=some v1/\w.cell? ⟨g,2,none⟩=some v2/\w.cell? ⟨g,3,none⟩=some v3/\w.cell? ⟨g,4,none⟩=some v4/\w.cell? ⟨g,5,none⟩=some v5/\w.cell? ⟨g,6,none⟩=some v6/\w.cell? ⟨g,7,none⟩=some v7:=⟨(AJ h 0).trans rfl,(AJ h 1).trans rfl,(AJ h 2).trans rfl,(AJ h 3).trans rfl,(AJ h 4).trans rfl,(AJ h 5).trans rfl,(AJ h 6).trans rfl,(AJ h 7).trans rfl⟩
theorem Gf {w:World} {g:Nat} {t:TypeId} {v0 v1 v2 v3 v4 v5 v6 v7 v8 v9:Value} (h:w.heap[g]? =some (.cells #[v0,v1,v2,v3,v4,v5,v6,v7,v8,v9] t (0,0))):w.cell? ⟨g,0,none⟩=some v0/\w.cell? ⟨g,1,none⟩=some v1/\w.cell? ⟨g,2,none⟩=some v2/\w.cell? ⟨g,3,none⟩=some v3/\w.cell? ⟨g,4,none⟩=some v4/\w.cell? ⟨g,5,none⟩=some v5/\w.cell? ⟨g,6,none⟩=some v6/\w.cell? ⟨g,7,none⟩=some v7/\w.cell? ⟨g,8,none⟩=some v8/\w.cell? ⟨g,9,none⟩=some v9:=⟨(AJ h 0).trans rfl,(AJ h 1).trans rfl,(AJ h 2).trans rfl,(AJ h 3).trans rfl,(AJ h 4).trans rfl,(AJ h 5).trans rfl,(AJ h 6).trans rfl,(AJ h 7).trans rfl,(AJ h 8).trans rfl,(AJ h 9).trans rfl⟩
theorem BK {w:World} {g:Nat} {t:TypeId} {v0 v1 v2 v3 v4 v5 v6 v7 v8 v9 v10:Value} (h:w.heap[g]? =some (.cells #[v0,v1,v2,v3,v4,v5,v6,v7,v8,v9,v10] t (0,0))):w.cell? ⟨g,0,none⟩=some v0/\w.cell? ⟨g,1,none⟩=some v1/\w.cell? ⟨g,2,none⟩=some v2/\w.cell? ⟨g,3,none⟩=some v3/\w.cell? ⟨g,4,none⟩=some v4/\w.cell? ⟨g,5,none⟩=some v5/\w.cell? ⟨g,6,none⟩=some v6/\w.cell? ⟨g,7,none⟩=some v7/\w.cell? ⟨g,8,none⟩=some v8/\w.cell? ⟨g,9,none⟩=some v9/\w.cell? ⟨g,10,none⟩=some v10:=⟨(AJ h 0).trans rfl,(AJ h 1).trans rfl,(AJ h 2).trans rfl,(AJ h 3).trans rfl,(AJ h 4).trans rfl,(AJ h 5).trans rfl,(AJ h 6).trans rfl,(AJ h 7).trans rfl,(AJ h 8).trans rfl,(AJ h 9).trans rfl,(AJ h 10).trans rfl⟩
theorem Uk (a:Array UInt8):(ByteArray.mk a).size=a.size:=rfl
def bl:Nat->Nat->List Bool
 |0,_=>[]
 |n+1,k=>(k%2==1)::bl n (k/2)
def bm (n k:Nat):Array Bool:=⟨bl n k⟩
theorem xl {P:Prop} (h:P:=by exact AA.mk (by first|exact hG.out|((with_reducible repeat (first|apply D8.drewN|apply D8.drew|apply D8.alloc));exact hG.out)|exact D8.below hG.out xb)):P:=h
theorem GM {g g' n:Nat} (hg:g'=n) (h:g<n):AA (g≠g'):=⟨by rw [hg];exact Nat.ne_of_lt h⟩
theorem GN {g g' n:Nat} (hg:g'=n) (h:g<n):AA (g'≠g):=⟨by rw [hg];exact Nat.ne_of_gt h⟩
theorem Dq {w W:World} {g:Nat} (hg:g=W.heap.size) (h:Below w.heap.size w W):AA (w.heap.size<=g):=⟨by rw [hg];exact Ai h⟩
theorem xq {P:Prop} (h:P:=by first|rfl|(simp;done)|(simp [*];done)):P:=h
theorem xd {P:Prop} (h:P:=by repeat (first|exact BP.refl _|apply BP.step)):P:=h
theorem xe {P:Prop} (h:P:=by first|rfl|(simp [EI,EJ]<;>rfl)|(simp [*,EI,EJ]<;>rfl)):P:=h
theorem xa {p:Prop} [Decidable p] (h:decide p=true:=by first|(with_reducible assumption)|assumption):p:=of_decide_eq_true h
theorem xR {P Q:Prop} (h0:AA P) (h:P->Q:=by intro hq_;(with_reducible repeat (first|apply Kd.BX|apply Kd.BZ|apply Kd.Bc));exact hq_):Q:=h h0.out
theorem xV {P Q:Prop} (h0:AA P) (h:P->Q:=by intro hq_;(with_reducible repeat (first|apply Kd.SQ|apply Kd.SV|apply Kd.KP));exact hq_):Q:=h h0.out
theorem xN {P Q:Prop} (h0:AA P) (h:P->Q:=by intro hq_;(with_reducible repeat (first|apply Kd.SH|apply Kd.SI|apply Kd.VB));exact hq_):Q:=h h0.out
section
variable {P:Program} {ops:Array Oper} {rest:List Oper} {o:Oper} {a:Act} {Q:Exit->Act->World->Prop} {Kc:Act->World->Prop} {S:World->Prop} {ds:List Nat} {md:Region.Mode}
theorem Dp {W:World} {N:Tmp} {cs:Array Value} {t:TypeId} (h:∀ g,g=W.heap.size->∀ w1,w1.heap[g]? =some (.cells cs t (0,0))->Below W.heap.size W w1->wpList P ops Q rest (a.put o.dst (.pointer (some ⟨g,0,none⟩))) w1) (hd:o.dst=some N:=by with_reducible rfl) (hg:o.guard=none:=by rfl)
 (hr:(execOp a.eval o).run P W= .ok (.value (.pointer (some ⟨W.heap.size,0,none⟩))) (W.alloc (.cells cs t (0,0))):=by first|(go_simp;done)|(go_simp;rfl)):wpList P ops Q (o::rest) a W:=Ju hg hd hr h
theorem AZ {i:Nat} {N:Option Tmp} {oi:Oper} {v:Value} {fuel:Nat} {l:Array Bool} {a a':Act} {w:World} (l':Array Bool) (hi:ops[i]? =some oi) (hN:oi.dst=N) (hc:Ta md ops l l' i=true) (hy:Yields P ops oi v a) (h:Bv P md ops Q S ds fuel l' a' w)
 (hQ:∀ c a w,Q (.panic c) (a.put oi.dst v) w->Q (.panic c) a w:=by exact λ_ _ _ h=>h) (ha:a.put N v=a':=by simp only [Act.put,List.setIfInBounds_toArray,List.set_cons_zero,List.set_cons_succ,CE,CU];rfl):Bv P md ops Q S ds (fuel+1) l a w:=D7 l' hi hN hc hQ hy ha h
theorem Cu {i:Nat} {N:Option Tmp} {oi:Oper} {v:Value} {fuel:Nat} {l:Array Bool} {a a':Act} {w:World} (l':Array Bool) (hi:ops[i]? =some oi) (hN:oi.dst=N) (hc:takeB md ops ds l l' i=true) (hy:YieldsIf P ops S oi v a) (hS:S w) (h:Bv P md ops Q S ds fuel l' a' w)
 (hQ:∀ c a w,Q (.panic c) (a.put oi.dst v) w->Q (.panic c) a w:=by exact λ_ _ _ h=>h) (ha:a.put N v=a':=by simp only [Act.put,List.setIfInBounds_toArray,List.set_cons_zero,List.set_cons_succ,CE,CU];rfl):Bv P md ops Q S ds (fuel+1) l a w:=R8 l' hi hN hc hQ hy hS ha h
theorem Be {fuel:Nat} {l:Array Bool} {a a':Act} {w:World} {v:Value} {d:Option Tmp} (N:Option Tmp) (hN:d=N) (h:Bv P md ops Q S ds fuel l a' w) (ha:a.put N v=a':=by simp only [Act.put,List.setIfInBounds_toArray,List.set_cons_zero,List.set_cons_succ,CE,CU];rfl):Bv P md ops Q S ds fuel l (a.put d v) w:=by subst hN;subst ha;exact h
end
theorem EI:Ui none= .nilIface:=rfl
theorem EJ (c:Int):Ui (some c)= .iface 0 (.int .i64 c):=rfl
end Go.Proofs.YtfggjdkccdkogaaGreatDoor.EE
end
section
namespace Go.Proofs.YtfggjdkccdkogaaGreatDoor.EE
open RowKit Ac Aq Aw
attribute [local go_sem] DC DD DX DY Co Cq DI DJ
set_option linter.unusedVariables false
set_option linter.unusedSimpArgs false
def Ba.f (a0:Int) (a1:Int) (a2:Int):Option (Bool):=if a0>=a1 then (some (decide (a0<=a2))) else (some false)
set_option maxHeartbeats 8000000 in
set_option maxRecDepth 100000 in
theorem Ba.calls (a0:Int) (a1:Int) (a2:Int) (r:Bool) (w:World) (h:Ba.f a0 a1 a2=some r):
 Calls Tryz.prog 106 #[.int .u8 a0, .int .u8 a1, .int .u8 a2] w λe w'=>e= .returned (.bool r)/\BP w w':=by
 have H:(if a0>=a1 then (some (decide (a0<=a2))) else (some false))=some r:=h;clear h;by_cases c4:a0>=a1
 ·rw [if_pos c4] at H;have c4b0:decide (a1<=a0)=true:=decide_eq_true c4;clear c4;obtain rfl:=Option.some.inj H;go_enter Tryz.func106,Tryz.ntmps106;go_wp2;go_ret;exact ⟨xq,xd⟩
 ·rw [if_neg c4] at H;have c4b0:decide (a1<=a0)=false:=decide_eq_false c4;clear c4;obtain rfl:=Option.some.inj H;go_enter Tryz.func106,Tryz.ntmps106;go_wp2;go_ret;exact ⟨xq,xd⟩
def ED.l0:Nat->Int->List Int->Int->Int->Option (Int)
 |0,_,_,_,_=>none
 |k+1,x3,x6,x7,x8=>if x8<x7 then (if 0<=x8 then (if x8<(x6.length:Int) then (if (rd x6 x8)=x3 then (ED.l0 k x3 x6 x7 (wrap64 (x8+1))) else (some (rd x6 x8))) else (none)) else (none)) else (some x3)
def ED.f (k:Nat) (l0:List Int):Option (Int):=ED.l0 k 0 l0 (l0.length:Int) 0
set_option maxHeartbeats 8000000 in
set_option maxRecDepth 100000 in
theorem ED.calls (k:Nat) (A0:Option Addr) (c0:Nat) (l0:List Int) (r:Int) (w:World) (hr0:Kd.C (Kd.int .i64) w A0 l0.length l0) (hc0:l0.length<=c0) (h:ED.f k l0=some r):
 Calls Tryz.prog 67 #[.slice A0 l0.length c0] w λe w'=>e= .returned (.int .i64 r)/\BP w w':=by
 have HR0:=AA.mk hr0;have HC0:=AA.mk hc0;clear hr0 hc0;have H:(ED.l0 k 0 l0 (l0.length:Int) 0)=some r:=h;clear h;have H':=AA.mk H;clear H;go_enter Tryz.func67,Tryz.ntmps67;go_wp2;go_loopg [8] k (λkq v8 w'=>∃ (x8_1:Int),v8= .int .i64 x8_1/\AA (ED.l0 kq 0 l0 (l0.length:Int) x8_1=some r)/\AA (kq<=k)/\BP w w');case atStart=>exact ⟨(0),xq,H',⟨Nat.le_refl _⟩,xd⟩
 case round=>
  clear H';obtain ⟨x8_1,rfl,HA,HK1,⟨m1,rfl⟩⟩:=hrel;cases gk with
  |zero=>exact absurd HA.out (by simp [ED.l0])
  |succ k1=>
   have H:=HA.out;clear HA;simp only [ED.l0] at H;by_cases c2:x8_1<(l0.length:Int)
   ·rw [if_pos c2] at H;have c2b0:decide (x8_1<(l0.length:Int))=true:=decide_eq_true c2;clear c2;by_cases c3:0<=x8_1
    ·rw [if_pos c3] at H;have c3b0:decide (0<=x8_1)=true:=decide_eq_true c3;clear c3;by_cases c4:x8_1<(l0.length:Int)
     ·rw [if_pos c4] at H;have c4b0:decide (x8_1<(l0.length:Int))=true:=decide_eq_true c4;clear c4;by_cases c5:(rd l0 x8_1)=0
      ·rw [if_pos c5] at H;have c5b0:((rd l0 x8_1)==0)=true:=beq_iff_eq.mpr c5;have c5b1:((rd l0 x8_1) != 0)=false:=bne_eq_false_iff_eq.mpr c5;clear c5;have H':=AA.mk H;clear H;have p101:0<=(x8_1:Int):=xa;have q101:x8_1<(l0.length:Int):=xa;obtain ⟨ad101,e101,hx101_0⟩:=Kd.U3 HR0.out x8_1 p101 q101;cases e101;replace p101:=eq_true p101;replace q101:=eq_true q101;go_wp2;go_roundg k1;case measure=>have:=HK1.out;omega
       case rel=>exact ⟨(wrap64 (x8_1+1)),xq,H',⟨by have:=HK1.out;omega⟩,xd⟩
      ·rw [if_neg c5] at H;have c5b0:((rd l0 x8_1)==0)=false:=beq_eq_false_iff_ne.mpr c5;have c5b1:((rd l0 x8_1) != 0)=true:=bne_iff_ne.mpr c5;obtain rfl:=Option.some.inj H;have p101:0<=(x8_1:Int):=xa;have q101:x8_1<(l0.length:Int):=xa;obtain ⟨ad101,e101,hx101_0⟩:=Kd.U3 HR0.out x8_1 p101 q101;cases e101;replace p101:=eq_true p101;replace q101:=eq_true q101;go_wp2;go_ret;exact ⟨xq,xd⟩
     ·rw [if_neg c4] at H;exact absurd H (by simp)
    ·rw [if_neg c3] at H;exact absurd H (by simp)
   ·rw [if_neg c2] at H;have c2b0:decide (x8_1<(l0.length:Int))=false:=decide_eq_false c2;clear c2;obtain rfl:=Option.some.inj H;go_wp2;go_ret;exact ⟨xq,xd⟩
def cmp_isNaN_string.f (a0:ByteArray):Option (Bool):=some (a0.toList != a0.toList)
set_option maxHeartbeats 8000000 in
set_option maxRecDepth 100000 in
theorem cmp_isNaN_string.calls (a0:ByteArray) (r:Bool) (w:World) (h:cmp_isNaN_string.f a0=some r):
 Calls Tryz.prog 89 #[.string a0] w λe w'=>e= .returned (.bool r)/\BP w w':=by
 have H:(some (a0.toList != a0.toList))=some r:=h;clear h;obtain rfl:=Option.some.inj H;go_enter Tryz.func89,Tryz.ntmps89;go_wp2;go_ret;exact ⟨xq,xd⟩
def DR.f (a0:ByteArray) (a1:ByteArray):Option (Int):=(cmp_isNaN_string.f a0).bind λt102=>((cmp_isNaN_string.f a1).bind λt103=>(if t102=true then (if t103=true then (some 0) else (some (-1))) else (if t103=true then (some 1) else (if (Op.bytesLess a0.toList a1.toList)=true then (some (-1)) else (if (Op.bytesLess a1.toList a0.toList)=true then (some 1) else (some 0))))))
set_option maxHeartbeats 8000000 in
set_option maxRecDepth 100000 in
theorem DR.calls (a0:ByteArray) (a1:ByteArray) (r:Int) (w:World) (h:DR.f a0 a1=some r):
 Calls Tryz.prog 68 #[.string a0, .string a1] w λe w'=>e= .returned (.int .i64 r)/\BP w w':=by
 have hsgtr9:∀ (x y:ByteArray) (W:World),(binOp .gtr 9 (.string x) (.string y)).run Tryz.prog W= .ok (.bool (Op.bytesLess y.toList x.toList)) W:=λ_ _ _=>Uj _ _ _ _
 have H:((cmp_isNaN_string.f a0).bind λt102=>((cmp_isNaN_string.f a1).bind λt103=>(if t102=true then (if t103=true then (some 0) else (some (-1))) else (if t103=true then (some 1) else (if (Op.bytesLess a0.toList a1.toList)=true then (some (-1)) else (if (Op.bytesLess a1.toList a0.toList)=true then (some 1) else (some 0)))))))=some r:=h;clear h;replace H:=Option.bind_eq_some_iff.mp H;obtain ⟨t102,A30,H⟩:=H;try dsimp only at H
 have A3:=AA.mk A30;clear A30;replace H:=Option.bind_eq_some_iff.mp H;obtain ⟨t103,A40,H⟩:=H;try dsimp only at H
 have A4:=AA.mk A40;clear A40;by_cases c5:t102=true
 ·subst c5;rw [if_pos rfl] at H;by_cases c6:t103=true
  ·subst c6;rw [if_pos rfl] at H;obtain rfl:=Option.some.inj H;go_enter Tryz.func68,Tryz.ntmps68;go_wp2_with (first|((with_reducible refine AQ (f:=89) rfl ?_);refine Ag (some 8) rfl rfl Tryz.func89 (by kernel_rfl) rfl #[.string a0] rfl xg ?_;(with_reducible refine (cmp_isNaN_string.calls a0 true _ A3.out).mono ?_);rintro e w' ⟨rfl,⟨nd,rfl⟩⟩;refine ⟨_,rfl,?_⟩)|((with_reducible refine AQ (f:=89) rfl ?_);refine Ag (some 10) rfl rfl Tryz.func89 (by kernel_rfl) rfl #[.string a1] rfl xg ?_;(with_reducible refine (cmp_isNaN_string.calls a1 true _ A4.out).mono ?_);rintro e w' ⟨rfl,⟨nd,rfl⟩⟩;refine ⟨_,rfl,?_⟩));go_ret;exact ⟨xq,xd⟩
  ·replace c6:=Bool.eq_false_iff.mpr c6;subst c6;have H1:(some (-1))=some r:=by rw [if_neg (show ¬(false=true) by decide)] at H;exact H
   clear H;have H:=H1;clear H1;obtain rfl:=Option.some.inj H;go_enter Tryz.func68,Tryz.ntmps68;go_wp2_with (first|((with_reducible refine AQ (f:=89) rfl ?_);refine Ag (some 8) rfl rfl Tryz.func89 (by kernel_rfl) rfl #[.string a0] rfl xg ?_;(with_reducible refine (cmp_isNaN_string.calls a0 true _ A3.out).mono ?_);rintro e w' ⟨rfl,⟨nd,rfl⟩⟩;refine ⟨_,rfl,?_⟩)|((with_reducible refine AQ (f:=89) rfl ?_);refine Ag (some 10) rfl rfl Tryz.func89 (by kernel_rfl) rfl #[.string a1] rfl xg ?_;(with_reducible refine (cmp_isNaN_string.calls a1 false _ A4.out).mono ?_);rintro e w' ⟨rfl,⟨nd,rfl⟩⟩;refine ⟨_,rfl,?_⟩));go_ret;exact ⟨xq,xd⟩
 ·replace c5:=Bool.eq_false_iff.mpr c5;subst c5;have H1:(if t103=true then (some 1) else (if (Op.bytesLess a0.toList a1.toList)=true then (some (-1)) else (if (Op.bytesLess a1.toList a0.toList)=true then (some 1) else (some 0))))=some r:=by rw [if_neg (show ¬(false=true) by decide)] at H;exact H
  clear H;have H:=H1;clear H1;by_cases c7:t103=true
  ·subst c7;have H1:(some 1)=some r:=by rw [if_pos rfl] at H;exact H
   clear H;have H:=H1;clear H1;obtain rfl:=Option.some.inj H;go_enter Tryz.func68,Tryz.ntmps68;go_wp2_with (first|((with_reducible refine AQ (f:=89) rfl ?_);refine Ag (some 8) rfl rfl Tryz.func89 (by kernel_rfl) rfl #[.string a0] rfl xg ?_;(with_reducible refine (cmp_isNaN_string.calls a0 false _ A3.out).mono ?_);rintro e w' ⟨rfl,⟨nd,rfl⟩⟩;refine ⟨_,rfl,?_⟩)|((with_reducible refine AQ (f:=89) rfl ?_);refine Ag (some 10) rfl rfl Tryz.func89 (by kernel_rfl) rfl #[.string a1] rfl xg ?_;(with_reducible refine (cmp_isNaN_string.calls a1 true _ A4.out).mono ?_);rintro e w' ⟨rfl,⟨nd,rfl⟩⟩;refine ⟨_,rfl,?_⟩));go_ret;exact ⟨xq,xd⟩
  ·replace c7:=Bool.eq_false_iff.mpr c7;subst c7;have H1:(if (Op.bytesLess a0.toList a1.toList)=true then (some (-1)) else (if (Op.bytesLess a1.toList a0.toList)=true then (some 1) else (some 0)))=some r:=by rw [if_neg (show ¬(false=true) by decide)] at H;exact H
   clear H;have H:=H1;clear H1;by_cases c8:(Op.bytesLess a0.toList a1.toList)=true
   ·rw [if_pos c8] at H;have c8b0:(Op.bytesLess a0.toList a1.toList)=true:=c8;clear c8;obtain rfl:=Option.some.inj H;go_enter Tryz.func68,Tryz.ntmps68;go_wp2_with (first|((with_reducible refine AQ (f:=89) rfl ?_);refine Ag (some 8) rfl rfl Tryz.func89 (by kernel_rfl) rfl #[.string a0] rfl xg ?_;(with_reducible refine (cmp_isNaN_string.calls a0 false _ A3.out).mono ?_);rintro e w' ⟨rfl,⟨nd,rfl⟩⟩;refine ⟨_,rfl,?_⟩)|((with_reducible refine AQ (f:=89) rfl ?_);refine Ag (some 10) rfl rfl Tryz.func89 (by kernel_rfl) rfl #[.string a1] rfl xg ?_;(with_reducible refine (cmp_isNaN_string.calls a1 false _ A4.out).mono ?_);rintro e w' ⟨rfl,⟨nd,rfl⟩⟩;refine ⟨_,rfl,?_⟩));go_ret;exact ⟨xq,xd⟩
   ·rw [if_neg c8] at H;have c8b0:(Op.bytesLess a0.toList a1.toList)=false:=by simpa using c8
    clear c8;by_cases c9:(Op.bytesLess a1.toList a0.toList)=true
    ·rw [if_pos c9] at H;have c9b0:(Op.bytesLess a1.toList a0.toList)=true:=c9;clear c9;obtain rfl:=Option.some.inj H;go_enter Tryz.func68,Tryz.ntmps68;go_wp2_with (first|((with_reducible refine AQ (f:=89) rfl ?_);refine Ag (some 8) rfl rfl Tryz.func89 (by kernel_rfl) rfl #[.string a0] rfl xg ?_;(with_reducible refine (cmp_isNaN_string.calls a0 false _ A3.out).mono ?_);rintro e w' ⟨rfl,⟨nd,rfl⟩⟩;refine ⟨_,rfl,?_⟩)|((with_reducible refine AQ (f:=89) rfl ?_);refine Ag (some 10) rfl rfl Tryz.func89 (by kernel_rfl) rfl #[.string a1] rfl xg ?_;(with_reducible refine (cmp_isNaN_string.calls a1 false _ A4.out).mono ?_);rintro e w' ⟨rfl,⟨nd,rfl⟩⟩;refine ⟨_,rfl,?_⟩));go_ret;exact ⟨xq,xd⟩
    ·rw [if_neg c9] at H;have c9b0:(Op.bytesLess a1.toList a0.toList)=false:=by simpa using c9
     clear c9;obtain rfl:=Option.some.inj H;go_enter Tryz.func68,Tryz.ntmps68;go_wp2_with (first|((with_reducible refine AQ (f:=89) rfl ?_);refine Ag (some 8) rfl rfl Tryz.func89 (by kernel_rfl) rfl #[.string a0] rfl xg ?_;(with_reducible refine (cmp_isNaN_string.calls a0 false _ A3.out).mono ?_);rintro e w' ⟨rfl,⟨nd,rfl⟩⟩;refine ⟨_,rfl,?_⟩)|((with_reducible refine AQ (f:=89) rfl ?_);refine Ag (some 10) rfl rfl Tryz.func89 (by kernel_rfl) rfl #[.string a1] rfl xg ?_;(with_reducible refine (cmp_isNaN_string.calls a1 false _ A4.out).mono ?_);rintro e w' ⟨rfl,⟨nd,rfl⟩⟩;refine ⟨_,rfl,?_⟩));go_ret;exact ⟨xq,xd⟩
def Ct.j0:Nat->Int->Bool->Option (Bool)
 |0,_,_=>none
 |k+1,x0,x3=>if x3=true then (some true) else (if x0=33 then (some true) else ((Ba.f x0 35 39).bind λt107=>(if t107=true then (some true) else (if x0=42 then (some true) else (if x0=43 then (some true) else (if x0=45 then (some true) else (if x0=46 then (some true) else ((Ba.f x0 94 96).bind λt108=>(if t108=true then (some true) else (if x0=124 then (some true) else (some (x0==126))))))))))))
def Ct.f (k:Nat) (a0:Int):Option (Bool):=(Ba.f a0 97 122).bind λt104=>(if t104=true then (Ct.j0 k a0 t104) else ((Ba.f a0 65 90).bind λt105=>(if t105=true then (Ct.j0 k a0 t105) else ((Ba.f a0 48 57).bind λt106=>(Ct.j0 k a0 t106)))))
set_option maxHeartbeats 8000000 in
set_option maxRecDepth 100000 in
theorem Ct.calls (k:Nat) (a0:Int) (r:Bool) (w:World) (h:Ct.f k a0=some r):
 Calls Tryz.prog 105 #[.int .u8 a0] w λe w'=>e= .returned (.bool r)/\BP w w':=by
 have H:((Ba.f a0 97 122).bind λt104=>(if t104=true then (Ct.j0 k a0 t104) else ((Ba.f a0 65 90).bind λt105=>(if t105=true then (Ct.j0 k a0 t105) else ((Ba.f a0 48 57).bind λt106=>(Ct.j0 k a0 t106))))))=some r:=h;clear h;replace H:=Option.bind_eq_some_iff.mp H;obtain ⟨t104,A20,H⟩:=H;try dsimp only at H
 have A2:=AA.mk A20;clear A20;have HC3:=AA.mk H;clear H;go_enter Tryz.func105,Tryz.ntmps105;go_upto_if 3 with (first|((with_reducible refine AQ (f:=106) rfl ?_);refine Ag (some 5) rfl rfl Tryz.func106 (by kernel_rfl) rfl #[.int .u8 a0, .int .u8 97, .int .u8 122] rfl xg ?_;(with_reducible refine (Ba.calls a0 97 122 t104 _ A2.out).mono ?_);rintro e w' ⟨rfl,⟨nd,rfl⟩⟩;refine ⟨_,rfl,?_⟩))
 (try simp only [Act.put,List.setIfInBounds_toArray,List.set_cons_zero,List.set_cons_succ]);go_cut [3] (λv3 wc=>∃ (kq:Nat) (x3_2:Bool),v3= .bool x3_2/\AA (Ct.j0 kq a0 x3_2=some r)/\AA (kq<=k)/\BP w wc);case first=>
  have H:=HC3.out;clear HC3;by_cases c4:t104=true
  ·subst c4;have H1:(Ct.j0 k a0 true)=some r:=by rw [if_pos rfl] at H;exact H
   clear H;have H:=H1;clear H1;have H':=AA.mk H;clear H;go_wp2;go_meet;case rel=>exact ⟨_,(true),xq,H',⟨by first|omega|exact Nat.le_refl _⟩,xd⟩
  ·replace c4:=Bool.eq_false_iff.mpr c4;subst c4;have H1:((Ba.f a0 65 90).bind λt105=>(if t105=true then (Ct.j0 k a0 t105) else ((Ba.f a0 48 57).bind λt106=>(Ct.j0 k a0 t106))))=some r:=by rw [if_neg (show ¬(false=true) by decide)] at H;exact H
   clear H;have H:=H1;clear H1;replace H:=Option.bind_eq_some_iff.mp H;obtain ⟨t105,A50,H⟩:=H;replace H:(if t105=true then (Ct.j0 k a0 t105) else ((Ba.f a0 48 57).bind λt106=>(Ct.j0 k a0 t106)))=some r:=H;have A5:=AA.mk A50;clear A50;by_cases c6:t105=true
   ·subst c6;have H1:(Ct.j0 k a0 true)=some r:=by rw [if_pos rfl] at H;exact H
    clear H;have H:=H1;clear H1;have H':=AA.mk H;clear H;go_wp2_with (first|((with_reducible refine AQ (f:=106) rfl ?_);refine Ag (some 7) rfl rfl Tryz.func106 (by kernel_rfl) rfl #[.int .u8 a0, .int .u8 65, .int .u8 90] rfl xg ?_;(with_reducible refine (Ba.calls a0 65 90 true _ A5.out).mono ?_);rintro e w' ⟨rfl,⟨nd,rfl⟩⟩;refine ⟨_,rfl,?_⟩));go_meet;case rel=>exact ⟨_,(true),xq,H',⟨by first|omega|exact Nat.le_refl _⟩,xd⟩
   ·replace c6:=Bool.eq_false_iff.mpr c6;subst c6;have H1:((Ba.f a0 48 57).bind λt106=>(Ct.j0 k a0 t106))=some r:=by rw [if_neg (show ¬(false=true) by decide)] at H;exact H
    clear H;have H:=H1;clear H1;replace H:=Option.bind_eq_some_iff.mp H;obtain ⟨t106,A70,H⟩:=H;replace H:(Ct.j0 k a0 t106)=some r:=H;have A7:=AA.mk A70;clear A70;have H':=AA.mk H;clear H;go_wp2_with (first|((with_reducible refine AQ (f:=106) rfl ?_);refine Ag (some 7) rfl rfl Tryz.func106 (by kernel_rfl) rfl #[.int .u8 a0, .int .u8 65, .int .u8 90] rfl xg ?_;(with_reducible refine (Ba.calls a0 65 90 false _ A5.out).mono ?_);rintro e w' ⟨rfl,⟨nd,rfl⟩⟩;refine ⟨_,rfl,?_⟩)|((with_reducible refine AQ (f:=106) rfl ?_);refine Ag (some 9) rfl rfl Tryz.func106 (by kernel_rfl) rfl #[.int .u8 a0, .int .u8 48, .int .u8 57] rfl xg ?_;(with_reducible refine (Ba.calls a0 48 57 t106 _ A7.out).mono ?_);rintro e w' ⟨rfl,⟨nd,rfl⟩⟩;refine ⟨_,rfl,?_⟩));go_meet;case rel=>exact ⟨_,(t106),xq,H',⟨by first|omega|exact Nat.le_refl _⟩,xd⟩
 case rest=>
  clear HC3;try clear c1
  try clear p2
  try clear p3
  try clear c4
  try clear c6
  try clear p6
  obtain ⟨kq,x3_2,rfl,HA,HJ2,⟨mc2,rfl⟩⟩:=hcut;cases kq with
  |zero=>exact absurd HA.out (by simp [Ct.j0])
  |succ kj2=>
   have H:=HA.out;clear HA;simp only [Ct.j0] at H;by_cases c8:x3_2=true
   ·subst c8;have H1:(some true)=some r:=by rw [if_pos rfl] at H;exact H
    clear H;have H:=H1;clear H1;obtain rfl:=Option.some.inj H;go_wp2;go_ret;exact ⟨xq,xd⟩
   ·replace c8:=Bool.eq_false_iff.mpr c8;subst c8;have H1:(if a0=33 then (some true) else ((Ba.f a0 35 39).bind λt107=>(if t107=true then (some true) else (if a0=42 then (some true) else (if a0=43 then (some true) else (if a0=45 then (some true) else (if a0=46 then (some true) else ((Ba.f a0 94 96).bind λt108=>(if t108=true then (some true) else (if a0=124 then (some true) else (some (a0==126))))))))))))=some r:=by rw [if_neg (show ¬(false=true) by decide)] at H;exact H
    clear H;have H:=H1;clear H1;by_cases c9:a0=33
    ·rw [if_pos c9] at H;have c9b0:(a0==33)=true:=beq_iff_eq.mpr c9;have c9b1:(a0 != 33)=false:=bne_eq_false_iff_eq.mpr c9;clear c9;obtain rfl:=Option.some.inj H;go_wp2;go_ret;exact ⟨xq,xd⟩
    ·rw [if_neg c9] at H;have c9b0:(a0==33)=false:=beq_eq_false_iff_ne.mpr c9;have c9b1:(a0 != 33)=true:=bne_iff_ne.mpr c9;replace H:=Option.bind_eq_some_iff.mp H;obtain ⟨t107,A100,H⟩:=H;replace H:(if t107=true then (some true) else (if a0=42 then (some true) else (if a0=43 then (some true) else (if a0=45 then (some true) else (if a0=46 then (some true) else ((Ba.f a0 94 96).bind λt108=>(if t108=true then (some true) else (if a0=124 then (some true) else (some (a0==126))))))))))=some r:=H;have A10:=AA.mk A100;clear A100;by_cases c11:t107=true
     ·subst c11;rw [if_pos rfl] at H;obtain rfl:=Option.some.inj H;go_wp2_with (first|(go_at_call 106;(with_reducible refine (Ba.calls a0 35 39 true _ A10.out).mono ?_);rintro e w' ⟨rfl,⟨nd,rfl⟩⟩));go_ret;exact ⟨xq,xd⟩
     ·replace c11:=Bool.eq_false_iff.mpr c11;subst c11;have H1:(if a0=42 then (some true) else (if a0=43 then (some true) else (if a0=45 then (some true) else (if a0=46 then (some true) else ((Ba.f a0 94 96).bind λt108=>(if t108=true then (some true) else (if a0=124 then (some true) else (some (a0==126)))))))))=some r:=by rw [if_neg (show ¬(false=true) by decide)] at H;exact H
      clear H;have H:=H1;clear H1;by_cases c12:a0=42
      ·rw [if_pos c12] at H;have c12b0:(a0==42)=true:=beq_iff_eq.mpr c12;have c12b1:(a0 != 42)=false:=bne_eq_false_iff_eq.mpr c12;clear c12;obtain rfl:=Option.some.inj H;go_wp2_with (first|(go_at_call 106;(with_reducible refine (Ba.calls a0 35 39 false _ A10.out).mono ?_);rintro e w' ⟨rfl,⟨nd,rfl⟩⟩));go_ret;exact ⟨xq,xd⟩
      ·rw [if_neg c12] at H;have c12b0:(a0==42)=false:=beq_eq_false_iff_ne.mpr c12;have c12b1:(a0 != 42)=true:=bne_iff_ne.mpr c12;by_cases c13:a0=43
       ·rw [if_pos c13] at H;have c13b0:(a0==43)=true:=beq_iff_eq.mpr c13;have c13b1:(a0 != 43)=false:=bne_eq_false_iff_eq.mpr c13;clear c13;obtain rfl:=Option.some.inj H;go_wp2_with (first|(go_at_call 106;(with_reducible refine (Ba.calls a0 35 39 false _ A10.out).mono ?_);rintro e w' ⟨rfl,⟨nd,rfl⟩⟩));go_ret;exact ⟨xq,xd⟩
       ·rw [if_neg c13] at H;have c13b0:(a0==43)=false:=beq_eq_false_iff_ne.mpr c13;have c13b1:(a0 != 43)=true:=bne_iff_ne.mpr c13;by_cases c14:a0=45
        ·rw [if_pos c14] at H;have c14b0:(a0==45)=true:=beq_iff_eq.mpr c14;have c14b1:(a0 != 45)=false:=bne_eq_false_iff_eq.mpr c14;clear c14;obtain rfl:=Option.some.inj H;go_wp2_with (first|(go_at_call 106;(with_reducible refine (Ba.calls a0 35 39 false _ A10.out).mono ?_);rintro e w' ⟨rfl,⟨nd,rfl⟩⟩));go_ret;exact ⟨xq,xd⟩
        ·rw [if_neg c14] at H;have c14b0:(a0==45)=false:=beq_eq_false_iff_ne.mpr c14;have c14b1:(a0 != 45)=true:=bne_iff_ne.mpr c14;by_cases c15:a0=46
         ·rw [if_pos c15] at H;have c15b0:(a0==46)=true:=beq_iff_eq.mpr c15;have c15b1:(a0 != 46)=false:=bne_eq_false_iff_eq.mpr c15;clear c15;obtain rfl:=Option.some.inj H;go_wp2_with (first|(go_at_call 106;(with_reducible refine (Ba.calls a0 35 39 false _ A10.out).mono ?_);rintro e w' ⟨rfl,⟨nd,rfl⟩⟩));go_ret;exact ⟨xq,xd⟩
         ·rw [if_neg c15] at H;have c15b0:(a0==46)=false:=beq_eq_false_iff_ne.mpr c15;have c15b1:(a0 != 46)=true:=bne_iff_ne.mpr c15;replace H:=Option.bind_eq_some_iff.mp H;obtain ⟨t108,A160,H⟩:=H;replace H:(if t108=true then (some true) else (if a0=124 then (some true) else (some (a0==126))))=some r:=H;have A16:=AA.mk A160;clear A160;by_cases c17:t108=true
          ·subst c17;rw [if_pos rfl] at H;obtain rfl:=Option.some.inj H;go_wp2_with (first|(go_at_call 106;(with_reducible refine (Ba.calls a0 35 39 false _ A10.out).mono ?_);rintro e w' ⟨rfl,⟨nd,rfl⟩⟩)|(go_at_call 106;(with_reducible refine (Ba.calls a0 94 96 true _ A16.out).mono ?_);rintro e w' ⟨rfl,⟨nd,rfl⟩⟩));go_ret;exact ⟨xq,xd⟩
          ·replace c17:=Bool.eq_false_iff.mpr c17;subst c17;have H1:(if a0=124 then (some true) else (some (a0==126)))=some r:=by rw [if_neg (show ¬(false=true) by decide)] at H;exact H
           clear H;have H:=H1;clear H1;by_cases c18:a0=124
           ·rw [if_pos c18] at H;have c18b0:(a0==124)=true:=beq_iff_eq.mpr c18;have c18b1:(a0 != 124)=false:=bne_eq_false_iff_eq.mpr c18;clear c18;obtain rfl:=Option.some.inj H;go_wp2_with (first|(go_at_call 106;(with_reducible refine (Ba.calls a0 35 39 false _ A10.out).mono ?_);rintro e w' ⟨rfl,⟨nd,rfl⟩⟩)|(go_at_call 106;(with_reducible refine (Ba.calls a0 94 96 false _ A16.out).mono ?_);rintro e w' ⟨rfl,⟨nd,rfl⟩⟩));go_ret;exact ⟨xq,xd⟩
           ·rw [if_neg c18] at H;have c18b0:(a0==124)=false:=beq_eq_false_iff_ne.mpr c18;have c18b1:(a0 != 124)=true:=bne_iff_ne.mpr c18;obtain rfl:=Option.some.inj H;go_wp2_with (first|(go_at_call 106;(with_reducible refine (Ba.calls a0 35 39 false _ A10.out).mono ?_);rintro e w' ⟨rfl,⟨nd,rfl⟩⟩)|(go_at_call 106;(with_reducible refine (Ba.calls a0 94 96 false _ A16.out).mono ?_);rintro e w' ⟨rfl,⟨nd,rfl⟩⟩));go_ret;exact ⟨xq,xd⟩
def Fh.f (a0:Int):Option (Bool):=(Ba.f a0 33 126).bind λt109=>(if t109=true then (if a0=34 then (some false) else (if a0=44 then (some false) else (if a0=59 then (some false) else (some (a0 != 92))))) else (some false))
set_option maxHeartbeats 8000000 in
set_option maxRecDepth 100000 in
theorem Fh.calls (a0:Int) (r:Bool) (w:World) (h:Fh.f a0=some r):
 Calls Tryz.prog 107 #[.int .u8 a0] w λe w'=>e= .returned (.bool r)/\BP w w':=by
 have H:((Ba.f a0 33 126).bind λt109=>(if t109=true then (if a0=34 then (some false) else (if a0=44 then (some false) else (if a0=59 then (some false) else (some (a0 != 92))))) else (some false)))=some r:=h;clear h;replace H:=Option.bind_eq_some_iff.mp H;obtain ⟨t109,A20,H⟩:=H;try dsimp only at H
 have A2:=AA.mk A20;clear A20;by_cases c3:t109=true
 ·subst c3;rw [if_pos rfl] at H;by_cases c4:a0=34
  ·rw [if_pos c4] at H;have c4b0:(a0==34)=true:=beq_iff_eq.mpr c4;have c4b1:(a0 != 34)=false:=bne_eq_false_iff_eq.mpr c4;clear c4;obtain rfl:=Option.some.inj H;go_enter Tryz.func107,Tryz.ntmps107;go_wp2_with (first|((with_reducible refine AQ (f:=106) rfl ?_);refine Ag (some 4) rfl rfl Tryz.func106 (by kernel_rfl) rfl #[.int .u8 a0, .int .u8 33, .int .u8 126] rfl xg ?_;(with_reducible refine (Ba.calls a0 33 126 true _ A2.out).mono ?_);rintro e w' ⟨rfl,⟨nd,rfl⟩⟩;refine ⟨_,rfl,?_⟩));go_ret;exact ⟨xq,xd⟩
  ·rw [if_neg c4] at H;have c4b0:(a0==34)=false:=beq_eq_false_iff_ne.mpr c4;have c4b1:(a0 != 34)=true:=bne_iff_ne.mpr c4;by_cases c5:a0=44
   ·rw [if_pos c5] at H;have c5b0:(a0==44)=true:=beq_iff_eq.mpr c5;have c5b1:(a0 != 44)=false:=bne_eq_false_iff_eq.mpr c5;clear c5;obtain rfl:=Option.some.inj H;go_enter Tryz.func107,Tryz.ntmps107;go_wp2_with (first|((with_reducible refine AQ (f:=106) rfl ?_);refine Ag (some 4) rfl rfl Tryz.func106 (by kernel_rfl) rfl #[.int .u8 a0, .int .u8 33, .int .u8 126] rfl xg ?_;(with_reducible refine (Ba.calls a0 33 126 true _ A2.out).mono ?_);rintro e w' ⟨rfl,⟨nd,rfl⟩⟩;refine ⟨_,rfl,?_⟩));go_ret;exact ⟨xq,xd⟩
   ·rw [if_neg c5] at H;have c5b0:(a0==44)=false:=beq_eq_false_iff_ne.mpr c5;have c5b1:(a0 != 44)=true:=bne_iff_ne.mpr c5;by_cases c6:a0=59
    ·rw [if_pos c6] at H;have c6b0:(a0==59)=true:=beq_iff_eq.mpr c6;have c6b1:(a0 != 59)=false:=bne_eq_false_iff_eq.mpr c6;clear c6;obtain rfl:=Option.some.inj H;go_enter Tryz.func107,Tryz.ntmps107;go_wp2_with (first|((with_reducible refine AQ (f:=106) rfl ?_);refine Ag (some 4) rfl rfl Tryz.func106 (by kernel_rfl) rfl #[.int .u8 a0, .int .u8 33, .int .u8 126] rfl xg ?_;(with_reducible refine (Ba.calls a0 33 126 true _ A2.out).mono ?_);rintro e w' ⟨rfl,⟨nd,rfl⟩⟩;refine ⟨_,rfl,?_⟩));go_ret;exact ⟨xq,xd⟩
    ·rw [if_neg c6] at H;have c6b0:(a0==59)=false:=beq_eq_false_iff_ne.mpr c6;have c6b1:(a0 != 59)=true:=bne_iff_ne.mpr c6;obtain rfl:=Option.some.inj H;go_enter Tryz.func107,Tryz.ntmps107;go_wp2_with (first|((with_reducible refine AQ (f:=106) rfl ?_);refine Ag (some 4) rfl rfl Tryz.func106 (by kernel_rfl) rfl #[.int .u8 a0, .int .u8 33, .int .u8 126] rfl xg ?_;(with_reducible refine (Ba.calls a0 33 126 true _ A2.out).mono ?_);rintro e w' ⟨rfl,⟨nd,rfl⟩⟩;refine ⟨_,rfl,?_⟩));go_ret;exact ⟨xq,xd⟩
 ·replace c3:=Bool.eq_false_iff.mpr c3;subst c3;have H1:(some false)=some r:=by rw [if_neg (show ¬(false=true) by decide)] at H;exact H
  clear H;have H:=H1;clear H1;obtain rfl:=Option.some.inj H;go_enter Tryz.func107,Tryz.ntmps107;go_wp2_with (first|((with_reducible refine AQ (f:=106) rfl ?_);refine Ag (some 4) rfl rfl Tryz.func106 (by kernel_rfl) rfl #[.int .u8 a0, .int .u8 33, .int .u8 126] rfl xg ?_;(with_reducible refine (Ba.calls a0 33 126 false _ A2.out).mono ?_);rintro e w' ⟨rfl,⟨nd,rfl⟩⟩;refine ⟨_,rfl,?_⟩));go_ret;exact ⟨xq,xd⟩
def F7.f (a0:Int):Option (Bool):=(Ba.f a0 33 126).bind λt110=>(if t110=true then (some (a0 != 59)) else (some false))
set_option maxHeartbeats 8000000 in
set_option maxRecDepth 100000 in
theorem F7.calls (a0:Int) (r:Bool) (w:World) (h:F7.f a0=some r):
 Calls Tryz.prog 125 #[.int .u8 a0] w λe w'=>e= .returned (.bool r)/\BP w w':=by
 have H:((Ba.f a0 33 126).bind λt110=>(if t110=true then (some (a0 != 59)) else (some false)))=some r:=h;clear h;replace H:=Option.bind_eq_some_iff.mp H;obtain ⟨t110,A20,H⟩:=H;try dsimp only at H
 have A2:=AA.mk A20;clear A20;by_cases c3:t110=true
 ·subst c3;rw [if_pos rfl] at H;obtain rfl:=Option.some.inj H;go_enter Tryz.func125,Tryz.ntmps125;go_wp2_with (first|((with_reducible refine AQ (f:=106) rfl ?_);refine Ag (some 4) rfl rfl Tryz.func106 (by kernel_rfl) rfl #[.int .u8 a0, .int .u8 33, .int .u8 126] rfl xg ?_;(with_reducible refine (Ba.calls a0 33 126 true _ A2.out).mono ?_);rintro e w' ⟨rfl,⟨nd,rfl⟩⟩;refine ⟨_,rfl,?_⟩));go_ret;exact ⟨xq,xd⟩
 ·replace c3:=Bool.eq_false_iff.mpr c3;subst c3;have H1:(some false)=some r:=by rw [if_neg (show ¬(false=true) by decide)] at H;exact H
  clear H;have H:=H1;clear H1;obtain rfl:=Option.some.inj H;go_enter Tryz.func125,Tryz.ntmps125;go_wp2_with (first|((with_reducible refine AQ (f:=106) rfl ?_);refine Ag (some 4) rfl rfl Tryz.func106 (by kernel_rfl) rfl #[.int .u8 a0, .int .u8 33, .int .u8 126] rfl xg ?_;(with_reducible refine (Ba.calls a0 33 126 false _ A2.out).mono ?_);rintro e w' ⟨rfl,⟨nd,rfl⟩⟩;refine ⟨_,rfl,?_⟩));go_ret;exact ⟨xq,xd⟩
def HZ.f (a0_0:ByteArray) (a0_1:ByteArray) (a0_2:ByteArray) (a0_3:ByteArray) (a0_4:Int) (a0_5:Int) (a0_6:Int) (a0_7:Bool) (a0_8:Bool) (a0_9:Bool) (a0_10:Int):Option (ByteArray×ByteArray×ByteArray):=some (a0_0,a0_1,a0_2)
set_option maxHeartbeats 8000000 in
set_option maxRecDepth 100000 in
theorem HZ.calls (a0_0:ByteArray) (a0_1:ByteArray) (a0_2:ByteArray) (a0_3:ByteArray) (a0_4:Int) (a0_5:Int) (a0_6:Int) (a0_7:Bool) (a0_8:Bool) (a0_9:Bool) (a0_10:Int) (r1:ByteArray) (r2:ByteArray) (r3:ByteArray) (w:World) (h:HZ.f a0_0 a0_1 a0_2 a0_3 a0_4 a0_5 a0_6 a0_7 a0_8 a0_9 a0_10=some (r1,r2,r3)):
 Calls Tryz.prog 40 #[.agg #[.string a0_0, .string a0_1, .string a0_2, .string a0_3, .int .i64 a0_4, .int .i64 a0_5, .int .i64 a0_6, .bool a0_7, .bool a0_8, .bool a0_9, .int .i64 a0_10]] w λe w'=>e= .returned (.agg #[.string r1, .string r2, .string r3])/\Below w.heap.size w w':=by
 have hu25:=Tryz.underlying25;have hu84:=Tryz.underlying84;have HB:=AA.mk (Below.refl w.heap.size w);have H:(some (a0_0,a0_1,a0_2))=some (r1,r2,r3):=h;clear h;simp only [Option.some.injEq,Prod.mk.injEq] at H;obtain ⟨rfl,rfl,rfl⟩:=H;go_enter Tryz.func40,Tryz.ntmps40;go_wp2_with (first|(refine Dp (N:=1) (cs:=#[.string a0_0, .string a0_1, .string a0_2, .string a0_3, .int .i64 a0_4, .int .i64 a0_5, .int .i64 a0_6, .bool a0_7, .bool a0_8, .bool a0_9, .int .i64 a0_10]) (t:=25) (λgb111 hg w2 hbox hb=>?_);have BK111:=AA.mk (hbox);have GW111:AA (w.heap.size<=gb111):=Dq hg xb;have GE111:AA (w.heap.size<=gb111):=Dq hg xb;replace HB:=AA.mk (AO xb hb);clear hb hbox hg)|(refine Dp (N:=2) (cs:=#[.string (⟨#[]⟩:ByteArray), .string (⟨#[]⟩:ByteArray), .string (⟨#[]⟩:ByteArray)]) (t:=84) (λgb112 hg w3 hbox hb=>?_);have BK112:=AA.mk (hbox);have GW112:AA (w.heap.size<=gb112):=Dq hg xb;have GE112:AA (w.heap.size<=gb112):=Dq hg xb;replace HB:=AA.mk (AO xb hb);have NB111_112:=GM hg (Cs BK111);have NB112_111:=GN hg (Cs BK111);replace BK111:=bL BK111 hb;clear hb hbox hg;have hnb4:=NB111_112.out;have hnc4:=NB112_111.out;obtain ⟨hcz5_0,hcz5_1,hcz5_2,hcz5_3,hcz5_4,hcz5_5,hcz5_6,hcz5_7,hcz5_8,hcz5_9,hcz5_10⟩:=BK BK111.out;have hfz5_0:=AP BK111.out;obtain ⟨hcz6_0,hcz6_1,hcz6_2⟩:=cells3 BK112.out;have hfz6_0:=AP BK112.out));refine bodyPost_ret (results_cell_row rfl _ _ gb112 84 #[.string a0_0, .string a0_1, .string a0_2] (0,0) _ rfl xk Tryz.underlying84 rfl (by kernel_rfl)) rfl ?_;exact ⟨xe,xb⟩
def Dk.f (k:Nat) (a0_0:ByteArray) (a0_1:ByteArray) (a0_2:ByteArray) (a1_0:ByteArray) (a1_1:ByteArray) (a1_2:ByteArray):Option (Int):=(DR.f a0_0 a1_0).bind λt115=>((DR.f a0_1 a1_1).bind λt116=>((DR.f a0_2 a1_2).bind λt117=>((ED.f k (([t115,t116,t117]:List Int))).bind λt121=>(some t121))))
def Dk.T1:Bool×List (List Nat×List Nat):=(true,[([],[]),([0],[0]),([],[]),([2],[2]),([1,3],[1,3]),([],[]),([5],[5]),([],[]),([7],[7]),([6,8,4],[6,8]),([],[]),([10],[10]),([],[]),([12],[12]),([11,13,9],[11,13]),([4,9,14],[4,9,14]),([15,14],[15]),([16,16,0,1,2,3,4,5,6,7,8,9,10,11,12,13,14,15,16],[16])])
def Dk.B1:List Nat:=[0,1,0,4,15,0,32,0,128,511,0,1024,0,4096,16383,32767,65535,131071]
theorem Dk.Ov:GI .any (opsOf Tryz.f41 1)=Dk.T1:=by kernel_rfl
theorem Dk.Ki:FO Dk.T1.2 Dk.B1=true:=by kernel_rfl
set_option maxHeartbeats 8000000 in
set_option maxRecDepth 100000 in
theorem Dk.calls (k:Nat) (a0_0:ByteArray) (a0_1:ByteArray) (a0_2:ByteArray) (a1_0:ByteArray) (a1_1:ByteArray) (a1_2:ByteArray) (r:Int) (w:World) (h:Dk.f k a0_0 a0_1 a0_2 a1_0 a1_1 a1_2=some r):
 Calls Tryz.prog 41 #[.agg #[.string a0_0, .string a0_1, .string a0_2], .agg #[.string a1_0, .string a1_1, .string a1_2]] w λe w'=>e= .returned (.int .i64 r)/\Below w.heap.size w w':=by
 have hu84:=Tryz.underlying84;have HB:=AA.mk (Below.refl w.heap.size w);have H:((DR.f a0_0 a1_0).bind λt115=>((DR.f a0_1 a1_1).bind λt116=>((DR.f a0_2 a1_2).bind λt117=>((ED.f k (([t115,t116,t117]:List Int))).bind λt121=>(some t121)))))=some r:=h;clear h;replace H:=Option.bind_eq_some_iff.mp H;obtain ⟨t115,A30,H⟩:=H;try dsimp only at H
 have A3:=AA.mk A30;clear A30;replace H:=Option.bind_eq_some_iff.mp H;obtain ⟨t116,A40,H⟩:=H;try dsimp only at H
 have A4:=AA.mk A40;clear A40;replace H:=Option.bind_eq_some_iff.mp H;obtain ⟨t117,A50,H⟩:=H;try dsimp only at H
 have A5:=AA.mk A50;clear A50;obtain ⟨y118,hy118⟩:∃ y_:List Int,y_=(([t115,t116,t117]:List Int)):=⟨_,rfl⟩;replace H:((ED.f k y118).bind λt121=>(some t121))=some r:=by first|(rw [hy118];with_reducible exact H)|(have H2_:=(Option.bind_some _ _).symm.trans H;rw [hy118];with_reducible exact H2_)|(have H2_:=(Option.bind_some _ _).symm.trans H;with_reducible exact H2_)|with_reducible exact H|(rw [hy118];exact H)|exact H
 have Ny118:=AA.mk hy118;clear hy118;replace H:=Option.bind_eq_some_iff.mp H;obtain ⟨t121,A60,H⟩:=H;try dsimp only at H
 have A6:=AA.mk A60;clear A60;obtain rfl:=Option.some.inj H;go_enter Tryz.func41,Tryz.ntmps41;try go_wp2_with (first|(refine Dp (N:=2) (cs:=#[.string a0_0, .string a0_1, .string a0_2]) (t:=84) (λgb113 hg w7 hbox hb=>?_);have BK113:=AA.mk (hbox);have GW113:AA (w.heap.size<=gb113):=Dq hg xb;have GE113:AA (w.heap.size<=gb113):=Dq hg xb;replace HB:=AA.mk (AO xb hb);clear hb hbox hg)|(refine Dp (N:=3) (cs:=#[.string a1_0, .string a1_1, .string a1_2]) (t:=84) (λgb114 hg w8 hbox hb=>?_);have BK114:=AA.mk (hbox);have GW114:AA (w.heap.size<=gb114):=Dq hg xb;have GE114:AA (w.heap.size<=gb114):=Dq hg xb;replace HB:=AA.mk (AO xb hb);have NB113_114:=GM hg (Cs BK113);have NB114_113:=GN hg (Cs BK113);replace BK113:=bL BK113 hb;clear hb hbox hg))
 replace BK113:=AA.mk (Bd BK113.out);replace BK114:=AA.mk (Bd BK114.out);replace HB:=AA.mk (Bb HB.out);refine EG (n:=18) (S:=λw'=>w'.cell? ⟨gb113,0,none⟩=some (.string a0_0)/\w'.cell? ⟨gb113,1,none⟩=some (.string a0_1)/\w'.cell? ⟨gb113,2,none⟩=some (.string a0_2)/\w'.cell? ⟨gb114,0,none⟩=some (.string a1_0)/\w'.cell? ⟨gb114,1,none⟩=some (.string a1_1)/\w'.cell? ⟨gb114,2,none⟩=some (.string a1_2)) (ds:=[]) (bm 18 0) (by kernel_rfl) rfl rfl ⟨(AJ BK113.out 0).trans rfl,(AJ BK113.out 1).trans rfl,(AJ BK113.out 2).trans rfl,(AJ BK114.out 0).trans rfl,(AJ BK114.out 1).trans rfl,(AJ BK114.out 2).trans rfl⟩ (λhHeld=>?_);refine Dc Dk.Ov Dk.Ki (λHT_ HW_=>?_);generalize w8.drew=w9 at BK113 BK114 HB hHeld⊢
 refine AZ (i:=0) (N:=some 5) (bm 18 1) rfl rfl (AV HT_.out (by kernel_rfl)) (Or.inl ⟨by rfl,by intro w';go_simp;with_reducible rfl⟩) ?_;refine AZ (i:=2) (N:=some 7) (bm 18 5) rfl rfl (AV HT_.out (by kernel_rfl)) (Or.inl ⟨by rfl,by intro w';go_simp;with_reducible rfl⟩) ?_;refine AZ (i:=5) (N:=some 10) (bm 18 37) rfl rfl (AV HT_.out (by kernel_rfl)) (Or.inl ⟨by rfl,by intro w';go_simp;with_reducible rfl⟩) ?_;refine AZ (i:=7) (N:=some 12) (bm 18 165) rfl rfl (AV HT_.out (by kernel_rfl)) (Or.inl ⟨by rfl,by intro w';go_simp;with_reducible rfl⟩) ?_;refine AZ (i:=10) (N:=some 15) (bm 18 1189) rfl rfl (AV HT_.out (by kernel_rfl)) (Or.inl ⟨by rfl,by intro w';go_simp;with_reducible rfl⟩) ?_;refine AZ (i:=12) (N:=some 17) (bm 18 5285) rfl rfl (AV HT_.out (by kernel_rfl)) (Or.inl ⟨by rfl,by intro w';go_simp;with_reducible rfl⟩) ?_;refine Cu (i:=1) (N:=some 6) (bm 18 5287) rfl rfl (BV HT_.out HW_.out (by kernel_rfl)) (Or.inl ⟨by rfl,by rintro w' ⟨s0,s1,s2,s3,s4,s5⟩;go_simp;with_reducible rfl⟩) hHeld ?_;refine Cu (i:=3) (N:=some 8) (bm 18 5295) rfl rfl (BV HT_.out HW_.out (by kernel_rfl)) (Or.inl ⟨by rfl,by rintro w' ⟨s0,s1,s2,s3,s4,s5⟩;go_simp;with_reducible rfl⟩) hHeld ?_;refine Cu (i:=6) (N:=some 11) (bm 18 5359) rfl rfl (BV HT_.out HW_.out (by kernel_rfl)) (Or.inl ⟨by rfl,by rintro w' ⟨s0,s1,s2,s3,s4,s5⟩;go_simp;with_reducible rfl⟩) hHeld ?_;refine Cu (i:=8) (N:=some 13) (bm 18 5615) rfl rfl (BV HT_.out HW_.out (by kernel_rfl)) (Or.inl ⟨by rfl,by rintro w' ⟨s0,s1,s2,s3,s4,s5⟩;go_simp;with_reducible rfl⟩) hHeld ?_;refine Cu (i:=11) (N:=some 16) (bm 18 7663) rfl rfl (BV HT_.out HW_.out (by kernel_rfl)) (Or.inl ⟨by rfl,by rintro w' ⟨s0,s1,s2,s3,s4,s5⟩;go_simp;with_reducible rfl⟩) hHeld ?_;refine Cu (i:=13) (N:=some 18) (bm 18 15855) rfl rfl (BV HT_.out HW_.out (by kernel_rfl)) (Or.inl ⟨by rfl,by rintro w' ⟨s0,s1,s2,s3,s4,s5⟩;go_simp;with_reducible rfl⟩) hHeld ?_;refine Df (i:=4) (N:=some 9) (bm 18 15871) rfl rfl (Bw HT_.out (by kernel_rfl)) (by decide) (λK hK=>?_);refine Cr Tryz.func68 (by kernel_rfl) rfl #[.string a0_0, .string a1_0] (by rfl) rfl rfl xg ?_;with_reducible refine (DR.calls a0_0 a1_0 t115 _ A3.out).mono ?_
 rintro e w' ⟨rfl,⟨nd,rfl⟩⟩;refine ⟨_,rfl,?_⟩;refine hK.out _ _ xc (λhHeld=>?_);clear hK K;refine Be (some 9) rfl ?_;refine Df (i:=9) (N:=some 14) (bm 18 16383) rfl rfl (Bw HT_.out (by kernel_rfl)) (by decide) (λK hK=>?_);refine Cr Tryz.func68 (by kernel_rfl) rfl #[.string a0_1, .string a1_1] (by rfl) rfl rfl xg ?_;with_reducible refine (DR.calls a0_1 a1_1 t116 _ A4.out).mono ?_
 rintro e w' ⟨rfl,⟨nd,rfl⟩⟩;refine ⟨_,rfl,?_⟩;refine hK.out _ _ xc (λhHeld=>?_);clear hK K;refine Be (some 14) rfl ?_;refine Df (i:=14) (N:=some 19) (bm 18 32767) rfl rfl (Bw HT_.out (by kernel_rfl)) (by decide) (λK hK=>?_);refine Cr Tryz.func68 (by kernel_rfl) rfl #[.string a0_2, .string a1_2] (by rfl) rfl rfl xg ?_;with_reducible refine (DR.calls a0_2 a1_2 t117 _ A5.out).mono ?_
 rintro e w' ⟨rfl,⟨nd,rfl⟩⟩;refine ⟨_,rfl,?_⟩;refine hK.out _ _ xc (λhHeld=>?_);clear hK K;refine Be (some 19) rfl ?_;refine Df (i:=15) (N:=some 20) (bm 18 65535) rfl rfl (Bw HT_.out (by kernel_rfl)) (by decide) (λK hK=>?_);refine Kd.DW (Kd.int .i64) _ 3 ?hg (N:=20) ?hd (xs:=([t115,t116,t117]:List Int)) (inner:=[.int .i64 t115, .int .i64 t116, .int .i64 t117]) (ok:=λ_=>True) (okp:=λ_=>True) ?hr ?hp (λ_ hk=>hk) trivial (Below.refl _ _) (Nat.le_refl _) (by simp) ?_;(case hd=>rfl);(case hg=>rfl);(case hr=>first|(go_simp;done)|(go_simp;rfl));(case hp=>exact (CY.one (show Kd.M (Kd.int .i64) _ _ _ t115 [.int .i64 t115] from rfl) (CY.one (show Kd.M (Kd.int .i64) _ _ _ t116 [.int .i64 t116] from rfl) (CY.one (show Kd.M (Kd.int .i64) _ _ _ t117 [.int .i64 t117] from rfl) (CY.none _ _)))));intro v119 w10 ho11 hb hg_ hnew_;clear hg_ hnew_;(first|rw [<-Ny118.out] at ho11|(simp only [Int.reduceToNat] at ho11;rw [<-Ny118.out] at ho11));have HO120:=AA.mk (Kd.CJ ho11 (Ai xb));replace BK113:=bL BK113 hb;replace BK114:=bL BK114 hb;replace HB:=AA.mk (AO xb hb);clear hb ho11;obtain ⟨Ao12,co12,eo12⟩:=Kd.Cg HO120.out;(first|subst eo12|(injection eo12 with f1_ f2_ f3_;have f4_:=f1_.symm;have f5_:=f3_.symm;clear f1_ f2_ f3_;subst f4_;subst f5_));refine hK.out _ _ xc (λhHeld=>?_);clear hK K;refine Be (some 20) rfl ?_;refine Df (i:=16) (N:=some 21) (bm 18 131071) rfl rfl (Bw HT_.out (by kernel_rfl)) (by decide) (λK hK=>?_);refine Cr Tryz.func67 (by kernel_rfl) rfl #[.slice Ao12 y118.length co12] (by rfl) rfl rfl xg ?_;with_reducible refine (ED.calls k _ _ y118 t121 _ ?side1 ?side2 A6.out).mono ?_
 (case side1=>repeat (first|exact (Kd.BN HO120.out).2.2|(with_reducible refine Kd.Cy ?_ _)|(with_reducible refine Kd.C8 ?_ _)|(with_reducible refine Kd.Da ?_)))
 (case side2=>exact (Kd.BN HO120.out).2.1)
 rintro e w' ⟨rfl,⟨nd,rfl⟩⟩;refine ⟨_,rfl,?_⟩;refine hK.out _ _ xc (λhHeld=>?_);clear hK K;refine Be (some 21) rfl ?_;refine AZ (i:=17) (N:=some 4) (bm 18 262143) rfl rfl (AV HT_.out (by kernel_rfl)) (Or.inl ⟨by rfl,by intro w';go_simp;with_reducible rfl⟩) ?_;refine Ep (EM HT_.out (by kernel_rfl)) ?_;try go_wp2
 go_ret;exact ⟨xe,xb⟩
def FJ.l0:Nat->Int->Int->Option (Int)
 |0,_,_=>none
 |k+1,x3,x6=>if x6<8 then (if (Go.bits .and .u32 x3 1)=1 then (FJ.l0 k (Go.bits .xor .u32 (x3/2) 3988292384) (wrap64 (x6+1))) else (FJ.l0 k (x3/2) (wrap64 (x6+1)))) else (some x3)
def FJ.f (k:Nat) (a0:Int):Option (Int):=FJ.l0 k ((a0)%4294967296) 0
set_option maxHeartbeats 8000000 in
set_option maxRecDepth 100000 in
theorem FJ.calls (k:Nat) (a0:Int) (r:Int) (w:World) (h:FJ.f k a0=some r):
 Calls Tryz.prog 112 #[.int .u8 a0] w λe w'=>e= .returned (.int .u32 r)/\BP w w':=by
 have H:(FJ.l0 k ((a0)%4294967296) 0)=some r:=h;clear h;have H':=AA.mk H;clear H;go_enter Tryz.func112,Tryz.ntmps112;go_wp2;go_loopg [3,6] k (λkq v3 v6 w'=>∃ (x3_1:Int) (x6_1:Int),v3= .int .u32 x3_1/\v6= .int .i64 x6_1/\AA (FJ.l0 kq x3_1 x6_1=some r)/\AA (kq<=k)/\BP w w');case atStart=>exact ⟨((a0)%4294967296),(0),xq,xq,H',⟨Nat.le_refl _⟩,xd⟩
 case round=>
  clear H';try clear c1
  obtain ⟨x3_1,x6_1,rfl,rfl,HA,HK1,⟨m1,rfl⟩⟩:=hrel;cases gk with
  |zero=>exact absurd HA.out (by simp [FJ.l0])
  |succ k1=>
   have H:=HA.out;clear HA;simp only [FJ.l0] at H;by_cases c2:x6_1<8
   ·rw [if_pos c2] at H;have c2b0:decide (x6_1<8)=true:=decide_eq_true c2;clear c2;by_cases c3:(Go.bits .and .u32 x3_1 1)=1
    ·rw [if_pos c3] at H;have c3b0:((Go.bits .and .u32 x3_1 1)==1)=true:=beq_iff_eq.mpr c3;have c3b1:((Go.bits .and .u32 x3_1 1) != 1)=false:=bne_eq_false_iff_eq.mpr c3;clear c3;have H':=AA.mk H;clear H;go_wp2;go_roundg k1;case measure=>have:=HK1.out;omega
     case rel=>exact ⟨(Go.bits .xor .u32 (x3_1/2) 3988292384),(wrap64 (x6_1+1)),xq,xq,H',⟨by have:=HK1.out;omega⟩,xd⟩
    ·rw [if_neg c3] at H;have c3b0:((Go.bits .and .u32 x3_1 1)==1)=false:=beq_eq_false_iff_ne.mpr c3;have c3b1:((Go.bits .and .u32 x3_1 1) != 1)=true:=bne_iff_ne.mpr c3;have H':=AA.mk H;clear H;go_wp2;go_roundg k1;case measure=>have:=HK1.out;omega
     case rel=>exact ⟨(x3_1/2),(wrap64 (x6_1+1)),xq,xq,H',⟨by have:=HK1.out;omega⟩,xd⟩
   ·rw [if_neg c2] at H;have c2b0:decide (x6_1<8)=false:=decide_eq_false c2;clear c2;obtain rfl:=Option.some.inj H;go_wp2;go_ret;exact ⟨xq,xd⟩
end Go.Proofs.YtfggjdkccdkogaaGreatDoor.EE
end
section
namespace Go.Proofs.YtfggjdkccdkogaaGreatDoor.EE
open RowKit Ac Aq Aw
attribute [local go_sem] DC DD DX DY Co Cq DI DJ
set_option linter.unusedVariables false
set_option linter.unusedSimpArgs false
end Go.Proofs.YtfggjdkccdkogaaGreatDoor.EE
end
