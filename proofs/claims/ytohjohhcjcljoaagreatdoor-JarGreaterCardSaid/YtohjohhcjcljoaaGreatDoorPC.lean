/- Several parts of the claim's proof in one text, said short by a program of this session. No condition. -/
import Derived.Test.YtohjohhcjcljoaaGreatDoorProg
import Derived.Test.YtohjohhcjcljoaaGreatDoorWMore
import Derived.WalkMore
import Derived.Scope
section
namespace Go.Proofs.YtohjohhcjcljoaaGreatDoor.CQ
open RowKit Ak BR BS
attribute [local go_sem] DT DU Df Dh Cy Cz DV DW
set_option linter.unusedVariables false
set_option linter.unusedSimpArgs false
def Qx:Option Int->Value
 |none=> .nilIface
 |some c=> .iface 0 (.int .i64 c)
theorem MQ (x:List UInt8):∀ y:List UInt8,(!(Op.bytesLess x y||x==y))=Op.bytesLess y x:=by
 induction x with
 |nil=>intro y;cases y<;>simp [Op.bytesLess]
 |cons a x ih=>
  intro y;cases y with
  |nil=>simp [Op.bytesLess]
  |cons b y=>
   have h:=ih y;have e1:(a==b)=decide (a.toNat=b.toNat):=by rw [Bool.eq_iff_iff,beq_iff_eq,decide_eq_true_iff,UInt8.toNat_inj]
   have e2:(b==a)=decide (b.toNat=a.toNat):=by rw [Bool.eq_iff_iff,beq_iff_eq,decide_eq_true_iff,UInt8.toNat_inj]
   have l1:decide (a<b)=decide (a.toNat<b.toNat):=by rw [Bool.eq_iff_iff,decide_eq_true_iff,decide_eq_true_iff,UInt8.lt_iff_toNat_lt]
   have l2:decide (b<a)=decide (b.toNat<a.toNat):=by rw [Bool.eq_iff_iff,decide_eq_true_iff,decide_eq_true_iff,UInt8.lt_iff_toNat_lt]
   simp only [Op.bytesLess,List.cons_beq_cons,e1,e2,l1,l2];rw [<-h];generalize Op.bytesLess x y=p;generalize (x==y)=q;rcases Nat.lt_trichotomy a.toNat b.toNat with t|t|t
   ·rw [decide_eq_true t,decide_eq_false (show ¬b.toNat<a.toNat by omega),decide_eq_false (show ¬b.toNat=a.toNat by omega)];simp
   ·rw [decide_eq_false (show ¬a.toNat<b.toNat by omega),decide_eq_false (show ¬b.toNat<a.toNat by omega),decide_eq_true t,decide_eq_true t.symm];cases p<;>cases q<;>rfl
   ·rw [decide_eq_true t,decide_eq_false (show ¬a.toNat<b.toNat by omega),decide_eq_false (show ¬a.toNat=b.toNat by omega)];simp
theorem Qy {P:Program} (t:TypeId) (x y:ByteArray) (W:World):(binOp .gtr t (.string x) (.string y)).run P W= .ok (.bool (Op.bytesLess y.toList x.toList)) W:=by
 rw [show binOp .gtr t (.string x) (.string y)=pure (.bool !(Op.bytesLess x.toList y.toList||x.toList==y.toList)) by simp [binOp,Op.stringOp],MQ];rfl
theorem MR (n:Int):IntKind.u64.wrap n=n%18446744073709551616:=by simp [IntKind.wrap,IntKind.bits,IntKind.signed]
theorem Og (n:Int):IntKind.u32.wrap n=n%4294967296:=by simp [IntKind.wrap,IntKind.bits,IntKind.signed]
theorem Qz (n:Int):IntKind.u8.wrap n=n%256:=by simp [IntKind.wrap,IntKind.bits,IntKind.signed]
theorem Oh {w:World} {g b i:Nat} {o:Obj} (h:w.heap[g]? =some o) (hp:AA (g≠b)) (u:Value):(w.setCell ⟨b,i,none⟩ u).heap[g]? =some o:=(Below.heap_setCell w ⟨b,i,none⟩ u g hp.out).trans h
theorem xk {P:Prop} (h:P:=by (repeat (first|(with_reducible first|refine EX ?_ _|refine BC ?_|refine DC ?_ _|refine Oh ?_ (by with_reducible assumption) _|apply Dm)));(exact AA.out (by with_reducible assumption));all_goals (first|(simp only [List.setIfInBounds_toArray,List.set_cons_zero,List.set_cons_succ];done)|(simp only [List.setIfInBounds_toArray,List.set_cons_zero,List.set_cons_succ];rfl)|rfl)):P:=h
theorem xb {P:Prop} (h:P:=by repeat (first|(with_reducible first|exact HB.out|apply BX|apply DD|apply Bi|refine EH ?_ (AA.out (by with_reducible assumption)))|exact HB.out)):P:=h
theorem xg {P:Prop} (h:P:=by (try simp only [List.map_toArray,List.map_cons,List.map_nil]);first|done|rfl|(simp only [List.length_drop,List.length_take];rfl)|((try simp [Act.eval])<;>(try simp only [MR,Og,Qz,wrap64,wrap32])<;>omega)):P:=h
theorem EM {w:World} {g i:Nat} {t:TypeId} {cs:Array Value} {v:Value} (h:w.heap[g]? =some (.cells cs t (0,0))) (e:cs[i]? =some v):w.cell? ⟨g,i,none⟩=some v:=(AP h i).trans e
theorem xc {P:Prop} (h:P:=by (repeat' apply And.intro)<;>(apply EM;(repeat (with_reducible first|refine EX ?_ _|refine BC ?_|refine DC ?_ _));(exact AA.out (by with_reducible assumption));rfl)):P:=h
theorem Ac {w0 w w1:World} {g:Nat} {o:Obj} (_:AA (w0.heap[g]? =some o)) (hb:Below w.heap.size w w1) (h:w.heap[g]? =some o:=by (repeat (first|(with_reducible first|refine EX ?_ _|refine BC ?_|refine DC ?_ _|refine Oh ?_ (by with_reducible assumption) _)));exact AA.out (by with_reducible assumption)):AA (w1.heap[g]? =some o):=⟨CO h hb⟩
theorem BF {w0 w:World} {g:Nat} {o:Obj} (_:AA (w0.heap[g]? =some o)) (h:w.heap[g]? =some o:=by (repeat (first|(with_reducible first|refine EX ?_ _|refine BC ?_|refine DC ?_ _|refine Oh ?_ (by with_reducible assumption) _)));exact AA.out (by with_reducible assumption)):g<w.heap.size:=WK h
theorem cells3 {w:World} {g:Nat} {t:TypeId} {v0 v1 v2:Value} (h:w.heap[g]? =some (.cells #[v0,v1,v2] t (0,0))):w.cell? ⟨g,0,none⟩=some v0/\w.cell? ⟨g,1,none⟩=some v1/\w.cell? ⟨g,2,none⟩=some v2:=⟨(AP h 0).trans rfl,(AP h 1).trans rfl,(AP h 2).trans rfl⟩
theorem Bg {w:World} {g:Nat} {t:TypeId} {v0 v1 v2 v3 v4 v5 v6 v7 v8 v9 v10:Value} (h:w.heap[g]? =some (.cells #[v0,v1,v2,v3,v4,v5,v6,v7,v8,v9,v10] t (0,0))):w.cell? ⟨g,0,none⟩=some v0/\w.cell? ⟨g,1,none⟩=some v1/\w.cell? ⟨g,2,none⟩=some v2/\w.cell? ⟨g,3,none⟩=some v3/\w.cell? ⟨g,4,none⟩=some v4/\w.cell? ⟨g,5,none⟩=some v5/\w.cell? ⟨g,6,none⟩=some v6/\w.cell? ⟨g,7,none⟩=some v7/\w.cell? ⟨g,8,none⟩=some v8/\w.cell? ⟨g,9,none⟩=some v9/\w.cell? ⟨g,10,none⟩=some v10:=⟨(AP h 0).trans rfl,(AP h 1).trans rfl,(AP h 2).trans rfl,(AP h 3).trans rfl,(AP h 4).trans rfl,(AP h 5).trans rfl,(AP h 6).trans rfl,(AP h 7).trans rfl,(AP h 8).trans rfl,(AP h 9).trans rfl,(AP h 10).trans rfl⟩
def bl:Nat->Nat->List Bool
 |0,_=>[]
 |n+1,k=>(k%2==1)::bl n (k/2)
def bm (n k:Nat):Array Bool:=⟨bl n k⟩
theorem xl {P:Prop} (h:P:=by exact AA.mk (by first|exact hG.out|((with_reducible repeat (first|apply C9.drewN|apply C9.drew|apply C9.alloc));exact hG.out)|exact C9.below hG.out xb)):P:=h
theorem Dn {g g' n:Nat} (hg:g'=n) (h:g<n):AA (g≠g'):=⟨by rw [hg];exact Nat.ne_of_lt h⟩
theorem Dp {g g' n:Nat} (hg:g'=n) (h:g<n):AA (g'≠g):=⟨by rw [hg];exact Nat.ne_of_gt h⟩
theorem Cm {w W:World} {g:Nat} (hg:g=W.heap.size) (h:Below w.heap.size w W):AA (w.heap.size<=g):=⟨by rw [hg];exact Ag h⟩
theorem xq {P:Prop} (h:P:=by first|rfl|(simp;done)|(simp [*];done)):P:=h
theorem xd {P:Prop} (h:P:=by repeat (first|exact Be.refl _|apply Be.step)):P:=h
theorem xe {P:Prop} (h:P:=by first|rfl|(simp [Fv,Fw]<;>rfl)|(simp [*,Fv,Fw]<;>rfl)):P:=h
theorem xa {p:Prop} [Decidable p] (h:decide p=true:=by first|(with_reducible assumption)|assumption):p:=of_decide_eq_true h
theorem xR {P Q:Prop} (h0:AA P) (h:P->Q:=by intro hq_;(with_reducible repeat (first|apply Kd.Am|apply Kd.Ao|apply Kd.WE));exact hq_):Q:=h h0.out
theorem xV {P Q:Prop} (h0:AA P) (h:P->Q:=by intro hq_;(with_reducible repeat (first|apply Kd.Ca|apply Kd.Cb|apply Kd.Bn));exact hq_):Q:=h h0.out
theorem xN {P Q:Prop} (h0:AA P) (h:P->Q:=by intro hq_;(with_reducible repeat (first|apply Kd.Ph|apply Kd.Pj|apply Kd.RS));exact hq_):Q:=h h0.out
section
variable {P:Program} {ops:Array Oper} {rest:List Oper} {o:Oper} {a:Act} {Q:Exit->Act->World->Prop} {Kc:Act->World->Prop} {S:World->Prop} {ds:List Nat} {md:Region.Mode}
theorem Cx {W:World} {N:Tmp} {cs:Array Value} {t:TypeId} (h:∀ g,g=W.heap.size->∀ w1,w1.heap[g]? =some (.cells cs t (0,0))->Below W.heap.size W w1->wpList P ops Q rest (a.put o.dst (.pointer (some ⟨g,0,none⟩))) w1) (hd:o.dst=some N:=by with_reducible rfl) (hg:o.guard=none:=by rfl)
 (hr:(execOp a.eval o).run P W= .ok (.value (.pointer (some ⟨W.heap.size,0,none⟩))) (W.alloc (.cells cs t (0,0))):=by first|(go_simp;done)|(go_simp;rfl)):wpList P ops Q (o::rest) a W:=Lv hg hd hr h
theorem H8 {W:World} {N:Tmp} {cs:Array Value} {t:TypeId} (h:∀ g,g=W.heap.size->∀ w1,w1.heap[g]? =some (.cells cs t (0,0))->Below W.heap.size W w1->Kc (a.put o.dst (.pointer (some ⟨g,0,none⟩))) w1) (hd:o.dst=some N:=by rfl) (hw:Region.wanted o (yielded ops a.tmps)=true:=by rfl)
 (hr:(execOp a.eval o).run P W= .ok (.value (.pointer (some ⟨W.heap.size,0,none⟩))) (W.alloc (.cells cs t (0,0))):=by first|(go_simp;done)|(go_simp;rfl)):if Region.wanted o (yielded ops a.tmps)=true then Oper.wp P o a W Kc Q else Kc (a.put o.dst undef) W:=Ep hw hd hr h
theorem Af {i:Nat} {N:Option Tmp} {oi:Oper} {v:Value} {fuel:Nat} {l:Array Bool} {a a':Act} {w:World} (l':Array Bool) (hi:ops[i]? =some oi) (hN:oi.dst=N) (hc:QH md ops l l' i=true) (hy:Yields P ops oi v a) (h:Bu P md ops Q S ds fuel l' a' w)
 (hQ:∀ c a w,Q (.panic c) (a.put oi.dst v) w->Q (.panic c) a w:=by exact λ_ _ _ h=>h) (ha:a.put N v=a':=by simp only [Act.put,List.setIfInBounds_toArray,List.set_cons_zero,List.set_cons_succ,CW,CY];rfl):Bu P md ops Q S ds (fuel+1) l a w:=DN l' hi hN hc hQ hy ha h
theorem Cf {i:Nat} {N:Option Tmp} {oi:Oper} {v:Value} {fuel:Nat} {l:Array Bool} {a a':Act} {w:World} (l':Array Bool) (hi:ops[i]? =some oi) (hN:oi.dst=N) (hc:takeB md ops ds l l' i=true) (hy:YieldsIf P ops S oi v a) (hS:S w) (h:Bu P md ops Q S ds fuel l' a' w)
 (hQ:∀ c a w,Q (.panic c) (a.put oi.dst v) w->Q (.panic c) a w:=by exact λ_ _ _ h=>h) (ha:a.put N v=a':=by simp only [Act.put,List.setIfInBounds_toArray,List.set_cons_zero,List.set_cons_succ,CW,CY];rfl):Bu P md ops Q S ds (fuel+1) l a w:=Lt l' hi hN hc hQ hy hS ha h
theorem CF {fuel:Nat} {l:Array Bool} {a a':Act} {w:World} {v:Value} {d:Option Tmp} (N:Option Tmp) (hN:d=N) (h:Bu P md ops Q S ds fuel l a' w) (ha:a.put N v=a':=by simp only [Act.put,List.setIfInBounds_toArray,List.set_cons_zero,List.set_cons_succ,CW,CY];rfl):Bu P md ops Q S ds fuel l (a.put d v) w:=by subst hN;subst ha;exact h
end
theorem Fv:Qx none= .nilIface:=rfl
theorem Fw (c:Int):Qx (some c)= .iface 0 (.int .i64 c):=rfl
end Go.Proofs.YtohjohhcjcljoaaGreatDoor.CQ
end
section
namespace Go.Proofs.YtohjohhcjcljoaaGreatDoor.CQ
open RowKit Ak BR BS
attribute [local go_sem] DT DU Df Dh Cy Cz DV DW
set_option linter.unusedVariables false
set_option linter.unusedSimpArgs false
def Bd.f (a0:Int) (a1:Int) (a2:Int):Option (Bool):=if a0>=a1 then (some (decide (a0<=a2))) else (some false)
set_option maxHeartbeats 8000000 in
set_option maxRecDepth 100000 in
theorem Bd.calls (a0:Int) (a1:Int) (a2:Int) (r:Bool) (w:World) (h:Bd.f a0 a1 a2=some r):
 Calls Tryz.prog 79 #[.int .u8 a0, .int .u8 a1, .int .u8 a2] w λe w'=>e= .returned (.bool r)/\Be w w':=by
 have H:(if a0>=a1 then (some (decide (a0<=a2))) else (some false))=some r:=h;clear h;by_cases c4:a0>=a1
 ·rw [if_pos c4] at H;have c4b0:decide (a1<=a0)=true:=decide_eq_true c4;clear c4;obtain rfl:=Option.some.inj H;go_enter Tryz.func79,Tryz.ntmps79;go_wp2;go_ret;exact ⟨xq,xd⟩
 ·rw [if_neg c4] at H;have c4b0:decide (a1<=a0)=false:=decide_eq_false c4;clear c4;obtain rfl:=Option.some.inj H;go_enter Tryz.func79,Tryz.ntmps79;go_wp2;go_ret;exact ⟨xq,xd⟩
def Db.l0:Nat->Int->List Int->Int->Int->Option (Int)
 |0,_,_,_,_=>none
 |k+1,x3,x6,x7,x8=>if x8<x7 then (if 0<=x8 then (if x8<(x6.length:Int) then (if (rd x6 x8)=x3 then (Db.l0 k x3 x6 x7 (wrap64 (x8+1))) else (some (rd x6 x8))) else (none)) else (none)) else (some x3)
def Db.f (k:Nat) (l0:List Int):Option (Int):=Db.l0 k 0 l0 (l0.length:Int) 0
set_option maxHeartbeats 8000000 in
set_option maxRecDepth 100000 in
theorem Db.calls (k:Nat) (A0:Option Addr) (c0:Nat) (l0:List Int) (r:Int) (w:World) (hr0:Kd.C (Kd.int .i64) w A0 l0.length l0) (hc0:l0.length<=c0) (h:Db.f k l0=some r):
 Calls Tryz.prog 50 #[.slice A0 l0.length c0] w λe w'=>e= .returned (.int .i64 r)/\Be w w':=by
 have HR0:=AA.mk hr0;have HC0:=AA.mk hc0;clear hr0 hc0;have H:(Db.l0 k 0 l0 (l0.length:Int) 0)=some r:=h;clear h;have H':=AA.mk H;clear H;go_enter Tryz.func50,Tryz.ntmps50;go_wp2;go_loopg [8] k (λkq v8 w'=>∃ (x8_1:Int),v8= .int .i64 x8_1/\AA (Db.l0 kq 0 l0 (l0.length:Int) x8_1=some r)/\AA (kq<=k)/\Be w w');case atStart=>exact ⟨(0),xq,H',⟨Nat.le_refl _⟩,xd⟩
 case round=>
  clear H';obtain ⟨x8_1,rfl,HA,HK1,⟨m1,rfl⟩⟩:=hrel;cases gk with
  |zero=>exact absurd HA.out (by simp [Db.l0])
  |succ k1=>
   have H:=HA.out;clear HA;simp only [Db.l0] at H;by_cases c2:x8_1<(l0.length:Int)
   ·rw [if_pos c2] at H;have c2b0:decide (x8_1<(l0.length:Int))=true:=decide_eq_true c2;clear c2;by_cases c3:0<=x8_1
    ·rw [if_pos c3] at H;have c3b0:decide (0<=x8_1)=true:=decide_eq_true c3;clear c3;by_cases c4:x8_1<(l0.length:Int)
     ·rw [if_pos c4] at H;have c4b0:decide (x8_1<(l0.length:Int))=true:=decide_eq_true c4;clear c4;by_cases c5:(rd l0 x8_1)=0
      ·rw [if_pos c5] at H;have c5b0:((rd l0 x8_1)==0)=true:=beq_iff_eq.mpr c5;have c5b1:((rd l0 x8_1) != 0)=false:=bne_eq_false_iff_eq.mpr c5;clear c5;have H':=AA.mk H;clear H;have p101:0<=(x8_1:Int):=xa;have q101:x8_1<(l0.length:Int):=xa;obtain ⟨ad101,e101,hx101_0⟩:=Kd.Ht HR0.out x8_1 p101 q101;cases e101;replace p101:=eq_true p101;replace q101:=eq_true q101;go_wp2;go_roundg k1;case measure=>have:=HK1.out;omega
       case rel=>exact ⟨(wrap64 (x8_1+1)),xq,H',⟨by have:=HK1.out;omega⟩,xd⟩
      ·rw [if_neg c5] at H;have c5b0:((rd l0 x8_1)==0)=false:=beq_eq_false_iff_ne.mpr c5;have c5b1:((rd l0 x8_1) != 0)=true:=bne_iff_ne.mpr c5;obtain rfl:=Option.some.inj H;have p101:0<=(x8_1:Int):=xa;have q101:x8_1<(l0.length:Int):=xa;obtain ⟨ad101,e101,hx101_0⟩:=Kd.Ht HR0.out x8_1 p101 q101;cases e101;replace p101:=eq_true p101;replace q101:=eq_true q101;go_wp2;go_ret;exact ⟨xq,xd⟩
     ·rw [if_neg c4] at H;exact absurd H (by simp)
    ·rw [if_neg c3] at H;exact absurd H (by simp)
   ·rw [if_neg c2] at H;have c2b0:decide (x8_1<(l0.length:Int))=false:=decide_eq_false c2;clear c2;obtain rfl:=Option.some.inj H;go_wp2;go_ret;exact ⟨xq,xd⟩
def cmp_isNaN_string.f (a0:ByteArray):Option (Bool):=some (a0.toList != a0.toList)
set_option maxHeartbeats 8000000 in
set_option maxRecDepth 100000 in
theorem cmp_isNaN_string.calls (a0:ByteArray) (r:Bool) (w:World) (h:cmp_isNaN_string.f a0=some r):
 Calls Tryz.prog 71 #[.string a0] w λe w'=>e= .returned (.bool r)/\Be w w':=by
 have H:(some (a0.toList != a0.toList))=some r:=h;clear h;obtain rfl:=Option.some.inj H;go_enter Tryz.func71,Tryz.ntmps71;go_wp2;go_ret;exact ⟨xq,xd⟩
def Cq.f (a0:ByteArray) (a1:ByteArray):Option (Int):=(cmp_isNaN_string.f a0).bind λt102=>((cmp_isNaN_string.f a1).bind λt103=>(if t102=true then (if t103=true then (some 0) else (some (-1))) else (if t103=true then (some 1) else (if (Op.bytesLess a0.toList a1.toList)=true then (some (-1)) else (if (Op.bytesLess a1.toList a0.toList)=true then (some 1) else (some 0))))))
set_option maxHeartbeats 8000000 in
set_option maxRecDepth 100000 in
theorem Cq.calls (a0:ByteArray) (a1:ByteArray) (r:Int) (w:World) (h:Cq.f a0 a1=some r):
 Calls Tryz.prog 53 #[.string a0, .string a1] w λe w'=>e= .returned (.int .i64 r)/\Be w w':=by
 have hsgtr9:∀ (x y:ByteArray) (W:World),(binOp .gtr 9 (.string x) (.string y)).run Tryz.prog W= .ok (.bool (Op.bytesLess y.toList x.toList)) W:=λ_ _ _=>Qy _ _ _ _
 have H:((cmp_isNaN_string.f a0).bind λt102=>((cmp_isNaN_string.f a1).bind λt103=>(if t102=true then (if t103=true then (some 0) else (some (-1))) else (if t103=true then (some 1) else (if (Op.bytesLess a0.toList a1.toList)=true then (some (-1)) else (if (Op.bytesLess a1.toList a0.toList)=true then (some 1) else (some 0)))))))=some r:=h;clear h;replace H:=Option.bind_eq_some_iff.mp H;obtain ⟨t102,A30,H⟩:=H;try dsimp only at H
 have A3:=AA.mk A30;clear A30;replace H:=Option.bind_eq_some_iff.mp H;obtain ⟨t103,A40,H⟩:=H;try dsimp only at H
 have A4:=AA.mk A40;clear A40;by_cases c5:t102=true
 ·subst c5;rw [if_pos rfl] at H;by_cases c6:t103=true
  ·subst c6;rw [if_pos rfl] at H;obtain rfl:=Option.some.inj H;go_enter Tryz.func53,Tryz.ntmps53;go_wp2_with (first|((with_reducible refine AQ (f:=71) rfl ?_);refine XJ (some 8) rfl rfl Tryz.func71 (by kernel_rfl) rfl #[.string a0] rfl xg ?_;(with_reducible refine (cmp_isNaN_string.calls a0 true _ A3.out).mono ?_);rintro e w' ⟨rfl,⟨nd,rfl⟩⟩;refine ⟨_,rfl,?_⟩)|((with_reducible refine AQ (f:=71) rfl ?_);refine XJ (some 10) rfl rfl Tryz.func71 (by kernel_rfl) rfl #[.string a1] rfl xg ?_;(with_reducible refine (cmp_isNaN_string.calls a1 true _ A4.out).mono ?_);rintro e w' ⟨rfl,⟨nd,rfl⟩⟩;refine ⟨_,rfl,?_⟩));go_ret;exact ⟨xq,xd⟩
  ·replace c6:=Bool.eq_false_iff.mpr c6;subst c6;have H1:(some (-1))=some r:=by rw [if_neg (show ¬(false=true) by decide)] at H;exact H
   clear H;have H:=H1;clear H1;obtain rfl:=Option.some.inj H;go_enter Tryz.func53,Tryz.ntmps53;go_wp2_with (first|((with_reducible refine AQ (f:=71) rfl ?_);refine XJ (some 8) rfl rfl Tryz.func71 (by kernel_rfl) rfl #[.string a0] rfl xg ?_;(with_reducible refine (cmp_isNaN_string.calls a0 true _ A3.out).mono ?_);rintro e w' ⟨rfl,⟨nd,rfl⟩⟩;refine ⟨_,rfl,?_⟩)|((with_reducible refine AQ (f:=71) rfl ?_);refine XJ (some 10) rfl rfl Tryz.func71 (by kernel_rfl) rfl #[.string a1] rfl xg ?_;(with_reducible refine (cmp_isNaN_string.calls a1 false _ A4.out).mono ?_);rintro e w' ⟨rfl,⟨nd,rfl⟩⟩;refine ⟨_,rfl,?_⟩));go_ret;exact ⟨xq,xd⟩
 ·replace c5:=Bool.eq_false_iff.mpr c5;subst c5;have H1:(if t103=true then (some 1) else (if (Op.bytesLess a0.toList a1.toList)=true then (some (-1)) else (if (Op.bytesLess a1.toList a0.toList)=true then (some 1) else (some 0))))=some r:=by rw [if_neg (show ¬(false=true) by decide)] at H;exact H
  clear H;have H:=H1;clear H1;by_cases c7:t103=true
  ·subst c7;have H1:(some 1)=some r:=by rw [if_pos rfl] at H;exact H
   clear H;have H:=H1;clear H1;obtain rfl:=Option.some.inj H;go_enter Tryz.func53,Tryz.ntmps53;go_wp2_with (first|((with_reducible refine AQ (f:=71) rfl ?_);refine XJ (some 8) rfl rfl Tryz.func71 (by kernel_rfl) rfl #[.string a0] rfl xg ?_;(with_reducible refine (cmp_isNaN_string.calls a0 false _ A3.out).mono ?_);rintro e w' ⟨rfl,⟨nd,rfl⟩⟩;refine ⟨_,rfl,?_⟩)|((with_reducible refine AQ (f:=71) rfl ?_);refine XJ (some 10) rfl rfl Tryz.func71 (by kernel_rfl) rfl #[.string a1] rfl xg ?_;(with_reducible refine (cmp_isNaN_string.calls a1 true _ A4.out).mono ?_);rintro e w' ⟨rfl,⟨nd,rfl⟩⟩;refine ⟨_,rfl,?_⟩));go_ret;exact ⟨xq,xd⟩
  ·replace c7:=Bool.eq_false_iff.mpr c7;subst c7;have H1:(if (Op.bytesLess a0.toList a1.toList)=true then (some (-1)) else (if (Op.bytesLess a1.toList a0.toList)=true then (some 1) else (some 0)))=some r:=by rw [if_neg (show ¬(false=true) by decide)] at H;exact H
   clear H;have H:=H1;clear H1;by_cases c8:(Op.bytesLess a0.toList a1.toList)=true
   ·rw [if_pos c8] at H;have c8b0:(Op.bytesLess a0.toList a1.toList)=true:=c8;clear c8;obtain rfl:=Option.some.inj H;go_enter Tryz.func53,Tryz.ntmps53;go_wp2_with (first|((with_reducible refine AQ (f:=71) rfl ?_);refine XJ (some 8) rfl rfl Tryz.func71 (by kernel_rfl) rfl #[.string a0] rfl xg ?_;(with_reducible refine (cmp_isNaN_string.calls a0 false _ A3.out).mono ?_);rintro e w' ⟨rfl,⟨nd,rfl⟩⟩;refine ⟨_,rfl,?_⟩)|((with_reducible refine AQ (f:=71) rfl ?_);refine XJ (some 10) rfl rfl Tryz.func71 (by kernel_rfl) rfl #[.string a1] rfl xg ?_;(with_reducible refine (cmp_isNaN_string.calls a1 false _ A4.out).mono ?_);rintro e w' ⟨rfl,⟨nd,rfl⟩⟩;refine ⟨_,rfl,?_⟩));go_ret;exact ⟨xq,xd⟩
   ·rw [if_neg c8] at H;have c8b0:(Op.bytesLess a0.toList a1.toList)=false:=by simpa using c8
    clear c8;by_cases c9:(Op.bytesLess a1.toList a0.toList)=true
    ·rw [if_pos c9] at H;have c9b0:(Op.bytesLess a1.toList a0.toList)=true:=c9;clear c9;obtain rfl:=Option.some.inj H;go_enter Tryz.func53,Tryz.ntmps53;go_wp2_with (first|((with_reducible refine AQ (f:=71) rfl ?_);refine XJ (some 8) rfl rfl Tryz.func71 (by kernel_rfl) rfl #[.string a0] rfl xg ?_;(with_reducible refine (cmp_isNaN_string.calls a0 false _ A3.out).mono ?_);rintro e w' ⟨rfl,⟨nd,rfl⟩⟩;refine ⟨_,rfl,?_⟩)|((with_reducible refine AQ (f:=71) rfl ?_);refine XJ (some 10) rfl rfl Tryz.func71 (by kernel_rfl) rfl #[.string a1] rfl xg ?_;(with_reducible refine (cmp_isNaN_string.calls a1 false _ A4.out).mono ?_);rintro e w' ⟨rfl,⟨nd,rfl⟩⟩;refine ⟨_,rfl,?_⟩));go_ret;exact ⟨xq,xd⟩
    ·rw [if_neg c9] at H;have c9b0:(Op.bytesLess a1.toList a0.toList)=false:=by simpa using c9
     clear c9;obtain rfl:=Option.some.inj H;go_enter Tryz.func53,Tryz.ntmps53;go_wp2_with (first|((with_reducible refine AQ (f:=71) rfl ?_);refine XJ (some 8) rfl rfl Tryz.func71 (by kernel_rfl) rfl #[.string a0] rfl xg ?_;(with_reducible refine (cmp_isNaN_string.calls a0 false _ A3.out).mono ?_);rintro e w' ⟨rfl,⟨nd,rfl⟩⟩;refine ⟨_,rfl,?_⟩)|((with_reducible refine AQ (f:=71) rfl ?_);refine XJ (some 10) rfl rfl Tryz.func71 (by kernel_rfl) rfl #[.string a1] rfl xg ?_;(with_reducible refine (cmp_isNaN_string.calls a1 false _ A4.out).mono ?_);rintro e w' ⟨rfl,⟨nd,rfl⟩⟩;refine ⟨_,rfl,?_⟩));go_ret;exact ⟨xq,xd⟩
def cmp_isNaN_int.f (a0:Int):Option (Bool):=some (a0 != a0)
set_option maxHeartbeats 8000000 in
set_option maxRecDepth 100000 in
theorem cmp_isNaN_int.calls (a0:Int) (r:Bool) (w:World) (h:cmp_isNaN_int.f a0=some r):
 Calls Tryz.prog 70 #[.int .i64 a0] w λe w'=>e= .returned (.bool r)/\Be w w':=by
 have H:(some (a0 != a0))=some r:=h;clear h;obtain rfl:=Option.some.inj H;go_enter Tryz.func70,Tryz.ntmps70;go_wp2;go_ret;exact ⟨xq,xd⟩
def Cc.j0:Nat->Int->Bool->Option (Bool)
 |0,_,_=>none
 |k+1,x0,x3=>if x3=true then (some true) else (if x0=33 then (some true) else ((Bd.f x0 35 39).bind λt107=>(if t107=true then (some true) else (if x0=42 then (some true) else (if x0=43 then (some true) else (if x0=45 then (some true) else (if x0=46 then (some true) else ((Bd.f x0 94 96).bind λt108=>(if t108=true then (some true) else (if x0=124 then (some true) else (some (x0==126))))))))))))
def Cc.f (k:Nat) (a0:Int):Option (Bool):=(Bd.f a0 97 122).bind λt104=>(if t104=true then (Cc.j0 k a0 t104) else ((Bd.f a0 65 90).bind λt105=>(if t105=true then (Cc.j0 k a0 t105) else ((Bd.f a0 48 57).bind λt106=>(Cc.j0 k a0 t106)))))
set_option maxHeartbeats 8000000 in
set_option maxRecDepth 100000 in
theorem Cc.calls (k:Nat) (a0:Int) (r:Bool) (w:World) (h:Cc.f k a0=some r):
 Calls Tryz.prog 78 #[.int .u8 a0] w λe w'=>e= .returned (.bool r)/\Be w w':=by
 have H:((Bd.f a0 97 122).bind λt104=>(if t104=true then (Cc.j0 k a0 t104) else ((Bd.f a0 65 90).bind λt105=>(if t105=true then (Cc.j0 k a0 t105) else ((Bd.f a0 48 57).bind λt106=>(Cc.j0 k a0 t106))))))=some r:=h;clear h;replace H:=Option.bind_eq_some_iff.mp H;obtain ⟨t104,A20,H⟩:=H;try dsimp only at H
 have A2:=AA.mk A20;clear A20;have HC3:=AA.mk H;clear H;go_enter Tryz.func78,Tryz.ntmps78;go_upto_if 3 with (first|((with_reducible refine AQ (f:=79) rfl ?_);refine XJ (some 5) rfl rfl Tryz.func79 (by kernel_rfl) rfl #[.int .u8 a0, .int .u8 97, .int .u8 122] rfl xg ?_;(with_reducible refine (Bd.calls a0 97 122 t104 _ A2.out).mono ?_);rintro e w' ⟨rfl,⟨nd,rfl⟩⟩;refine ⟨_,rfl,?_⟩))
 (try simp only [Act.put,List.setIfInBounds_toArray,List.set_cons_zero,List.set_cons_succ]);go_cut [3] (λv3 wc=>∃ (kq:Nat) (x3_2:Bool),v3= .bool x3_2/\AA (Cc.j0 kq a0 x3_2=some r)/\AA (kq<=k)/\Be w wc);case first=>
  have H:=HC3.out;clear HC3;by_cases c4:t104=true
  ·subst c4;have H1:(Cc.j0 k a0 true)=some r:=by rw [if_pos rfl] at H;exact H
   clear H;have H:=H1;clear H1;have H':=AA.mk H;clear H;go_wp2;go_meet;case rel=>exact ⟨_,(true),xq,H',⟨by first|omega|exact Nat.le_refl _⟩,xd⟩
  ·replace c4:=Bool.eq_false_iff.mpr c4;subst c4;have H1:((Bd.f a0 65 90).bind λt105=>(if t105=true then (Cc.j0 k a0 t105) else ((Bd.f a0 48 57).bind λt106=>(Cc.j0 k a0 t106))))=some r:=by rw [if_neg (show ¬(false=true) by decide)] at H;exact H
   clear H;have H:=H1;clear H1;replace H:=Option.bind_eq_some_iff.mp H;obtain ⟨t105,A50,H⟩:=H;replace H:(if t105=true then (Cc.j0 k a0 t105) else ((Bd.f a0 48 57).bind λt106=>(Cc.j0 k a0 t106)))=some r:=H;have A5:=AA.mk A50;clear A50;by_cases c6:t105=true
   ·subst c6;have H1:(Cc.j0 k a0 true)=some r:=by rw [if_pos rfl] at H;exact H
    clear H;have H:=H1;clear H1;have H':=AA.mk H;clear H;go_wp2_with (first|((with_reducible refine AQ (f:=79) rfl ?_);refine XJ (some 7) rfl rfl Tryz.func79 (by kernel_rfl) rfl #[.int .u8 a0, .int .u8 65, .int .u8 90] rfl xg ?_;(with_reducible refine (Bd.calls a0 65 90 true _ A5.out).mono ?_);rintro e w' ⟨rfl,⟨nd,rfl⟩⟩;refine ⟨_,rfl,?_⟩));go_meet;case rel=>exact ⟨_,(true),xq,H',⟨by first|omega|exact Nat.le_refl _⟩,xd⟩
   ·replace c6:=Bool.eq_false_iff.mpr c6;subst c6;have H1:((Bd.f a0 48 57).bind λt106=>(Cc.j0 k a0 t106))=some r:=by rw [if_neg (show ¬(false=true) by decide)] at H;exact H
    clear H;have H:=H1;clear H1;replace H:=Option.bind_eq_some_iff.mp H;obtain ⟨t106,A70,H⟩:=H;replace H:(Cc.j0 k a0 t106)=some r:=H;have A7:=AA.mk A70;clear A70;have H':=AA.mk H;clear H;go_wp2_with (first|((with_reducible refine AQ (f:=79) rfl ?_);refine XJ (some 7) rfl rfl Tryz.func79 (by kernel_rfl) rfl #[.int .u8 a0, .int .u8 65, .int .u8 90] rfl xg ?_;(with_reducible refine (Bd.calls a0 65 90 false _ A5.out).mono ?_);rintro e w' ⟨rfl,⟨nd,rfl⟩⟩;refine ⟨_,rfl,?_⟩)|((with_reducible refine AQ (f:=79) rfl ?_);refine XJ (some 9) rfl rfl Tryz.func79 (by kernel_rfl) rfl #[.int .u8 a0, .int .u8 48, .int .u8 57] rfl xg ?_;(with_reducible refine (Bd.calls a0 48 57 t106 _ A7.out).mono ?_);rintro e w' ⟨rfl,⟨nd,rfl⟩⟩;refine ⟨_,rfl,?_⟩));go_meet;case rel=>exact ⟨_,(t106),xq,H',⟨by first|omega|exact Nat.le_refl _⟩,xd⟩
 case rest=>
  clear HC3;try clear p2
  try clear p3
  try clear c4
  try clear c6
  try clear p6
  try clear c7
  obtain ⟨kq,x3_2,rfl,HA,HJ2,⟨mc2,rfl⟩⟩:=hcut;cases kq with
  |zero=>exact absurd HA.out (by simp [Cc.j0])
  |succ kj2=>
   have H:=HA.out;clear HA;simp only [Cc.j0] at H;by_cases c8:x3_2=true
   ·subst c8;have H1:(some true)=some r:=by rw [if_pos rfl] at H;exact H
    clear H;have H:=H1;clear H1;obtain rfl:=Option.some.inj H;go_wp2;go_ret;exact ⟨xq,xd⟩
   ·replace c8:=Bool.eq_false_iff.mpr c8;subst c8;have H1:(if a0=33 then (some true) else ((Bd.f a0 35 39).bind λt107=>(if t107=true then (some true) else (if a0=42 then (some true) else (if a0=43 then (some true) else (if a0=45 then (some true) else (if a0=46 then (some true) else ((Bd.f a0 94 96).bind λt108=>(if t108=true then (some true) else (if a0=124 then (some true) else (some (a0==126))))))))))))=some r:=by rw [if_neg (show ¬(false=true) by decide)] at H;exact H
    clear H;have H:=H1;clear H1;by_cases c9:a0=33
    ·rw [if_pos c9] at H;have c9b0:(a0==33)=true:=beq_iff_eq.mpr c9;have c9b1:(a0 != 33)=false:=bne_eq_false_iff_eq.mpr c9;clear c9;obtain rfl:=Option.some.inj H;go_wp2;go_ret;exact ⟨xq,xd⟩
    ·rw [if_neg c9] at H;have c9b0:(a0==33)=false:=beq_eq_false_iff_ne.mpr c9;have c9b1:(a0 != 33)=true:=bne_iff_ne.mpr c9;replace H:=Option.bind_eq_some_iff.mp H;obtain ⟨t107,A100,H⟩:=H;replace H:(if t107=true then (some true) else (if a0=42 then (some true) else (if a0=43 then (some true) else (if a0=45 then (some true) else (if a0=46 then (some true) else ((Bd.f a0 94 96).bind λt108=>(if t108=true then (some true) else (if a0=124 then (some true) else (some (a0==126))))))))))=some r:=H;have A10:=AA.mk A100;clear A100;by_cases c11:t107=true
     ·subst c11;rw [if_pos rfl] at H;obtain rfl:=Option.some.inj H;go_wp2_with (first|(go_at_call 79;(with_reducible refine (Bd.calls a0 35 39 true _ A10.out).mono ?_);rintro e w' ⟨rfl,⟨nd,rfl⟩⟩));go_ret;exact ⟨xq,xd⟩
     ·replace c11:=Bool.eq_false_iff.mpr c11;subst c11;have H1:(if a0=42 then (some true) else (if a0=43 then (some true) else (if a0=45 then (some true) else (if a0=46 then (some true) else ((Bd.f a0 94 96).bind λt108=>(if t108=true then (some true) else (if a0=124 then (some true) else (some (a0==126)))))))))=some r:=by rw [if_neg (show ¬(false=true) by decide)] at H;exact H
      clear H;have H:=H1;clear H1;by_cases c12:a0=42
      ·rw [if_pos c12] at H;have c12b0:(a0==42)=true:=beq_iff_eq.mpr c12;have c12b1:(a0 != 42)=false:=bne_eq_false_iff_eq.mpr c12;clear c12;obtain rfl:=Option.some.inj H;go_wp2_with (first|(go_at_call 79;(with_reducible refine (Bd.calls a0 35 39 false _ A10.out).mono ?_);rintro e w' ⟨rfl,⟨nd,rfl⟩⟩));go_ret;exact ⟨xq,xd⟩
      ·rw [if_neg c12] at H;have c12b0:(a0==42)=false:=beq_eq_false_iff_ne.mpr c12;have c12b1:(a0 != 42)=true:=bne_iff_ne.mpr c12;by_cases c13:a0=43
       ·rw [if_pos c13] at H;have c13b0:(a0==43)=true:=beq_iff_eq.mpr c13;have c13b1:(a0 != 43)=false:=bne_eq_false_iff_eq.mpr c13;clear c13;obtain rfl:=Option.some.inj H;go_wp2_with (first|(go_at_call 79;(with_reducible refine (Bd.calls a0 35 39 false _ A10.out).mono ?_);rintro e w' ⟨rfl,⟨nd,rfl⟩⟩));go_ret;exact ⟨xq,xd⟩
       ·rw [if_neg c13] at H;have c13b0:(a0==43)=false:=beq_eq_false_iff_ne.mpr c13;have c13b1:(a0 != 43)=true:=bne_iff_ne.mpr c13;by_cases c14:a0=45
        ·rw [if_pos c14] at H;have c14b0:(a0==45)=true:=beq_iff_eq.mpr c14;have c14b1:(a0 != 45)=false:=bne_eq_false_iff_eq.mpr c14;clear c14;obtain rfl:=Option.some.inj H;go_wp2_with (first|(go_at_call 79;(with_reducible refine (Bd.calls a0 35 39 false _ A10.out).mono ?_);rintro e w' ⟨rfl,⟨nd,rfl⟩⟩));go_ret;exact ⟨xq,xd⟩
        ·rw [if_neg c14] at H;have c14b0:(a0==45)=false:=beq_eq_false_iff_ne.mpr c14;have c14b1:(a0 != 45)=true:=bne_iff_ne.mpr c14;by_cases c15:a0=46
         ·rw [if_pos c15] at H;have c15b0:(a0==46)=true:=beq_iff_eq.mpr c15;have c15b1:(a0 != 46)=false:=bne_eq_false_iff_eq.mpr c15;clear c15;obtain rfl:=Option.some.inj H;go_wp2_with (first|(go_at_call 79;(with_reducible refine (Bd.calls a0 35 39 false _ A10.out).mono ?_);rintro e w' ⟨rfl,⟨nd,rfl⟩⟩));go_ret;exact ⟨xq,xd⟩
         ·rw [if_neg c15] at H;have c15b0:(a0==46)=false:=beq_eq_false_iff_ne.mpr c15;have c15b1:(a0 != 46)=true:=bne_iff_ne.mpr c15;replace H:=Option.bind_eq_some_iff.mp H;obtain ⟨t108,A160,H⟩:=H;replace H:(if t108=true then (some true) else (if a0=124 then (some true) else (some (a0==126))))=some r:=H;have A16:=AA.mk A160;clear A160;by_cases c17:t108=true
          ·subst c17;rw [if_pos rfl] at H;obtain rfl:=Option.some.inj H;go_wp2_with (first|(go_at_call 79;(with_reducible refine (Bd.calls a0 35 39 false _ A10.out).mono ?_);rintro e w' ⟨rfl,⟨nd,rfl⟩⟩)|(go_at_call 79;(with_reducible refine (Bd.calls a0 94 96 true _ A16.out).mono ?_);rintro e w' ⟨rfl,⟨nd,rfl⟩⟩));go_ret;exact ⟨xq,xd⟩
          ·replace c17:=Bool.eq_false_iff.mpr c17;subst c17;have H1:(if a0=124 then (some true) else (some (a0==126)))=some r:=by rw [if_neg (show ¬(false=true) by decide)] at H;exact H
           clear H;have H:=H1;clear H1;by_cases c18:a0=124
           ·rw [if_pos c18] at H;have c18b0:(a0==124)=true:=beq_iff_eq.mpr c18;have c18b1:(a0 != 124)=false:=bne_eq_false_iff_eq.mpr c18;clear c18;obtain rfl:=Option.some.inj H;go_wp2_with (first|(go_at_call 79;(with_reducible refine (Bd.calls a0 35 39 false _ A10.out).mono ?_);rintro e w' ⟨rfl,⟨nd,rfl⟩⟩)|(go_at_call 79;(with_reducible refine (Bd.calls a0 94 96 false _ A16.out).mono ?_);rintro e w' ⟨rfl,⟨nd,rfl⟩⟩));go_ret;exact ⟨xq,xd⟩
           ·rw [if_neg c18] at H;have c18b0:(a0==124)=false:=beq_eq_false_iff_ne.mpr c18;have c18b1:(a0 != 124)=true:=bne_iff_ne.mpr c18;obtain rfl:=Option.some.inj H;go_wp2_with (first|(go_at_call 79;(with_reducible refine (Bd.calls a0 35 39 false _ A10.out).mono ?_);rintro e w' ⟨rfl,⟨nd,rfl⟩⟩)|(go_at_call 79;(with_reducible refine (Bd.calls a0 94 96 false _ A16.out).mono ?_);rintro e w' ⟨rfl,⟨nd,rfl⟩⟩));go_ret;exact ⟨xq,xd⟩
def Ey.f (a0:Int):Option (Bool):=(Bd.f a0 33 126).bind λt109=>(if t109=true then (if a0=34 then (some false) else (if a0=44 then (some false) else (if a0=59 then (some false) else (some (a0 != 92))))) else (some false))
set_option maxHeartbeats 8000000 in
set_option maxRecDepth 100000 in
theorem Ey.calls (a0:Int) (r:Bool) (w:World) (h:Ey.f a0=some r):
 Calls Tryz.prog 80 #[.int .u8 a0] w λe w'=>e= .returned (.bool r)/\Be w w':=by
 have H:((Bd.f a0 33 126).bind λt109=>(if t109=true then (if a0=34 then (some false) else (if a0=44 then (some false) else (if a0=59 then (some false) else (some (a0 != 92))))) else (some false)))=some r:=h;clear h;replace H:=Option.bind_eq_some_iff.mp H;obtain ⟨t109,A20,H⟩:=H;try dsimp only at H
 have A2:=AA.mk A20;clear A20;by_cases c3:t109=true
 ·subst c3;rw [if_pos rfl] at H;by_cases c4:a0=34
  ·rw [if_pos c4] at H;have c4b0:(a0==34)=true:=beq_iff_eq.mpr c4;have c4b1:(a0 != 34)=false:=bne_eq_false_iff_eq.mpr c4;clear c4;obtain rfl:=Option.some.inj H;go_enter Tryz.func80,Tryz.ntmps80;go_wp2_with (first|((with_reducible refine AQ (f:=79) rfl ?_);refine XJ (some 4) rfl rfl Tryz.func79 (by kernel_rfl) rfl #[.int .u8 a0, .int .u8 33, .int .u8 126] rfl xg ?_;(with_reducible refine (Bd.calls a0 33 126 true _ A2.out).mono ?_);rintro e w' ⟨rfl,⟨nd,rfl⟩⟩;refine ⟨_,rfl,?_⟩));go_ret;exact ⟨xq,xd⟩
  ·rw [if_neg c4] at H;have c4b0:(a0==34)=false:=beq_eq_false_iff_ne.mpr c4;have c4b1:(a0 != 34)=true:=bne_iff_ne.mpr c4;by_cases c5:a0=44
   ·rw [if_pos c5] at H;have c5b0:(a0==44)=true:=beq_iff_eq.mpr c5;have c5b1:(a0 != 44)=false:=bne_eq_false_iff_eq.mpr c5;clear c5;obtain rfl:=Option.some.inj H;go_enter Tryz.func80,Tryz.ntmps80;go_wp2_with (first|((with_reducible refine AQ (f:=79) rfl ?_);refine XJ (some 4) rfl rfl Tryz.func79 (by kernel_rfl) rfl #[.int .u8 a0, .int .u8 33, .int .u8 126] rfl xg ?_;(with_reducible refine (Bd.calls a0 33 126 true _ A2.out).mono ?_);rintro e w' ⟨rfl,⟨nd,rfl⟩⟩;refine ⟨_,rfl,?_⟩));go_ret;exact ⟨xq,xd⟩
   ·rw [if_neg c5] at H;have c5b0:(a0==44)=false:=beq_eq_false_iff_ne.mpr c5;have c5b1:(a0 != 44)=true:=bne_iff_ne.mpr c5;by_cases c6:a0=59
    ·rw [if_pos c6] at H;have c6b0:(a0==59)=true:=beq_iff_eq.mpr c6;have c6b1:(a0 != 59)=false:=bne_eq_false_iff_eq.mpr c6;clear c6;obtain rfl:=Option.some.inj H;go_enter Tryz.func80,Tryz.ntmps80;go_wp2_with (first|((with_reducible refine AQ (f:=79) rfl ?_);refine XJ (some 4) rfl rfl Tryz.func79 (by kernel_rfl) rfl #[.int .u8 a0, .int .u8 33, .int .u8 126] rfl xg ?_;(with_reducible refine (Bd.calls a0 33 126 true _ A2.out).mono ?_);rintro e w' ⟨rfl,⟨nd,rfl⟩⟩;refine ⟨_,rfl,?_⟩));go_ret;exact ⟨xq,xd⟩
    ·rw [if_neg c6] at H;have c6b0:(a0==59)=false:=beq_eq_false_iff_ne.mpr c6;have c6b1:(a0 != 59)=true:=bne_iff_ne.mpr c6;obtain rfl:=Option.some.inj H;go_enter Tryz.func80,Tryz.ntmps80;go_wp2_with (first|((with_reducible refine AQ (f:=79) rfl ?_);refine XJ (some 4) rfl rfl Tryz.func79 (by kernel_rfl) rfl #[.int .u8 a0, .int .u8 33, .int .u8 126] rfl xg ?_;(with_reducible refine (Bd.calls a0 33 126 true _ A2.out).mono ?_);rintro e w' ⟨rfl,⟨nd,rfl⟩⟩;refine ⟨_,rfl,?_⟩));go_ret;exact ⟨xq,xd⟩
 ·replace c3:=Bool.eq_false_iff.mpr c3;subst c3;have H1:(some false)=some r:=by rw [if_neg (show ¬(false=true) by decide)] at H;exact H
  clear H;have H:=H1;clear H1;obtain rfl:=Option.some.inj H;go_enter Tryz.func80,Tryz.ntmps80;go_wp2_with (first|((with_reducible refine AQ (f:=79) rfl ?_);refine XJ (some 4) rfl rfl Tryz.func79 (by kernel_rfl) rfl #[.int .u8 a0, .int .u8 33, .int .u8 126] rfl xg ?_;(with_reducible refine (Bd.calls a0 33 126 false _ A2.out).mono ?_);rintro e w' ⟨rfl,⟨nd,rfl⟩⟩;refine ⟨_,rfl,?_⟩));go_ret;exact ⟨xq,xd⟩
def FO.f (a0:Int):Option (Bool):=(Bd.f a0 33 126).bind λt110=>(if t110=true then (some (a0 != 59)) else (some false))
set_option maxHeartbeats 8000000 in
set_option maxRecDepth 100000 in
theorem FO.calls (a0:Int) (r:Bool) (w:World) (h:FO.f a0=some r):
 Calls Tryz.prog 98 #[.int .u8 a0] w λe w'=>e= .returned (.bool r)/\Be w w':=by
 have H:((Bd.f a0 33 126).bind λt110=>(if t110=true then (some (a0 != 59)) else (some false)))=some r:=h;clear h;replace H:=Option.bind_eq_some_iff.mp H;obtain ⟨t110,A20,H⟩:=H;try dsimp only at H
 have A2:=AA.mk A20;clear A20;by_cases c3:t110=true
 ·subst c3;rw [if_pos rfl] at H;obtain rfl:=Option.some.inj H;go_enter Tryz.func98,Tryz.ntmps98;go_wp2_with (first|((with_reducible refine AQ (f:=79) rfl ?_);refine XJ (some 4) rfl rfl Tryz.func79 (by kernel_rfl) rfl #[.int .u8 a0, .int .u8 33, .int .u8 126] rfl xg ?_;(with_reducible refine (Bd.calls a0 33 126 true _ A2.out).mono ?_);rintro e w' ⟨rfl,⟨nd,rfl⟩⟩;refine ⟨_,rfl,?_⟩));go_ret;exact ⟨xq,xd⟩
 ·replace c3:=Bool.eq_false_iff.mpr c3;subst c3;have H1:(some false)=some r:=by rw [if_neg (show ¬(false=true) by decide)] at H;exact H
  clear H;have H:=H1;clear H1;obtain rfl:=Option.some.inj H;go_enter Tryz.func98,Tryz.ntmps98;go_wp2_with (first|((with_reducible refine AQ (f:=79) rfl ?_);refine XJ (some 4) rfl rfl Tryz.func79 (by kernel_rfl) rfl #[.int .u8 a0, .int .u8 33, .int .u8 126] rfl xg ?_;(with_reducible refine (Bd.calls a0 33 126 false _ A2.out).mono ?_);rintro e w' ⟨rfl,⟨nd,rfl⟩⟩;refine ⟨_,rfl,?_⟩));go_ret;exact ⟨xq,xd⟩
def Gl.f (a0:Bool):Option (Int):=if a0=true then (some 1) else (some 0)
set_option maxHeartbeats 8000000 in
set_option maxRecDepth 100000 in
theorem Gl.calls (a0:Bool) (r:Int) (w:World) (h:Gl.f a0=some r):
 Calls Tryz.prog 48 #[.bool a0] w λe w'=>e= .returned (.int .i64 r)/\Be w w':=by
 have H:(if a0=true then (some 1) else (some 0))=some r:=h;clear h;by_cases c2:a0=true
 ·subst c2;rw [if_pos rfl] at H;obtain rfl:=Option.some.inj H;go_enter Tryz.func48,Tryz.ntmps48;go_wp2;go_ret;exact ⟨xq,xd⟩
 ·replace c2:=Bool.eq_false_iff.mpr c2;subst c2;have H1:(some 0)=some r:=by rw [if_neg (show ¬(false=true) by decide)] at H;exact H
  clear H;have H:=H1;clear H1;obtain rfl:=Option.some.inj H;go_enter Tryz.func48,Tryz.ntmps48;go_wp2;go_ret;exact ⟨xq,xd⟩
def Da.f (a0_0:ByteArray) (a0_1:ByteArray) (a0_2:ByteArray) (a0_3:ByteArray) (a0_4:Int) (a0_5:Int) (a0_6:Int) (a0_7:Bool) (a0_8:Bool) (a0_9:Bool) (a0_10:Int):Option (ByteArray×ByteArray×ByteArray):=some (a0_0,a0_1,a0_2)
set_option maxHeartbeats 8000000 in
set_option maxRecDepth 100000 in
theorem Da.calls (a0_0:ByteArray) (a0_1:ByteArray) (a0_2:ByteArray) (a0_3:ByteArray) (a0_4:Int) (a0_5:Int) (a0_6:Int) (a0_7:Bool) (a0_8:Bool) (a0_9:Bool) (a0_10:Int) (r1:ByteArray) (r2:ByteArray) (r3:ByteArray) (w:World) (h:Da.f a0_0 a0_1 a0_2 a0_3 a0_4 a0_5 a0_6 a0_7 a0_8 a0_9 a0_10=some (r1,r2,r3)):
 Calls Tryz.prog 27 #[.agg #[.string a0_0, .string a0_1, .string a0_2, .string a0_3, .int .i64 a0_4, .int .i64 a0_5, .int .i64 a0_6, .bool a0_7, .bool a0_8, .bool a0_9, .int .i64 a0_10]] w λe w'=>e= .returned (.agg #[.string r1, .string r2, .string r3])/\Below w.heap.size w w':=by
 have hu43:=Tryz.underlying43;have hu46:=Tryz.underlying46;have HB:=AA.mk (Below.refl w.heap.size w);have H:(some (a0_0,a0_1,a0_2))=some (r1,r2,r3):=h;clear h;simp only [Option.some.injEq,Prod.mk.injEq] at H;obtain ⟨rfl,rfl,rfl⟩:=H;go_enter Tryz.func27,Tryz.ntmps27;go_wp2_with (first|(refine Cx (N:=1) (cs:=#[.string a0_0, .string a0_1, .string a0_2, .string a0_3, .int .i64 a0_4, .int .i64 a0_5, .int .i64 a0_6, .bool a0_7, .bool a0_8, .bool a0_9, .int .i64 a0_10]) (t:=43) (λgb111 hg w2 hbox hb=>?_);have BK111:=AA.mk (hbox);have GW111:AA (w.heap.size<=gb111):=Cm hg xb;have GE111:AA (w.heap.size<=gb111):=Cm hg xb;replace HB:=AA.mk (AL xb hb);clear hb hbox hg)|(refine Cx (N:=2) (cs:=#[.string (⟨#[]⟩:ByteArray), .string (⟨#[]⟩:ByteArray), .string (⟨#[]⟩:ByteArray)]) (t:=46) (λgb112 hg w3 hbox hb=>?_);have BK112:=AA.mk (hbox);have GW112:AA (w.heap.size<=gb112):=Cm hg xb;have GE112:AA (w.heap.size<=gb112):=Cm hg xb;replace HB:=AA.mk (AL xb hb);have NB111_112:=Dn hg (BF BK111);have NB112_111:=Dp hg (BF BK111);replace BK111:=Ac BK111 hb;clear hb hbox hg;have hnb4:=NB111_112.out;have hnc4:=NB112_111.out;obtain ⟨hcz5_0,hcz5_1,hcz5_2,hcz5_3,hcz5_4,hcz5_5,hcz5_6,hcz5_7,hcz5_8,hcz5_9,hcz5_10⟩:=Bg BK111.out;have hfz5_0:=AR BK111.out;obtain ⟨hcz6_0,hcz6_1,hcz6_2⟩:=cells3 BK112.out;have hfz6_0:=AR BK112.out));refine bodyPost_ret (results_cell_row rfl _ _ gb112 46 #[.string a0_0, .string a0_1, .string a0_2] (0,0) _ rfl xk Tryz.underlying46 rfl (by kernel_rfl)) rfl ?_;exact ⟨xe,xb⟩
def Ch.f (k:Nat) (a0_0:ByteArray) (a0_1:ByteArray) (a0_2:ByteArray) (a1_0:ByteArray) (a1_1:ByteArray) (a1_2:ByteArray):Option (Int):=(Cq.f a0_0 a1_0).bind λt115=>((Cq.f a0_1 a1_1).bind λt116=>((Cq.f a0_2 a1_2).bind λt117=>((Db.f k (([t115,t116,t117]:List Int))).bind λt121=>(some t121))))
def Ch.T1:Bool×List (List Nat×List Nat):=(true,[([],[]),([0],[0]),([],[]),([2],[2]),([1,3],[1,3]),([],[]),([5],[5]),([],[]),([7],[7]),([6,8,4],[6,8]),([],[]),([10],[10]),([],[]),([12],[12]),([11,13,9],[11,13]),([4,9,14],[4,9,14]),([15,14],[15]),([16,16,0,1,2,3,4,5,6,7,8,9,10,11,12,13,14,15,16],[16])])
def Ch.B1:List Nat:=[0,1,0,4,15,0,32,0,128,511,0,1024,0,4096,16383,32767,65535,131071]
theorem Ch.UH:FL .any (opsOf Tryz.f51 1)=Ch.T1:=by kernel_rfl
theorem Ch.Q6:EN Ch.T1.2 Ch.B1=true:=by kernel_rfl
set_option maxHeartbeats 8000000 in
set_option maxRecDepth 100000 in
theorem Ch.calls (k:Nat) (a0_0:ByteArray) (a0_1:ByteArray) (a0_2:ByteArray) (a1_0:ByteArray) (a1_1:ByteArray) (a1_2:ByteArray) (r:Int) (w:World) (h:Ch.f k a0_0 a0_1 a0_2 a1_0 a1_1 a1_2=some r):
 Calls Tryz.prog 51 #[.agg #[.string a0_0, .string a0_1, .string a0_2], .agg #[.string a1_0, .string a1_1, .string a1_2]] w λe w'=>e= .returned (.int .i64 r)/\Below w.heap.size w w':=by
 have hu46:=Tryz.underlying46;have HB:=AA.mk (Below.refl w.heap.size w);have H:((Cq.f a0_0 a1_0).bind λt115=>((Cq.f a0_1 a1_1).bind λt116=>((Cq.f a0_2 a1_2).bind λt117=>((Db.f k (([t115,t116,t117]:List Int))).bind λt121=>(some t121)))))=some r:=h;clear h;replace H:=Option.bind_eq_some_iff.mp H;obtain ⟨t115,A30,H⟩:=H;try dsimp only at H
 have A3:=AA.mk A30;clear A30;replace H:=Option.bind_eq_some_iff.mp H;obtain ⟨t116,A40,H⟩:=H;try dsimp only at H
 have A4:=AA.mk A40;clear A40;replace H:=Option.bind_eq_some_iff.mp H;obtain ⟨t117,A50,H⟩:=H;try dsimp only at H
 have A5:=AA.mk A50;clear A50;obtain ⟨y118,hy118⟩:∃ y_:List Int,y_=(([t115,t116,t117]:List Int)):=⟨_,rfl⟩;replace H:((Db.f k y118).bind λt121=>(some t121))=some r:=by first|(rw [hy118];with_reducible exact H)|(have H2_:=(Option.bind_some _ _).symm.trans H;rw [hy118];with_reducible exact H2_)|(have H2_:=(Option.bind_some _ _).symm.trans H;with_reducible exact H2_)|with_reducible exact H|(rw [hy118];exact H)|exact H
 have Ny118:=AA.mk hy118;clear hy118;replace H:=Option.bind_eq_some_iff.mp H;obtain ⟨t121,A60,H⟩:=H;try dsimp only at H
 have A6:=AA.mk A60;clear A60;obtain rfl:=Option.some.inj H;go_enter Tryz.func51,Tryz.ntmps51;try go_wp2_with (first|(refine Cx (N:=2) (cs:=#[.string a0_0, .string a0_1, .string a0_2]) (t:=46) (λgb113 hg w7 hbox hb=>?_);have BK113:=AA.mk (hbox);have GW113:AA (w.heap.size<=gb113):=Cm hg xb;have GE113:AA (w.heap.size<=gb113):=Cm hg xb;replace HB:=AA.mk (AL xb hb);clear hb hbox hg)|(refine Cx (N:=3) (cs:=#[.string a1_0, .string a1_1, .string a1_2]) (t:=46) (λgb114 hg w8 hbox hb=>?_);have BK114:=AA.mk (hbox);have GW114:AA (w.heap.size<=gb114):=Cm hg xb;have GE114:AA (w.heap.size<=gb114):=Cm hg xb;replace HB:=AA.mk (AL xb hb);have NB113_114:=Dn hg (BF BK113);have NB114_113:=Dp hg (BF BK113);replace BK113:=Ac BK113 hb;clear hb hbox hg))
 replace BK113:=AA.mk (BC BK113.out);replace BK114:=AA.mk (BC BK114.out);replace HB:=AA.mk (Bi HB.out);refine Dq (n:=18) (S:=λw'=>w'.cell? ⟨gb113,0,none⟩=some (.string a0_0)/\w'.cell? ⟨gb113,1,none⟩=some (.string a0_1)/\w'.cell? ⟨gb113,2,none⟩=some (.string a0_2)/\w'.cell? ⟨gb114,0,none⟩=some (.string a1_0)/\w'.cell? ⟨gb114,1,none⟩=some (.string a1_1)/\w'.cell? ⟨gb114,2,none⟩=some (.string a1_2)) (ds:=[]) (bm 18 0) (by kernel_rfl) rfl rfl ⟨(AP BK113.out 0).trans rfl,(AP BK113.out 1).trans rfl,(AP BK113.out 2).trans rfl,(AP BK114.out 0).trans rfl,(AP BK114.out 1).trans rfl,(AP BK114.out 2).trans rfl⟩ (λhHeld=>?_);refine DJ Ch.UH Ch.Q6 (λHT_ HW_=>?_);generalize w8.drew=w9 at BK113 BK114 HB hHeld⊢
 refine Af (i:=0) (N:=some 5) (bm 18 1) rfl rfl (AV HT_.out (by kernel_rfl)) (Or.inl ⟨by rfl,by intro w';go_simp;with_reducible rfl⟩) ?_;refine Af (i:=2) (N:=some 7) (bm 18 5) rfl rfl (AV HT_.out (by kernel_rfl)) (Or.inl ⟨by rfl,by intro w';go_simp;with_reducible rfl⟩) ?_;refine Af (i:=5) (N:=some 10) (bm 18 37) rfl rfl (AV HT_.out (by kernel_rfl)) (Or.inl ⟨by rfl,by intro w';go_simp;with_reducible rfl⟩) ?_;refine Af (i:=7) (N:=some 12) (bm 18 165) rfl rfl (AV HT_.out (by kernel_rfl)) (Or.inl ⟨by rfl,by intro w';go_simp;with_reducible rfl⟩) ?_;refine Af (i:=10) (N:=some 15) (bm 18 1189) rfl rfl (AV HT_.out (by kernel_rfl)) (Or.inl ⟨by rfl,by intro w';go_simp;with_reducible rfl⟩) ?_;refine Af (i:=12) (N:=some 17) (bm 18 5285) rfl rfl (AV HT_.out (by kernel_rfl)) (Or.inl ⟨by rfl,by intro w';go_simp;with_reducible rfl⟩) ?_;refine Cf (i:=1) (N:=some 6) (bm 18 5287) rfl rfl (BU HT_.out HW_.out (by kernel_rfl)) (Or.inl ⟨by rfl,by rintro w' ⟨s0,s1,s2,s3,s4,s5⟩;go_simp;with_reducible rfl⟩) hHeld ?_;refine Cf (i:=3) (N:=some 8) (bm 18 5295) rfl rfl (BU HT_.out HW_.out (by kernel_rfl)) (Or.inl ⟨by rfl,by rintro w' ⟨s0,s1,s2,s3,s4,s5⟩;go_simp;with_reducible rfl⟩) hHeld ?_;refine Cf (i:=6) (N:=some 11) (bm 18 5359) rfl rfl (BU HT_.out HW_.out (by kernel_rfl)) (Or.inl ⟨by rfl,by rintro w' ⟨s0,s1,s2,s3,s4,s5⟩;go_simp;with_reducible rfl⟩) hHeld ?_;refine Cf (i:=8) (N:=some 13) (bm 18 5615) rfl rfl (BU HT_.out HW_.out (by kernel_rfl)) (Or.inl ⟨by rfl,by rintro w' ⟨s0,s1,s2,s3,s4,s5⟩;go_simp;with_reducible rfl⟩) hHeld ?_;refine Cf (i:=11) (N:=some 16) (bm 18 7663) rfl rfl (BU HT_.out HW_.out (by kernel_rfl)) (Or.inl ⟨by rfl,by rintro w' ⟨s0,s1,s2,s3,s4,s5⟩;go_simp;with_reducible rfl⟩) hHeld ?_;refine Cf (i:=13) (N:=some 18) (bm 18 15855) rfl rfl (BU HT_.out HW_.out (by kernel_rfl)) (Or.inl ⟨by rfl,by rintro w' ⟨s0,s1,s2,s3,s4,s5⟩;go_simp;with_reducible rfl⟩) hHeld ?_;refine DK (i:=4) (N:=some 9) (bm 18 15871) rfl rfl (Bq HT_.out (by kernel_rfl)) (by decide) (λK hK=>?_);refine Cr Tryz.func53 (by kernel_rfl) rfl #[.string a0_0, .string a1_0] (by rfl) rfl rfl xg ?_;with_reducible refine (Cq.calls a0_0 a1_0 t115 _ A3.out).mono ?_
 rintro e w' ⟨rfl,⟨nd,rfl⟩⟩;refine ⟨_,rfl,?_⟩;refine hK.out _ _ xc (λhHeld=>?_);clear hK K;refine CF (some 9) rfl ?_;refine DK (i:=9) (N:=some 14) (bm 18 16383) rfl rfl (Bq HT_.out (by kernel_rfl)) (by decide) (λK hK=>?_);refine Cr Tryz.func53 (by kernel_rfl) rfl #[.string a0_1, .string a1_1] (by rfl) rfl rfl xg ?_;with_reducible refine (Cq.calls a0_1 a1_1 t116 _ A4.out).mono ?_
 rintro e w' ⟨rfl,⟨nd,rfl⟩⟩;refine ⟨_,rfl,?_⟩;refine hK.out _ _ xc (λhHeld=>?_);clear hK K;refine CF (some 14) rfl ?_;refine DK (i:=14) (N:=some 19) (bm 18 32767) rfl rfl (Bq HT_.out (by kernel_rfl)) (by decide) (λK hK=>?_);refine Cr Tryz.func53 (by kernel_rfl) rfl #[.string a0_2, .string a1_2] (by rfl) rfl rfl xg ?_;with_reducible refine (Cq.calls a0_2 a1_2 t117 _ A5.out).mono ?_
 rintro e w' ⟨rfl,⟨nd,rfl⟩⟩;refine ⟨_,rfl,?_⟩;refine hK.out _ _ xc (λhHeld=>?_);clear hK K;refine CF (some 19) rfl ?_;refine DK (i:=15) (N:=some 20) (bm 18 65535) rfl rfl (Bq HT_.out (by kernel_rfl)) (by decide) (λK hK=>?_);refine Kd.G5 (Kd.int .i64) _ 3 ?hg (N:=20) ?hd (xs:=([t115,t116,t117]:List Int)) (inner:=[.int .i64 t115, .int .i64 t116, .int .i64 t117]) (ok:=λ_=>True) (okp:=λ_=>True) ?hr ?hp (λ_ hk=>hk) trivial (Below.refl _ _) (Nat.le_refl _) (by simp) ?_;(case hd=>rfl);(case hg=>rfl);(case hr=>first|(go_simp;done)|(go_simp;rfl));(case hp=>exact (Cw.one (show Kd.M (Kd.int .i64) _ _ _ t115 [.int .i64 t115] from rfl) (Cw.one (show Kd.M (Kd.int .i64) _ _ _ t116 [.int .i64 t116] from rfl) (Cw.one (show Kd.M (Kd.int .i64) _ _ _ t117 [.int .i64 t117] from rfl) (Cw.none _ _)))));intro v119 w10 ho11 hb hg_ hnew_;clear hg_ hnew_;(first|rw [<-Ny118.out] at ho11|(simp only [Int.reduceToNat] at ho11;rw [<-Ny118.out] at ho11));have HO120:=AA.mk (Kd.Bz ho11 (Ag xb));replace BK113:=Ac BK113 hb;replace BK114:=Ac BK114 hb;replace HB:=AA.mk (AL xb hb);clear hb ho11;obtain ⟨Ao12,co12,eo12⟩:=Kd.BV HO120.out;(first|subst eo12|(injection eo12 with f1_ f2_ f3_;have f4_:=f1_.symm;have f5_:=f3_.symm;clear f1_ f2_ f3_;subst f4_;subst f5_));refine hK.out _ _ xc (λhHeld=>?_);clear hK K;refine CF (some 20) rfl ?_;refine DK (i:=16) (N:=some 21) (bm 18 131071) rfl rfl (Bq HT_.out (by kernel_rfl)) (by decide) (λK hK=>?_);refine Cr Tryz.func50 (by kernel_rfl) rfl #[.slice Ao12 y118.length co12] (by rfl) rfl rfl xg ?_;with_reducible refine (Db.calls k _ _ y118 t121 _ ?side1 ?side2 A6.out).mono ?_
 (case side1=>repeat (first|exact (Kd.AX HO120.out).2.2|(with_reducible refine Kd.Ap ?_ _)|(with_reducible refine Kd.Ar ?_ _)|(with_reducible refine Kd.BI ?_)))
 (case side2=>exact (Kd.AX HO120.out).2.1)
 rintro e w' ⟨rfl,⟨nd,rfl⟩⟩;refine ⟨_,rfl,?_⟩;refine hK.out _ _ xc (λhHeld=>?_);clear hK K;refine CF (some 21) rfl ?_;refine Af (i:=17) (N:=some 4) (bm 18 262143) rfl rfl (AV HT_.out (by kernel_rfl)) (Or.inl ⟨by rfl,by intro w';go_simp;with_reducible rfl⟩) ?_;refine EK (Du HT_.out (by kernel_rfl)) ?_;try go_wp2
 go_ret;exact ⟨xe,xb⟩
def cmp_Compare_int.f (a0:Int) (a1:Int):Option (Int):=(cmp_isNaN_int.f a0).bind λt122=>((cmp_isNaN_int.f a1).bind λt123=>(if t122=true then (if t123=true then (some 0) else (some (-1))) else (if t123=true then (some 1) else (if a0<a1 then (some (-1)) else (if a0>a1 then (some 1) else (some 0))))))
set_option maxHeartbeats 8000000 in
set_option maxRecDepth 100000 in
theorem cmp_Compare_int.calls (a0:Int) (a1:Int) (r:Int) (w:World) (h:cmp_Compare_int.f a0 a1=some r):
 Calls Tryz.prog 52 #[.int .i64 a0, .int .i64 a1] w λe w'=>e= .returned (.int .i64 r)/\Be w w':=by
 have H:((cmp_isNaN_int.f a0).bind λt122=>((cmp_isNaN_int.f a1).bind λt123=>(if t122=true then (if t123=true then (some 0) else (some (-1))) else (if t123=true then (some 1) else (if a0<a1 then (some (-1)) else (if a0>a1 then (some 1) else (some 0)))))))=some r:=h;clear h;replace H:=Option.bind_eq_some_iff.mp H;obtain ⟨t122,A30,H⟩:=H;try dsimp only at H
 have A3:=AA.mk A30;clear A30;replace H:=Option.bind_eq_some_iff.mp H;obtain ⟨t123,A40,H⟩:=H;try dsimp only at H
 have A4:=AA.mk A40;clear A40;by_cases c5:t122=true
 ·subst c5;rw [if_pos rfl] at H;by_cases c6:t123=true
  ·subst c6;rw [if_pos rfl] at H;obtain rfl:=Option.some.inj H;go_enter Tryz.func52,Tryz.ntmps52;go_wp2_with (first|((with_reducible refine AQ (f:=70) rfl ?_);refine XJ (some 8) rfl rfl Tryz.func70 (by kernel_rfl) rfl #[.int .i64 a0] rfl xg ?_;(with_reducible refine (cmp_isNaN_int.calls a0 true _ A3.out).mono ?_);rintro e w' ⟨rfl,⟨nd,rfl⟩⟩;refine ⟨_,rfl,?_⟩)|((with_reducible refine AQ (f:=70) rfl ?_);refine XJ (some 10) rfl rfl Tryz.func70 (by kernel_rfl) rfl #[.int .i64 a1] rfl xg ?_;(with_reducible refine (cmp_isNaN_int.calls a1 true _ A4.out).mono ?_);rintro e w' ⟨rfl,⟨nd,rfl⟩⟩;refine ⟨_,rfl,?_⟩));go_ret;exact ⟨xq,xd⟩
  ·replace c6:=Bool.eq_false_iff.mpr c6;subst c6;have H1:(some (-1))=some r:=by rw [if_neg (show ¬(false=true) by decide)] at H;exact H
   clear H;have H:=H1;clear H1;obtain rfl:=Option.some.inj H;go_enter Tryz.func52,Tryz.ntmps52;go_wp2_with (first|((with_reducible refine AQ (f:=70) rfl ?_);refine XJ (some 8) rfl rfl Tryz.func70 (by kernel_rfl) rfl #[.int .i64 a0] rfl xg ?_;(with_reducible refine (cmp_isNaN_int.calls a0 true _ A3.out).mono ?_);rintro e w' ⟨rfl,⟨nd,rfl⟩⟩;refine ⟨_,rfl,?_⟩)|((with_reducible refine AQ (f:=70) rfl ?_);refine XJ (some 10) rfl rfl Tryz.func70 (by kernel_rfl) rfl #[.int .i64 a1] rfl xg ?_;(with_reducible refine (cmp_isNaN_int.calls a1 false _ A4.out).mono ?_);rintro e w' ⟨rfl,⟨nd,rfl⟩⟩;refine ⟨_,rfl,?_⟩));go_ret;exact ⟨xq,xd⟩
 ·replace c5:=Bool.eq_false_iff.mpr c5;subst c5;have H1:(if t123=true then (some 1) else (if a0<a1 then (some (-1)) else (if a0>a1 then (some 1) else (some 0))))=some r:=by rw [if_neg (show ¬(false=true) by decide)] at H;exact H
  clear H;have H:=H1;clear H1;by_cases c7:t123=true
  ·subst c7;have H1:(some 1)=some r:=by rw [if_pos rfl] at H;exact H
   clear H;have H:=H1;clear H1;obtain rfl:=Option.some.inj H;go_enter Tryz.func52,Tryz.ntmps52;go_wp2_with (first|((with_reducible refine AQ (f:=70) rfl ?_);refine XJ (some 8) rfl rfl Tryz.func70 (by kernel_rfl) rfl #[.int .i64 a0] rfl xg ?_;(with_reducible refine (cmp_isNaN_int.calls a0 false _ A3.out).mono ?_);rintro e w' ⟨rfl,⟨nd,rfl⟩⟩;refine ⟨_,rfl,?_⟩)|((with_reducible refine AQ (f:=70) rfl ?_);refine XJ (some 10) rfl rfl Tryz.func70 (by kernel_rfl) rfl #[.int .i64 a1] rfl xg ?_;(with_reducible refine (cmp_isNaN_int.calls a1 true _ A4.out).mono ?_);rintro e w' ⟨rfl,⟨nd,rfl⟩⟩;refine ⟨_,rfl,?_⟩));go_ret;exact ⟨xq,xd⟩
  ·replace c7:=Bool.eq_false_iff.mpr c7;subst c7;have H1:(if a0<a1 then (some (-1)) else (if a0>a1 then (some 1) else (some 0)))=some r:=by rw [if_neg (show ¬(false=true) by decide)] at H;exact H
   clear H;have H:=H1;clear H1;by_cases c8:a0<a1
   ·rw [if_pos c8] at H;have c8b0:decide (a0<a1)=true:=decide_eq_true c8;clear c8;obtain rfl:=Option.some.inj H;go_enter Tryz.func52,Tryz.ntmps52;go_wp2_with (first|((with_reducible refine AQ (f:=70) rfl ?_);refine XJ (some 8) rfl rfl Tryz.func70 (by kernel_rfl) rfl #[.int .i64 a0] rfl xg ?_;(with_reducible refine (cmp_isNaN_int.calls a0 false _ A3.out).mono ?_);rintro e w' ⟨rfl,⟨nd,rfl⟩⟩;refine ⟨_,rfl,?_⟩)|((with_reducible refine AQ (f:=70) rfl ?_);refine XJ (some 10) rfl rfl Tryz.func70 (by kernel_rfl) rfl #[.int .i64 a1] rfl xg ?_;(with_reducible refine (cmp_isNaN_int.calls a1 false _ A4.out).mono ?_);rintro e w' ⟨rfl,⟨nd,rfl⟩⟩;refine ⟨_,rfl,?_⟩));go_ret;exact ⟨xq,xd⟩
   ·rw [if_neg c8] at H;have c8b0:decide (a0<a1)=false:=decide_eq_false c8;clear c8;by_cases c9:a0>a1
    ·rw [if_pos c9] at H;have c9b0:decide (a1<a0)=true:=decide_eq_true c9;clear c9;obtain rfl:=Option.some.inj H;go_enter Tryz.func52,Tryz.ntmps52;go_wp2_with (first|((with_reducible refine AQ (f:=70) rfl ?_);refine XJ (some 8) rfl rfl Tryz.func70 (by kernel_rfl) rfl #[.int .i64 a0] rfl xg ?_;(with_reducible refine (cmp_isNaN_int.calls a0 false _ A3.out).mono ?_);rintro e w' ⟨rfl,⟨nd,rfl⟩⟩;refine ⟨_,rfl,?_⟩)|((with_reducible refine AQ (f:=70) rfl ?_);refine XJ (some 10) rfl rfl Tryz.func70 (by kernel_rfl) rfl #[.int .i64 a1] rfl xg ?_;(with_reducible refine (cmp_isNaN_int.calls a1 false _ A4.out).mono ?_);rintro e w' ⟨rfl,⟨nd,rfl⟩⟩;refine ⟨_,rfl,?_⟩));go_ret;exact ⟨xq,xd⟩
    ·rw [if_neg c9] at H;have c9b0:decide (a1<a0)=false:=decide_eq_false c9;clear c9;obtain rfl:=Option.some.inj H;go_enter Tryz.func52,Tryz.ntmps52;go_wp2_with (first|((with_reducible refine AQ (f:=70) rfl ?_);refine XJ (some 8) rfl rfl Tryz.func70 (by kernel_rfl) rfl #[.int .i64 a0] rfl xg ?_;(with_reducible refine (cmp_isNaN_int.calls a0 false _ A3.out).mono ?_);rintro e w' ⟨rfl,⟨nd,rfl⟩⟩;refine ⟨_,rfl,?_⟩)|((with_reducible refine AQ (f:=70) rfl ?_);refine XJ (some 10) rfl rfl Tryz.func70 (by kernel_rfl) rfl #[.int .i64 a1] rfl xg ?_;(with_reducible refine (cmp_isNaN_int.calls a1 false _ A4.out).mono ?_);rintro e w' ⟨rfl,⟨nd,rfl⟩⟩;refine ⟨_,rfl,?_⟩));go_ret;exact ⟨xq,xd⟩
end Go.Proofs.YtohjohhcjcljoaaGreatDoor.CQ
end
section
namespace Go.Proofs.YtohjohhcjcljoaaGreatDoor.CQ
open RowKit Ak BR BS
attribute [local go_sem] DT DU Df Dh Cy Cz DV DW
set_option linter.unusedVariables false
set_option linter.unusedSimpArgs false
def CB.l0:Nat->List Int->List Int->List Int->Int->Int->Option (Int)
 |0,_,_,_,_,_=>none
 |k+1,x0,x1,x9,x10,x11=>if x11<x10 then (if 0<=x11 then (if x11<(x9.length:Int) then (if x11>=(x1.length:Int) then (some 1) else (if x11<(x1.length:Int) then ((cmp_Compare_int.f (rd x9 x11) (rd x1 x11)).bind λt126=>(if t126=0 then (CB.l0 k x0 x1 x9 x10 (wrap64 (x11+1))) else (some t126))) else (none))) else (none)) else (none)) else (if (x0.length:Int)<(x1.length:Int) then (some (-1)) else (some 0))
def CB.f (k:Nat) (l0:List Int) (l1:List Int):Option (Int):=CB.l0 k l0 l1 l0 (l0.length:Int) 0
set_option maxHeartbeats 8000000 in
set_option maxRecDepth 100000 in
theorem CB.calls (k:Nat) (A0:Option Addr) (c0:Nat) (l0:List Int) (A1:Option Addr) (c1:Nat) (l1:List Int) (r:Int) (w:World) (hr0:Kd.C (Kd.int .i64) w A0 l0.length l0) (hc0:l0.length<=c0) (hr1:Kd.C (Kd.int .i64) w A1 l1.length l1) (hc1:l1.length<=c1) (h:CB.f k l0 l1=some r):
 Calls Tryz.prog 54 #[.slice A0 l0.length c0, .slice A1 l1.length c1] w λe w'=>e= .returned (.int .i64 r)/\Be w w':=by
 have HR0:=AA.mk hr0;have HC0:=AA.mk hc0;clear hr0 hc0;have HR1:=AA.mk hr1;have HC1:=AA.mk hc1;clear hr1 hc1;have H:(CB.l0 k l0 l1 l0 (l0.length:Int) 0)=some r:=h;clear h;have H':=AA.mk H;clear H;go_enter Tryz.func54,Tryz.ntmps54;go_wp2;go_loopg [11] k (λkq v11 w'=>∃ (x11_1:Int),v11= .int .i64 x11_1/\AA (CB.l0 kq l0 l1 l0 (l0.length:Int) x11_1=some r)/\AA (kq<=k)/\Be w w');case atStart=>exact ⟨(0),xq,H',⟨Nat.le_refl _⟩,xd⟩
 case round=>
  clear H';try clear c1
  try clear p2
  obtain ⟨x11_1,rfl,HA,HK1,⟨m1,rfl⟩⟩:=hrel;cases gk with
  |zero=>exact absurd HA.out (by simp [CB.l0])
  |succ k1=>
   have H:=HA.out;clear HA;simp only [CB.l0] at H;by_cases c3:x11_1<(l0.length:Int)
   ·rw [if_pos c3] at H;have c3b0:decide (x11_1<(l0.length:Int))=true:=decide_eq_true c3;clear c3;by_cases c4:0<=x11_1
    ·rw [if_pos c4] at H;have c4b0:decide (0<=x11_1)=true:=decide_eq_true c4;clear c4;by_cases c5:x11_1<(l0.length:Int)
     ·rw [if_pos c5] at H;have c5b0:decide (x11_1<(l0.length:Int))=true:=decide_eq_true c5;clear c5;by_cases c6:x11_1>=(l1.length:Int)
      ·rw [if_pos c6] at H;have c6b0:decide ((l1.length:Int)<=x11_1)=true:=decide_eq_true c6;clear c6;obtain rfl:=Option.some.inj H;have p124:0<=(x11_1:Int):=xa;have q124:x11_1<(l0.length:Int):=xa;obtain ⟨ad124,e124,hx124_0⟩:=Kd.Ht HR0.out x11_1 p124 q124;cases e124;replace p124:=eq_true p124;replace q124:=eq_true q124;go_wp2;go_ret;exact ⟨xq,xd⟩
      ·rw [if_neg c6] at H;have c6b0:decide ((l1.length:Int)<=x11_1)=false:=decide_eq_false c6;clear c6;by_cases c7:x11_1<(l1.length:Int)
       ·rw [if_pos c7] at H;have c7b0:decide (x11_1<(l1.length:Int))=true:=decide_eq_true c7;clear c7;replace H:=Option.bind_eq_some_iff.mp H;obtain ⟨t126,A80,H⟩:=H;replace H:(if t126=0 then (CB.l0 k1 l0 l1 l0 (l0.length:Int) (wrap64 (x11_1+1))) else (some t126))=some r:=H;have A8:=AA.mk A80;clear A80;by_cases c9:t126=0
        ·rw [if_pos c9] at H;have c9b0:(t126==0)=true:=beq_iff_eq.mpr c9;have c9b1:(t126 != 0)=false:=bne_eq_false_iff_eq.mpr c9;clear c9;have H':=AA.mk H;clear H;have p124:0<=(x11_1:Int):=xa;have q124:x11_1<(l0.length:Int):=xa;obtain ⟨ad124,e124,hx124_0⟩:=Kd.Ht HR0.out x11_1 p124 q124;cases e124;replace p124:=eq_true p124;replace q124:=eq_true q124;have p125:0<=(x11_1:Int):=xa;have q125:x11_1<(l1.length:Int):=xa;obtain ⟨ad125,e125,hx125_0⟩:=Kd.Ht HR1.out x11_1 p125 q125;cases e125;replace p125:=eq_true p125;replace q125:=eq_true q125;go_wp2_with (first|((with_reducible refine AQ (f:=52) rfl ?_);refine XJ (some 26) rfl rfl Tryz.func52 (by kernel_rfl) rfl #[.int .i64 (rd l0 x11_1), .int .i64 (rd l1 x11_1)] rfl xg ?_;(with_reducible refine (cmp_Compare_int.calls (rd l0 x11_1) (rd l1 x11_1) t126 _ A8.out).mono ?_);rintro e w' ⟨rfl,⟨nd,rfl⟩⟩;refine ⟨_,rfl,?_⟩));go_roundg k1;case measure=>have:=HK1.out;omega
         case rel=>exact ⟨(wrap64 (x11_1+1)),xq,H',⟨by have:=HK1.out;omega⟩,xd⟩
        ·rw [if_neg c9] at H;have c9b0:(t126==0)=false:=beq_eq_false_iff_ne.mpr c9;have c9b1:(t126 != 0)=true:=bne_iff_ne.mpr c9;obtain rfl:=Option.some.inj H;have p124:0<=(x11_1:Int):=xa;have q124:x11_1<(l0.length:Int):=xa;obtain ⟨ad124,e124,hx124_0⟩:=Kd.Ht HR0.out x11_1 p124 q124;cases e124;replace p124:=eq_true p124;replace q124:=eq_true q124;have p125:0<=(x11_1:Int):=xa;have q125:x11_1<(l1.length:Int):=xa;obtain ⟨ad125,e125,hx125_0⟩:=Kd.Ht HR1.out x11_1 p125 q125;cases e125;replace p125:=eq_true p125;replace q125:=eq_true q125;go_wp2_with (first|((with_reducible refine AQ (f:=52) rfl ?_);refine XJ (some 26) rfl rfl Tryz.func52 (by kernel_rfl) rfl #[.int .i64 (rd l0 x11_1), .int .i64 (rd l1 x11_1)] rfl xg ?_;(with_reducible refine (cmp_Compare_int.calls (rd l0 x11_1) (rd l1 x11_1) t126 _ A8.out).mono ?_);rintro e w' ⟨rfl,⟨nd,rfl⟩⟩;refine ⟨_,rfl,?_⟩));go_ret;exact ⟨xq,xd⟩
       ·rw [if_neg c7] at H;exact absurd H (by simp)
     ·rw [if_neg c5] at H;exact absurd H (by simp)
    ·rw [if_neg c4] at H;exact absurd H (by simp)
   ·rw [if_neg c3] at H;have c3b0:decide (x11_1<(l0.length:Int))=false:=decide_eq_false c3;clear c3;by_cases c10:(l0.length:Int)<(l1.length:Int)
    ·rw [if_pos c10] at H;have c10b0:decide ((l0.length:Int)<(l1.length:Int))=true:=decide_eq_true c10;have c10b1:decide (l0.length<l1.length)=true:=decide_eq_true (Int.ofNat_lt.mp c10);clear c10;obtain rfl:=Option.some.inj H;go_wp2;go_ret;exact ⟨xq,xd⟩
    ·rw [if_neg c10] at H;have c10b0:decide ((l0.length:Int)<(l1.length:Int))=false:=decide_eq_false c10;have c10b1:decide (l0.length<l1.length)=false:=decide_eq_false (λh=>c10 (Int.ofNat_lt.mpr h));clear c10;obtain rfl:=Option.some.inj H;go_wp2;go_ret;exact ⟨xq,xd⟩
end Go.Proofs.YtohjohhcjcljoaaGreatDoor.CQ
end
section
namespace Go.Proofs.YtohjohhcjcljoaaGreatDoor.CQ
open RowKit Ak BR BS
attribute [local go_sem] DT DU Df Dh Cy Cz DV DW
set_option linter.unusedVariables false
set_option linter.unusedSimpArgs false
end Go.Proofs.YtohjohhcjcljoaaGreatDoor.CQ
end
