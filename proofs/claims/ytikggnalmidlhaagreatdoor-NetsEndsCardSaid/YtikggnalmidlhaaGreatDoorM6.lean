/- Several parts of the claim's proof in one text, said short by a program of this session. No condition. -/
import Derived.Test.YtikggnalmidlhaaGreatDoorGcookie
import Derived.Test.YtikggnalmidlhaaGreatDoorYa
import Derived.OwnWalkIn
import Derived.TacticsInMore
import Derived.LoopNIn
import Derived.LoopIn
import Derived.Shelf.RegionOpen
import Derived.Lib.Strings
import Derived.Lib.Slices
import Derived.Lib.Walk
import Derived.Lib.Builder
import Derived.Lib.UnsafeStr
import Derived.Laws.Externs
import Derived.Shelf.RegionOpenPlain
import Derived.Shelf.Strings.BuilderX
section
namespace Go.Proofs.YtikggnalmidlhaaGreatDoor.Print
open RowKit Y AR Aa Ad
set_option linter.unusedVariables false
set_option linter.unusedSimpArgs false
def Fv (a b:ByteArray):Int:=if Op.bytesLess a.toList b.toList=true then -1 else if Op.bytesLess b.toList a.toList=true then 1 else 0
def UX:List Int->Int
 |[]=>0
 |x::l=>if x=0 then UX l else x
def JF (a0 a1 a2 b0 b1 b2:ByteArray):Int:=UX [Fv a0 b0,Fv a1 b1,Fv a2 b2]
theorem TU (a b:ByteArray):Ct.CB.f a b=some (Fv a b):=by
 unfold Ct.CB.f Ct.cmp_isNaN_string.f Fv;simp only [bne_self_eq_false,Option.bind_some,if_neg (show ¬(false=true) by decide)];split
 ·rfl
 ·split<;>rfl
theorem RU {l:List Int} {i:Nat} {c:Int} {r:List Int} (h:l.drop i=c::r):rd l (i:Int)=c:=by
 unfold rd;have:=congrArg (λx=>x[0]?) h;simp only [List.getElem?_drop,Nat.add_zero,List.getElem?_cons_zero] at this;rw [Int.toNat_natCast,List.getD_eq_getElem?_getD,this];rfl
theorem MF (l:List Int) {i:Nat} (h:i<=l.length):(i=l.length/\l.drop i=[])\/(∃ c,i<l.length/\l.drop i=c::l.drop (i+1)):=by
 rcases Nat.lt_or_ge i l.length with h1|h1
 ·exact .inr ⟨l[i],h1,List.drop_eq_getElem_cons h1⟩
 ·exact .inl ⟨by omega,List.drop_eq_nil_of_le h1⟩
theorem RV (l:List Int) (hl:l.length<=4294967296) (d:Nat):∀ i:Nat,i+d=l.length->Ev (λk=>Ct.Ci.l0 k 0 l (l.length:Int) i) (UX (l.drop i)):=by
 induction d with
 |zero=>
  intro i hi;apply BB;simp only [Ct.Ci.l0];exact Ah (by omega) (BG (Am _) (by rw [List.drop_eq_nil_of_le (by omega)];rfl))
 |succ d ih=>
  intro i hi;apply BB;simp only [Ct.Ci.l0];have hw:wrap64 ((i:Int)+1)=((i+1:Nat):Int):=by rw [KD (by omega) (by omega)];omega
  rw [hw];refine AU (by omega) (AU (by omega) (AU (by omega) ?_));rcases MF l (i:=i) (by omega) with ⟨h1,_⟩|⟨c,h1,h2⟩
  ·omega
  ·rw [RU h2,h2,UX];by_cases hc:c=0
   ·rw [if_pos hc];exact AU hc (ih (i+1) (by omega))
   ·rw [if_neg hc];exact Ah hc (Am _)
theorem Ud {l:List Int} (hl:l.length<=4294967296):Ev (λk=>Ct.Ci.f k l) (UX l):=by
 have:=RV l hl l.length 0 (by omega);simpa [Ct.Ci.f] using this
theorem TV (a0 a1 a2 b0 b1 b2:ByteArray):Ev (λk=>Ct.CP.f k a0 a1 a2 b0 b1 b2) (JF a0 a1 a2 b0 b1 b2):=by
 simp only [Ct.CP.f,TU,Option.bind_some];exact BL (Ud (by simp)) (Am _)
theorem TW (a0 a1 a2 b0 b1 b2:ByteArray):∃ k,Ct.CP.f k a0 a1 a2 b0 b1 b2=some (JF a0 a1 a2 b0 b1 b2):=(TV a0 a1 a2 b0 b1 b2).rounds
end Go.Proofs.YtikggnalmidlhaaGreatDoor.Print
end
section
namespace Go.Proofs.YtikggnalmidlhaaGreatDoor.Print
open RowKit AR Aa Ad
set_option linter.unusedVariables false
set_option linter.unusedSimpArgs false
def Cy.f (a:Int):Option Bool:=some (Ga a)
set_option maxHeartbeats 4000000 in
theorem Cy.calls (a:Int) (r:Bool) (w:World) (h:Cy.f a=some r):Calls Tryz.prog 121 #[.int .u8 a] w λe w'=>e= .returned (.bool r)/\Ap w w':=by
 obtain rfl:=Option.some.inj h;have hc:(65<=a/\a<=90)\/(97<=a/\a<=122)\/(48<=a/\a<=57)\/(a=33)\/(35<=a/\a<=39)\/(a=42)\/(a=43)\/(a=45)\/(a=46)\/(94<=a/\a<=96)\/(a=124)\/(a=126)\/(a<33)\/(a=34)\/(40<=a/\a<=41)\/(a=44)\/(a=47)\/(58<=a/\a<=64)\/(91<=a/\a<=93)\/(a=123)\/(a=125)\/(126<a):=by omega
 rcases hc with hc|hc|hc|hc|hc|hc|hc|hc|hc|hc|hc|hc|hc|hc|hc|hc|hc|hc|hc|hc|hc|hc
 all_goals
  first|have hv:Ga a=true:=(by unfold Ga;simp;omega)|have hv:Ga a=false:=(by unfold Ga;simp;omega)
  have HV:=AA.mk hv;clear hv;first|have t1:decide (65<=a)=true:=decide_eq_true (by omega)|have t1:decide (65<=a)=false:=decide_eq_false (by omega)
  first|have t2:decide (a<=90)=true:=decide_eq_true (by omega)|have t2:decide (a<=90)=false:=decide_eq_false (by omega)
  first|have t3:decide (97<=a)=true:=decide_eq_true (by omega)|have t3:decide (97<=a)=false:=decide_eq_false (by omega)
  first|have t4:decide (a<=122)=true:=decide_eq_true (by omega)|have t4:decide (a<=122)=false:=decide_eq_false (by omega)
  first|have t5:decide (48<=a)=true:=decide_eq_true (by omega)|have t5:decide (48<=a)=false:=decide_eq_false (by omega)
  first|have t6:decide (a<=57)=true:=decide_eq_true (by omega)|have t6:decide (a<=57)=false:=decide_eq_false (by omega)
  first|have t7:decide (35<=a)=true:=decide_eq_true (by omega)|have t7:decide (35<=a)=false:=decide_eq_false (by omega)
  first|have t8:decide (a<=39)=true:=decide_eq_true (by omega)|have t8:decide (a<=39)=false:=decide_eq_false (by omega)
  first|have t9:decide (94<=a)=true:=decide_eq_true (by omega)|have t9:decide (94<=a)=false:=decide_eq_false (by omega)
  first|have t10:decide (a<=96)=true:=decide_eq_true (by omega)|have t10:decide (a<=96)=false:=decide_eq_false (by omega)
  (first|(have t11:(a==33)=true:=beq_iff_eq.mpr (by omega);have s11:(a != 33)=false:=bne_eq_false_iff_eq.mpr (by omega))|(have t11:(a==33)=false:=beq_eq_false_iff_ne.mpr (by omega);have s11:(a != 33)=true:=bne_iff_ne.mpr (by omega)));(first|(have t12:(a==42)=true:=beq_iff_eq.mpr (by omega);have s12:(a != 42)=false:=bne_eq_false_iff_eq.mpr (by omega))|(have t12:(a==42)=false:=beq_eq_false_iff_ne.mpr (by omega);have s12:(a != 42)=true:=bne_iff_ne.mpr (by omega)));(first|(have t13:(a==43)=true:=beq_iff_eq.mpr (by omega);have s13:(a != 43)=false:=bne_eq_false_iff_eq.mpr (by omega))|(have t13:(a==43)=false:=beq_eq_false_iff_ne.mpr (by omega);have s13:(a != 43)=true:=bne_iff_ne.mpr (by omega)));(first|(have t14:(a==45)=true:=beq_iff_eq.mpr (by omega);have s14:(a != 45)=false:=bne_eq_false_iff_eq.mpr (by omega))|(have t14:(a==45)=false:=beq_eq_false_iff_ne.mpr (by omega);have s14:(a != 45)=true:=bne_iff_ne.mpr (by omega)));(first|(have t15:(a==46)=true:=beq_iff_eq.mpr (by omega);have s15:(a != 46)=false:=bne_eq_false_iff_eq.mpr (by omega))|(have t15:(a==46)=false:=beq_eq_false_iff_ne.mpr (by omega);have s15:(a != 46)=true:=bne_iff_ne.mpr (by omega)));(first|(have t16:(a==124)=true:=beq_iff_eq.mpr (by omega);have s16:(a != 124)=false:=bne_eq_false_iff_eq.mpr (by omega))|(have t16:(a==124)=false:=beq_eq_false_iff_ne.mpr (by omega);have s16:(a != 124)=true:=bne_iff_ne.mpr (by omega)));(first|(have t17:(a==126)=true:=beq_iff_eq.mpr (by omega);have s17:(a != 126)=false:=bne_eq_false_iff_eq.mpr (by omega))|(have t17:(a==126)=false:=beq_eq_false_iff_ne.mpr (by omega);have s17:(a != 126)=true:=bne_iff_ne.mpr (by omega)));clear hc;go_enter Tryz.func121,Tryz.ntmps121;go_wp2;go_ret;exact ⟨by rw [HV.out];rfl,by repeat (first|exact Ap.refl _|apply Ap.step)⟩
def Cr.f (a:Int):Option Bool:=some (Gb a)
set_option maxHeartbeats 4000000 in
theorem Cr.calls (a:Int) (r:Bool) (w:World) (h:Cr.f a=some r):Calls Tryz.prog 122 #[.int .u8 a] w λe w'=>e= .returned (.bool r)/\Ap w w':=by
 obtain rfl:=Option.some.inj h;have hc:(a=33)\/(35<=a/\a<=43)\/(45<=a/\a<=58)\/(60<=a/\a<=91)\/(93<=a/\a<=126)\/(a<33)\/(a=34)\/(a=44)\/(a=59)\/(a=92)\/(126<a):=by omega
 rcases hc with hc|hc|hc|hc|hc|hc|hc|hc|hc|hc|hc
 all_goals
  first|have hv:Gb a=true:=(by unfold Gb;simp;omega)|have hv:Gb a=false:=(by unfold Gb;simp;omega)
  have HV:=AA.mk hv;clear hv;(first|(have t1:(a==33)=true:=beq_iff_eq.mpr (by omega);have s1:(a != 33)=false:=bne_eq_false_iff_eq.mpr (by omega))|(have t1:(a==33)=false:=beq_eq_false_iff_ne.mpr (by omega);have s1:(a != 33)=true:=bne_iff_ne.mpr (by omega)));first|have t2:decide (35<=a)=true:=decide_eq_true (by omega)|have t2:decide (35<=a)=false:=decide_eq_false (by omega)
  first|have t3:decide (a<=43)=true:=decide_eq_true (by omega)|have t3:decide (a<=43)=false:=decide_eq_false (by omega)
  first|have t4:decide (45<=a)=true:=decide_eq_true (by omega)|have t4:decide (45<=a)=false:=decide_eq_false (by omega)
  first|have t5:decide (a<=58)=true:=decide_eq_true (by omega)|have t5:decide (a<=58)=false:=decide_eq_false (by omega)
  first|have t6:decide (60<=a)=true:=decide_eq_true (by omega)|have t6:decide (60<=a)=false:=decide_eq_false (by omega)
  first|have t7:decide (a<=91)=true:=decide_eq_true (by omega)|have t7:decide (a<=91)=false:=decide_eq_false (by omega)
  first|have t8:decide (93<=a)=true:=decide_eq_true (by omega)|have t8:decide (93<=a)=false:=decide_eq_false (by omega)
  first|have t9:decide (a<=126)=true:=decide_eq_true (by omega)|have t9:decide (a<=126)=false:=decide_eq_false (by omega)
  clear hc;go_enter Tryz.func122,Tryz.ntmps122;go_wp2;go_ret;exact ⟨by rw [HV.out];rfl,by repeat (first|exact Ap.refl _|apply Ap.step)⟩
end Go.Proofs.YtikggnalmidlhaaGreatDoor.Print
end
section
namespace Go.Proofs.YtikggnalmidlhaaGreatDoor.Print
open RowKit AR Aa Ad
attribute [local go_sem] BM BN Bo Bp BC BD BO BP
set_option linter.unusedVariables false
set_option linter.unusedSimpArgs false
def QD:Option Int->Value
 |none=> .nilIface
 |some c=> .iface 0 (.int .i64 c)
theorem LH (x:List UInt8):∀ y:List UInt8,(!(Op.bytesLess x y||x==y))=Op.bytesLess y x:=by
 induction x with
 |nil=>intro y;cases y<;>simp [Op.bytesLess]
 |cons a x ih=>
  intro y;cases y with
  |nil=>simp [Op.bytesLess]
  |cons b y=>
   have h:=ih y;have e1:(a==b)=decide (a.toNat=b.toNat):=by rw [Bool.eq_iff_iff,beq_iff_eq,decide_eq_true_iff,UInt8.toNat_inj]
   have e2:(b==a)=decide (b.toNat=a.toNat):=by rw [Bool.eq_iff_iff,beq_iff_eq,decide_eq_true_iff,UInt8.toNat_inj]
   have l1:decide (a<b)=decide (a.toNat<b.toNat):=by rw [Bool.eq_iff_iff,decide_eq_true_iff,decide_eq_true_iff,UInt8.lt_iff_toNat_lt]
   have l2:decide (b<a)=decide (b.toNat<a.toNat):=by rw [Bool.eq_iff_iff,decide_eq_true_iff,decide_eq_true_iff,UInt8.lt_iff_toNat_lt]
   simp only [Op.bytesLess,List.cons_beq_cons,e1,e2,l1,l2];rw [<-h];generalize Op.bytesLess x y=p;generalize (x==y)=q;rcases Nat.lt_trichotomy a.toNat b.toNat with t|t|t
   ·rw [decide_eq_true t,decide_eq_false (show ¬b.toNat<a.toNat by omega),decide_eq_false (show ¬b.toNat=a.toNat by omega)];simp
   ·rw [decide_eq_false (show ¬a.toNat<b.toNat by omega),decide_eq_false (show ¬b.toNat<a.toNat by omega),decide_eq_true t,decide_eq_true t.symm];cases p<;>cases q<;>rfl
   ·rw [decide_eq_true t,decide_eq_false (show ¬a.toNat<b.toNat by omega),decide_eq_false (show ¬a.toNat=b.toNat by omega)];simp
theorem QE {P:Program} (t:TypeId) (x y:ByteArray) (W:World):(binOp .gtr t (.string x) (.string y)).run P W= .ok (.bool (Op.bytesLess y.toList x.toList)) W:=by
 rw [show binOp .gtr t (.string x) (.string y)=pure (.bool !(Op.bytesLess x.toList y.toList||x.toList==y.toList)) by simp [binOp,Op.stringOp],LH];rfl
theorem LJ (n:Int):IntKind.u64.wrap n=n%18446744073709551616:=by simp [IntKind.wrap,IntKind.bits,IntKind.signed]
theorem NU (n:Int):IntKind.u32.wrap n=n%4294967296:=by simp [IntKind.wrap,IntKind.bits,IntKind.signed]
theorem QF (n:Int):IntKind.u8.wrap n=n%256:=by simp [IntKind.wrap,IntKind.bits,IntKind.signed]
theorem NV {w:World} {g b i:Nat} {o:Obj} (h:w.heap[g]? =some o) (hp:AA (g≠b)) (u:Value):(w.setCell ⟨b,i,none⟩ u).heap[g]? =some o:=(Below.heap_setCell w ⟨b,i,none⟩ u g hp.out).trans h
theorem xk {P:Prop} (h:P:=by (repeat (first|(with_reducible first|refine Ea ?_ _|refine CX ?_|refine EZ ?_ _|refine NV ?_ (by with_reducible assumption) _|apply OX)));(exact AA.out (by with_reducible assumption));all_goals (first|(simp only [List.setIfInBounds_toArray,List.set_cons_zero,List.set_cons_succ];done)|(simp only [List.setIfInBounds_toArray,List.set_cons_zero,List.set_cons_succ];rfl)|rfl)):P:=h
theorem xb {P:Prop} (h:P:=by repeat (first|(with_reducible first|exact HB.out|apply Bj|apply Bw|apply CK|refine Kn ?_ (AA.out (by with_reducible assumption)))|exact HB.out)):P:=h
theorem xg {P:Prop} (h:P:=by (try simp only [List.map_toArray,List.map_cons,List.map_nil]);first|done|rfl|(simp only [List.length_drop,List.length_take];rfl)|((try simp [Act.eval])<;>(try simp only [LJ,NU,QF,wrap64,wrap32])<;>omega)):P:=h
theorem GJ {w:World} {g i:Nat} {t:TypeId} {cs:Array Value} {v:Value} (h:w.heap[g]? =some (.cells cs t (0,0))) (e:cs[i]? =some v):w.cell? ⟨g,i,none⟩=some v:=(AL h i).trans e
theorem xc {P:Prop} (h:P:=by (repeat' apply And.intro)<;>(apply GJ;(repeat (with_reducible first|refine Ea ?_ _|refine CX ?_|refine EZ ?_ _));(exact AA.out (by with_reducible assumption));rfl)):P:=h
theorem Bt {w0 w w1:World} {g:Nat} {o:Obj} (_:AA (w0.heap[g]? =some o)) (hb:Below w.heap.size w w1) (h:w.heap[g]? =some o:=by (repeat (first|(with_reducible first|refine Ea ?_ _|refine CX ?_|refine EZ ?_ _|refine NV ?_ (by with_reducible assumption) _)));exact AA.out (by with_reducible assumption)):AA (w1.heap[g]? =some o):=⟨DV h hb⟩
theorem Cz {w0 w:World} {g:Nat} {o:Obj} (_:AA (w0.heap[g]? =some o)) (h:w.heap[g]? =some o:=by (repeat (first|(with_reducible first|refine Ea ?_ _|refine CX ?_|refine EZ ?_ _|refine NV ?_ (by with_reducible assumption) _)));exact AA.out (by with_reducible assumption)):g<w.heap.size:=Gj h
theorem cells3 {w:World} {g:Nat} {t:TypeId} {v0 v1 v2:Value} (h:w.heap[g]? =some (.cells #[v0,v1,v2] t (0,0))):w.cell? ⟨g,0,none⟩=some v0/\w.cell? ⟨g,1,none⟩=some v1/\w.cell? ⟨g,2,none⟩=some v2:=⟨(AL h 0).trans rfl,(AL h 1).trans rfl,(AL h 2).trans rfl⟩
theorem Bv {w:World} {g:Nat} {t:TypeId} {v0 v1 v2 v3 v4 v5 v6 v7 v8 v9 v10:Value} (h:w.heap[g]? =some (.cells #[v0,v1,v2,v3,v4,v5,v6,v7,v8,v9,v10] t (0,0))):w.cell? ⟨g,0,none⟩=some v0/\w.cell? ⟨g,1,none⟩=some v1/\w.cell? ⟨g,2,none⟩=some v2/\w.cell? ⟨g,3,none⟩=some v3/\w.cell? ⟨g,4,none⟩=some v4/\w.cell? ⟨g,5,none⟩=some v5/\w.cell? ⟨g,6,none⟩=some v6/\w.cell? ⟨g,7,none⟩=some v7/\w.cell? ⟨g,8,none⟩=some v8/\w.cell? ⟨g,9,none⟩=some v9/\w.cell? ⟨g,10,none⟩=some v10:=⟨(AL h 0).trans rfl,(AL h 1).trans rfl,(AL h 2).trans rfl,(AL h 3).trans rfl,(AL h 4).trans rfl,(AL h 5).trans rfl,(AL h 6).trans rfl,(AL h 7).trans rfl,(AL h 8).trans rfl,(AL h 9).trans rfl,(AL h 10).trans rfl⟩
theorem JG (a:Array UInt8):(ByteArray.mk a).size=a.size:=rfl
def bl:Nat->Nat->List Bool
 |0,_=>[]
 |n+1,k=>(k%2==1)::bl n (k/2)
def bm (n k:Nat):Array Bool:=⟨bl n k⟩
theorem xl {P:Prop} (h:P:=by exact AA.mk (by first|exact hG.out|((with_reducible repeat (first|apply Ck.drewN|apply Ck.drew|apply Ck.alloc));exact hG.out)|exact Ck.below hG.out xb)):P:=h
theorem G9 {g g' n:Nat} (hg:g'=n) (h:g<n):AA (g≠g'):=⟨by rw [hg];exact Nat.ne_of_lt h⟩
theorem HZ {g g' n:Nat} (hg:g'=n) (h:g<n):AA (g'≠g):=⟨by rw [hg];exact Nat.ne_of_gt h⟩
theorem Dp {w W:World} {g:Nat} (hg:g=W.heap.size) (h:Below w.heap.size w W):AA (w.heap.size<=g):=⟨by rw [hg];exact BF h⟩
theorem xq {P:Prop} (h:P:=by first|rfl|(simp;done)|(simp [*];done)):P:=h
theorem xd {P:Prop} (h:P:=by repeat (first|exact Ap.refl _|apply Ap.step)):P:=h
theorem xe {P:Prop} (h:P:=by first|rfl|(simp [Fx,Fy]<;>rfl)|(simp [*,Fx,Fy]<;>rfl)):P:=h
theorem xa {p:Prop} [Decidable p] (h:decide p=true:=by first|(with_reducible assumption)|assumption):p:=of_decide_eq_true h
theorem xR {P Q:Prop} (h0:AA P) (h:P->Q:=by intro hq_;(with_reducible repeat (first|apply Kd.Bd|apply Kd.Be|apply Kd.Bl));exact hq_):Q:=h h0.out
theorem xV {P Q:Prop} (h0:AA P) (h:P->Q:=by intro hq_;(with_reducible repeat (first|apply Kd.Og|apply Kd.Oh|apply Kd.Ht));exact hq_):Q:=h h0.out
theorem xN {P Q:Prop} (h0:AA P) (h:P->Q:=by intro hq_;(with_reducible repeat (first|apply Kd.Ob|apply Kd.Oc|apply Kd.Qa));exact hq_):Q:=h h0.out
section
variable {P:Program} {ops:Array Oper} {rest:List Oper} {o:Oper} {a:Act} {Q:Exit->Act->World->Prop} {Kc:Act->World->Prop} {S:World->Prop} {ds:List Nat} {md:Region.Mode}
theorem Dk {W:World} {N:Tmp} {cs:Array Value} {t:TypeId} (h:∀ g,g=W.heap.size->∀ w1,w1.heap[g]? =some (.cells cs t (0,0))->Below W.heap.size W w1->wpList P ops Q rest (a.put o.dst (.pointer (some ⟨g,0,none⟩))) w1) (hd:o.dst=some N:=by with_reducible rfl) (hg:o.guard=none:=by rfl)
 (hr:(execOp a.eval o).run P W= .ok (.value (.pointer (some ⟨W.heap.size,0,none⟩))) (W.alloc (.cells cs t (0,0))):=by first|(go_simp;done)|(go_simp;rfl)):wpList P ops Q (o::rest) a W:=Ij hg hd hr h
theorem Ay {i:Nat} {N:Option Tmp} {oi:Oper} {v:Value} {fuel:Nat} {l:Array Bool} {a a':Act} {w:World} (l':Array Bool) (hi:ops[i]? =some oi) (hN:oi.dst=N) (hc:O9 md ops l l' i=true) (hy:Yields P ops oi v a) (h:BZ P md ops Q S ds fuel l' a' w)
 (hQ:∀ c a w,Q (.panic c) (a.put oi.dst v) w->Q (.panic c) a w:=by exact λ_ _ _ h=>h) (ha:a.put N v=a':=by simp only [Act.put,List.setIfInBounds_toArray,List.set_cons_zero,List.set_cons_succ,DL,DU];rfl):BZ P md ops Q S ds (fuel+1) l a w:=Gh l' hi hN hc hQ hy ha h
theorem Cn {i:Nat} {N:Option Tmp} {oi:Oper} {v:Value} {fuel:Nat} {l:Array Bool} {a a':Act} {w:World} (l':Array Bool) (hi:ops[i]? =some oi) (hN:oi.dst=N) (hc:takeB md ops ds l l' i=true) (hy:YieldsIf P ops S oi v a) (hS:S w) (h:BZ P md ops Q S ds fuel l' a' w)
 (hQ:∀ c a w,Q (.panic c) (a.put oi.dst v) w->Q (.panic c) a w:=by exact λ_ _ _ h=>h) (ha:a.put N v=a':=by simp only [Act.put,List.setIfInBounds_toArray,List.set_cons_zero,List.set_cons_succ,DL,DU];rfl):BZ P md ops Q S ds (fuel+1) l a w:=OT l' hi hN hc hQ hy hS ha h
theorem DK {fuel:Nat} {l:Array Bool} {a a':Act} {w:World} {v:Value} {d:Option Tmp} (N:Option Tmp) (hN:d=N) (h:BZ P md ops Q S ds fuel l a' w) (ha:a.put N v=a':=by simp only [Act.put,List.setIfInBounds_toArray,List.set_cons_zero,List.set_cons_succ,DL,DU];rfl):BZ P md ops Q S ds fuel l (a.put d v) w:=by subst hN;subst ha;exact h
end
theorem Fx:QD none= .nilIface:=rfl
theorem Fy (c:Int):QD (some c)= .iface 0 (.int .i64 c):=rfl
theorem QG:(Tryz.prog.info? 9).map (λi=>(i.zero,i.size,i.bytes))=some (some (.string ⟨#[]⟩),1,16):=by kernel_rfl
theorem Ia:(Tryz.prog.info? 53).map (λi=>(i.zero,i.size,i.bytes))=some (some (.agg #[(.string ⟨#[]⟩),(.string ⟨#[]⟩),(.string ⟨#[]⟩),(.string ⟨#[]⟩),(.int .i64 0),(.int .i64 0),(.int .i64 0),(.bool false),(.bool false),(.bool false),(.int .i64 0)]),11,104):=by kernel_rfl
theorem Ib:(Tryz.prog.info? 98).map (λi=>(i.zero,i.size,i.bytes))=some (some (.agg #[(.string ⟨#[]⟩),(.string ⟨#[]⟩),(.string ⟨#[]⟩),(.string ⟨#[]⟩),(.string ⟨#[]⟩),(.string ⟨#[]⟩),(.string ⟨#[]⟩),(.int .i64 0),(.int .i64 0),(.int .i64 0),(.bool false),(.bool false),(.bool false),(.int .i64 0)]),14,152):=by kernel_rfl
structure VY where
 f0:Int
 f1:Int
 f2:Int
structure Ic where
 f0:ByteArray
 f1:ByteArray
 f2:ByteArray
def z69:Ic:=⟨(⟨#[]⟩:ByteArray),(⟨#[]⟩:ByteArray),(⟨#[]⟩:ByteArray)⟩
def VE:Kd Ic:=Kd.VH (Kd.pair Kd.string (Kd.pair Kd.string Kd.string)) (λx:Ic=>(x.f0,x.f1,x.f2))
theorem QH {w:World} {x:Ic} {cs:List Value} (h:VE.K w x cs):cs=[.string x.f0, .string x.f1, .string x.f2]:=by
 obtain ⟨_,_,rfl,rfl,⟨_,_,rfl,rfl,rfl⟩⟩:=h;exact rfl
theorem Rh (w:World) (base:Nat) (ok:Nat->Prop) (x:Ic):VE.M w base ok x [.string x.f0, .string x.f1, .string x.f2]:=⟨[.string x.f0],[.string x.f1, .string x.f2],rfl,rfl,⟨[.string x.f1],[.string x.f2],rfl,rfl,rfl⟩⟩
structure CU where
 f0:ByteArray
 f1:ByteArray
 f2:ByteArray
 f3:ByteArray
 f4:Int
 f5:Int
 f6:Int
 f7:Bool
 f8:Bool
 f9:Bool
 f10:Int
def z53:CU:=⟨(⟨#[]⟩:ByteArray),(⟨#[]⟩:ByteArray),(⟨#[]⟩:ByteArray),(⟨#[]⟩:ByteArray),(0:Int),(0:Int),(0:Int),false,false,false,(0:Int)⟩
def Fu:Kd CU:=Kd.VH (Kd.pair Kd.string (Kd.pair Kd.string (Kd.pair Kd.string (Kd.pair Kd.string (Kd.pair (Kd.int .i64) (Kd.pair (Kd.int .i64) (Kd.pair (Kd.int .i64) (Kd.pair Kd.bool (Kd.pair Kd.bool (Kd.pair Kd.bool (Kd.int .i64))))))))))) (λx:CU=>(x.f0,x.f1,x.f2,x.f3,x.f4,x.f5,x.f6,x.f7,x.f8,x.f9,x.f10))
theorem MO {w:World} {x:CU} {cs:List Value} (h:Fu.K w x cs):cs=[.string x.f0, .string x.f1, .string x.f2, .string x.f3, .int .i64 x.f4, .int .i64 x.f5, .int .i64 x.f6, .bool x.f7, .bool x.f8, .bool x.f9, .int .i64 x.f10]:=by
 obtain ⟨_,_,rfl,rfl,⟨_,_,rfl,rfl,⟨_,_,rfl,rfl,⟨_,_,rfl,rfl,⟨_,_,rfl,rfl,⟨_,_,rfl,rfl,⟨_,_,rfl,rfl,⟨_,_,rfl,rfl,⟨_,_,rfl,rfl,⟨_,_,rfl,rfl,rfl⟩⟩⟩⟩⟩⟩⟩⟩⟩⟩:=h;exact rfl
theorem Tg (w:World) (x:CU):Fu.K w x [.string x.f0, .string x.f1, .string x.f2, .string x.f3, .int .i64 x.f4, .int .i64 x.f5, .int .i64 x.f6, .bool x.f7, .bool x.f8, .bool x.f9, .int .i64 x.f10]:=⟨[.string x.f0],[.string x.f1, .string x.f2, .string x.f3, .int .i64 x.f4, .int .i64 x.f5, .int .i64 x.f6, .bool x.f7, .bool x.f8, .bool x.f9, .int .i64 x.f10],rfl,rfl,⟨[.string x.f1],[.string x.f2, .string x.f3, .int .i64 x.f4, .int .i64 x.f5, .int .i64 x.f6, .bool x.f7, .bool x.f8, .bool x.f9, .int .i64 x.f10],rfl,rfl,⟨[.string x.f2],[.string x.f3, .int .i64 x.f4, .int .i64 x.f5, .int .i64 x.f6, .bool x.f7, .bool x.f8, .bool x.f9, .int .i64 x.f10],rfl,rfl,⟨[.string x.f3],[.int .i64 x.f4, .int .i64 x.f5, .int .i64 x.f6, .bool x.f7, .bool x.f8, .bool x.f9, .int .i64 x.f10],rfl,rfl,⟨[.int .i64 x.f4],[.int .i64 x.f5, .int .i64 x.f6, .bool x.f7, .bool x.f8, .bool x.f9, .int .i64 x.f10],rfl,rfl,⟨[.int .i64 x.f5],[.int .i64 x.f6, .bool x.f7, .bool x.f8, .bool x.f9, .int .i64 x.f10],rfl,rfl,⟨[.int .i64 x.f6],[.bool x.f7, .bool x.f8, .bool x.f9, .int .i64 x.f10],rfl,rfl,⟨[.bool x.f7],[.bool x.f8, .bool x.f9, .int .i64 x.f10],rfl,rfl,⟨[.bool x.f8],[.bool x.f9, .int .i64 x.f10],rfl,rfl,⟨[.bool x.f9],[.int .i64 x.f10],rfl,rfl,rfl⟩⟩⟩⟩⟩⟩⟩⟩⟩⟩
theorem Er (w:World) (base:Nat) (ok:Nat->Prop) (x:CU):Fu.M w base ok x [.string x.f0, .string x.f1, .string x.f2, .string x.f3, .int .i64 x.f4, .int .i64 x.f5, .int .i64 x.f6, .bool x.f7, .bool x.f8, .bool x.f9, .int .i64 x.f10]:=⟨[.string x.f0],[.string x.f1, .string x.f2, .string x.f3, .int .i64 x.f4, .int .i64 x.f5, .int .i64 x.f6, .bool x.f7, .bool x.f8, .bool x.f9, .int .i64 x.f10],rfl,rfl,⟨[.string x.f1],[.string x.f2, .string x.f3, .int .i64 x.f4, .int .i64 x.f5, .int .i64 x.f6, .bool x.f7, .bool x.f8, .bool x.f9, .int .i64 x.f10],rfl,rfl,⟨[.string x.f2],[.string x.f3, .int .i64 x.f4, .int .i64 x.f5, .int .i64 x.f6, .bool x.f7, .bool x.f8, .bool x.f9, .int .i64 x.f10],rfl,rfl,⟨[.string x.f3],[.int .i64 x.f4, .int .i64 x.f5, .int .i64 x.f6, .bool x.f7, .bool x.f8, .bool x.f9, .int .i64 x.f10],rfl,rfl,⟨[.int .i64 x.f4],[.int .i64 x.f5, .int .i64 x.f6, .bool x.f7, .bool x.f8, .bool x.f9, .int .i64 x.f10],rfl,rfl,⟨[.int .i64 x.f5],[.int .i64 x.f6, .bool x.f7, .bool x.f8, .bool x.f9, .int .i64 x.f10],rfl,rfl,⟨[.int .i64 x.f6],[.bool x.f7, .bool x.f8, .bool x.f9, .int .i64 x.f10],rfl,rfl,⟨[.bool x.f7],[.bool x.f8, .bool x.f9, .int .i64 x.f10],rfl,rfl,⟨[.bool x.f8],[.bool x.f9, .int .i64 x.f10],rfl,rfl,⟨[.bool x.f9],[.int .i64 x.f10],rfl,rfl,rfl⟩⟩⟩⟩⟩⟩⟩⟩⟩⟩
def AB (xs:List CU) (i:Int):CU:=xs.getD i.toNat z53
theorem Ce {w:World} {A:Option Addr} {n:Nat} {xs:List CU} (h:Kd.C Fu w A n xs) (i:Int) (h0:0<=i) (h1:i<n):∃ ad,A=some ad/\w.cell? (ad.add (i.toNat*11))=some (.string (AB xs i).f0)/\w.cell? ⟨(ad.add (i.toNat*11)).block,(ad.add (i.toNat*11)).off+1,none⟩=some (.string (AB xs i).f1)/\w.cell? ⟨(ad.add (i.toNat*11)).block,(ad.add (i.toNat*11)).off+2,none⟩=some (.string (AB xs i).f2)/\w.cell? ⟨(ad.add (i.toNat*11)).block,(ad.add (i.toNat*11)).off+3,none⟩=some (.string (AB xs i).f3)/\w.cell? ⟨(ad.add (i.toNat*11)).block,(ad.add (i.toNat*11)).off+4,none⟩=some (.int .i64 (AB xs i).f4)/\w.cell? ⟨(ad.add (i.toNat*11)).block,(ad.add (i.toNat*11)).off+5,none⟩=some (.int .i64 (AB xs i).f5)/\w.cell? ⟨(ad.add (i.toNat*11)).block,(ad.add (i.toNat*11)).off+6,none⟩=some (.int .i64 (AB xs i).f6)/\w.cell? ⟨(ad.add (i.toNat*11)).block,(ad.add (i.toNat*11)).off+7,none⟩=some (.bool (AB xs i).f7)/\w.cell? ⟨(ad.add (i.toNat*11)).block,(ad.add (i.toNat*11)).off+8,none⟩=some (.bool (AB xs i).f8)/\w.cell? ⟨(ad.add (i.toNat*11)).block,(ad.add (i.toNat*11)).off+9,none⟩=some (.bool (AB xs i).f9)/\w.cell? ⟨(ad.add (i.toNat*11)).block,(ad.add (i.toNat*11)).off+10,none⟩=some (.int .i64 (AB xs i).f10):=by
 obtain ⟨ad,c,e,_,hK,hc0⟩:=Kd.QR h z53 i h0 h1;have hc:∀ j u,c[j]? =some u->w.cell? (ad.add (i.toNat*11+j))=some u:=hc0;obtain rfl:=MO hK;exact ⟨ad,e,hc 0 _ rfl,by rw [<-Cc _ _ 1 (by omega)];exact hc 1 _ rfl,by rw [<-Cc _ _ 2 (by omega)];exact hc 2 _ rfl,by rw [<-Cc _ _ 3 (by omega)];exact hc 3 _ rfl,by rw [<-Cc _ _ 4 (by omega)];exact hc 4 _ rfl,by rw [<-Cc _ _ 5 (by omega)];exact hc 5 _ rfl,by rw [<-Cc _ _ 6 (by omega)];exact hc 6 _ rfl,by rw [<-Cc _ _ 7 (by omega)];exact hc 7 _ rfl,by rw [<-Cc _ _ 8 (by omega)];exact hc 8 _ rfl,by rw [<-Cc _ _ 9 (by omega)];exact hc 9 _ rfl,by rw [<-Cc _ _ 10 (by omega)];exact hc 10 _ rfl⟩
structure Cj where
 f0:Ic
 f1:CU
def TD:Cj:=⟨z69,z53⟩
def Ex:Kd Cj:=Kd.VH (Kd.pair VE Fu) (λx:Cj=>(x.f0,x.f1))
theorem QI {w:World} {x:Cj} {cs:List Value} (h:Ex.K w x cs):cs=[.string x.f0.f0, .string x.f0.f1, .string x.f0.f2, .string x.f1.f0, .string x.f1.f1, .string x.f1.f2, .string x.f1.f3, .int .i64 x.f1.f4, .int .i64 x.f1.f5, .int .i64 x.f1.f6, .bool x.f1.f7, .bool x.f1.f8, .bool x.f1.f9, .int .i64 x.f1.f10]:=by
 obtain ⟨_,_,rfl,s0,s3⟩:=h;obtain rfl:=QH s0;obtain rfl:=MO s3;exact rfl
theorem OP (w:World) (base:Nat) (ok:Nat->Prop) (x:Cj):Ex.M w base ok x [.string x.f0.f0, .string x.f0.f1, .string x.f0.f2, .string x.f1.f0, .string x.f1.f1, .string x.f1.f2, .string x.f1.f3, .int .i64 x.f1.f4, .int .i64 x.f1.f5, .int .i64 x.f1.f6, .bool x.f1.f7, .bool x.f1.f8, .bool x.f1.f9, .int .i64 x.f1.f10]:=⟨[.string x.f0.f0, .string x.f0.f1, .string x.f0.f2],[.string x.f1.f0, .string x.f1.f1, .string x.f1.f2, .string x.f1.f3, .int .i64 x.f1.f4, .int .i64 x.f1.f5, .int .i64 x.f1.f6, .bool x.f1.f7, .bool x.f1.f8, .bool x.f1.f9, .int .i64 x.f1.f10],rfl,(Rh w base ok x.f0),(Er w base ok x.f1)⟩
def Ag (xs:List Cj) (i:Int):Cj:=xs.getD i.toNat TD
theorem NW {w:World} {A:Option Addr} {n:Nat} {xs:List Cj} (h:Kd.C Ex w A n xs) (i:Int) (h0:0<=i) (h1:i<n):∃ ad,A=some ad/\w.cell? (ad.add (i.toNat*14))=some (.string (Ag xs i).f0.f0)/\w.cell? ⟨(ad.add (i.toNat*14)).block,(ad.add (i.toNat*14)).off+1,none⟩=some (.string (Ag xs i).f0.f1)/\w.cell? ⟨(ad.add (i.toNat*14)).block,(ad.add (i.toNat*14)).off+2,none⟩=some (.string (Ag xs i).f0.f2)/\w.cell? ⟨(ad.add (i.toNat*14)).block,(ad.add (i.toNat*14)).off+3,none⟩=some (.string (Ag xs i).f1.f0)/\w.cell? ⟨(ad.add (i.toNat*14)).block,(ad.add (i.toNat*14)).off+4,none⟩=some (.string (Ag xs i).f1.f1)/\w.cell? ⟨(ad.add (i.toNat*14)).block,(ad.add (i.toNat*14)).off+5,none⟩=some (.string (Ag xs i).f1.f2)/\w.cell? ⟨(ad.add (i.toNat*14)).block,(ad.add (i.toNat*14)).off+6,none⟩=some (.string (Ag xs i).f1.f3)/\w.cell? ⟨(ad.add (i.toNat*14)).block,(ad.add (i.toNat*14)).off+7,none⟩=some (.int .i64 (Ag xs i).f1.f4)/\w.cell? ⟨(ad.add (i.toNat*14)).block,(ad.add (i.toNat*14)).off+8,none⟩=some (.int .i64 (Ag xs i).f1.f5)/\w.cell? ⟨(ad.add (i.toNat*14)).block,(ad.add (i.toNat*14)).off+9,none⟩=some (.int .i64 (Ag xs i).f1.f6)/\w.cell? ⟨(ad.add (i.toNat*14)).block,(ad.add (i.toNat*14)).off+10,none⟩=some (.bool (Ag xs i).f1.f7)/\w.cell? ⟨(ad.add (i.toNat*14)).block,(ad.add (i.toNat*14)).off+11,none⟩=some (.bool (Ag xs i).f1.f8)/\w.cell? ⟨(ad.add (i.toNat*14)).block,(ad.add (i.toNat*14)).off+12,none⟩=some (.bool (Ag xs i).f1.f9)/\w.cell? ⟨(ad.add (i.toNat*14)).block,(ad.add (i.toNat*14)).off+13,none⟩=some (.int .i64 (Ag xs i).f1.f10):=by
 obtain ⟨ad,c,e,_,hK,hc0⟩:=Kd.QR h TD i h0 h1;have hc:∀ j u,c[j]? =some u->w.cell? (ad.add (i.toNat*14+j))=some u:=hc0;obtain rfl:=QI hK;exact ⟨ad,e,hc 0 _ rfl,by rw [<-Cc _ _ 1 (by omega)];exact hc 1 _ rfl,by rw [<-Cc _ _ 2 (by omega)];exact hc 2 _ rfl,by rw [<-Cc _ _ 3 (by omega)];exact hc 3 _ rfl,by rw [<-Cc _ _ 4 (by omega)];exact hc 4 _ rfl,by rw [<-Cc _ _ 5 (by omega)];exact hc 5 _ rfl,by rw [<-Cc _ _ 6 (by omega)];exact hc 6 _ rfl,by rw [<-Cc _ _ 7 (by omega)];exact hc 7 _ rfl,by rw [<-Cc _ _ 8 (by omega)];exact hc 8 _ rfl,by rw [<-Cc _ _ 9 (by omega)];exact hc 9 _ rfl,by rw [<-Cc _ _ 10 (by omega)];exact hc 10 _ rfl,by rw [<-Cc _ _ 11 (by omega)];exact hc 11 _ rfl,by rw [<-Cc _ _ 12 (by omega)];exact hc 12 _ rfl,by rw [<-Cc _ _ 13 (by omega)];exact hc 13 _ rfl⟩
def FB (xs:List (List Cj)) (i:Int):(List Cj):=xs.getD i.toNat ([]:List Cj)
theorem TE {w:World} {A:Option Addr} {n:Nat} {xs:List (List Cj)} (h:Kd.C (Kd.slice 98 Ex) w A n xs) (i:Int) (h0:0<=i) (h1:i<n):∃ ad A0 c0,A=some ad/\w.cell? (ad.add i.toNat)=some (.slice A0 (FB xs i).length c0)/\(FB xs i).length<=c0/\Ex.C w A0 (FB xs i).length (FB xs i):=by
 obtain ⟨ad,c,e,_,hK,hc0⟩:=Kd.QR h ([]:List Cj) i h0 h1;have hc:∀ j u,c[j]? =some u->w.cell? (ad.add (i.toNat*1+j))=some u:=hc0;obtain ⟨A0,c0,rfl,l0,g0⟩:=hK;exact ⟨ad,A0,c0,e,by have hq:=hc 0 _ rfl;rwa [Nat.mul_one,Nat.add_zero] at hq,l0,g0⟩
structure VQ where
 f0:(List Cj)
def z25:VQ:=⟨([]:List Cj)⟩
structure VU where
 f0:VQ
structure VZ where
 f0:VU
end Go.Proofs.YtikggnalmidlhaaGreatDoor.Print
end
section
namespace Go.Proofs.YtikggnalmidlhaaGreatDoor.Print
open RowKit AR Aa Ad Range
set_option linter.unusedVariables false
set_option linter.unusedSimpArgs false
attribute [local go_sem] Oper.semAt_some
def IQ (x:Cj):Array Value:=#[.agg #[.string x.f0.f0, .string x.f0.f1, .string x.f0.f2], .agg #[.string x.f1.f0, .string x.f1.f1, .string x.f1.f2, .string x.f1.f3, .int .i64 x.f1.f4, .int .i64 x.f1.f5, .int .i64 x.f1.f6, .bool x.f1.f7, .bool x.f1.f8, .bool x.f1.f9, .int .i64 x.f1.f10]]
def rowsOf (l:List Cj):List (Array Value):=l.map λx=>IQ x
set_option maxHeartbeats 4000000 in
set_option maxRecDepth 100000 in
theorem KX (A0:Option Addr) (c0:Nat) (l:List Cj) (w0 w:World) (n:Nat) (hr:Kd.C Ex w0 A0 l.length l) (hc:l.length<=c0) (hn:l.length<=4611686018427387903) (hb:Below w0.heap.size w0 w):
 TC Tryz.prog n 40 #[.agg #[.slice A0 l.length c0]] (rowsOf l) w0.heap.size w:=by
 intro lp J Jx W hW hJ hJx hY h0;have hlen:(rowsOf l).length=l.length:=by simp [rowsOf]
 have hu25:=Tryz.underlying23;have hu27:=Tryz.underlying25;have huK:=Tryz.underlying69;have huC:=Tryz.underlying53;have hu65:=Tryz.underlying98;have HB:=hb.trans (hW.mono hb.size);refine callsIn_of_wp Tryz.func40 rfl trivial ?_ rfl;simp only [Tryz.ntmps40,List.size_toArray,List.length_cons,List.length_nil,Nat.reduceAdd,Nat.reduceSub,Array.replicate_succ,Array.replicate_zero,List.push_toArray,List.append_toArray,List.nil_append,List.cons_append]
 gi_wp2
 gi_loopw [9] (λi wr=>∃ k:Nat,k<=l.length/\i= .int .i64 k/\J k wr/\Below w0.heap.size w0 wr) (λi _=>l.length - (intOf i).toNat)
 case atStart=>exact ⟨0,Nat.zero_le _,rfl,hJ _ _ _ h0 (World.grownBy_alloc _ _ _),HB.alloc HB.size _⟩
 case round=>
  obtain ⟨k,hk,rfl,hJs,hB⟩:=hrel;by_cases hlt:k<l.length
  ·have e1:decide ((k:Int)<(l.length:Int))=true:=decide_eq_true (by omega);have e1b:decide (k<l.length)=true:=decide_eq_true hlt;obtain ⟨ad,rfl,hh0,hh1,hh2,hh3,hh4,hh5,hh6,hh7,hh8,hh9,hh10,hh11,hh12,hh13⟩:=NW (Kd.DW hr hB) (k:Int) (by omega) (by omega);have p1:=eq_true (show 0<=(k:Int) by omega);have q1:=eq_true (show (k:Int)<(l.length:Int) by omega);rw [Int.toNat_natCast] at hh0 hh1 hh2 hh3 hh4 hh5 hh6 hh7 hh8 hh9 hh10 hh11 hh12 hh13;obtain ⟨fn,tmps,assign,body,hy,hR⟩:=hY k #[.agg #[.string (Ag l (k:Int)).f0.f0, .string (Ag l (k:Int)).f0.f1, .string (Ag l (k:Int)).f0.f2], .agg #[.string (Ag l (k:Int)).f1.f0, .string (Ag l (k:Int)).f1.f1, .string (Ag l (k:Int)).f1.f2, .string (Ag l (k:Int)).f1.f3, .int .i64 (Ag l (k:Int)).f1.f4, .int .i64 (Ag l (k:Int)).f1.f5, .int .i64 (Ag l (k:Int)).f1.f6, .bool (Ag l (k:Int)).f1.f7, .bool (Ag l (k:Int)).f1.f8, .bool (Ag l (k:Int)).f1.f9, .int .i64 (Ag l (k:Int)).f1.f10]] (wr.alloc (.cells #[.string (Ag l (k:Int)).f0.f0, .string (Ag l (k:Int)).f0.f1, .string (Ag l (k:Int)).f0.f2, .string (Ag l (k:Int)).f1.f0, .string (Ag l (k:Int)).f1.f1, .string (Ag l (k:Int)).f1.f2, .string (Ag l (k:Int)).f1.f3, .int .i64 (Ag l (k:Int)).f1.f4, .int .i64 (Ag l (k:Int)).f1.f5, .int .i64 (Ag l (k:Int)).f1.f6, .bool (Ag l (k:Int)).f1.f7, .bool (Ag l (k:Int)).f1.f8, .bool (Ag l (k:Int)).f1.f9, .int .i64 (Ag l (k:Int)).f1.f10] 98)) (by simp [rowsOf,IQ,Ag,List.getElem?_eq_getElem hlt]) (hJ _ _ _ hJs (World.grownBy_alloc _ _ _))
   gi_wp2
   refine ⟨λh=>by simp [Fence.wide] at h,hR.mono ?_⟩;rintro e W3 (⟨rfl,hJ3,hk3⟩|⟨rfl,hJx3⟩)
   ·gi_wp2
    go_roundw;case rel=>exact ⟨k+1,by omega,by first|rfl|simp|(rw [show wrap64 ((k:Int)+1)=((k+1:Nat):Int) by unfold wrap64;omega]),hJ3,(hB.alloc hB.size _).trans hk3⟩
    case measure=>
     show l.length - (((k:Int)+1)).toNat<l.length - ((k:Int)).toNat;omega
   ·gi_wp2
    refine bodyPost_ret (results_none rfl _ _ _) rfl ?_;exact ⟨⟨_,rfl⟩, .inr ⟨k,by omega,hJx3⟩⟩
  ·obtain rfl:k=l.length:=by omega
   have e1:decide ((l.length:Int)<(l.length:Int))=false:=decide_eq_false (by omega);have e1b:decide (l.length<l.length)=false:=decide_eq_false hlt
   gi_wp2
   go_end0;exact ⟨⟨_,rfl⟩, .inl (hlen▸hJs)⟩
end Go.Proofs.YtikggnalmidlhaaGreatDoor.Print
end
section
namespace Go.Proofs.YtikggnalmidlhaaGreatDoor.Print
open RowKit Shelf AR Aa Ad
set_option linter.unusedVariables false
set_option linter.unusedSimpArgs false
theorem N8:(Tryz.prog.info? 5).map (λi=>(i.zero,i.size,i.bytes))=some (some (.int .u8 0),1,1):=by kernel_rfl
theorem RN:(Tryz.prog.info? 78).map (·.size)=some 2:=by kernel_rfl
set_option maxHeartbeats 1000000 in
set_option maxRecDepth 100000 in
theorem KY (B b:Nat) (bs:List Value) (w:World) (h:Lib.IsBuilder 78 5 B b bs w):
 Calls Tryz.prog 78 #[.pointer (some ⟨b,0,none⟩)] w λe w'=>e= .returned (.tuple #[])/\(Lib.BuilderAt 78 5 B b (.pointer (some ⟨b,0,none⟩)) bs w'/\Below B w w'):=by
 obtain ⟨j,hj,hjs⟩:=Option.map_eq_some_iff.1 RN;have u1:=Tryz.underlying78;have u2:=Tryz.underlying75;have u3:=Tryz.underlying128;have u4:=Tryz.underlying4;rcases h with h|h
 ·have h0:=h.cell0;have hsh:=h.shape;have hfz:=h.frozen0;go_enter Tryz.func78,Tryz.ntmps78;go_wp2;rw [Lib.run_to_unsafe w ⟨b,0,none⟩ u2 u3 hj (by rw [hjs];decide) hsh (Nat.zero_lt_succ 1)];simp only [Result.andThen];rw [Oper.upon_value];go_wp2;rw [run_callFunc_extern Tryz.func113 (by kernel_rfl) (by kernel_rfl) (by kernel_rfl) (e:=Extern.AbiNoEscape.same) (by kernel_rfl)];rw [Lib.run_noEscape];simp only [Result.andThen];rw [Oper.upon_value];go_wp2;rw [Lib.run_from_unsafe w ⟨b,0,none⟩ u3 u2 hj hsh (by kernel_rfl)];simp only [Result.andThen];rw [Oper.upon_value];go_wp2;go_end0;exact ⟨rfl,h.used _,(Below.refl B w).setCell (p:=⟨b,0,none⟩) h.1 _⟩
 ·have h0:=h.cell0;go_enter Tryz.func78,Tryz.ntmps78;go_wp2;rw [Lib.run_neq_ptr_same w _ u2 hj];go_wp2;go_end0;exact ⟨rfl,h,Below.refl B _⟩
set_option maxHeartbeats 2000000 in
set_option maxRecDepth 100000 in
theorem Ps (B b:Nat) (bs:List Value) (c:Int) (w:World) (h:Lib.IsBuilder 78 5 B b bs w) (hlen:bs.length+1<=140737488355328) (hBw:B<=w.heap.size):
 Calls Tryz.prog 47 #[.pointer (some ⟨b,0,none⟩), .int .u8 c] w λe w'=>e= .returned .nilIface/\(Lib.BuilderAt 78 5 B b (.pointer (some ⟨b,0,none⟩)) (bs++[.int .u8 c]) w'/\Below B w w'):=by
 obtain ⟨i0,hi,hz0,hz1,hz2⟩:=info_parts N8;have u1:=Tryz.underlying78;have u2:=Tryz.underlying75;have u5:=Tryz.underlying76;have u6:=Tryz.underlying5;go_enter Tryz.func47,Tryz.ntmps47;go_wp2_with (go_at_call 78;refine (KY B b bs _ h).mono ?_);rintro e w1 ⟨rfl,⟨hB,v,hbk,hown,hne⟩,hb1⟩;have c0:w1.cell? ⟨b,0,none⟩=some (.pointer (some ⟨b,0,none⟩)):=by rw [Lib.cell_of_heap hbk];rfl
 have c1:w1.cell? ⟨b,1,none⟩=some v:=by rw [Lib.cell_of_heap hbk];rfl
 go_wp2_with (at_builtin;refine wpList_append_own _ rfl _ _ 76 rfl B 5 i0 (.int .u8 0) 1 1 u5 hi hz0 hz1 hz2 rfl (by decide) _ _ _ rfl (hown.alloc _) ⟨w1.heap.size,0,none⟩ 1 1 [.int .u8 c] rfl rfl ?c1 ?c2 ?c3 ?c4 ?c5 ?_);case c1=>
  intro j u hj
  match j,hj with
  |0,hj=>simp at hj;subst hj;simp [Addr.add]
 case c2=>intro u hu;simp at hu;subst hu;rfl
 case c3=>unfold maxLen;omega
 case c4=>omega
 case c5=>have:=hb1.size;simp;omega
 intro v' w2 hown' hgrow _;have hlt:b<w1.heap.size:=(Array.getElem?_eq_some_iff.1 hbk).1;have hb2:w2.heap[b]? =some (.cells #[.pointer (some ⟨b,0,none⟩),v] 78 (0,0)):=by
  rw [hgrow.block b (by simp;omega) (λe=>hne e.symm),Lib.alloc_old w1 _ b hlt];exact hbk
 have d0:w2.cell? ⟨b,0,none⟩=some (.pointer (some ⟨b,0,none⟩)):=by rw [Lib.cell_of_heap hb2];rfl
 have d1:w2.cell? ⟨b,1,none⟩=some v:=by rw [Lib.cell_of_heap hb2];rfl
 have f1:w2.frozen? ⟨b,1,none⟩=false:=Lib.frozen_of_heap hb2 1;obtain ⟨g,cap,rfl⟩:∃ g cap,v'= .slice (some ⟨g,0,none⟩) (bs.length+1) cap:=by
  rcases hown'.2 with ⟨_,h0⟩|⟨g,cap,cur,hv,_⟩
  ·omega
  ·exact ⟨g,cap,hv⟩
 go_wp2;go_ret;refine ⟨rfl,?_,?_⟩
 ·exact Lib.BuilderAt.put (T:=78) (e:=5) hB hb2 (bs':=bs++[.int .u8 c]) (by simpa using hown') (by decide)
 ·exact ((hb1.alloc (by have:=hb1.size;omega) _).grown hgrow (by have:=hb1.size;simp;omega) (λk hk=>(hown.lt k hk).1)).setCell (p:=⟨b,1,none⟩) hB _
set_option maxHeartbeats 2000000 in
set_option maxRecDepth 100000 in
theorem NC (B b:Nat) (bs:List Value) (s:ByteArray) (w:World) (h:Lib.IsBuilder 78 5 B b bs w) (hlen:bs.length+s.size<=140737488355328) (hBw:B<=w.heap.size):
 Calls Tryz.prog 46 #[.pointer (some ⟨b,0,none⟩), .string s] w λe w'=>e= .returned (.tuple #[.int .i64 s.size, .nilIface])/\(Lib.BuilderAt 78 5 B b (.pointer (some ⟨b,0,none⟩)) (bs++Lib.strCells s) w'/\Below B w w'):=by
 obtain ⟨i0,hi,hz0,hz1,hz2⟩:=info_parts N8;have u1:=Tryz.underlying78;have u2:=Tryz.underlying75;have u5:=Tryz.underlying76;have u6:=Tryz.underlying5;have u9:=Tryz.underlying9;go_enter Tryz.func46,Tryz.ntmps46;go_wp2_with (go_at_call 78;refine (KY B b bs _ h).mono ?_);rintro e w1 ⟨rfl,⟨hB,v,hbk,hown,hne⟩,hb1⟩;have c0:w1.cell? ⟨b,0,none⟩=some (.pointer (some ⟨b,0,none⟩)):=by rw [Lib.cell_of_heap hbk];rfl
 have c1:w1.cell? ⟨b,1,none⟩=some v:=by rw [Lib.cell_of_heap hbk];rfl
 go_wp2_with (at_builtin;refine Lib.wpList_append_own_string _ rfl _ _ 76 9 rfl B 5 i0 u5 u9 hi hz0 hz1 hz2 _ _ _ rfl hown s rfl ?c3 ?c4 ?c5 ?_);case c3=>unfold maxLen;omega
 case c4=>omega
 case c5=>have:=hb1.size;omega
 intro v' w2 hown' hgrow _;have hlt:b<w1.heap.size:=(Array.getElem?_eq_some_iff.1 hbk).1;have hb2:w2.heap[b]? =some (.cells #[.pointer (some ⟨b,0,none⟩),v] 78 (0,0)):=by
  rw [hgrow.block b hlt (λe=>hne e.symm)];exact hbk
 have d0:w2.cell? ⟨b,0,none⟩=some (.pointer (some ⟨b,0,none⟩)):=by rw [Lib.cell_of_heap hb2];rfl
 have d1:w2.cell? ⟨b,1,none⟩=some v:=by rw [Lib.cell_of_heap hb2];rfl
 have f1:w2.frozen? ⟨b,1,none⟩=false:=Lib.frozen_of_heap hb2 1;obtain ⟨ao,n',cap,rfl⟩:∃ ao n' cap,v'= .slice ao n' cap:=by
  rcases hown'.2 with ⟨hv,_⟩|⟨g,cap,cur,hv,_⟩
  ·exact ⟨_,_,_,hv⟩
  ·exact ⟨_,_,_,hv⟩
 go_wp2;go_ret2;refine ⟨rfl,?_,?_⟩
 ·exact Lib.BuilderAt.put (T:=78) (e:=5) hB hb2 (bs':=bs++Lib.strCells s) (by rw [List.length_append,Lib.strCells_length];exact hown') (by decide)
 ·exact (hb1.grown hgrow (by have:=hb1.size;omega) (λk hk=>(hown.lt k hk).1)).setCell (p:=⟨b,1,none⟩) hB _
end Go.Proofs.YtikggnalmidlhaaGreatDoor.Print
end
