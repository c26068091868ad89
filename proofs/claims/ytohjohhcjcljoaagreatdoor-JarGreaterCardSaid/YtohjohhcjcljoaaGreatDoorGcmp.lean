/- cookie.Cmp, walked by hand, under the print's own form of contract. -/
import Derived.Test.YtohjohhcjcljoaaGreatDoorGA
import Derived.Test.YtohjohhcjcljoaaGreatDoorPC
import Derived.Test.YtohjohhcjcljoaaGreatDoorYA
import Derived.Laws.EntriesVeiled
namespace Go.Proofs.YtohjohhcjcljoaaGreatDoor.Print
open RowKit Y Ak BR BS
set_option linter.unusedVariables false
set_option linter.unusedSimpArgs false
def tl (b:Bool):Int:=if b=true then 1 else 0
theorem UA (b:Bool):CQ.Gl.f b=some (tl b):=by cases b<;>rfl
set_option maxHeartbeats 8000000 in
set_option maxRecDepth 100000 in
theorem GR (g:Nat) (c0 c1 c2 c3:ByteArray) (c4 c5 c6:Int) (c7 c8 c9:Bool) (c10:Int) (w:World) (hg:w.cell? ⟨g,0,none⟩=some (.func (.func 48) #[] #[])):
 Calls Tryz.prog 49 #[.agg #[.string c0, .string c1, .string c2, .string c3, .int .i64 c4, .int .i64 c5, .int .i64 c6, .bool c7, .bool c8, .bool c9, .int .i64 c10], .pointer (some ⟨g,0,none⟩)] w λe w'=>
  e= .returned (.agg #[.int .i64 c6, .int .i64 (tl c7), .int .i64 (tl c8), .int .i64 (tl c9), .int .i64 c10])/\Below w.heap.size w w':=by
 have hu23:=Tryz.underlying43;have hu48:=Tryz.underlying74;have hlt:g<w.heap.size:=by
  rcases Nat.lt_or_ge g w.heap.size with h|h
  ·exact h
  ·simp [World.cell?,Array.getElem?_eq_none h] at hg
 go_enter Tryz.func49,Tryz.ntmps49;go_wp2;obtain ⟨w1,hw1⟩:∃ w1:World,w1=(w.alloc (.cells #[.string c0, .string c1, .string c2, .string c3, .int .i64 c4, .int .i64 c5, .int .i64 c6, .bool c7, .bool c8, .bool c9, .int .i64 c10] 43)).alloc (.cells #[.int .i64 0, .int .i64 0, .int .i64 0, .int .i64 0, .int .i64 0] 74):=⟨_,rfl⟩;rw [<-hw1];have hz1:w1.heap.size=w.heap.size+2:=by rw [hw1];simp
 have hB1:Below w.heap.size w w1:=by rw [hw1];exact BX (BX (Below.refl _ _) _) _
 have hk:w1.cell? ⟨g,0,none⟩=some (.func (.func 48) #[] #[]):=(hB1.cell hlt).trans hg;have h6:w1.cell? ⟨w.heap.size,6,none⟩=some (.int .i64 c6):=by rw [hw1];go_simp
 have h7:w1.cell? ⟨w.heap.size,7,none⟩=some (.bool c7):=by rw [hw1];go_simp
 have h8:w1.cell? ⟨w.heap.size,8,none⟩=some (.bool c8):=by rw [hw1];go_simp
 have h9:w1.cell? ⟨w.heap.size,9,none⟩=some (.bool c9):=by rw [hw1];go_simp
 have h10:w1.cell? ⟨w.heap.size,10,none⟩=some (.int .i64 c10):=by rw [hw1];go_simp
 have hr:∀ j,j<5->w1.cell? ⟨w.heap.size+1,j,none⟩=some (.int .i64 0):=by
  intro j hj;rw [hw1]
  match j,hj with
  |0,_=>go_simp
  |1,_=>go_simp
  |2,_=>go_simp
  |3,_=>go_simp
  |4,_=>go_simp
 have hf:∀ j,w1.frozen? ⟨w.heap.size+1,j,none⟩=false:=by
  intro j;rw [hw1];go_simp
 have hrow:w1.heap[w.heap.size+1]? =some (.cells #[.int .i64 0, .int .i64 0, .int .i64 0, .int .i64 0, .int .i64 0] 74 (0,0)):=by
  rw [hw1];exact (show ∀ (v:World) (o:Obj),v.heap.size=w.heap.size+1->(v.alloc o).heap[w.heap.size+1]? =some o from λv o h=>by rw [<-h];exact heap_alloc_new v o) _ _ (by simp)
 have hne1:¬w.heap.size+1=g:=by omega
 have hne2:¬g=w.heap.size+1:=by omega
 clear hw1;go_region_held3 (λw'=>w'.cell? ⟨g,0,none⟩=some (.func (.func 48) #[] #[])/\w'.cell? ⟨w.heap.size,6,none⟩=some (.int .i64 c6)/\w'.cell? ⟨w.heap.size,7,none⟩=some (.bool c7)/\w'.cell? ⟨w.heap.size,8,none⟩=some (.bool c8)/\w'.cell? ⟨w.heap.size,9,none⟩=some (.bool c9)/\w'.cell? ⟨w.heap.size,10,none⟩=some (.int .i64 c10)) (go_keep)
  (first|(go_at_call 48;refine (CQ.Gl.calls _ _ _ (UA _)).mono ?_;rintro e w' ⟨rfl,nd,rfl⟩))
 go_wp2;refine bodyPost_ret (results_cell_row rfl _ _ (w.heap.size+1) 74 #[.int .i64 c6, .int .i64 (tl c7), .int .i64 (tl c8), .int .i64 (tl c9), .int .i64 c10] (0,0) _ rfl (Dm (cs':=#[.int .i64 c6, .int .i64 (tl c7), .int .i64 (tl c8), .int .i64 (tl c9), .int .i64 c10]) (Dm (cs':=#[.int .i64 c6, .int .i64 (tl c7), .int .i64 (tl c8), .int .i64 (tl c9), .int .i64 0]) (Dm (cs':=#[.int .i64 c6, .int .i64 (tl c7), .int .i64 (tl c8), .int .i64 0, .int .i64 0]) (Dm (cs':=#[.int .i64 c6, .int .i64 (tl c7), .int .i64 0, .int .i64 0, .int .i64 0]) (Dm (cs':=#[.int .i64 c6, .int .i64 0, .int .i64 0, .int .i64 0, .int .i64 0]) (EX hrow _) 0 _ rfl) 1 _ rfl) 2 _ rfl) 3 _ rfl) 4 _ rfl) hu48 rfl (by kernel_rfl)) rfl ?_;refine ⟨rfl,?_⟩;repeat (first|exact hB1|refine EH ?_ (Nat.le_succ _)|refine DD ?_ _)
def Eu (a b:Int):Int:=if a<b then -1 else if a>b then 1 else 0
def Gv (a b:ByteArray):Int:=if Op.bytesLess a.toList b.toList=true then -1 else if Op.bytesLess b.toList a.toList=true then 1 else 0
def PN:List Int->Int
 |[]=>0
 |x::l=>if x=0 then PN l else x
def Kq:List Int->List Int->Int
 |[],[]=>0
 |[],_::_=> -1
 |_::_,[]=>1
 |x::l,y::m=>if Eu x y=0 then Kq l m else Eu x y
def JN (a0 a1 a2 b0 b1 b2:ByteArray):Int:=PN [Gv a0 b0,Gv a1 b1,Gv a2 b2]
theorem Qm (a b:Int):CQ.cmp_Compare_int.f a b=some (Eu a b):=by
 unfold CQ.cmp_Compare_int.f CQ.cmp_isNaN_int.f Eu;simp only [bne_self_eq_false,Option.bind_some,if_neg (show ¬(false=true) by decide)];split
 ·rfl
 ·split<;>rfl
theorem Qn (a b:ByteArray):CQ.Cq.f a b=some (Gv a b):=by
 unfold CQ.Cq.f CQ.cmp_isNaN_string.f Gv;simp only [bne_self_eq_false,Option.bind_some,if_neg (show ¬(false=true) by decide)];split
 ·rfl
 ·split<;>rfl
theorem Ki {l:List Int} {i:Nat} {c:Int} {r:List Int} (h:l.drop i=c::r):rd l (i:Int)=c:=by
 unfold rd;have:=congrArg (λx=>x[0]?) h;simp only [List.getElem?_drop,Nat.add_zero,List.getElem?_cons_zero] at this;rw [Int.toNat_natCast,List.getD_eq_getElem?_getD,this];rfl
theorem WM (l:List Int) {i:Nat} (h:i<=l.length):(i=l.length/\l.drop i=[])\/(∃ c,i<l.length/\l.drop i=c::l.drop (i+1)):=by
 rcases Nat.lt_or_ge i l.length with h1|h1
 ·exact .inr ⟨l[i],h1,List.drop_eq_getElem_cons h1⟩
 ·exact .inl ⟨by omega,List.drop_eq_nil_of_le h1⟩
theorem SF (l:List Int) (hl:l.length<=4294967296) (d:Nat):∀ i:Nat,i+d=l.length->Ev (λk=>CQ.Db.l0 k 0 l (l.length:Int) i) (PN (l.drop i)):=by
 induction d with
 |zero=>
  intro i hi;apply BQ;simp only [CQ.Db.l0];exact Aq (by omega) (Ba (Ay _) (by rw [List.drop_eq_nil_of_le (by omega)];rfl))
 |succ d ih=>
  intro i hi;apply BQ;simp only [CQ.Db.l0];have hw:wrap64 ((i:Int)+1)=((i+1:Nat):Int):=by rw [Kn (by omega) (by omega)];omega
  rw [hw];refine AZ (by omega) (AZ (by omega) (AZ (by omega) ?_));rcases WM l (i:=i) (by omega) with ⟨h1,_⟩|⟨c,h1,h2⟩
  ·omega
  ·rw [Ki h2,h2,PN];by_cases hc:c=0
   ·rw [if_pos hc];exact AZ hc (ih (i+1) (by omega))
   ·rw [if_neg hc];exact Aq hc (Ay _)
theorem TZ {l:List Int} (hl:l.length<=4294967296):Ev (λk=>CQ.Db.f k l) (PN l):=by
 have:=SF l hl l.length 0 (by omega);simpa [CQ.Db.f] using this
theorem Qo (l m:List Int) (hl:l.length<=4294967296) (hm:m.length=l.length) (d:Nat):∀ i:Nat,i+d=l.length->Ev (λk=>CQ.CB.l0 k l m l (l.length:Int) i) (Kq (l.drop i) (m.drop i)):=by
 induction d with
 |zero=>
  intro i hi;apply BQ;simp only [CQ.CB.l0];exact Aq (by omega) (Aq (by omega) (Ba (Ay _) (by rw [List.drop_eq_nil_of_le (by omega),List.drop_eq_nil_of_le (by omega)];rfl)))
 |succ d ih=>
  intro i hi;apply BQ;simp only [CQ.CB.l0];have hw:wrap64 ((i:Int)+1)=((i+1:Nat):Int):=by rw [Kn (by omega) (by omega)];omega
  rw [hw];refine AZ (by omega) (AZ (by omega) (AZ (by omega) (Aq (by omega) (AZ (by omega) ?_))));rcases WM l (i:=i) (by omega) with ⟨h1,_⟩|⟨c,h1,h2⟩
  ·omega
  ·rcases WM m (i:=i) (by omega) with ⟨h3,_⟩|⟨e,h3,h4⟩
   ·omega
   ·rw [Ki h2,Ki h4,h2,h4,Kq,Qm];refine Az (Ay _) ?_;by_cases hc:Eu c e=0
    ·rw [if_pos hc];exact AZ hc (ih (i+1) (by omega))
    ·rw [if_neg hc];exact Aq hc (Ay _)
theorem UB {l m:List Int} (hl:l.length<=4294967296) (hm:m.length=l.length):Ev (λk=>CQ.CB.f k l m) (Kq l m):=by
 have:=Qo l m hl hm l.length 0 (by omega);simpa [CQ.CB.f] using this
theorem Qp (a0 a1 a2 b0 b1 b2:ByteArray):Ev (λk=>CQ.Ch.f k a0 a1 a2 b0 b1 b2) (JN a0 a1 a2 b0 b1 b2):=by
 simp only [CQ.Ch.f,Qn,Option.bind_some];exact Az (TZ (by simp)) (Ay _)
theorem Us {l:List Int} (hl:l.length<=4294967296):∃ k,CQ.Db.f k l=some (PN l):=(TZ hl).rounds
theorem UC {l m:List Int} (hl:l.length<=4294967296) (hm:m.length=l.length):∃ k,CQ.CB.f k l m=some (Kq l m):=(UB hl hm).rounds
theorem Qq (a0 a1 a2 b0 b1 b2:ByteArray):∃ k,CQ.Ch.f k a0 a1 a2 b0 b1 b2=some (JN a0 a1 a2 b0 b1 b2):=(Qp a0 a1 a2 b0 b1 b2).rounds
def UD (a0 a1 a2 a3:ByteArray) (a4 a5 a6:Int) (a7 a8 a9:Bool) (a10:Int) (b0 b1 b2 b3:ByteArray) (b4 b5 b6:Int) (b7 b8 b9:Bool) (b10:Int):Int:=PN [JN a0 a1 a2 b0 b1 b2,Eu a4 b4,Eu a5 b5,Gv a3 b3,Kq [a6,tl a7,tl a8,tl a9,a10] [b6,tl b7,tl b8,tl b9,b10]]
def FE.f (a0 a1 a2 a3:ByteArray) (a4 a5 a6:Int) (a7 a8 a9:Bool) (a10:Int) (b0 b1 b2 b3:ByteArray) (b4 b5 b6:Int) (b7 b8 b9:Bool) (b10:Int):Option Int:=some (UD a0 a1 a2 a3 a4 a5 a6 a7 a8 a9 a10 b0 b1 b2 b3 b4 b5 b6 b7 b8 b9 b10)
def Qr:Bool×List (List Nat×List Nat):=(true,[([],[]),([],[]),([0,1],[0,1]),([],[]),([],[]),([3,4,2],[3,4]),([],[]),([],[]),([6,2,5,0,1,2,5,6,7],[2,6]),([7,5,8,0,1,2,3,4,5,6,7,8],[5,7])])
def UE:List Nat:=[0,0,3,0,0,31,0,0,255,511]
theorem Qs:FL .any (opsOf Tryz.f33 3)=Qr:=by kernel_rfl
theorem P9:EN Qr.2 UE=true:=by kernel_rfl
theorem Fz {B:Nat} {a W:World} {n:Nat} (h:Below B a (W.drewN n)):Below B a W:=⟨h.os,h.tape,h.output,h.size,h.block⟩
theorem OY {W:World} {g:Nat} {t:TypeId} {x0 x1 x2 x3 x4:Int} (h:W.heap[g]? =some (.cells #[.int .i64 x0, .int .i64 x1, .int .i64 x2, .int .i64 x3, .int .i64 x4] t (0,0))):Kd.C (Kd.int .i64) W (some ⟨g,0,none⟩) ([x0,x1,x2,x3,x4]:List Int).length [x0,x1,x2,x3,x4]:=by
 have hr:Ea W .i64 (some ⟨g,0,none⟩) ([x0,x1,x2,x3,x4]:List Int).length [x0,x1,x2,x3,x4]:=by
  refine ⟨rfl,by simp,λ_=>⟨_,rfl,λj hj=>?_⟩⟩;rw [add_plain]
  match j,hj with
  |0,_=>exact (AP h 0).trans rfl
  |1,_=>exact (AP h 1).trans rfl
  |2,_=>exact (AP h 2).trans rfl
  |3,_=>exact (AP h 3).trans rfl
  |4,_=>exact (AP h 4).trans rfl
 exact Kd.Oo (d:=(0:Int)) (h1:=λ_=>rfl) hr
set_option maxHeartbeats 16000000 in
set_option maxRecDepth 100000 in
theorem FE.calls (a0 a1 a2 a3:ByteArray) (a4 a5 a6:Int) (a7 a8 a9:Bool) (a10:Int) (b0 b1 b2 b3:ByteArray) (b4 b5 b6:Int) (b7 b8 b9:Bool) (b10:Int) (r:Int) (w:World) (h:FE.f a0 a1 a2 a3 a4 a5 a6 a7 a8 a9 a10 b0 b1 b2 b3 b4 b5 b6 b7 b8 b9 b10=some r):
 Calls Tryz.prog 33 #[.agg #[.string a0, .string a1, .string a2, .string a3, .int .i64 a4, .int .i64 a5, .int .i64 a6, .bool a7, .bool a8, .bool a9, .int .i64 a10], .agg #[.string b0, .string b1, .string b2, .string b3, .int .i64 b4, .int .i64 b5, .int .i64 b6, .bool b7, .bool b8, .bool b9, .int .i64 b10]] w λe w'=>e= .returned (.int .i64 r)/\Below w.heap.size w w':=by
 obtain rfl:=Option.some.inj h;clear h;have hu23:=Tryz.underlying43;have hu48:=Tryz.underlying74;have hmf:∀ (fn:Fn) (first cap:Array Value) (w:World),(Instr.makeFunc fn first cap).run Tryz.prog w= .ok (.func fn first cap) w:=λ_ _ _ _=>rfl
 go_enter Tryz.func33,Tryz.ntmps33;go_wp2;obtain ⟨w1,hw1⟩:∃ w1:World,w1=((w.alloc (.cells #[.string a0, .string a1, .string a2, .string a3, .int .i64 a4, .int .i64 a5, .int .i64 a6, .bool a7, .bool a8, .bool a9, .int .i64 a10] 43)).alloc (.cells #[.string b0, .string b1, .string b2, .string b3, .int .i64 b4, .int .i64 b5, .int .i64 b6, .bool b7, .bool b8, .bool b9, .int .i64 b10] 43)).alloc (.cells #[.func (.func 48) #[] #[]] 73):=⟨_,rfl⟩;rw [<-hw1];have hz1:w1.heap.size=w.heap.size+3:=by rw [hw1];simp
 have hB1:Below w.heap.size w w1:=by rw [hw1];exact BX (BX (BX (Below.refl _ _) _) _) _
 have ca0:w1.cell? ⟨w.heap.size,0,none⟩=some (.string a0):=by rw [hw1];go_simp
 have ca1:w1.cell? ⟨w.heap.size,1,none⟩=some (.string a1):=by rw [hw1];go_simp
 have ca2:w1.cell? ⟨w.heap.size,2,none⟩=some (.string a2):=by rw [hw1];go_simp
 have ca3:w1.cell? ⟨w.heap.size,3,none⟩=some (.string a3):=by rw [hw1];go_simp
 have ca4:w1.cell? ⟨w.heap.size,4,none⟩=some (.int .i64 a4):=by rw [hw1];go_simp
 have ca5:w1.cell? ⟨w.heap.size,5,none⟩=some (.int .i64 a5):=by rw [hw1];go_simp
 have ca6:w1.cell? ⟨w.heap.size,6,none⟩=some (.int .i64 a6):=by rw [hw1];go_simp
 have ca7:w1.cell? ⟨w.heap.size,7,none⟩=some (.bool a7):=by rw [hw1];go_simp
 have ca8:w1.cell? ⟨w.heap.size,8,none⟩=some (.bool a8):=by rw [hw1];go_simp
 have ca9:w1.cell? ⟨w.heap.size,9,none⟩=some (.bool a9):=by rw [hw1];go_simp
 have ca10:w1.cell? ⟨w.heap.size,10,none⟩=some (.int .i64 a10):=by rw [hw1];go_simp
 have cb0:w1.cell? ⟨w.heap.size+1,0,none⟩=some (.string b0):=by rw [hw1];go_simp
 have cb1:w1.cell? ⟨w.heap.size+1,1,none⟩=some (.string b1):=by rw [hw1];go_simp
 have cb2:w1.cell? ⟨w.heap.size+1,2,none⟩=some (.string b2):=by rw [hw1];go_simp
 have cb3:w1.cell? ⟨w.heap.size+1,3,none⟩=some (.string b3):=by rw [hw1];go_simp
 have cb4:w1.cell? ⟨w.heap.size+1,4,none⟩=some (.int .i64 b4):=by rw [hw1];go_simp
 have cb5:w1.cell? ⟨w.heap.size+1,5,none⟩=some (.int .i64 b5):=by rw [hw1];go_simp
 have cb6:w1.cell? ⟨w.heap.size+1,6,none⟩=some (.int .i64 b6):=by rw [hw1];go_simp
 have cb7:w1.cell? ⟨w.heap.size+1,7,none⟩=some (.bool b7):=by rw [hw1];go_simp
 have cb8:w1.cell? ⟨w.heap.size+1,8,none⟩=some (.bool b8):=by rw [hw1];go_simp
 have cb9:w1.cell? ⟨w.heap.size+1,9,none⟩=some (.bool b9):=by rw [hw1];go_simp
 have cb10:w1.cell? ⟨w.heap.size+1,10,none⟩=some (.int .i64 b10):=by rw [hw1];go_simp
 have cf:w1.cell? ⟨w.heap.size+1+1,0,none⟩=some (.func (.func 48) #[] #[]):=by rw [hw1];go_simp
 clear hw1;have hS:∀ w':World,Below w1.heap.size w1 w'->Below w1.heap.size w1 w'/\w'.cell? ⟨w.heap.size+1+1,0,none⟩=some (.func (.func 48) #[] #[])/\w'.cell? ⟨w.heap.size,0,none⟩=some (.string a0)/\w'.cell? ⟨w.heap.size,1,none⟩=some (.string a1)/\w'.cell? ⟨w.heap.size,2,none⟩=some (.string a2)/\w'.cell? ⟨w.heap.size,3,none⟩=some (.string a3)/\w'.cell? ⟨w.heap.size,4,none⟩=some (.int .i64 a4)/\w'.cell? ⟨w.heap.size,5,none⟩=some (.int .i64 a5)/\w'.cell? ⟨w.heap.size,6,none⟩=some (.int .i64 a6)/\w'.cell? ⟨w.heap.size,7,none⟩=some (.bool a7)/\w'.cell? ⟨w.heap.size,8,none⟩=some (.bool a8)/\w'.cell? ⟨w.heap.size,9,none⟩=some (.bool a9)/\w'.cell? ⟨w.heap.size,10,none⟩=some (.int .i64 a10)/\w'.cell? ⟨w.heap.size+1,0,none⟩=some (.string b0)/\w'.cell? ⟨w.heap.size+1,1,none⟩=some (.string b1)/\w'.cell? ⟨w.heap.size+1,2,none⟩=some (.string b2)/\w'.cell? ⟨w.heap.size+1,3,none⟩=some (.string b3)/\w'.cell? ⟨w.heap.size+1,4,none⟩=some (.int .i64 b4)/\w'.cell? ⟨w.heap.size+1,5,none⟩=some (.int .i64 b5)/\w'.cell? ⟨w.heap.size+1,6,none⟩=some (.int .i64 b6)/\w'.cell? ⟨w.heap.size+1,7,none⟩=some (.bool b7)/\w'.cell? ⟨w.heap.size+1,8,none⟩=some (.bool b8)/\w'.cell? ⟨w.heap.size+1,9,none⟩=some (.bool b9)/\w'.cell? ⟨w.heap.size+1,10,none⟩=some (.int .i64 b10):=λw' hb=>⟨hb,(hb.cell (by show w.heap.size+1+1<_;omega)).trans cf,(hb.cell (by show w.heap.size<_;omega)).trans ca0,(hb.cell (by show w.heap.size<_;omega)).trans ca1,(hb.cell (by show w.heap.size<_;omega)).trans ca2,(hb.cell (by show w.heap.size<_;omega)).trans ca3,(hb.cell (by show w.heap.size<_;omega)).trans ca4,(hb.cell (by show w.heap.size<_;omega)).trans ca5,(hb.cell (by show w.heap.size<_;omega)).trans ca6,(hb.cell (by show w.heap.size<_;omega)).trans ca7,(hb.cell (by show w.heap.size<_;omega)).trans ca8,(hb.cell (by show w.heap.size<_;omega)).trans ca9,(hb.cell (by show w.heap.size<_;omega)).trans ca10,(hb.cell (by show w.heap.size+1<_;omega)).trans cb0,(hb.cell (by show w.heap.size+1<_;omega)).trans cb1,(hb.cell (by show w.heap.size+1<_;omega)).trans cb2,(hb.cell (by show w.heap.size+1<_;omega)).trans cb3,(hb.cell (by show w.heap.size+1<_;omega)).trans cb4,(hb.cell (by show w.heap.size+1<_;omega)).trans cb5,(hb.cell (by show w.heap.size+1<_;omega)).trans cb6,(hb.cell (by show w.heap.size+1<_;omega)).trans cb7,(hb.cell (by show w.heap.size+1<_;omega)).trans cb8,(hb.cell (by show w.heap.size+1<_;omega)).trans cb9,(hb.cell (by show w.heap.size+1<_;omega)).trans cb10⟩
 have hSA:=AA.mk hS;clear hS;go_cut [7,8] (λv7 v8 wc=>∃ gx gy:Nat,v7= .pointer (some ⟨gx,0,none⟩)/\v8= .pointer (some ⟨gy,0,none⟩)/\AA (Below w1.heap.size w1 wc)/\AA (wc.heap[gx]? =some (.cells #[.int .i64 a6, .int .i64 (tl a7), .int .i64 (tl a8), .int .i64 (tl a9), .int .i64 a10] 74 (0,0)))/\AA (wc.heap[gy]? =some (.cells #[.int .i64 b6, .int .i64 (tl b7), .int .i64 (tl b8), .int .i64 (tl b9), .int .i64 b10] 74 (0,0))));case first=>
  refine Dq (n:=10) (S:=λw'=>Below w1.heap.size w1 w'/\w'.cell? ⟨w.heap.size+1+1,0,none⟩=some (.func (.func 48) #[] #[])/\w'.cell? ⟨w.heap.size,0,none⟩=some (.string a0)/\w'.cell? ⟨w.heap.size,1,none⟩=some (.string a1)/\w'.cell? ⟨w.heap.size,2,none⟩=some (.string a2)/\w'.cell? ⟨w.heap.size,3,none⟩=some (.string a3)/\w'.cell? ⟨w.heap.size,4,none⟩=some (.int .i64 a4)/\w'.cell? ⟨w.heap.size,5,none⟩=some (.int .i64 a5)/\w'.cell? ⟨w.heap.size,6,none⟩=some (.int .i64 a6)/\w'.cell? ⟨w.heap.size,7,none⟩=some (.bool a7)/\w'.cell? ⟨w.heap.size,8,none⟩=some (.bool a8)/\w'.cell? ⟨w.heap.size,9,none⟩=some (.bool a9)/\w'.cell? ⟨w.heap.size,10,none⟩=some (.int .i64 a10)/\w'.cell? ⟨w.heap.size+1,0,none⟩=some (.string b0)/\w'.cell? ⟨w.heap.size+1,1,none⟩=some (.string b1)/\w'.cell? ⟨w.heap.size+1,2,none⟩=some (.string b2)/\w'.cell? ⟨w.heap.size+1,3,none⟩=some (.string b3)/\w'.cell? ⟨w.heap.size+1,4,none⟩=some (.int .i64 b4)/\w'.cell? ⟨w.heap.size+1,5,none⟩=some (.int .i64 b5)/\w'.cell? ⟨w.heap.size+1,6,none⟩=some (.int .i64 b6)/\w'.cell? ⟨w.heap.size+1,7,none⟩=some (.bool b7)/\w'.cell? ⟨w.heap.size+1,8,none⟩=some (.bool b8)/\w'.cell? ⟨w.heap.size+1,9,none⟩=some (.bool b9)/\w'.cell? ⟨w.heap.size+1,10,none⟩=some (.int .i64 b10)) (ds:=[]) #[false,false,false,false,false,false,false,false,false,false] (by kernel_rfl) rfl rfl (hSA.out _ (Bi (Below.refl _ _))) (λhHeld=>?_);refine DJ Qs P9 (λHT_ HW_=>?_);have hB:=Bi (Below.refl w1.heap.size w1);generalize w1.drew=W at hHeld hB⊢
  refine DN (i:=0) (N:=some 10) (v:=?_) (a':=?_) #[true,false,false,false,false,false,false,false,false,false] rfl rfl (AV HT_.out (by kernel_rfl)) (λ_ _ _ h=>h) (Or.inl ⟨by rfl,?_⟩) ?_ ?_
  rotate_left
  ·intro w';go_simp;with_reducible rfl
  rotate_left
  ·simp only [Act.put,List.setIfInBounds_toArray,List.set_cons_zero,List.set_cons_succ,CW,CY];rfl
  refine DN (i:=3) (N:=some 13) (v:=?_) (a':=?_) #[true,false,false,true,false,false,false,false,false,false] rfl rfl (AV HT_.out (by kernel_rfl)) (λ_ _ _ h=>h) (Or.inl ⟨by rfl,?_⟩) ?_ ?_
  rotate_left
  ·intro w';go_simp;with_reducible rfl
  rotate_left
  ·simp only [Act.put,List.setIfInBounds_toArray,List.set_cons_zero,List.set_cons_succ,CW,CY];rfl
  refine Lt (i:=1) (N:=some 11) (v:=?_) (a':=?_) #[true,true,false,true,false,false,false,false,false,false] rfl rfl (BU HT_.out HW_.out (by kernel_rfl)) (λ_ _ _ h=>h) (Or.inl ⟨by rfl,?_⟩) hHeld ?_ ?_
  rotate_left
  ·rintro w' ⟨sb,sf,sa0,sa1,sa2,sa3,sa4,sa5,sa6,sa7,sa8,sa9,sa10,sc0,sc1,sc2,sc3,sc4,sc5,sc6,sc7,sc8,sc9,sc10⟩;go_simp;with_reducible rfl
  rotate_left
  ·simp only [Act.put,List.setIfInBounds_toArray,List.set_cons_zero,List.set_cons_succ,CW,CY];rfl
  refine Lt (i:=4) (N:=some 14) (v:=?_) (a':=?_) #[true,true,false,true,true,false,false,false,false,false] rfl rfl (BU HT_.out HW_.out (by kernel_rfl)) (λ_ _ _ h=>h) (Or.inl ⟨by rfl,?_⟩) hHeld ?_ ?_
  rotate_left
  ·rintro w' ⟨sb,sf,sa0,sa1,sa2,sa3,sa4,sa5,sa6,sa7,sa8,sa9,sa10,sc0,sc1,sc2,sc3,sc4,sc5,sc6,sc7,sc8,sc9,sc10⟩;go_simp;with_reducible rfl
  rotate_left
  ·simp only [Act.put,List.setIfInBounds_toArray,List.set_cons_zero,List.set_cons_succ,CW,CY];rfl
  refine GV (σ:=Nat×Nat) 2 #[true,true,true,true,true,true,true,true,false,false] (λs_=>[(12, .agg #[.int .i64 a6, .int .i64 (tl a7), .int .i64 (tl a8), .int .i64 (tl a9), .int .i64 a10]),(15, .agg #[.int .i64 b6, .int .i64 (tl b7), .int .i64 (tl b8), .int .i64 (tl b9), .int .i64 b10]),(7, .pointer (some ⟨s_.1,0,none⟩)),(8, .pointer (some ⟨s_.2,0,none⟩))]) (λs_ w'=>Below w1.heap.size w1 w'/\w'.heap[s_.1]? =some (.cells #[.int .i64 0, .int .i64 0, .int .i64 0, .int .i64 0, .int .i64 0] 74 (0,0))/\w1.heap.size<=s_.1/\w'.heap[s_.2]? =some (.cells #[.int .i64 0, .int .i64 0, .int .i64 0, .int .i64 0, .int .i64 0] 74 (0,0))/\w1.heap.size<=s_.2/\s_.1≠s_.2) ?_ ?_
  ·rintro s_ W ⟨hB,hx,lx,hy,ly,hne⟩;have hHeld:=hSA.out W hB;refine ET (a':=?_) ?_ ?_
   rotate_left
   ·simp only [Di,Act.put,List.setIfInBounds_toArray,List.set_cons_zero,List.set_cons_succ];rfl
   refine DK (i:=8) (N:=none) #[true,true,true,true,true,true,true,true,true,false] rfl rfl (Bq HT_.out (by kernel_rfl)) (by decide) (λK hK=>?_);have q0:W.cell? ⟨s_.1,0,none⟩=some (.int .i64 0):=(AP hx 0).trans rfl;have z0:=AR hx 0;have q1:W.cell? ⟨s_.1,1,none⟩=some (.int .i64 0):=(AP hx 1).trans rfl;have z1:=AR hx 1;have q2:W.cell? ⟨s_.1,2,none⟩=some (.int .i64 0):=(AP hx 2).trans rfl;have z2:=AR hx 2;have q3:W.cell? ⟨s_.1,3,none⟩=some (.int .i64 0):=(AP hx 3).trans rfl;have z3:=AR hx 3;have q4:W.cell? ⟨s_.1,4,none⟩=some (.int .i64 0):=(AP hx 4).trans rfl;have z4:=AR hx 4;refine IJ (w1:=?_) (by rfl) rfl ?_ ?_
   rotate_left
   ·go_simp;rfl
   have p0:(((((W.setCell ⟨s_.1,0,none⟩ (.int .i64 a6)).setCell ⟨s_.1,1,none⟩ (.int .i64 (tl a7))).setCell ⟨s_.1,2,none⟩ (.int .i64 (tl a8))).setCell ⟨s_.1,3,none⟩ (.int .i64 (tl a9))).setCell ⟨s_.1,4,none⟩ (.int .i64 a10)).heap[s_.1]? =some (.cells #[.int .i64 a6, .int .i64 (tl a7), .int .i64 (tl a8), .int .i64 (tl a9), .int .i64 a10] 74 (0,0)):=Dm (cs':=#[.int .i64 a6, .int .i64 (tl a7), .int .i64 (tl a8), .int .i64 (tl a9), .int .i64 a10]) (Dm (cs':=#[.int .i64 a6, .int .i64 (tl a7), .int .i64 (tl a8), .int .i64 (tl a9), .int .i64 0]) (Dm (cs':=#[.int .i64 a6, .int .i64 (tl a7), .int .i64 (tl a8), .int .i64 0, .int .i64 0]) (Dm (cs':=#[.int .i64 a6, .int .i64 (tl a7), .int .i64 0, .int .i64 0, .int .i64 0]) (Dm (cs':=#[.int .i64 a6, .int .i64 0, .int .i64 0, .int .i64 0, .int .i64 0]) (hx) 0 _ rfl) 1 _ rfl) 2 _ rfl) 3 _ rfl) 4 _ rfl;have o0:(((((W.setCell ⟨s_.1,0,none⟩ (.int .i64 a6)).setCell ⟨s_.1,1,none⟩ (.int .i64 (tl a7))).setCell ⟨s_.1,2,none⟩ (.int .i64 (tl a8))).setCell ⟨s_.1,3,none⟩ (.int .i64 (tl a9))).setCell ⟨s_.1,4,none⟩ (.int .i64 a10)).heap[s_.2]? =some (.cells #[.int .i64 0, .int .i64 0, .int .i64 0, .int .i64 0, .int .i64 0] 74 (0,0)):=(Below.heap_setCell _ _ _ _ (hne.symm)).trans ((Below.heap_setCell _ _ _ _ (hne.symm)).trans ((Below.heap_setCell _ _ _ _ (hne.symm)).trans ((Below.heap_setCell _ _ _ _ (hne.symm)).trans ((Below.heap_setCell _ _ _ _ (hne.symm)).trans (hy)))));have b0_:Below w1.heap.size w1 (((((W.setCell ⟨s_.1,0,none⟩ (.int .i64 a6)).setCell ⟨s_.1,1,none⟩ (.int .i64 (tl a7))).setCell ⟨s_.1,2,none⟩ (.int .i64 (tl a8))).setCell ⟨s_.1,3,none⟩ (.int .i64 (tl a9))).setCell ⟨s_.1,4,none⟩ (.int .i64 a10)):=EH (EH (EH (EH (EH hB lx) lx) lx) lx) lx;refine hK.out _ _ (hSA.out _ b0_) (λ_=>?_);clear hK K q0 z0 q1 z1 q2 z2 q3 z3 q4 z4;generalize (((((W.setCell ⟨s_.1,0,none⟩ (.int .i64 a6)).setCell ⟨s_.1,1,none⟩ (.int .i64 (tl a7))).setCell ⟨s_.1,2,none⟩ (.int .i64 (tl a8))).setCell ⟨s_.1,3,none⟩ (.int .i64 (tl a9))).setCell ⟨s_.1,4,none⟩ (.int .i64 a10))=W3 at p0 o0 b0_⊢
   refine DK (i:=9) (N:=none) #[true,true,true,true,true,true,true,true,true,true] rfl rfl (Bq HT_.out (by kernel_rfl)) (by decide) (λK hK=>?_);have q0:W3.cell? ⟨s_.2,0,none⟩=some (.int .i64 0):=(AP o0 0).trans rfl;have z0:=AR o0 0;have q1:W3.cell? ⟨s_.2,1,none⟩=some (.int .i64 0):=(AP o0 1).trans rfl;have z1:=AR o0 1;have q2:W3.cell? ⟨s_.2,2,none⟩=some (.int .i64 0):=(AP o0 2).trans rfl;have z2:=AR o0 2;have q3:W3.cell? ⟨s_.2,3,none⟩=some (.int .i64 0):=(AP o0 3).trans rfl;have z3:=AR o0 3;have q4:W3.cell? ⟨s_.2,4,none⟩=some (.int .i64 0):=(AP o0 4).trans rfl;have z4:=AR o0 4;refine IJ (w1:=?_) (by rfl) rfl ?_ ?_
   rotate_left
   ·go_simp;rfl
   have p1:(((((W3.setCell ⟨s_.2,0,none⟩ (.int .i64 b6)).setCell ⟨s_.2,1,none⟩ (.int .i64 (tl b7))).setCell ⟨s_.2,2,none⟩ (.int .i64 (tl b8))).setCell ⟨s_.2,3,none⟩ (.int .i64 (tl b9))).setCell ⟨s_.2,4,none⟩ (.int .i64 b10)).heap[s_.2]? =some (.cells #[.int .i64 b6, .int .i64 (tl b7), .int .i64 (tl b8), .int .i64 (tl b9), .int .i64 b10] 74 (0,0)):=Dm (cs':=#[.int .i64 b6, .int .i64 (tl b7), .int .i64 (tl b8), .int .i64 (tl b9), .int .i64 b10]) (Dm (cs':=#[.int .i64 b6, .int .i64 (tl b7), .int .i64 (tl b8), .int .i64 (tl b9), .int .i64 0]) (Dm (cs':=#[.int .i64 b6, .int .i64 (tl b7), .int .i64 (tl b8), .int .i64 0, .int .i64 0]) (Dm (cs':=#[.int .i64 b6, .int .i64 (tl b7), .int .i64 0, .int .i64 0, .int .i64 0]) (Dm (cs':=#[.int .i64 b6, .int .i64 0, .int .i64 0, .int .i64 0, .int .i64 0]) (o0) 0 _ rfl) 1 _ rfl) 2 _ rfl) 3 _ rfl) 4 _ rfl;have o1:(((((W3.setCell ⟨s_.2,0,none⟩ (.int .i64 b6)).setCell ⟨s_.2,1,none⟩ (.int .i64 (tl b7))).setCell ⟨s_.2,2,none⟩ (.int .i64 (tl b8))).setCell ⟨s_.2,3,none⟩ (.int .i64 (tl b9))).setCell ⟨s_.2,4,none⟩ (.int .i64 b10)).heap[s_.1]? =some (.cells #[.int .i64 a6, .int .i64 (tl a7), .int .i64 (tl a8), .int .i64 (tl a9), .int .i64 a10] 74 (0,0)):=(Below.heap_setCell _ _ _ _ (hne)).trans ((Below.heap_setCell _ _ _ _ (hne)).trans ((Below.heap_setCell _ _ _ _ (hne)).trans ((Below.heap_setCell _ _ _ _ (hne)).trans ((Below.heap_setCell _ _ _ _ (hne)).trans (p0)))));have b1_:Below w1.heap.size w1 (((((W3.setCell ⟨s_.2,0,none⟩ (.int .i64 b6)).setCell ⟨s_.2,1,none⟩ (.int .i64 (tl b7))).setCell ⟨s_.2,2,none⟩ (.int .i64 (tl b8))).setCell ⟨s_.2,3,none⟩ (.int .i64 (tl b9))).setCell ⟨s_.2,4,none⟩ (.int .i64 b10)):=EH (EH (EH (EH (EH b0_ ly) ly) ly) ly) ly;refine hK.out _ _ (hSA.out _ b1_) (λ_=>?_);clear hK K q0 z0 q1 z1 q2 z2 q3 z3 q4 z4;generalize (((((W3.setCell ⟨s_.2,0,none⟩ (.int .i64 b6)).setCell ⟨s_.2,1,none⟩ (.int .i64 (tl b7))).setCell ⟨s_.2,2,none⟩ (.int .i64 (tl b8))).setCell ⟨s_.2,3,none⟩ (.int .i64 (tl b9))).setCell ⟨s_.2,4,none⟩ (.int .i64 b10))=W4 at p1 o1 b1_⊢
   refine EK (Du HT_.out (by kernel_rfl)) ?_;try go_wp2
   go_meet;case rel=>exact ⟨s_.1,s_.2,rfl,rfl,⟨b1_⟩,⟨o1⟩,⟨p1⟩⟩
  intro J2567;refine GV (σ:=Nat) 3 #[true,true,true,true,true,true,true,false,false,false] (λs_=>[(12, .agg #[.int .i64 a6, .int .i64 (tl a7), .int .i64 (tl a8), .int .i64 (tl a9), .int .i64 a10]),(15, .agg #[.int .i64 b6, .int .i64 (tl b7), .int .i64 (tl b8), .int .i64 (tl b9), .int .i64 b10]),(7, .pointer (some ⟨s_,0,none⟩))]) (λs_ w'=>Below w1.heap.size w1 w'/\w'.heap[s_]? =some (.cells #[.int .i64 0, .int .i64 0, .int .i64 0, .int .i64 0, .int .i64 0] 74 (0,0))/\w1.heap.size<=s_) ?_ ?_
  ·rintro s_ W ⟨hB,hx,lx⟩;have hHeld:=hSA.out W hB;refine ET (a':=?_) ?_ ?_
   rotate_left
   ·simp only [Di,Act.put,List.setIfInBounds_toArray,List.set_cons_zero,List.set_cons_succ];rfl
   refine DK (i:=7) (N:=some 8) #[true,true,true,true,true,true,true,true,false,false] rfl rfl (Bq HT_.out (by kernel_rfl)) (by decide) (λK hK=>?_);refine Ep ?hg (N:=8) ?hd (cs:=#[.int .i64 0, .int .i64 0, .int .i64 0, .int .i64 0, .int .i64 0]) (t:=74) ?hr ?_;(case hd=>rfl);(case hg=>rfl);(case hr=>first|(go_simp;done)|(go_simp;rfl));intro g hg W2 hbox hb;have hB2:=AL hB hb;have lg:w1.heap.size<=g:=by rw [hg];exact hB.size
   have hx2:=CO hx hb;have ne2:s_≠g:=by rw [hg];exact Nat.ne_of_lt (WK hx)
   exact hK.out _ _ (hSA.out _ hB2) (λ_=>J2567 (s_,g) _ ⟨hB2,hx2,lx,hbox,lg,ne2⟩)
  intro J256;refine GV (σ:=Nat) 3 #[true,true,true,true,true,true,false,true,false,false] (λs_=>[(12, .agg #[.int .i64 a6, .int .i64 (tl a7), .int .i64 (tl a8), .int .i64 (tl a9), .int .i64 a10]),(15, .agg #[.int .i64 b6, .int .i64 (tl b7), .int .i64 (tl b8), .int .i64 (tl b9), .int .i64 b10]),(8, .pointer (some ⟨s_,0,none⟩))]) (λs_ w'=>Below w1.heap.size w1 w'/\w'.heap[s_]? =some (.cells #[.int .i64 0, .int .i64 0, .int .i64 0, .int .i64 0, .int .i64 0] 74 (0,0))/\w1.heap.size<=s_) ?_ ?_
  ·rintro s_ W ⟨hB,hy,ly⟩;have hHeld:=hSA.out W hB;refine ET (a':=?_) ?_ ?_
   rotate_left
   ·simp only [Di,Act.put,List.setIfInBounds_toArray,List.set_cons_zero,List.set_cons_succ];rfl
   refine DK (i:=6) (N:=some 7) #[true,true,true,true,true,true,true,true,false,false] rfl rfl (Bq HT_.out (by kernel_rfl)) (by decide) (λK hK=>?_);refine Ep ?hg (N:=7) ?hd (cs:=#[.int .i64 0, .int .i64 0, .int .i64 0, .int .i64 0, .int .i64 0]) (t:=74) ?hr ?_;(case hd=>rfl);(case hg=>rfl);(case hr=>first|(go_simp;done)|(go_simp;rfl));intro g hg W2 hbox hb;have hB2:=AL hB hb;have lg:w1.heap.size<=g:=by rw [hg];exact hB.size
   have hy2:=CO hy hb;have ne2:g≠s_:=by rw [hg];exact Nat.ne_of_gt (WK hy)
   exact hK.out _ _ (hSA.out _ hB2) (λ_=>J2567 (g,s_) _ ⟨hB2,hbox,lg,hy2,ly,ne2⟩)
  intro J257;refine GV (σ:=Nat×Nat) 3 #[true,true,true,true,true,false,true,true,false,false] (λs_=>[(12, .agg #[.int .i64 a6, .int .i64 (tl a7), .int .i64 (tl a8), .int .i64 (tl a9), .int .i64 a10]),(7, .pointer (some ⟨s_.1,0,none⟩)),(8, .pointer (some ⟨s_.2,0,none⟩))]) (λs_ w'=>Below w1.heap.size w1 w'/\w'.heap[s_.1]? =some (.cells #[.int .i64 0, .int .i64 0, .int .i64 0, .int .i64 0, .int .i64 0] 74 (0,0))/\w1.heap.size<=s_.1/\w'.heap[s_.2]? =some (.cells #[.int .i64 0, .int .i64 0, .int .i64 0, .int .i64 0, .int .i64 0] 74 (0,0))/\w1.heap.size<=s_.2/\s_.1≠s_.2) ?_ ?_
  ·rintro s_ W ⟨hB,hx,lx,hy,ly,hne⟩;have hHeld:=hSA.out W hB;refine ET (a':=?_) ?_ ?_
   rotate_left
   ·simp only [Di,Act.put,List.setIfInBounds_toArray,List.set_cons_zero,List.set_cons_succ];rfl
   refine DK (i:=5) (N:=some 15) #[true,true,true,true,true,true,true,true,false,false] rfl rfl (Bq HT_.out (by kernel_rfl)) (by decide) (λK hK=>?_);refine call_ 49 #[.agg #[.string b0, .string b1, .string b2, .string b3, .int .i64 b4, .int .i64 b5, .int .i64 b6, .bool b7, .bool b8, .bool b9, .int .i64 b10], .pointer (some ⟨w.heap.size+1+1,0,none⟩)] (by rfl) rfl (by have he:=Fg Tryz.func49 (by kernel_rfl) rfl #[.agg #[.string b0, .string b1, .string b2, .string b3, .int .i64 b4, .int .i64 b5, .int .i64 b6, .bool b7, .bool b8, .bool b9, .int .i64 b10], .pointer (some ⟨w.heap.size+1+1,0,none⟩)] W;unfold execOp;simp [resolve,Deferred.ofValue,invoke,Act.eval,he]) ?_;refine (GR (w.heap.size+1+1) _ _ _ _ _ _ _ _ _ _ _ _ hHeld.2.1).mono ?_;rintro e W2 ⟨rfl,hb⟩;refine ⟨_,rfl,?_⟩;have hB2:=AL hB hb;have hx2:=CO hx hb;have hy2:=CO hy hb;exact hK.out _ _ (hSA.out _ hB2) (λ_=>J2567 (s_.1,s_.2) _ ⟨hB2,hx2,lx,hy2,ly,hne⟩)
  intro J267;refine GV (σ:=Unit) 4 #[true,true,true,true,true,true,false,false,false,false] (λs_=>[(12, .agg #[.int .i64 a6, .int .i64 (tl a7), .int .i64 (tl a8), .int .i64 (tl a9), .int .i64 a10]),(15, .agg #[.int .i64 b6, .int .i64 (tl b7), .int .i64 (tl b8), .int .i64 (tl b9), .int .i64 b10])]) (λs_ w'=>Below w1.heap.size w1 w') ?_ ?_
  ·rintro s_ W hB;have hHeld:=hSA.out W hB;refine ET (a':=?_) ?_ ?_
   rotate_left
   ·simp only [Di,Act.put,List.setIfInBounds_toArray,List.set_cons_zero,List.set_cons_succ];rfl
   refine IX (i:=6) (j:=7) (Ni:=some 7) (Nj:=some 8) #[true,true,true,true,true,true,true,false,false,false] #[true,true,true,true,true,true,false,true,false,false] rfl rfl rfl rfl (FU HT_.out (by kernel_rfl)) (by decide) (by decide) (λK hK=>?_) (λK hK=>?_)
   ·have _u:=trivial;refine Ep ?hg (N:=7) ?hd (cs:=#[.int .i64 0, .int .i64 0, .int .i64 0, .int .i64 0, .int .i64 0]) (t:=74) ?hr ?_;(case hd=>rfl);(case hg=>rfl);(case hr=>first|(go_simp;done)|(go_simp;rfl));intro g hg W2 hbox hb;have hB2:=AL hB hb;have lg:w1.heap.size<=g:=by rw [hg];exact hB.size
    exact hK.out _ _ (hSA.out _ hB2) (λ_=>J256 g _ ⟨hB2,hbox,lg⟩)
   ·have _u:=trivial;refine Ep ?hg (N:=8) ?hd (cs:=#[.int .i64 0, .int .i64 0, .int .i64 0, .int .i64 0, .int .i64 0]) (t:=74) ?hr ?_;(case hd=>rfl);(case hg=>rfl);(case hr=>first|(go_simp;done)|(go_simp;rfl));intro g hg W2 hbox hb;have hB2:=AL hB hb;have lg:w1.heap.size<=g:=by rw [hg];exact hB.size
    exact hK.out _ _ (hSA.out _ hB2) (λ_=>J257 g _ ⟨hB2,hbox,lg⟩)
  intro J25;refine GV (σ:=Nat) 4 #[true,true,true,true,true,false,true,false,false,false] (λs_=>[(12, .agg #[.int .i64 a6, .int .i64 (tl a7), .int .i64 (tl a8), .int .i64 (tl a9), .int .i64 a10]),(7, .pointer (some ⟨s_,0,none⟩))]) (λs_ w'=>Below w1.heap.size w1 w'/\w'.heap[s_]? =some (.cells #[.int .i64 0, .int .i64 0, .int .i64 0, .int .i64 0, .int .i64 0] 74 (0,0))/\w1.heap.size<=s_) ?_ ?_
  ·rintro s_ W ⟨hB,hx,lx⟩;have hHeld:=hSA.out W hB;refine ET (a':=?_) ?_ ?_
   rotate_left
   ·simp only [Di,Act.put,List.setIfInBounds_toArray,List.set_cons_zero,List.set_cons_succ];rfl
   refine IX (i:=5) (j:=7) (Ni:=some 15) (Nj:=some 8) #[true,true,true,true,true,true,true,false,false,false] #[true,true,true,true,true,false,true,true,false,false] rfl rfl rfl rfl (FU HT_.out (by kernel_rfl)) (by decide) (by decide) (λK hK=>?_) (λK hK=>?_)
   ·have _u:=trivial;refine call_ 49 #[.agg #[.string b0, .string b1, .string b2, .string b3, .int .i64 b4, .int .i64 b5, .int .i64 b6, .bool b7, .bool b8, .bool b9, .int .i64 b10], .pointer (some ⟨w.heap.size+1+1,0,none⟩)] (by rfl) rfl (by have he:=Fg Tryz.func49 (by kernel_rfl) rfl #[.agg #[.string b0, .string b1, .string b2, .string b3, .int .i64 b4, .int .i64 b5, .int .i64 b6, .bool b7, .bool b8, .bool b9, .int .i64 b10], .pointer (some ⟨w.heap.size+1+1,0,none⟩)] W;unfold execOp;simp [resolve,Deferred.ofValue,invoke,Act.eval,he]) ?_;refine (GR (w.heap.size+1+1) _ _ _ _ _ _ _ _ _ _ _ _ hHeld.2.1).mono ?_;rintro e W2 ⟨rfl,hb⟩;refine ⟨_,rfl,?_⟩;have hB2:=AL hB hb;have hx2:=CO hx hb;exact hK.out _ _ (hSA.out _ hB2) (λ_=>J256 s_ _ ⟨hB2,hx2,lx⟩)
   ·have _u:=trivial;refine Ep ?hg (N:=8) ?hd (cs:=#[.int .i64 0, .int .i64 0, .int .i64 0, .int .i64 0, .int .i64 0]) (t:=74) ?hr ?_;(case hd=>rfl);(case hg=>rfl);(case hr=>first|(go_simp;done)|(go_simp;rfl));intro g hg W2 hbox hb;have hB2:=AL hB hb;have lg:w1.heap.size<=g:=by rw [hg];exact hB.size
    have hx2:=CO hx hb;have ne2:s_≠g:=by rw [hg];exact Nat.ne_of_lt (WK hx)
    exact hK.out _ _ (hSA.out _ hB2) (λ_=>J267 (s_,g) _ ⟨hB2,hx2,lx,hbox,lg,ne2⟩)
  intro J26;refine GV (σ:=Nat) 4 #[true,true,true,true,true,false,false,true,false,false] (λs_=>[(12, .agg #[.int .i64 a6, .int .i64 (tl a7), .int .i64 (tl a8), .int .i64 (tl a9), .int .i64 a10]),(8, .pointer (some ⟨s_,0,none⟩))]) (λs_ w'=>Below w1.heap.size w1 w'/\w'.heap[s_]? =some (.cells #[.int .i64 0, .int .i64 0, .int .i64 0, .int .i64 0, .int .i64 0] 74 (0,0))/\w1.heap.size<=s_) ?_ ?_
  ·rintro s_ W ⟨hB,hy,ly⟩;have hHeld:=hSA.out W hB;refine ET (a':=?_) ?_ ?_
   rotate_left
   ·simp only [Di,Act.put,List.setIfInBounds_toArray,List.set_cons_zero,List.set_cons_succ];rfl
   refine IX (i:=5) (j:=6) (Ni:=some 15) (Nj:=some 7) #[true,true,true,true,true,true,false,true,false,false] #[true,true,true,true,true,false,true,true,false,false] rfl rfl rfl rfl (FU HT_.out (by kernel_rfl)) (by decide) (by decide) (λK hK=>?_) (λK hK=>?_)
   ·have _u:=trivial;refine call_ 49 #[.agg #[.string b0, .string b1, .string b2, .string b3, .int .i64 b4, .int .i64 b5, .int .i64 b6, .bool b7, .bool b8, .bool b9, .int .i64 b10], .pointer (some ⟨w.heap.size+1+1,0,none⟩)] (by rfl) rfl (by have he:=Fg Tryz.func49 (by kernel_rfl) rfl #[.agg #[.string b0, .string b1, .string b2, .string b3, .int .i64 b4, .int .i64 b5, .int .i64 b6, .bool b7, .bool b8, .bool b9, .int .i64 b10], .pointer (some ⟨w.heap.size+1+1,0,none⟩)] W;unfold execOp;simp [resolve,Deferred.ofValue,invoke,Act.eval,he]) ?_;refine (GR (w.heap.size+1+1) _ _ _ _ _ _ _ _ _ _ _ _ hHeld.2.1).mono ?_;rintro e W2 ⟨rfl,hb⟩;refine ⟨_,rfl,?_⟩;have hB2:=AL hB hb;have hy2:=CO hy hb;exact hK.out _ _ (hSA.out _ hB2) (λ_=>J257 s_ _ ⟨hB2,hy2,ly⟩)
   ·have _u:=trivial;refine Ep ?hg (N:=7) ?hd (cs:=#[.int .i64 0, .int .i64 0, .int .i64 0, .int .i64 0, .int .i64 0]) (t:=74) ?hr ?_;(case hd=>rfl);(case hg=>rfl);(case hr=>first|(go_simp;done)|(go_simp;rfl));intro g hg W2 hbox hb;have hB2:=AL hB hb;have lg:w1.heap.size<=g:=by rw [hg];exact hB.size
    have hy2:=CO hy hb;have ne2:g≠s_:=by rw [hg];exact Nat.ne_of_gt (WK hy)
    exact hK.out _ _ (hSA.out _ hB2) (λ_=>J267 (g,s_) _ ⟨hB2,hbox,lg,hy2,ly,ne2⟩)
  intro J27;refine GV (σ:=Nat×Nat) 4 #[true,true,false,true,true,false,true,true,false,false] (λs_=>[(7, .pointer (some ⟨s_.1,0,none⟩)),(8, .pointer (some ⟨s_.2,0,none⟩))]) (λs_ w'=>Below w1.heap.size w1 w'/\w'.heap[s_.1]? =some (.cells #[.int .i64 0, .int .i64 0, .int .i64 0, .int .i64 0, .int .i64 0] 74 (0,0))/\w1.heap.size<=s_.1/\w'.heap[s_.2]? =some (.cells #[.int .i64 0, .int .i64 0, .int .i64 0, .int .i64 0, .int .i64 0] 74 (0,0))/\w1.heap.size<=s_.2/\s_.1≠s_.2) ?_ ?_
  ·rintro s_ W ⟨hB,hx,lx,hy,ly,hne⟩;have hHeld:=hSA.out W hB;refine ET (a':=?_) ?_ ?_
   rotate_left
   ·simp only [Di,Act.put,List.setIfInBounds_toArray,List.set_cons_zero,List.set_cons_succ];rfl
   refine DK (i:=2) (N:=some 12) #[true,true,true,true,true,false,true,true,false,false] rfl rfl (Bq HT_.out (by kernel_rfl)) (by decide) (λK hK=>?_);refine call_ 49 #[.agg #[.string a0, .string a1, .string a2, .string a3, .int .i64 a4, .int .i64 a5, .int .i64 a6, .bool a7, .bool a8, .bool a9, .int .i64 a10], .pointer (some ⟨w.heap.size+1+1,0,none⟩)] (by rfl) rfl (by have he:=Fg Tryz.func49 (by kernel_rfl) rfl #[.agg #[.string a0, .string a1, .string a2, .string a3, .int .i64 a4, .int .i64 a5, .int .i64 a6, .bool a7, .bool a8, .bool a9, .int .i64 a10], .pointer (some ⟨w.heap.size+1+1,0,none⟩)] W;unfold execOp;simp [resolve,Deferred.ofValue,invoke,Act.eval,he]) ?_;refine (GR (w.heap.size+1+1) _ _ _ _ _ _ _ _ _ _ _ _ hHeld.2.1).mono ?_;rintro e W2 ⟨rfl,hb⟩;refine ⟨_,rfl,?_⟩;have hB2:=AL hB hb;have hx2:=CO hx hb;have hy2:=CO hy hb;exact hK.out _ _ (hSA.out _ hB2) (λ_=>J267 (s_.1,s_.2) _ ⟨hB2,hx2,lx,hy2,ly,hne⟩)
  intro J67;refine GV (σ:=Unit) 5 #[true,true,true,true,true,false,false,false,false,false] (λs_=>[(12, .agg #[.int .i64 a6, .int .i64 (tl a7), .int .i64 (tl a8), .int .i64 (tl a9), .int .i64 a10])]) (λs_ w'=>Below w1.heap.size w1 w') ?_ ?_
  ·rintro s_ W hB;have hHeld:=hSA.out W hB;refine ET (a':=?_) ?_ ?_
   rotate_left
   ·simp only [Di,Act.put,List.setIfInBounds_toArray,List.set_cons_zero,List.set_cons_succ];rfl
   refine Q9 (i:=5) (j:=6) (k:=7) (Ni:=some 15) (Nj:=some 7) (Nk:=some 8) #[true,true,true,true,true,true,false,false,false,false] #[true,true,true,true,true,false,true,false,false,false] #[true,true,true,true,true,false,false,true,false,false] rfl rfl rfl rfl rfl rfl (Nc HT_.out (by kernel_rfl)) (by decide) (by decide) (by decide) (λK hK=>?_) (λK hK=>?_) (λK hK=>?_)
   ·have _u:=trivial;refine call_ 49 #[.agg #[.string b0, .string b1, .string b2, .string b3, .int .i64 b4, .int .i64 b5, .int .i64 b6, .bool b7, .bool b8, .bool b9, .int .i64 b10], .pointer (some ⟨w.heap.size+1+1,0,none⟩)] (by rfl) rfl (by have he:=Fg Tryz.func49 (by kernel_rfl) rfl #[.agg #[.string b0, .string b1, .string b2, .string b3, .int .i64 b4, .int .i64 b5, .int .i64 b6, .bool b7, .bool b8, .bool b9, .int .i64 b10], .pointer (some ⟨w.heap.size+1+1,0,none⟩)] W;unfold execOp;simp [resolve,Deferred.ofValue,invoke,Act.eval,he]) ?_;refine (GR (w.heap.size+1+1) _ _ _ _ _ _ _ _ _ _ _ _ hHeld.2.1).mono ?_;rintro e W2 ⟨rfl,hb⟩;refine ⟨_,rfl,?_⟩;have hB2:=AL hB hb;exact hK.out _ _ (hSA.out _ hB2) (λ_=>J25 () _ hB2)
   ·have _u:=trivial;refine Ep ?hg (N:=7) ?hd (cs:=#[.int .i64 0, .int .i64 0, .int .i64 0, .int .i64 0, .int .i64 0]) (t:=74) ?hr ?_;(case hd=>rfl);(case hg=>rfl);(case hr=>first|(go_simp;done)|(go_simp;rfl));intro g hg W2 hbox hb;have hB2:=AL hB hb;have lg:w1.heap.size<=g:=by rw [hg];exact hB.size
    exact hK.out _ _ (hSA.out _ hB2) (λ_=>J26 g _ ⟨hB2,hbox,lg⟩)
   ·have _u:=trivial;refine Ep ?hg (N:=8) ?hd (cs:=#[.int .i64 0, .int .i64 0, .int .i64 0, .int .i64 0, .int .i64 0]) (t:=74) ?hr ?_;(case hd=>rfl);(case hg=>rfl);(case hr=>first|(go_simp;done)|(go_simp;rfl));intro g hg W2 hbox hb;have hB2:=AL hB hb;have lg:w1.heap.size<=g:=by rw [hg];exact hB.size
    exact hK.out _ _ (hSA.out _ hB2) (λ_=>J27 g _ ⟨hB2,hbox,lg⟩)
  intro J2;refine GV (σ:=Nat) 5 #[true,true,false,true,true,false,true,false,false,false] (λs_=>[(7, .pointer (some ⟨s_,0,none⟩))]) (λs_ w'=>Below w1.heap.size w1 w'/\w'.heap[s_]? =some (.cells #[.int .i64 0, .int .i64 0, .int .i64 0, .int .i64 0, .int .i64 0] 74 (0,0))/\w1.heap.size<=s_) ?_ ?_
  ·rintro s_ W ⟨hB,hx,lx⟩;have hHeld:=hSA.out W hB;refine ET (a':=?_) ?_ ?_
   rotate_left
   ·simp only [Di,Act.put,List.setIfInBounds_toArray,List.set_cons_zero,List.set_cons_succ];rfl
   refine IX (i:=2) (j:=7) (Ni:=some 12) (Nj:=some 8) #[true,true,true,true,true,false,true,false,false,false] #[true,true,false,true,true,false,true,true,false,false] rfl rfl rfl rfl (FU HT_.out (by kernel_rfl)) (by decide) (by decide) (λK hK=>?_) (λK hK=>?_)
   ·have _u:=trivial;refine call_ 49 #[.agg #[.string a0, .string a1, .string a2, .string a3, .int .i64 a4, .int .i64 a5, .int .i64 a6, .bool a7, .bool a8, .bool a9, .int .i64 a10], .pointer (some ⟨w.heap.size+1+1,0,none⟩)] (by rfl) rfl (by have he:=Fg Tryz.func49 (by kernel_rfl) rfl #[.agg #[.string a0, .string a1, .string a2, .string a3, .int .i64 a4, .int .i64 a5, .int .i64 a6, .bool a7, .bool a8, .bool a9, .int .i64 a10], .pointer (some ⟨w.heap.size+1+1,0,none⟩)] W;unfold execOp;simp [resolve,Deferred.ofValue,invoke,Act.eval,he]) ?_;refine (GR (w.heap.size+1+1) _ _ _ _ _ _ _ _ _ _ _ _ hHeld.2.1).mono ?_;rintro e W2 ⟨rfl,hb⟩;refine ⟨_,rfl,?_⟩;have hB2:=AL hB hb;have hx2:=CO hx hb;exact hK.out _ _ (hSA.out _ hB2) (λ_=>J26 s_ _ ⟨hB2,hx2,lx⟩)
   ·have _u:=trivial;refine Ep ?hg (N:=8) ?hd (cs:=#[.int .i64 0, .int .i64 0, .int .i64 0, .int .i64 0, .int .i64 0]) (t:=74) ?hr ?_;(case hd=>rfl);(case hg=>rfl);(case hr=>first|(go_simp;done)|(go_simp;rfl));intro g hg W2 hbox hb;have hB2:=AL hB hb;have lg:w1.heap.size<=g:=by rw [hg];exact hB.size
    have hx2:=CO hx hb;have ne2:s_≠g:=by rw [hg];exact Nat.ne_of_lt (WK hx)
    exact hK.out _ _ (hSA.out _ hB2) (λ_=>J67 (s_,g) _ ⟨hB2,hx2,lx,hbox,lg,ne2⟩)
  intro J6;refine GV (σ:=Nat) 5 #[true,true,false,true,true,false,false,true,false,false] (λs_=>[(8, .pointer (some ⟨s_,0,none⟩))]) (λs_ w'=>Below w1.heap.size w1 w'/\w'.heap[s_]? =some (.cells #[.int .i64 0, .int .i64 0, .int .i64 0, .int .i64 0, .int .i64 0] 74 (0,0))/\w1.heap.size<=s_) ?_ ?_
  ·rintro s_ W ⟨hB,hy,ly⟩;have hHeld:=hSA.out W hB;refine ET (a':=?_) ?_ ?_
   rotate_left
   ·simp only [Di,Act.put,List.setIfInBounds_toArray,List.set_cons_zero,List.set_cons_succ];rfl
   refine IX (i:=2) (j:=6) (Ni:=some 12) (Nj:=some 7) #[true,true,true,true,true,false,false,true,false,false] #[true,true,false,true,true,false,true,true,false,false] rfl rfl rfl rfl (FU HT_.out (by kernel_rfl)) (by decide) (by decide) (λK hK=>?_) (λK hK=>?_)
   ·have _u:=trivial;refine call_ 49 #[.agg #[.string a0, .string a1, .string a2, .string a3, .int .i64 a4, .int .i64 a5, .int .i64 a6, .bool a7, .bool a8, .bool a9, .int .i64 a10], .pointer (some ⟨w.heap.size+1+1,0,none⟩)] (by rfl) rfl (by have he:=Fg Tryz.func49 (by kernel_rfl) rfl #[.agg #[.string a0, .string a1, .string a2, .string a3, .int .i64 a4, .int .i64 a5, .int .i64 a6, .bool a7, .bool a8, .bool a9, .int .i64 a10], .pointer (some ⟨w.heap.size+1+1,0,none⟩)] W;unfold execOp;simp [resolve,Deferred.ofValue,invoke,Act.eval,he]) ?_;refine (GR (w.heap.size+1+1) _ _ _ _ _ _ _ _ _ _ _ _ hHeld.2.1).mono ?_;rintro e W2 ⟨rfl,hb⟩;refine ⟨_,rfl,?_⟩;have hB2:=AL hB hb;have hy2:=CO hy hb;exact hK.out _ _ (hSA.out _ hB2) (λ_=>J27 s_ _ ⟨hB2,hy2,ly⟩)
   ·have _u:=trivial;refine Ep ?hg (N:=7) ?hd (cs:=#[.int .i64 0, .int .i64 0, .int .i64 0, .int .i64 0, .int .i64 0]) (t:=74) ?hr ?_;(case hd=>rfl);(case hg=>rfl);(case hr=>first|(go_simp;done)|(go_simp;rfl));intro g hg W2 hbox hb;have hB2:=AL hB hb;have lg:w1.heap.size<=g:=by rw [hg];exact hB.size
    have hy2:=CO hy hb;have ne2:g≠s_:=by rw [hg];exact Nat.ne_of_gt (WK hy)
    exact hK.out _ _ (hSA.out _ hB2) (λ_=>J67 (g,s_) _ ⟨hB2,hbox,lg,hy2,ly,ne2⟩)
  intro J7;refine Q9 (i:=2) (j:=6) (k:=7) (Ni:=some 12) (Nj:=some 7) (Nk:=some 8) #[true,true,true,true,true,false,false,false,false,false] #[true,true,false,true,true,false,true,false,false,false] #[true,true,false,true,true,false,false,true,false,false] rfl rfl rfl rfl rfl rfl (Nc HT_.out (by kernel_rfl)) (by decide) (by decide) (by decide) (λK hK=>?_) (λK hK=>?_) (λK hK=>?_)
  ·have _u:=trivial;refine call_ 49 #[.agg #[.string a0, .string a1, .string a2, .string a3, .int .i64 a4, .int .i64 a5, .int .i64 a6, .bool a7, .bool a8, .bool a9, .int .i64 a10], .pointer (some ⟨w.heap.size+1+1,0,none⟩)] (by rfl) rfl (by have he:=Fg Tryz.func49 (by kernel_rfl) rfl #[.agg #[.string a0, .string a1, .string a2, .string a3, .int .i64 a4, .int .i64 a5, .int .i64 a6, .bool a7, .bool a8, .bool a9, .int .i64 a10], .pointer (some ⟨w.heap.size+1+1,0,none⟩)] W;unfold execOp;simp [resolve,Deferred.ofValue,invoke,Act.eval,he]) ?_;refine (GR (w.heap.size+1+1) _ _ _ _ _ _ _ _ _ _ _ _ hHeld.2.1).mono ?_;rintro e W2 ⟨rfl,hb⟩;refine ⟨_,rfl,?_⟩;have hB2:=AL hB hb;exact hK.out _ _ (hSA.out _ hB2) (λ_=>J2 () _ hB2)
  ·have _u:=trivial;refine Ep ?hg (N:=7) ?hd (cs:=#[.int .i64 0, .int .i64 0, .int .i64 0, .int .i64 0, .int .i64 0]) (t:=74) ?hr ?_;(case hd=>rfl);(case hg=>rfl);(case hr=>first|(go_simp;done)|(go_simp;rfl));intro g hg W2 hbox hb;have hB2:=AL hB hb;have lg:w1.heap.size<=g:=by rw [hg];exact hB.size
   exact hK.out _ _ (hSA.out _ hB2) (λ_=>J6 g _ ⟨hB2,hbox,lg⟩)
  ·have _u:=trivial;refine Ep ?hg (N:=8) ?hd (cs:=#[.int .i64 0, .int .i64 0, .int .i64 0, .int .i64 0, .int .i64 0]) (t:=74) ?hr ?_;(case hd=>rfl);(case hg=>rfl);(case hr=>first|(go_simp;done)|(go_simp;rfl));intro g hg W2 hbox hb;have hB2:=AL hB hb;have lg:w1.heap.size<=g:=by rw [hg];exact hB.size
   exact hK.out _ _ (hSA.out _ hB2) (λ_=>J7 g _ ⟨hB2,hbox,lg⟩)
 case rest=>
  obtain ⟨gx,gy,rfl,rfl,HB2,HX,HY⟩:=hcut;obtain ⟨hb0,hc0,hcells⟩:=hSA.out wc HB2.out;have hlt:w.heap.size+1<wc.heap.size:=by have:=HB2.out.size;omega
  clear hc0;have hS:∀ w':World,Below wc.heap.size wc w'->Below wc.heap.size wc w'/\w'.cell? ⟨w.heap.size,0,none⟩=some (.string a0)/\w'.cell? ⟨w.heap.size,1,none⟩=some (.string a1)/\w'.cell? ⟨w.heap.size,2,none⟩=some (.string a2)/\w'.cell? ⟨w.heap.size,3,none⟩=some (.string a3)/\w'.cell? ⟨w.heap.size,4,none⟩=some (.int .i64 a4)/\w'.cell? ⟨w.heap.size,5,none⟩=some (.int .i64 a5)/\w'.cell? ⟨w.heap.size,6,none⟩=some (.int .i64 a6)/\w'.cell? ⟨w.heap.size,7,none⟩=some (.bool a7)/\w'.cell? ⟨w.heap.size,8,none⟩=some (.bool a8)/\w'.cell? ⟨w.heap.size,9,none⟩=some (.bool a9)/\w'.cell? ⟨w.heap.size,10,none⟩=some (.int .i64 a10)/\w'.cell? ⟨w.heap.size+1,0,none⟩=some (.string b0)/\w'.cell? ⟨w.heap.size+1,1,none⟩=some (.string b1)/\w'.cell? ⟨w.heap.size+1,2,none⟩=some (.string b2)/\w'.cell? ⟨w.heap.size+1,3,none⟩=some (.string b3)/\w'.cell? ⟨w.heap.size+1,4,none⟩=some (.int .i64 b4)/\w'.cell? ⟨w.heap.size+1,5,none⟩=some (.int .i64 b5)/\w'.cell? ⟨w.heap.size+1,6,none⟩=some (.int .i64 b6)/\w'.cell? ⟨w.heap.size+1,7,none⟩=some (.bool b7)/\w'.cell? ⟨w.heap.size+1,8,none⟩=some (.bool b8)/\w'.cell? ⟨w.heap.size+1,9,none⟩=some (.bool b9)/\w'.cell? ⟨w.heap.size+1,10,none⟩=some (.int .i64 b10):=by
   intro w' hb;obtain ⟨pa0,pa1,pa2,pa3,pa4,pa5,pa6,pa7,pa8,pa9,pa10,pb0,pb1,pb2,pb3,pb4,pb5,pb6,pb7,pb8,pb9,pb10⟩:=hcells;exact ⟨hb,(hb.cell (by show w.heap.size<_;omega)).trans pa0,(hb.cell (by show w.heap.size<_;omega)).trans pa1,(hb.cell (by show w.heap.size<_;omega)).trans pa2,(hb.cell (by show w.heap.size<_;omega)).trans pa3,(hb.cell (by show w.heap.size<_;omega)).trans pa4,(hb.cell (by show w.heap.size<_;omega)).trans pa5,(hb.cell (by show w.heap.size<_;omega)).trans pa6,(hb.cell (by show w.heap.size<_;omega)).trans pa7,(hb.cell (by show w.heap.size<_;omega)).trans pa8,(hb.cell (by show w.heap.size<_;omega)).trans pa9,(hb.cell (by show w.heap.size<_;omega)).trans pa10,(hb.cell (by show w.heap.size+1<_;omega)).trans pb0,(hb.cell (by show w.heap.size+1<_;omega)).trans pb1,(hb.cell (by show w.heap.size+1<_;omega)).trans pb2,(hb.cell (by show w.heap.size+1<_;omega)).trans pb3,(hb.cell (by show w.heap.size+1<_;omega)).trans pb4,(hb.cell (by show w.heap.size+1<_;omega)).trans pb5,(hb.cell (by show w.heap.size+1<_;omega)).trans pb6,(hb.cell (by show w.heap.size+1<_;omega)).trans pb7,(hb.cell (by show w.heap.size+1<_;omega)).trans pb8,(hb.cell (by show w.heap.size+1<_;omega)).trans pb9,(hb.cell (by show w.heap.size+1<_;omega)).trans pb10⟩
  have hSB:=AA.mk hS;clear hS hcells hb0;obtain ⟨k1,hk1⟩:=Qq a0 a1 a2 b0 b1 b2;obtain ⟨k2,hk2⟩:=UC (l:=[a6,tl a7,tl a8,tl a9,a10]) (m:=[b6,tl b7,tl b8,tl b9,b10]) (by simp) rfl;obtain ⟨k3,hk3⟩:=Us (l:=[JN a0 a1 a2 b0 b1 b2,Eu a4 b4,Eu a5 b5,Gv a3 b3,Kq [a6,tl a7,tl a8,tl a9,a10] [b6,tl b7,tl b8,tl b9,b10]]) (by simp);have K1:=AA.mk hk1;have K2:=AA.mk hk2;have K3:=AA.mk hk3;clear hk1 hk2 hk3;go_wp2;go_region_held3 (λw'=>Below wc.heap.size wc w'/\w'.cell? ⟨w.heap.size,0,none⟩=some (.string a0)/\w'.cell? ⟨w.heap.size,1,none⟩=some (.string a1)/\w'.cell? ⟨w.heap.size,2,none⟩=some (.string a2)/\w'.cell? ⟨w.heap.size,3,none⟩=some (.string a3)/\w'.cell? ⟨w.heap.size,4,none⟩=some (.int .i64 a4)/\w'.cell? ⟨w.heap.size,5,none⟩=some (.int .i64 a5)/\w'.cell? ⟨w.heap.size,6,none⟩=some (.int .i64 a6)/\w'.cell? ⟨w.heap.size,7,none⟩=some (.bool a7)/\w'.cell? ⟨w.heap.size,8,none⟩=some (.bool a8)/\w'.cell? ⟨w.heap.size,9,none⟩=some (.bool a9)/\w'.cell? ⟨w.heap.size,10,none⟩=some (.int .i64 a10)/\w'.cell? ⟨w.heap.size+1,0,none⟩=some (.string b0)/\w'.cell? ⟨w.heap.size+1,1,none⟩=some (.string b1)/\w'.cell? ⟨w.heap.size+1,2,none⟩=some (.string b2)/\w'.cell? ⟨w.heap.size+1,3,none⟩=some (.string b3)/\w'.cell? ⟨w.heap.size+1,4,none⟩=some (.int .i64 b4)/\w'.cell? ⟨w.heap.size+1,5,none⟩=some (.int .i64 b5)/\w'.cell? ⟨w.heap.size+1,6,none⟩=some (.int .i64 b6)/\w'.cell? ⟨w.heap.size+1,7,none⟩=some (.bool b7)/\w'.cell? ⟨w.heap.size+1,8,none⟩=some (.bool b8)/\w'.cell? ⟨w.heap.size+1,9,none⟩=some (.bool b9)/\w'.cell? ⟨w.heap.size+1,10,none⟩=some (.int .i64 b10))
   ((refine hSB.out _ ?_;with_reducible repeat (first|exact And.left (by assumption)|exact Fz (And.left (by assumption))|exact AL (And.left (by assumption)) hb|exact Below.refl _ _|refine BX ?_ _|refine Bi ?_|refine DD ?_ _)))
   (first|(go_at_call 27;refine (CQ.Da.calls _ _ _ _ _ _ _ _ _ _ _ _ _ _ _ rfl).mono ?_;rintro e w' ⟨rfl,hb⟩)|(go_at_call 51;refine (CQ.Ch.calls k1 _ _ _ _ _ _ _ _ K1.out).mono ?_;rintro e w' ⟨rfl,hb⟩;have HL:=And.left ‹Below wc.heap.size wc _/\_›;have HX2:=AA.mk (CO HX.out (AL HL hb));have HY2:=AA.mk (CO HY.out (AL HL hb)))|(go_at_call 52;refine (CQ.cmp_Compare_int.calls _ _ _ _ (Qm _ _)).mono ?_;rintro e w' ⟨rfl,nd,rfl⟩)|(go_at_call 53;refine (CQ.Cq.calls _ _ _ _ (Qn _ _)).mono ?_;rintro e w' ⟨rfl,nd,rfl⟩)|(go_at_call 54;refine (CQ.CB.calls k2 _ _ [a6,tl a7,tl a8,tl a9,a10] _ _ [b6,tl b7,tl b8,tl b9,b10] _ _ (OY (EX HX2.out _)) (Nat.le_refl 5) (OY (EX HY2.out _)) (Nat.le_refl 5) K2.out).mono ?_;rintro e w' ⟨rfl,nd,rfl⟩)|(go_at_call 50;refine (CQ.Db.calls k3 _ _ [_,_,_,_,_] _ _ (OY (heap_alloc_new _ _)) (Nat.le_refl 5) K3.out).mono ?_;rintro e w' ⟨rfl,nd,rfl⟩))
  go_wp2;go_ret;exact ⟨rfl,JZ hB1 hB1.size (JZ HB2.out HB2.out.size (by with_reducible repeat (first|exact And.left (by assumption)|exact Fz (And.left (by assumption))|refine DD ?_ _|refine BX ?_ _)))⟩
end Go.Proofs.YtohjohhcjcljoaaGreatDoor.Print
