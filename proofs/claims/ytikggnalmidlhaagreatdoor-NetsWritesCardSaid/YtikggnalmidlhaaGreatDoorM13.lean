/- Several parts of the claim's proof in one text, said short by a program of this session. No condition. -/
import Derived.Test.YtikggnalmidlhaaGreatDoorM7
import Derived.Test.YtikggnalmidlhaaGreatDoorM8
import Derived.BigRegionIn
section
namespace Go.Proofs.YtikggnalmidlhaaGreatDoor.Print
open RowKit AR Aa Ad Range Shelf
set_option linter.unusedVariables false
set_option linter.unusedSimpArgs false
attribute [local go_sem] Oper.semAt_some
def Ey:List ByteArray->Int->ByteArray->Bool
 |[],_,_=>false
 |x::l,n,d=>if 12<(if x=d then n else 0)+1 then true else Ey l ((if x=d then n else 0)+1) x
def Ee.f (l:List Cj):Option Bool:=if l.length<=1099511627776 then some (Ey (l.map (·.f0.f0)) 0 ⟨#[]⟩||decide (60<l.length)) else none
structure MS (w:World) (A0:Option Addr) (n c0:Nat) (b:Bool) (o:Int) (d:ByteArray) (W:World):Prop where
 h:Boxed W w.heap.size 27 (.slice A0 n c0)
 r:Boxed W (w.heap.size+1) 4 (.bool b)
 o:Boxed W (w.heap.size+1+1) 3 (.int .i64 o)
 d:Boxed W (w.heap.size+1+1+1) 9 (.string d)
 b:Below w.heap.size w W
theorem EG {W:World} {B:Nat} {t:TypeId} {v:Value} (h:Boxed W B t v) (g:Nat) (u:Value) (hne:B≠g):Boxed (W.setCell ⟨g,0,none⟩ u) B t v:=(Below.heap_setCell W ⟨g,0,none⟩ u B hne).trans h
section
variable {w:World} {A0:Option Addr} {n c0:Nat} {b:Bool} {o:Int} {d:ByteArray} {W:World}
theorem MS.Px (h:MS w A0 n c0 b o d W) (o':Int):MS w A0 n c0 b o' d (W.setCell ⟨w.heap.size+1+1,0,none⟩ (.int .i64 o')):=⟨EG h.h _ _ (by omega),EG h.r _ _ (by omega),h.o.set _,EG h.d _ _ (by omega),h.b.setCell (p:=⟨w.heap.size+1+1,0,none⟩) (by show w.heap.size<=w.heap.size+1+1;omega) _⟩
theorem MS.Ue (h:MS w A0 n c0 b o d W) (d':ByteArray):MS w A0 n c0 b o d' (W.setCell ⟨w.heap.size+1+1+1,0,none⟩ (.string d')):=⟨EG h.h _ _ (by omega),EG h.r _ _ (by omega),EG h.o _ _ (by omega),h.d.set _,h.b.setCell (p:=⟨w.heap.size+1+1+1,0,none⟩) (by show w.heap.size<=w.heap.size+1+1+1;omega) _⟩
theorem MS.VA (h:MS w A0 n c0 b o d W) (b':Bool):MS w A0 n c0 b' o d (W.setCell ⟨w.heap.size+1,0,none⟩ (.bool b')):=⟨EG h.h _ _ (by omega),h.r.set _,EG h.o _ _ (by omega),EG h.d _ _ (by omega),h.b.setCell (p:=⟨w.heap.size+1,0,none⟩) (by show w.heap.size<=w.heap.size+1;omega) _⟩
theorem MS.drew (h:MS w A0 n c0 b o d W):MS w A0 n c0 b o d W.drew:=⟨h.h,h.r,h.o,h.d,h.b.drew⟩
theorem MS.own {B:Nat} (hB:w.heap.size<=B) (h:MS w A0 n c0 b o d W) {W':World} {row:Option Nat} (hg:W.grownBy W' row) (hr:∀ r,row=some r->B<=r/\∃ o:Obj,W.heap[r]? =some o/\o.isCells=false):MS w A0 n c0 b o d W':=
 ⟨boxed_own (B:=B) (λ_=>_) 0 W W' row h.h hg hr,boxed_own (B:=B) (λ_=>_) 0 W W' row h.r hg hr,boxed_own (B:=B) (λ_=>_) 0 W W' row h.o hg hr,boxed_own (B:=B) (λ_=>_) 0 W W' row h.d hg hr,(ownFrom_below (Nat.le_refl _) hB:OwnFrom B λ(_:Nat) W=>Below w.heap.size w W) 0 W W' row h.b hg hr⟩
end
theorem bytes_inj {a b:ByteArray} (h:a.toList=b.toList):a=b:=by
 rw [ByteArray.toList_eq,ByteArray.toList_eq] at h;exact ByteArray.ext (Array.toList_inj.1 h)
theorem RX {W w3:World} {B:Nat} {ty:TypeId} {v:Value} (hb:Below W.heap.size W w3) (h:Boxed W B ty v):Boxed w3 B ty v:=(hb.block B h.lt).trans h
def Uf (w W:World) (A0:Option Addr) (n c0:Nat) (d:ByteArray) (a0:Act):Exit->Act->World->Prop
 | .normal,a,W'=>a=a0/\MS w A0 n c0 false 0 d W'/\KeepsOthers W W'/\Below w.heap.size W W'
 |_,_,_=>False
def Py (w:World) (A0:Option Addr) (c0:Nat) (l:List Cj):Nat->World->Prop:=λj W=>∃ o d,MS w A0 l.length c0 false o d W/\(0<=o/\o<=12)/\Ey ((l.map (·.f0.f0)).drop j) o d=Ey (l.map (·.f0.f0)) 0 ⟨#[]⟩
def Sv (w:World) (A0:Option Addr) (c0:Nat) (l:List Cj):Code->Nat->World->Prop:=λc _ W=>c= .ret/\(∃ o d,MS w A0 l.length c0 true o d W)/\Ey (l.map (·.f0.f0)) 0 ⟨#[]⟩=true
theorem IW {w:World} {A0:Option Addr} {c0:Nat} {l:List Cj} {B:Nat} (hB:w.heap.size<=B):OwnFrom B (Py w A0 c0 l):=by
 rintro j W W' row ⟨o,d,h1,h2⟩ hg hr;exact ⟨o,d,h1.own hB hg hr,h2⟩
theorem O1 {w:World} {A0:Option Addr} {c0:Nat} {l:List Cj} {B:Nat} (hB:w.heap.size<=B) (c:Code):OwnFrom B (Sv w A0 c0 l c):=by
 rintro j W W' row ⟨e,⟨o,d,h1⟩,h2⟩ hg hr;exact ⟨e,⟨o,d,h1.own hB hg hr⟩,h2⟩
theorem RY (A0:Option Addr) (c0 n:Nat) (w:World):Calls Tryz.prog 38 #[.agg #[.slice A0 n c0]] w λe w'=>e= .returned (.int .i64 n)/\Below w.heap.size w w':=by
 have hu27:=Tryz.underlying25;go_enter Tryz.func38,Tryz.ntmps38;go_wp2;go_ret;exact ⟨rfl,by repeat (first|exact Below.refl _ _|apply Bw|apply Bj)⟩
set_option maxHeartbeats 4000000 in
set_option maxRecDepth 100000 in
theorem Ee.calls (A0:Option Addr) (c0:Nat) (l:List Cj) (r:Bool) (w:World) (hr:Kd.C Ex w A0 l.length l) (hc:l.length<=c0) (h:Ee.f l=some r):
 Calls Tryz.prog 39 #[.agg #[.slice A0 l.length c0]] w λe w'=>e= .returned (.bool r)/\Below w.heap.size w w':=by
 unfold Ee.f at h;by_cases hn:l.length<=1099511627776;case neg=>rw [if_neg hn] at h;exact absurd h (by simp)
 rw [if_pos hn] at h;obtain rfl:=Option.some.inj h;have huH:=Tryz.underlying27;have huT:=Tryz.underlying25;have huK:=Tryz.underlying69;refine Ef Tryz.func39 rfl ?_;simp only [Tryz.ntmps39,List.size_toArray,List.length_cons,List.length_nil,Nat.reduceAdd,Nat.reduceSub,Array.replicate_succ,Array.replicate_zero,List.push_toArray,List.append_toArray,List.nil_append,List.cons_append];go_wp2;obtain ⟨W0,hW0⟩:∃ W0,(((w.alloc (.cells #[.slice A0 l.length c0] 27)).alloc (.cells #[.bool false] 4)).alloc (.cells #[.int .i64 0] 3)).alloc (.cells #[.string ⟨#[]⟩] 9)=W0:=⟨_,rfl⟩;have M0:MS w A0 l.length c0 false 0 ⟨#[]⟩ W0:=by
  rw [<-hW0];refine ⟨(((Boxed.new w _ _).alloc _).alloc _).alloc _,?_,?_,?_,(((((Below.refl _ w).alloc (Nat.le_refl _) _).alloc (by simp) _).alloc (by simp;omega) _).alloc (by simp;omega) _)⟩
  ·have:=Boxed.new (w.alloc (.cells #[.slice A0 l.length c0] 27)) 4 (.bool false);rw [World.size_alloc] at this;exact (this.alloc _).alloc _
  ·have:=Boxed.new ((w.alloc (.cells #[.slice A0 l.length c0] 27)).alloc (.cells #[.bool false] 4)) 3 (.int .i64 0);rw [World.size_alloc,World.size_alloc] at this;exact this.alloc _
  ·have:=Boxed.new (((w.alloc (.cells #[.slice A0 l.length c0] 27)).alloc (.cells #[.bool false] 4)).alloc (.cells #[.int .i64 0] 3)) 9 (.string ⟨#[]⟩);rw [World.size_alloc,World.size_alloc,World.size_alloc] at this;exact this
 have hs:W0.heap.size=w.heap.size+1+1+1+1:=by rw [<-hW0];simp
 rw [hW0];clear hW0;refine Kj (gf:=40) (fb:=#[.agg #[.slice A0 l.length c0]]) (n₀:=w.heap.size) (enc:=IQ) (xs:=l) rfl (enters_of Tryz.func40 (by kernel_rfl) rfl)
  (KX A0 c0 l w _ 8 hr hc (by omega) M0.b) (by omega) (λ_ _=>rfl)
  (Py w A0 c0 l) (Sv w A0 c0 l) (IW (by omega)) (O1 (by omega))
  ⟨_,_,M0,by omega,rfl⟩
  (IY (λx g=>{tmps:=#[.agg #[.slice A0 l.length c0], .pointer (some ⟨w.heap.size,0,none⟩), .pointer (some ⟨w.heap.size+1,0,none⟩), .pointer (some ⟨w.heap.size+1+1,0,none⟩), .pointer (some ⟨w.heap.size+1+1+1,0,none⟩), .pointer (some ⟨g,0,none⟩), .pointer (some ⟨w.heap.size,0,none⟩), .agg #[.slice A0 l.length c0], .func (.func 40) #[.agg #[.slice A0 l.length c0]] #[], .agg #[.string x.f0.f0, .string x.f0.f1, .string x.f0.f2], .agg #[.string x.f1.f0, .string x.f1.f1, .string x.f1.f2, .string x.f1.f3, .int .i64 x.f1.f4, .int .i64 x.f1.f5, .int .i64 x.f1.f6, .bool x.f1.f7, .bool x.f1.f8, .bool x.f1.f9, .int .i64 x.f1.f10],undef,undef,undef,undef,undef,undef,undef,undef,undef,undef,undef,undef,undef,undef],defers:=[]}) (λx=>#[.string x.f0.f0, .string x.f0.f1, .string x.f0.f2]) 69 (Py w A0 c0 l))
  (IY.own (IW (by omega))) ?assign ?body ?done ?stop
 case assign=>
  intro lp j x W hx hI;have hS:w.heap.size<=W.heap.size:=by obtain ⟨o,d,hM,_⟩:=hI;exact hM.b.size
  unfold IQ
  gi_wp2
  exact ⟨(KeepsOthers.alloc _ _).from _,(Below.refl _ W).alloc hS _,W.heap.size,rfl,Eh _ _,(IW (Nat.le_refl _)).alloc _ hI⟩
 case body=>
  rintro lp j x a1 W hx ⟨g,hq,hg,o,d,hM,ho,hR⟩;dsimp only at hq hg;subst hq;have g0:=GJ hg (i:=0) rfl;have c1:=hM.o.cell;have c2:=hM.d.cell;have f1:=hM.o.frozen;have f2:=hM.d.frozen;have c3:=hM.r.cell;have f3:=hM.r.frozen;have hj:j<l.length:=(List.getElem?_eq_some_iff.1 hx).1;have hdr:(l.map (·.f0.f0)).drop j=x.f0.f0::(l.map (·.f0.f0)).drop (j+1):=by
   rw [<-List.map_drop, <-List.map_drop,List.drop_eq_getElem_cons hj,(List.getElem?_eq_some_iff.1 hx).2];rfl
  rw [hdr,Ey] at hR;by_cases hd:x.f0.f0=d
  ·rw [if_pos hd] at hR;by_cases hb:12<o+1
   ·rw [if_pos hb] at hR;have HR:=AA.mk hR;have hb1:decide (12<o+1)=true:=decide_eq_true hb;clear hR hdr
    gi_wp2
    exact ⟨((KeepsOthers.setCell _ _ _).trans (KeepsOthers.setCell _ _ _)).from _,rfl,⟨_,_,(hM.Px _).VA _⟩,HR.out.symm⟩
   ·rw [if_neg hb] at hR;have HR:=AA.mk hR;have hb1:decide (12<o+1)=false:=decide_eq_false hb;clear hR hdr
    gi_wp2
    exact ⟨(KeepsOthers.setCell _ _ _).from _,(Below.refl w.heap.size W).setCell (p:=⟨w.heap.size+1+1,0,none⟩) (by show w.heap.size<=w.heap.size+1+1;omega) _,_,_,hM.Px _,by omega,by rw [<-HR.out,hd]⟩
  ·rw [if_neg hd,if_neg (by omega)] at hR;have HR:=AA.mk hR;have n4:(x.f0.f0.toList==d.toList)=false:=by rw [beq_eq_false_iff_ne];intro e;exact hd (bytes_inj e)
   have n5:(x.f0.f0.toList != d.toList)=true:=by rw [bne,n4];rfl
   have ne1:¬g=w.heap.size+1+1:=λe=>by subst e;have:=hg.symm.trans hM.o;simp at this
   have ne2:¬g=w.heap.size+1+1+1:=λe=>by subst e;have:=hg.symm.trans hM.d;simp at this
   have ne3:¬w.heap.size+1+1=g:=λe=>ne1 e.symm
   have ne4:¬w.heap.size+1+1+1=g:=λe=>ne2 e.symm
   clear hR hdr
   gi_wp2
   refine wpIn_mono (Q:=Uf w W A0 l.length c0 x.f0.f0 {tmps:=#[.agg #[.slice A0 l.length c0], .pointer (some ⟨w.heap.size,0,none⟩), .pointer (some ⟨w.heap.size+1,0,none⟩), .pointer (some ⟨w.heap.size+1+1,0,none⟩), .pointer (some ⟨w.heap.size+1+1+1,0,none⟩), .pointer (some ⟨g,0,none⟩), .pointer (some ⟨w.heap.size,0,none⟩), .agg #[.slice A0 l.length c0], .func (.func 40) #[.agg #[.slice A0 l.length c0]] #[], .agg #[.string x.f0.f0, .string x.f0.f1, .string x.f0.f2], .agg #[.string x.f1.f0, .string x.f1.f1, .string x.f1.f2, .string x.f1.f3, .int .i64 x.f1.f4, .int .i64 x.f1.f5, .int .i64 x.f1.f6, .bool x.f1.f7, .bool x.f1.f8, .bool x.f1.f9, .int .i64 x.f1.f10], .pointer (some ⟨g,0,none⟩), .string x.f0.f0, .string d, .bool true, .pointer (some ⟨g,0,none⟩), .string x.f0.f0,undef,undef,undef,undef,undef,undef,undef,undef],defers:=[]}) ?region ?next;case region=>
    gi_region
    all_goals exact ⟨rfl,by first|exact (hM.drew.Px _).Ue _|exact (hM.drew.Ue _).Px _,by first|exact ((KeepsOthers.drew _).trans ((KeepsOthers.setCell _ _ _).trans (KeepsOthers.setCell _ _ _))),by first|exact (((Below.refl w.heap.size W).drew.setCell (p:=⟨w.heap.size+1+1,0,none⟩) (by show w.heap.size<=w.heap.size+1+1;omega) _).setCell (p:=⟨w.heap.size+1+1+1,0,none⟩) (by show w.heap.size<=w.heap.size+1+1+1;omega) _)|exact (((Below.refl w.heap.size W).drew.setCell (p:=⟨w.heap.size+1+1+1,0,none⟩) (by show w.heap.size<=w.heap.size+1+1+1;omega) _).setCell (p:=⟨w.heap.size+1+1,0,none⟩) (by show w.heap.size<=w.heap.size+1+1;omega) _)⟩
   rintro (_|_|_|_|_|_) a3 W3 ⟨⟩;rename_i e3 q3;subst e3;obtain ⟨q1,q2,q4⟩:=q3;have r1:=q1.o.cell;have r3:=q1.o.frozen
   gi_wp2
   exact ⟨(q2.trans (KeepsOthers.setCell _ _ _)).from _,q4.setCell (p:=⟨w.heap.size+1+1,0,none⟩) (by show w.heap.size<=w.heap.size+1+1;omega) _,_,_,q1.Px _,by omega,HR.out⟩
 case done=>
  rintro D W hD ⟨o,d,hM,ho,hR⟩ hK;have hc:=hM.h.cell;have hR0:Ey (l.map (·.f0.f0)) 0 ⟨#[]⟩=false:=by rw [<-hR,List.drop_eq_nil_of_le (by simp)];rfl
  have HR:=AA.mk hR0;clear hR hR0;go_wp2_with (go_at_call 38;refine (RY _ _ _ _).mono ?_;rintro e w3 ⟨rfl,hb3⟩;have x3:=RX hb3 hM.r;have xc:=x3.cell;have xf:=x3.frozen);have hK3:=DV hK hb3;have hK':=(KeepsOthers.setCell w3 ⟨w.heap.size+1,0,none⟩ (.bool (decide (60<(l.length:Int))))).same D _ hK3 rfl;refine ⟨by simp, .inl ⟨_,_,rfl,run_takeDeferred hK',?_⟩⟩;have hc5:=cell_kept (World.cell?_setCell_same' w3 ⟨w.heap.size+1,0,none⟩ (.bool (decide (60<(l.length:Int)))) (by rw [xc];rfl)) (grownBy_putObj' _ D (.deferred none)) (λr e=>by cases e;exact ⟨_,hK',rfl⟩);have hB3:Below w.heap.size w w3:=hM.b.trans (hb3.mono hM.b.size);refine ⟨.bool (decide (60<(l.length:Int))),?_,?_,(hB3.setCell (p:=⟨w.heap.size+1,0,none⟩) (by show w.heap.size<=w.heap.size+1;omega) _).trans (belowK_b (w:=w) (Nat.le_refl _) _ D _ _ (by omega) hK' rfl rfl)⟩
  ·simp [results,Tryz.f39,go_sem,hc5]
  ·rw [HR.out,Bool.false_or,show decide (60<(l.length:Int))=decide (60<l.length) from decide_eq_decide.2 (by omega)]
 case stop=>
  rintro D c j W hD _ ⟨rfl,⟨o,d,hM⟩,hR⟩ hK;have HR:=AA.mk hR;clear hR;go_wp2;refine ⟨by simp, .inl ⟨_,_,rfl,run_takeDeferred hK,?_⟩⟩;have hc5:=cell_kept hM.r.cell (grownBy_putObj' _ D (.deferred none)) (λr e=>by cases e;exact ⟨_,hK,rfl⟩);refine ⟨.bool true,?_,?_,hM.b.trans (belowK_b (w:=w) (Nat.le_refl _) _ D _ _ (by omega) hK rfl rfl)⟩
  ·simp [results,Tryz.f39,go_sem,hc5]
  ·rw [HR.out,Bool.true_or]
end Go.Proofs.YtikggnalmidlhaaGreatDoor.Print
end
section
namespace Go.Proofs.YtikggnalmidlhaaGreatDoor.Print
open RowKit AR Aa Ad
attribute [local go_sem] BM BN Bo Bp BC BD BO BP
set_option linter.unusedVariables false
set_option linter.unusedSimpArgs false
mutual
def Au.j0:Nat->ByteArray->ByteArray->ByteArray->ByteArray->ByteArray->Int->Int->Int->Bool->Bool->Bool->Int->Option (ByteArray)
 |0,_,_,_,_,_,_,_,_,_,_,_,_=>none
 |k+1,x3,x192000,x192001,x192002,x192003,x192004,x192005,x192006,x192007,x192008,x192009,x192010=>if x192009=true then (if 10+x3.size<=9223372036854775807 then (Au.j1 k ((⟨#[35,72,116,116,112,79,110,108,121,95]⟩:ByteArray)++x3) x192000 x192001 x192002 x192003 x192004 x192005 x192006 x192007 x192008 x192009 x192010) else (none)) else (Au.j1 k x3 x192000 x192001 x192002 x192003 x192004 x192005 x192006 x192007 x192008 x192009 x192010)
def Au.j1:Nat->ByteArray->ByteArray->ByteArray->ByteArray->ByteArray->Int->Int->Int->Bool->Bool->Bool->Int->Option (ByteArray)
 |0,_,_,_,_,_,_,_,_,_,_,_,_=>none
 |k+1,x3,x192000,x192001,x192002,x192003,x192004,x192005,x192006,x192007,x192008,x192009,x192010=>(EA.f (!x192007)).bind λt192=>((EA.f x192008).bind λt193=>((Dr.f x192006).bind λt194=>((DY.f (([x3,t192,x192001,t193,t194,x192002,x192003]:List ByteArray))).bind λbt198=>(some bt198.1))))
end
def Au.f (k:Nat) (a0_0:ByteArray) (a0_1:ByteArray) (a0_2:ByteArray) (a0_3:ByteArray) (a0_4:Int) (a0_5:Int) (a0_6:Int) (a0_7:Bool) (a0_8:Bool) (a0_9:Bool) (a0_10:Int):Option (ByteArray):=if a0_7=true then (Au.j0 k a0_0 a0_0 a0_1 a0_2 a0_3 a0_4 a0_5 a0_6 a0_7 a0_8 a0_9 a0_10) else (if 1+a0_0.size<=9223372036854775807 then (Au.j0 k ((⟨#[46]⟩:ByteArray)++a0_0) a0_0 a0_1 a0_2 a0_3 a0_4 a0_5 a0_6 a0_7 a0_8 a0_9 a0_10) else (none))
theorem Au.Dt:∀ k,(∀ y0 y1 y2 y3 y4 y5 y6 y7 y8 y9 y10 y11,Bz (Au.j0 k y0 y1 y2 y3 y4 y5 y6 y7 y8 y9 y10 y11) (Au.j0 (k+1) y0 y1 y2 y3 y4 y5 y6 y7 y8 y9 y10 y11))/\(∀ y0 y1 y2 y3 y4 y5 y6 y7 y8 y9 y10 y11,Bz (Au.j1 k y0 y1 y2 y3 y4 y5 y6 y7 y8 y9 y10 y11) (Au.j1 (k+1) y0 y1 y2 y3 y4 y5 y6 y7 y8 y9 y10 y11))
 |0=>⟨λ_ _ _ _ _ _ _ _ _ _ _ _ r h=>by simp [Au.j0] at h,λ_ _ _ _ _ _ _ _ _ _ _ _ r h=>by simp [Au.j1] at h⟩
 |k+1=>by
  obtain ⟨ih0,ih1⟩:=Au.Dt k;refine ⟨?_,?_⟩
  ·intro y0 y1 y2 y3 y4 y5 y6 y7 y8 y9 y10 y11;unfold Au.j0
   repeat' first|(with_reducible first|exact ih0 _ _ _ _ _ _ _ _ _ _ _ _|exact ih1 _ _ _ _ _ _ _ _ _ _ _ _|exact Bz.refl _|exact Bz.none _|refine Bz.ite ?_ ?_|refine Bz.bind ?_ (λ_=>?_))|exact ih0 _ _ _ _ _ _ _ _ _ _ _ _|exact ih1 _ _ _ _ _ _ _ _ _ _ _ _|exact Bz.none _|refine Bz.ite ?_ ?_|refine Bz.bind ?_ (λ_=>?_)
  ·intro y0 y1 y2 y3 y4 y5 y6 y7 y8 y9 y10 y11;unfold Au.j1
   repeat' first|(with_reducible first|exact ih0 _ _ _ _ _ _ _ _ _ _ _ _|exact ih1 _ _ _ _ _ _ _ _ _ _ _ _|exact Bz.refl _|exact Bz.none _|refine Bz.ite ?_ ?_|refine Bz.bind ?_ (λ_=>?_))|exact ih0 _ _ _ _ _ _ _ _ _ _ _ _|exact ih1 _ _ _ _ _ _ _ _ _ _ _ _|exact Bz.none _|refine Bz.ite ?_ ?_|refine Bz.bind ?_ (λ_=>?_)
theorem Au.mono:∀ a0 a1 a2 a3 a4 a5 a6 a7 a8 a9 a10 k,Bz (Au.f k a0 a1 a2 a3 a4 a5 a6 a7 a8 a9 a10) (Au.f (k+1) a0 a1 a2 a3 a4 a5 a6 a7 a8 a9 a10):=by
 intro a0 a1 a2 a3 a4 a5 a6 a7 a8 a9 a10 k;obtain ⟨ih0,ih1⟩:=Au.Dt k;unfold Au.f
 repeat' first|(with_reducible first|exact ih0 _ _ _ _ _ _ _ _ _ _ _ _|exact ih1 _ _ _ _ _ _ _ _ _ _ _ _|exact Bz.refl _|exact Bz.none _|refine Bz.ite ?_ ?_|refine Bz.bind ?_ (λ_=>?_))|exact ih0 _ _ _ _ _ _ _ _ _ _ _ _|exact ih1 _ _ _ _ _ _ _ _ _ _ _ _|exact Bz.none _|refine Bz.ite ?_ ?_|refine Bz.bind ?_ (λ_=>?_)
def Au.T6:Bool×List (List Nat×List Nat):=(true,[([],[]),([],[]),([1],[1]),([2],[2]),([3],[3]),([],[]),([5],[5]),([],[]),([7],[7]),([8,4],[8]),([],[]),([10],[10]),([11,9],[11]),([],[]),([13],[13]),([],[]),([15],[15]),([0,4,6,9,12,14,16],[0,4,6,9,12,14,16]),([17,12],[17]),([18],[18]),([19],[19]),([19],[19]),([20,18,0,1,2,3,4,5,6,7,8,9,10,11,12,13,14,15,16,17,18,19,20],[20]),([21,22,0,1,2,3,4,5,6,7,8,9,10,11,12,13,14,15,16,17,18,19,20,21,22],[21])])
def Au.B6:List Nat:=[0,0,2,6,14,0,32,0,128,414,0,1024,3998,0,8192,0,32768,131071,262143,524287,1048575,1048575,2097151,8388607]
theorem Au.Ri:E8 .any (opsOf Tryz.f24 6)=Au.T6:=by kernel_rfl
theorem Au.OQ:FE Au.T6.2 Au.B6=true:=by kernel_rfl
set_option maxHeartbeats 8000000 in
set_option maxRecDepth 100000 in
theorem Au.calls (k:Nat) (a0_0:ByteArray) (a0_1:ByteArray) (a0_2:ByteArray) (a0_3:ByteArray) (a0_4:Int) (a0_5:Int) (a0_6:Int) (a0_7:Bool) (a0_8:Bool) (a0_9:Bool) (a0_10:Int) (r:ByteArray) (w:World) (hG:AA (Ck w)) (h:Au.f k a0_0 a0_1 a0_2 a0_3 a0_4 a0_5 a0_6 a0_7 a0_8 a0_9 a0_10=some r):
 Calls Tryz.prog 24 #[.agg #[.string a0_0, .string a0_1, .string a0_2, .string a0_3, .int .i64 a0_4, .int .i64 a0_5, .int .i64 a0_6, .bool a0_7, .bool a0_8, .bool a0_9, .int .i64 a0_10]] w λe w'=>e= .returned (.string r)/\Below w.heap.size w w':=by
 have hu53:=Tryz.underlying53;have HB:=AA.mk (Below.refl w.heap.size w);have H:(if a0_7=true then (Au.j0 k a0_0 a0_0 a0_1 a0_2 a0_3 a0_4 a0_5 a0_6 a0_7 a0_8 a0_9 a0_10) else (if 1+a0_0.size<=9223372036854775807 then (Au.j0 k ((⟨#[46]⟩:ByteArray)++a0_0) a0_0 a0_1 a0_2 a0_3 a0_4 a0_5 a0_6 a0_7 a0_8 a0_9 a0_10) else (none)))=some r:=h;clear h;have HC2:=AA.mk H;clear H;go_enter Tryz.func24,Tryz.ntmps24;go_upto_if 10 with (first|(refine Dk (N:=1) (cs:=#[.string a0_0, .string a0_1, .string a0_2, .string a0_3, .int .i64 a0_4, .int .i64 a0_5, .int .i64 a0_6, .bool a0_7, .bool a0_8, .bool a0_9, .int .i64 a0_10]) (t:=53) (λgb191 hg w3 hbox hb=>?_);have BK191:=AA.mk (hbox);have GW191:AA (w.heap.size<=gb191):=Dp hg xb;have GE191:AA (w.heap.size<=gb191):=Dp hg xb;replace HB:=AA.mk (AP xb hb);clear hb hbox hg;obtain ⟨hcz4_0,hcz4_1,hcz4_2,hcz4_3,hcz4_4,hcz4_5,hcz4_6,hcz4_7,hcz4_8,hcz4_9,hcz4_10⟩:=Bv BK191.out;have hfz4_0:=AX BK191.out))
 (try simp only [Act.put,List.setIfInBounds_toArray,List.set_cons_zero,List.set_cons_succ]);go_cut [3] (λv3 wc=>∃ (kq:Nat) (x3_1:ByteArray),v3= .string x3_1/\AA (Au.j0 kq x3_1 a0_0 a0_1 a0_2 a0_3 a0_4 a0_5 a0_6 a0_7 a0_8 a0_9 a0_10=some r)/\AA (kq<=k)/\AA (wc.heap[gb191]? =some (.cells #[.string a0_0, .string a0_1, .string a0_2, .string a0_3, .int .i64 a0_4, .int .i64 a0_5, .int .i64 a0_6, .bool a0_7, .bool a0_8, .bool a0_9, .int .i64 a0_10] 53 (0,0)))/\AA (Below w.heap.size w wc));case first=>
  have H:=HC2.out;clear HC2;by_cases c5:a0_7=true
  ·subst c5;have H1:(Au.j0 k a0_0 a0_0 a0_1 a0_2 a0_3 a0_4 a0_5 a0_6 true a0_8 a0_9 a0_10)=some r:=by rw [if_pos rfl] at H;exact H
   clear H;have H:=H1;clear H1;have H':=AA.mk H;clear H;go_wp2;go_meet;case rel=>exact ⟨_,(a0_0),xq,H',⟨by first|omega|exact Nat.le_refl _⟩,⟨xk⟩,⟨xb⟩⟩
  ·replace c5:=Bool.eq_false_iff.mpr c5;subst c5;have H1:(if 1+a0_0.size<=9223372036854775807 then (Au.j0 k ((⟨#[46]⟩:ByteArray)++a0_0) a0_0 a0_1 a0_2 a0_3 a0_4 a0_5 a0_6 false a0_8 a0_9 a0_10) else (none))=some r:=by rw [if_neg (show ¬(false=true) by decide)] at H;exact H
   clear H;have H:=H1;clear H1;by_cases c6:1+a0_0.size<=9223372036854775807
   ·rw [if_pos c6] at H;have c6b0:=eq_true c6;have c6b1:decide (1+a0_0.size<=9223372036854775807)=true:=decide_eq_true c6;try have c6b2:(9223372036854775807<1+a0_0.size)=False:=eq_false (Nat.not_lt.2 c6)
    have H':=AA.mk H;clear H;go_wp2;go_meet;case rel=>exact ⟨_,((⟨#[46]⟩:ByteArray)++a0_0),xq,H',⟨by first|omega|exact Nat.le_refl _⟩,⟨xk⟩,⟨xb⟩⟩
   ·rw [if_neg c6] at H;exact absurd H (by simp)
 case rest=>
  clear HC2;try clear c2
  try clear p2
  try clear c5
  try clear c6
  try clear c6b0
  try clear c6b1
  try clear c6b2
  try clear hcz4_0
  try clear hcz4_1
  try clear hcz4_10
  try clear hcz4_2
  try clear hcz4_3
  try clear hcz4_4
  try clear hcz4_5
  try clear hcz4_6
  try clear hcz4_7
  try clear hcz4_8
  try clear hcz4_9
  try clear hfz4_0
  obtain ⟨kq,x3_1,rfl,HA,HJ1,BK191,HB⟩:=hcut;cases kq with
  |zero=>exact absurd HA.out (by simp [Au.j0])
  |succ kj1=>
   have H:=HA.out;clear HA;simp only [Au.j0] at H;have HC7:=AA.mk H;clear H;obtain ⟨hcz8_0,hcz8_1,hcz8_2,hcz8_3,hcz8_4,hcz8_5,hcz8_6,hcz8_7,hcz8_8,hcz8_9,hcz8_10⟩:=Bv BK191.out;have hfz8_0:=AX BK191.out;go_upto_if 14 with (fail)
   go_cut [3] (λv3 wc=>∃ (kq:Nat) (x3_6:ByteArray),v3= .string x3_6/\AA (Au.j1 kq x3_6 a0_0 a0_1 a0_2 a0_3 a0_4 a0_5 a0_6 a0_7 a0_8 a0_9 a0_10=some r)/\AA (kq<=kj1)/\AA (wc.heap[gb191]? =some (.cells #[.string a0_0, .string a0_1, .string a0_2, .string a0_3, .int .i64 a0_4, .int .i64 a0_5, .int .i64 a0_6, .bool a0_7, .bool a0_8, .bool a0_9, .int .i64 a0_10] 53 (0,0)))/\AA (Below w.heap.size w wc));case first=>
    have H:=HC7.out;clear HC7;by_cases c9:a0_9=true
    ·subst c9;have H1:(if 10+x3_1.size<=9223372036854775807 then (Au.j1 kj1 ((⟨#[35,72,116,116,112,79,110,108,121,95]⟩:ByteArray)++x3_1) a0_0 a0_1 a0_2 a0_3 a0_4 a0_5 a0_6 a0_7 a0_8 true a0_10) else (none))=some r:=by rw [if_pos rfl] at H;exact H
     clear H;have H:=H1;clear H1;by_cases c10:10+x3_1.size<=9223372036854775807
     ·rw [if_pos c10] at H;have c10b0:=eq_true c10;have c10b1:decide (10+x3_1.size<=9223372036854775807)=true:=decide_eq_true c10;try have c10b2:(9223372036854775807<10+x3_1.size)=False:=eq_false (Nat.not_lt.2 c10)
      have H':=AA.mk H;clear H;go_wp2;go_meet;case rel=>exact ⟨_,((⟨#[35,72,116,116,112,79,110,108,121,95]⟩:ByteArray)++x3_1),xq,H',⟨by have:=HJ1.out;first|omega|exact Nat.le_refl _⟩,⟨xk⟩,⟨xb⟩⟩
     ·rw [if_neg c10] at H;exact absurd H (by simp)
    ·replace c9:=Bool.eq_false_iff.mpr c9;subst c9;have H1:(Au.j1 kj1 x3_1 a0_0 a0_1 a0_2 a0_3 a0_4 a0_5 a0_6 a0_7 a0_8 false a0_10)=some r:=by rw [if_neg (show ¬(false=true) by decide)] at H;exact H
     clear H;have H:=H1;clear H1;have H':=AA.mk H;clear H;go_wp2;go_meet;case rel=>exact ⟨_,(x3_1),xq,H',⟨by have:=HJ1.out;first|omega|exact Nat.le_refl _⟩,⟨xk⟩,⟨xb⟩⟩
   case rest=>
    clear HC7;try clear c1
    try clear c2
    try clear p2
    try clear c5
    try clear c6
    try clear c6b0
    try clear c6b1
    try clear c6b2
    try clear c9
    try clear c10
    try clear c10b0
    try clear c10b1
    try clear c10b2
    try clear hcz4_0
    try clear hcz4_1
    try clear hcz4_10
    try clear hcz4_2
    try clear hcz4_3
    try clear hcz4_4
    try clear hcz4_5
    try clear hcz4_6
    try clear hcz4_7
    try clear hcz4_8
    try clear hcz4_9
    try clear hcz8_0
    try clear hcz8_1
    try clear hcz8_10
    try clear hcz8_2
    try clear hcz8_3
    try clear hcz8_4
    try clear hcz8_5
    try clear hcz8_6
    try clear hcz8_7
    try clear hcz8_8
    try clear hcz8_9
    try clear hfz4_0
    try clear hfz8_0
    try clear p2
    obtain ⟨kq,x3_6,rfl,HA,HJ6,BK191,HB⟩:=hcut;cases kq with
    |zero=>exact absurd HA.out (by simp [Au.j1])
    |succ kj6=>
     have H:=HA.out;clear HA;simp only [Au.j1] at H;replace H:=Option.bind_eq_some_iff.mp H;obtain ⟨t192,A110,H⟩:=H;replace H:((EA.f a0_8).bind λt193=>((Dr.f a0_6).bind λt194=>((DY.f (([x3_6,t192,a0_1,t193,t194,a0_2,a0_3]:List ByteArray))).bind λbt198=>(some bt198.1))))=some r:=H;have A11:=AA.mk A110;clear A110;replace H:=Option.bind_eq_some_iff.mp H;obtain ⟨t193,A120,H⟩:=H;try dsimp only at H
     have A12:=AA.mk A120;clear A120;replace H:=Option.bind_eq_some_iff.mp H;obtain ⟨t194,A130,H⟩:=H;try dsimp only at H
     have A13:=AA.mk A130;clear A130;obtain ⟨y195,hy195⟩:∃ y_:List ByteArray,y_=(([x3_6,t192,a0_1,t193,t194,a0_2,a0_3]:List ByteArray)):=⟨_,rfl⟩;replace H:((DY.f y195).bind λbt198=>(some bt198.1))=some r:=by first|(rw [hy195];with_reducible exact H)|(have H2_:=(Option.bind_some _ _).symm.trans H;rw [hy195];with_reducible exact H2_)|(have H2_:=(Option.bind_some _ _).symm.trans H;with_reducible exact H2_)|with_reducible exact H|(rw [hy195];exact H)|exact H
     have Ny195:=AA.mk hy195;clear hy195;replace H:=Option.bind_eq_some_iff.mp H;obtain ⟨⟨t198,t199⟩,A140,H⟩:=H;try dsimp only at H
     have A14:=AA.mk A140;clear A140;obtain rfl:=Option.some.inj H;try go_wp2
     replace BK191:=AA.mk (CX BK191.out);replace HB:=AA.mk (CK HB.out);refine Eg (n:=24) (S:=λw'=>w'.cell? ⟨gb191,0,none⟩=some (.string a0_0)/\w'.cell? ⟨gb191,1,none⟩=some (.string a0_1)/\w'.cell? ⟨gb191,2,none⟩=some (.string a0_2)/\w'.cell? ⟨gb191,3,none⟩=some (.string a0_3)/\w'.cell? ⟨gb191,4,none⟩=some (.int .i64 a0_4)/\w'.cell? ⟨gb191,5,none⟩=some (.int .i64 a0_5)/\w'.cell? ⟨gb191,6,none⟩=some (.int .i64 a0_6)/\w'.cell? ⟨gb191,7,none⟩=some (.bool a0_7)/\w'.cell? ⟨gb191,8,none⟩=some (.bool a0_8)/\w'.cell? ⟨gb191,9,none⟩=some (.bool a0_9)/\w'.cell? ⟨gb191,10,none⟩=some (.int .i64 a0_10)) (ds:=[]) (bm 24 0) (by kernel_rfl) rfl rfl ⟨(AL BK191.out 0).trans rfl,(AL BK191.out 1).trans rfl,(AL BK191.out 2).trans rfl,(AL BK191.out 3).trans rfl,(AL BK191.out 4).trans rfl,(AL BK191.out 5).trans rfl,(AL BK191.out 6).trans rfl,(AL BK191.out 7).trans rfl,(AL BK191.out 8).trans rfl,(AL BK191.out 9).trans rfl,(AL BK191.out 10).trans rfl⟩ (λhHeld=>?_);refine EH Au.Ri Au.OQ (λHT_ HW_=>?_);generalize wc.drew=w15 at BK191 HB hHeld⊢
     refine Ay (i:=0) (N:=some 18) (bm 24 1) rfl rfl (Ar HT_.out (by kernel_rfl)) (Or.inl ⟨by rfl,by intro w';go_simp;with_reducible rfl⟩) ?_;refine Ay (i:=1) (N:=some 19) (bm 24 3) rfl rfl (Ar HT_.out (by kernel_rfl)) (Or.inl ⟨by rfl,by intro w';go_simp;with_reducible rfl⟩) ?_;refine Ay (i:=5) (N:=some 23) (bm 24 35) rfl rfl (Ar HT_.out (by kernel_rfl)) (Or.inl ⟨by rfl,by intro w';go_simp;with_reducible rfl⟩) ?_;refine Ay (i:=7) (N:=some 25) (bm 24 163) rfl rfl (Ar HT_.out (by kernel_rfl)) (Or.inl ⟨by rfl,by intro w';go_simp;with_reducible rfl⟩) ?_;refine Ay (i:=10) (N:=some 28) (bm 24 1187) rfl rfl (Ar HT_.out (by kernel_rfl)) (Or.inl ⟨by rfl,by intro w';go_simp;with_reducible rfl⟩) ?_;refine Ay (i:=13) (N:=some 31) (bm 24 9379) rfl rfl (Ar HT_.out (by kernel_rfl)) (Or.inl ⟨by rfl,by intro w';go_simp;with_reducible rfl⟩) ?_;refine Ay (i:=15) (N:=some 33) (bm 24 42147) rfl rfl (Ar HT_.out (by kernel_rfl)) (Or.inl ⟨by rfl,by intro w';go_simp;with_reducible rfl⟩) ?_;refine Cn (i:=2) (N:=some 20) (bm 24 42151) rfl rfl (CJ HT_.out HW_.out (by kernel_rfl)) (Or.inl ⟨by rfl,by rintro w' ⟨s0,s1,s2,s3,s4,s5,s6,s7,s8,s9,s10⟩;go_simp;with_reducible rfl⟩) hHeld ?_;refine Ay (i:=3) (N:=some 21) (bm 24 42159) rfl rfl (Ar HT_.out (by kernel_rfl)) (Or.inl ⟨by rfl,by intro w';go_simp;with_reducible rfl⟩) ?_;refine Cn (i:=6) (N:=some 24) (bm 24 42223) rfl rfl (CJ HT_.out HW_.out (by kernel_rfl)) (Or.inl ⟨by rfl,by rintro w' ⟨s0,s1,s2,s3,s4,s5,s6,s7,s8,s9,s10⟩;go_simp;with_reducible rfl⟩) hHeld ?_;refine Cn (i:=8) (N:=some 26) (bm 24 42479) rfl rfl (CJ HT_.out HW_.out (by kernel_rfl)) (Or.inl ⟨by rfl,by rintro w' ⟨s0,s1,s2,s3,s4,s5,s6,s7,s8,s9,s10⟩;go_simp;with_reducible rfl⟩) hHeld ?_;refine Cn (i:=11) (N:=some 29) (bm 24 44527) rfl rfl (CJ HT_.out HW_.out (by kernel_rfl)) (Or.inl ⟨by rfl,by rintro w' ⟨s0,s1,s2,s3,s4,s5,s6,s7,s8,s9,s10⟩;go_simp;with_reducible rfl⟩) hHeld ?_;refine Cn (i:=14) (N:=some 32) (bm 24 60911) rfl rfl (CJ HT_.out HW_.out (by kernel_rfl)) (Or.inl ⟨by rfl,by rintro w' ⟨s0,s1,s2,s3,s4,s5,s6,s7,s8,s9,s10⟩;go_simp;with_reducible rfl⟩) hHeld ?_;refine Cn (i:=16) (N:=some 34) (bm 24 126447) rfl rfl (CJ HT_.out HW_.out (by kernel_rfl)) (Or.inl ⟨by rfl,by rintro w' ⟨s0,s1,s2,s3,s4,s5,s6,s7,s8,s9,s10⟩;go_simp;with_reducible rfl⟩) hHeld ?_;refine D8 (i:=4) (N:=some 22) (bm 24 126463) rfl rfl (C9 HT_.out (by kernel_rfl)) (by decide) (λK hK=>?_);refine Dy Tryz.func42 (by kernel_rfl) rfl #[.bool (!a0_7)] (by rfl) rfl rfl xg ?_;with_reducible refine (EA.calls (!a0_7) t192 _ A11.out).mono ?_
     rintro e w' ⟨rfl,⟨nd,rfl⟩⟩;refine ⟨_,rfl,?_⟩;refine hK.out _ _ xc (λhHeld=>?_);clear hK K;refine DK (some 22) rfl ?_;refine D8 (i:=9) (N:=some 27) (bm 24 126975) rfl rfl (C9 HT_.out (by kernel_rfl)) (by decide) (λK hK=>?_);refine Dy Tryz.func42 (by kernel_rfl) rfl #[.bool a0_8] (by rfl) rfl rfl xg ?_;with_reducible refine (EA.calls a0_8 t193 _ A12.out).mono ?_
     rintro e w' ⟨rfl,⟨nd,rfl⟩⟩;refine ⟨_,rfl,?_⟩;refine hK.out _ _ xc (λhHeld=>?_);clear hK K;refine DK (some 27) rfl ?_;refine D8 (i:=12) (N:=some 30) (bm 24 131071) rfl rfl (C9 HT_.out (by kernel_rfl)) (by decide) (λK hK=>?_);refine Dy Tryz.func43 (by kernel_rfl) rfl #[.int .i64 a0_6] (by rfl) rfl rfl xg ?_;with_reducible refine (Dr.calls a0_6 t194 _ xl A13.out).mono ?_
     rintro e w16 ⟨rfl,hb⟩;refine ⟨_,rfl,?_⟩;replace BK191:=Bt BK191 hb;replace HB:=AA.mk (AP xb hb);(try clear hb);refine hK.out _ _ xc (λhHeld=>?_);clear hK K;refine DK (some 30) rfl ?_;refine D8 (i:=17) (N:=some 35) (bm 24 262143) rfl rfl (C9 HT_.out (by kernel_rfl)) (by decide) (λK hK=>?_);refine Kd.FW Kd.string _ 9 ?hg (N:=35) ?hd (xs:=([x3_6,t192,a0_1,t193,t194,a0_2,a0_3]:List ByteArray)) (inner:=[.string x3_6, .string t192, .string a0_1, .string t193, .string t194, .string a0_2, .string a0_3]) (ok:=λ_=>True) (okp:=λ_=>True) ?hr ?hp (λ_ hk=>hk) trivial (Below.refl _ _) (Nat.le_refl _) (by simp) ?_;(case hd=>rfl);(case hg=>rfl);(case hr=>first|(go_simp;done)|(go_simp;rfl));(case hp=>exact (CG.one (show Kd.M Kd.string _ _ _ x3_6 [.string x3_6] from rfl) (CG.one (show Kd.M Kd.string _ _ _ t192 [.string t192] from rfl) (CG.one (show Kd.M Kd.string _ _ _ a0_1 [.string a0_1] from rfl) (CG.one (show Kd.M Kd.string _ _ _ t193 [.string t193] from rfl) (CG.one (show Kd.M Kd.string _ _ _ t194 [.string t194] from rfl) (CG.one (show Kd.M Kd.string _ _ _ a0_2 [.string a0_2] from rfl) (CG.one (show Kd.M Kd.string _ _ _ a0_3 [.string a0_3] from rfl) (CG.none _ _)))))))));intro v196 w17 ho18 hb hg_ hnew_;clear hg_ hnew_;(first|rw [<-Ny195.out] at ho18|(simp only [Int.reduceToNat] at ho18;rw [<-Ny195.out] at ho18));have HO197:=AA.mk (Kd.Cm ho18 (BF xb));replace BK191:=Bt BK191 hb;replace HB:=AA.mk (AP xb hb);clear hb ho18;obtain ⟨Ao19,co19,eo19⟩:=Kd.CE HO197.out;(first|subst eo19|(injection eo19 with f1_ f2_ f3_;have f4_:=f1_.symm;have f5_:=f3_.symm;clear f1_ f2_ f3_;subst f4_;subst f5_));refine hK.out _ _ xc (λhHeld=>?_);clear hK K;refine DK (some 35) rfl ?_;refine D8 (i:=18) (N:=some 36) (bm 24 524287) rfl rfl (C9 HT_.out (by kernel_rfl)) (by decide) (λK hK=>?_);refine Dy Tryz.func41 (by kernel_rfl) rfl #[.slice Ao19 y195.length co19] (by rfl) rfl rfl xg ?_;with_reducible refine (DY.calls _ _ y195 t198 t199 _ ?side1 ?side2 A14.out).mono ?_
     (case side1=>repeat (first|exact (Kd.BH HO197.out).2.2|(with_reducible refine Kd.CZ ?_ _)|(with_reducible refine Kd.Cb ?_ _)|(with_reducible refine Kd.Cs ?_)))
     (case side2=>exact (Kd.BH HO197.out).2.1)
     rintro e w20 ⟨rfl,hb⟩;refine ⟨_,rfl,?_⟩;replace HO197:=AA.mk (Kd.BX (xR HO197) hb);replace BK191:=Bt BK191 hb;replace HB:=AA.mk (AP xb hb);(try clear hb);refine hK.out _ _ xc (λhHeld=>?_);clear hK K;refine DK (some 36) rfl ?_;refine Ay (i:=19) (N:=some 17) (bm 24 1048575) rfl rfl (Ar HT_.out (by kernel_rfl)) (Or.inl ⟨by rfl,by intro w';go_simp;with_reducible rfl⟩) ?_;refine Ay (i:=20) (N:=some 37) (bm 24 2097151) rfl rfl (Ar HT_.out (by kernel_rfl)) (Or.inl ⟨by rfl,by intro w';go_simp;with_reducible rfl⟩) ?_;refine Ay (i:=21) (N:=some 38) (bm 24 4194303) rfl rfl (Ar HT_.out (by kernel_rfl)) (Or.inl ⟨by rfl,by intro w';go_simp;with_reducible rfl⟩) ?_;refine Ay (i:=22) (N:=some 4) (bm 24 8388607) rfl rfl (Ar HT_.out (by kernel_rfl)) (Or.inl ⟨by rfl,by intro w';go_simp;with_reducible rfl⟩) ?_;refine Ay (i:=23) (N:=some 5) (bm 24 16777215) rfl rfl (Ar HT_.out (by kernel_rfl)) (Or.inl ⟨by rfl,by intro w';go_simp;with_reducible rfl⟩) ?_;refine Fe (FD HT_.out (by kernel_rfl)) ?_;try go_wp2
     go_ret;exact ⟨xe,xb⟩
end Go.Proofs.YtikggnalmidlhaaGreatDoor.Print
end
section
namespace Go.Proofs.YtikggnalmidlhaaGreatDoor.Print
open RowKit AR Aa Ad
attribute [local go_sem] BM BN Bo Bp BC BD BO BP
set_option linter.unusedVariables false
set_option linter.unusedSimpArgs false
def strings_CutPrefix.f (a0:ByteArray) (a1:ByteArray):Option (ByteArray×Bool):=(stringslite_CutPrefix.f a0 a1).bind λbt218=>(some (bt218.1,bt218.2))
set_option maxHeartbeats 8000000 in
set_option maxRecDepth 100000 in
theorem strings_CutPrefix.calls (a0:ByteArray) (a1:ByteArray) (r1:ByteArray) (r2:Bool) (w:World) (h:strings_CutPrefix.f a0 a1=some (r1,r2)):
 Calls Tryz.prog 54 #[.string a0, .string a1] w λe w'=>e= .returned (.tuple #[.string r1, .bool r2])/\Ap w w':=by
 have H:((stringslite_CutPrefix.f a0 a1).bind λbt218=>(some (bt218.1,bt218.2)))=some (r1,r2):=h;clear h;replace H:=Option.bind_eq_some_iff.mp H;obtain ⟨⟨t218,t219⟩,A30,H⟩:=H;try dsimp only at H
 have A3:=AA.mk A30;clear A30;simp only [Option.some.injEq,Prod.mk.injEq] at H;obtain ⟨rfl,rfl⟩:=H;go_enter Tryz.func54,Tryz.ntmps54;go_wp2_with (first|((with_reducible refine AO (f:=84) rfl ?_);refine Ak (some 8) rfl rfl Tryz.func84 (by kernel_rfl) rfl #[.string a0, .string a1] rfl xg ?_;(with_reducible refine (stringslite_CutPrefix.calls a0 a1 t218 t219 _ A3.out).mono ?_);rintro e w' ⟨rfl,⟨nd,rfl⟩⟩;refine ⟨_,rfl,?_⟩));go_ret2;exact ⟨xq,xd⟩
def ES.f (a0:ByteArray):Option (List ByteArray):=(strings_Split.f a0 (⟨#[9]⟩:ByteArray)).bind λt220=>(some t220)
set_option maxHeartbeats 8000000 in
set_option maxRecDepth 100000 in
theorem ES.calls (a0:ByteArray) (r:List ByteArray) (w:World) (hG:AA (Ck w)) (h:ES.f a0=some r):
 Calls Tryz.prog 55 #[.string a0] w λe w'=>∃ v0_:Value,e= .returned (v0_)/\Kd.R Kd.string 9 w' w.heap.size (λ_=>True) v0_ r/\Below w.heap.size w w':=by
 have HB:=AA.mk (Below.refl w.heap.size w);have H:((strings_Split.f a0 (⟨#[9]⟩:ByteArray)).bind λt220=>(some t220))=some r:=h;clear h;replace H:=Option.bind_eq_some_iff.mp H;obtain ⟨t220,A20,H⟩:=H;try dsimp only at H
 have A2:=AA.mk A20;clear A20;obtain rfl:=Option.some.inj H;go_enter Tryz.func55,Tryz.ntmps55;go_wp2_with (first|((with_reducible refine AO (f:=85) rfl ?_);refine Ak (some 4) rfl rfl Tryz.func85 (by kernel_rfl) rfl #[.string a0, .string (⟨#[9]⟩:ByteArray)] rfl xg ?_;(with_reducible refine (strings_Split.calls a0 (⟨#[9]⟩:ByteArray) t220 _ xl A2.out).mono ?_);rintro e w3 ⟨v221,rfl,ho0,hb⟩;refine ⟨_,rfl,?_⟩;have HO222:=AA.mk (Kd.Cm ho0 (BF xb));replace HB:=AA.mk (AP xb hb);(try clear hb);(try clear ho0)));go_ret;exact ⟨_,xe,by (with_reducible repeat (first|apply Kd.Bd|apply Kd.Be|apply Kd.Bl));exact HO222.out,xb⟩
end Go.Proofs.YtikggnalmidlhaaGreatDoor.Print
end
section
namespace Go.Proofs.YtikggnalmidlhaaGreatDoor.Print
open RowKit AR Aa Ad
attribute [local go_sem] BM BN Bo Bp BC BD BO BP
set_option linter.unusedVariables false
set_option linter.unusedSimpArgs false
attribute [local go_sem high] Uj
def Bf.l0:Nat->List (CU)->List (CU)->Int->Option (Bool)
 |0,_,_,_=>none
 |k+1,x0,x1,x5=>if x5<(x0.length:Int) then (if 0<=x5 then (if x5<(x1.length:Int) then (if (!((((AB x0 x5).f0).toList)==(((AB x1 x5).f0).toList))||(!((((AB x0 x5).f1).toList)==(((AB x1 x5).f1).toList))||(!((((AB x0 x5).f2).toList)==(((AB x1 x5).f2).toList))||(!((((AB x0 x5).f3).toList)==(((AB x1 x5).f3).toList))||(!(((AB x0 x5).f4)==((AB x1 x5).f4))||(!(((AB x0 x5).f5)==((AB x1 x5).f5))||(!(((AB x0 x5).f6)==((AB x1 x5).f6))||(!(((AB x0 x5).f7)==((AB x1 x5).f7))||(!(((AB x0 x5).f8)==((AB x1 x5).f8))||(!(((AB x0 x5).f9)==((AB x1 x5).f9))||(!(((AB x0 x5).f10)==((AB x1 x5).f10)))))))))))))=true then (some false) else (Bf.l0 k x0 x1 (wrap64 (x5+1)))) else (none)) else (none)) else (some true)
def Bf.f (k:Nat) (l0:List (CU)) (l1:List (CU)):Option (Bool):=if (l0.length:Int)=(l1.length:Int) then (Bf.l0 k l0 l1 0) else (some false)
set_option maxHeartbeats 8000000 in
set_option maxRecDepth 100000 in
theorem Bf.calls (k:Nat) (A0:Option Addr) (c0:Nat) (l0:List (CU)) (A1:Option Addr) (c1:Nat) (l1:List (CU)) (r:Bool) (w:World) (hr0:Kd.C Fu w A0 l0.length l0) (hc0:l0.length<=c0) (hr1:Kd.C Fu w A1 l1.length l1) (hc1:l1.length<=c1) (h:Bf.f k l0 l1=some r):
 Calls Tryz.prog 15 #[.slice A0 l0.length c0, .slice A1 l1.length c1] w λe w'=>e= .returned (.bool r)/\Ap w w':=by
 have hu53:=Tryz.underlying53;have HR0:=AA.mk hr0;have HC0:=AA.mk hc0;clear hr0 hc0;have HR1:=AA.mk hr1;have HC1:=AA.mk hc1;clear hr1 hc1;have H:(if (l0.length:Int)=(l1.length:Int) then (Bf.l0 k l0 l1 0) else (some false))=some r:=h;clear h;by_cases c3:(l0.length:Int)=(l1.length:Int)
 ·rw [if_pos c3] at H;have c3b0:((l0.length:Int)==(l1.length:Int))=true:=beq_iff_eq.mpr c3;have c3b1:((l0.length:Int) != (l1.length:Int))=false:=bne_eq_false_iff_eq.mpr c3;have c3b2:(l0.length==l1.length)=true:=by first|simpa using c3|(simp at c3⊢;omega)
  clear c3;have H':=AA.mk H;clear H;go_enter Tryz.func15,Tryz.ntmps15;go_wp2;repeat (go_quiet (fail);try go_wp2)
  go_loopg [5] k (λkq v5 w'=>∃ (x5_1:Int),v5= .int .i64 x5_1/\AA (Bf.l0 kq l0 l1 x5_1=some r)/\AA (kq<=k)/\Ap w w');case atStart=>exact ⟨(0),xq,H',⟨Nat.le_refl _⟩,xd⟩
  case round=>
   clear H';try clear c1
   try clear p2
   try clear c3
   try clear c3b0
   try clear c3b1
   try clear c3b2
   obtain ⟨x5_1,rfl,HA,HK1,⟨m1,rfl⟩⟩:=hrel;cases gk with
   |zero=>exact absurd HA.out (by simp [Bf.l0])
   |succ k1=>
    have H:=HA.out;clear HA;simp only [Bf.l0] at H;by_cases c4:x5_1<(l0.length:Int)
    ·rw [if_pos c4] at H;have c4b0:decide (x5_1<(l0.length:Int))=true:=decide_eq_true c4;clear c4;by_cases c5:0<=x5_1
     ·rw [if_pos c5] at H;have c5b0:decide (0<=x5_1)=true:=decide_eq_true c5;clear c5;by_cases c6:x5_1<(l1.length:Int)
      ·rw [if_pos c6] at H;have c6b0:decide (x5_1<(l1.length:Int))=true:=decide_eq_true c6;clear c6;by_cases c7:(!((((AB l0 x5_1).f0).toList)==(((AB l1 x5_1).f0).toList))||(!((((AB l0 x5_1).f1).toList)==(((AB l1 x5_1).f1).toList))||(!((((AB l0 x5_1).f2).toList)==(((AB l1 x5_1).f2).toList))||(!((((AB l0 x5_1).f3).toList)==(((AB l1 x5_1).f3).toList))||(!(((AB l0 x5_1).f4)==((AB l1 x5_1).f4))||(!(((AB l0 x5_1).f5)==((AB l1 x5_1).f5))||(!(((AB l0 x5_1).f6)==((AB l1 x5_1).f6))||(!(((AB l0 x5_1).f7)==((AB l1 x5_1).f7))||(!(((AB l0 x5_1).f8)==((AB l1 x5_1).f8))||(!(((AB l0 x5_1).f9)==((AB l1 x5_1).f9))||(!(((AB l0 x5_1).f10)==((AB l1 x5_1).f10)))))))))))))=true
       ·rw [if_pos c7] at H;have c7b0:(!((((AB l0 x5_1).f0).toList)==(((AB l1 x5_1).f0).toList))||(!((((AB l0 x5_1).f1).toList)==(((AB l1 x5_1).f1).toList))||(!((((AB l0 x5_1).f2).toList)==(((AB l1 x5_1).f2).toList))||(!((((AB l0 x5_1).f3).toList)==(((AB l1 x5_1).f3).toList))||(!(((AB l0 x5_1).f4)==((AB l1 x5_1).f4))||(!(((AB l0 x5_1).f5)==((AB l1 x5_1).f5))||(!(((AB l0 x5_1).f6)==((AB l1 x5_1).f6))||(!(((AB l0 x5_1).f7)==((AB l1 x5_1).f7))||(!(((AB l0 x5_1).f8)==((AB l1 x5_1).f8))||(!(((AB l0 x5_1).f9)==((AB l1 x5_1).f9))||(!(((AB l0 x5_1).f10)==((AB l1 x5_1).f10)))))))))))))=true:=c7;clear c7;obtain rfl:=Option.some.inj H;have p255:0<=(x5_1:Int):=xa;have q255:x5_1<(l0.length:Int):=xa;obtain ⟨ad255,e255,hx255_0,hx255_1,hx255_2,hx255_3,hx255_4,hx255_5,hx255_6,hx255_7,hx255_8,hx255_9,hx255_10⟩:=Ce HR0.out x5_1 p255 q255;cases e255;replace p255:=eq_true p255;replace q255:=eq_true q255;have p256:0<=(x5_1:Int):=xa;have q256:x5_1<(l1.length:Int):=xa;obtain ⟨ad256,e256,hx256_0,hx256_1,hx256_2,hx256_3,hx256_4,hx256_5,hx256_6,hx256_7,hx256_8,hx256_9,hx256_10⟩:=Ce HR1.out x5_1 p256 q256;cases e256;replace p256:=eq_true p256;replace q256:=eq_true q256;go_wp2;repeat (go_quiet (fail);try go_wp2)
        go_ret;exact ⟨xq,xd⟩
       ·rw [if_neg c7] at H;have c7b0:(!((((AB l0 x5_1).f0).toList)==(((AB l1 x5_1).f0).toList))||(!((((AB l0 x5_1).f1).toList)==(((AB l1 x5_1).f1).toList))||(!((((AB l0 x5_1).f2).toList)==(((AB l1 x5_1).f2).toList))||(!((((AB l0 x5_1).f3).toList)==(((AB l1 x5_1).f3).toList))||(!(((AB l0 x5_1).f4)==((AB l1 x5_1).f4))||(!(((AB l0 x5_1).f5)==((AB l1 x5_1).f5))||(!(((AB l0 x5_1).f6)==((AB l1 x5_1).f6))||(!(((AB l0 x5_1).f7)==((AB l1 x5_1).f7))||(!(((AB l0 x5_1).f8)==((AB l1 x5_1).f8))||(!(((AB l0 x5_1).f9)==((AB l1 x5_1).f9))||(!(((AB l0 x5_1).f10)==((AB l1 x5_1).f10)))))))))))))=false:=by simpa using c7
        clear c7;have H':=AA.mk H;clear H;have p255:0<=(x5_1:Int):=xa;have q255:x5_1<(l0.length:Int):=xa;obtain ⟨ad255,e255,hx255_0,hx255_1,hx255_2,hx255_3,hx255_4,hx255_5,hx255_6,hx255_7,hx255_8,hx255_9,hx255_10⟩:=Ce HR0.out x5_1 p255 q255;cases e255;replace p255:=eq_true p255;replace q255:=eq_true q255;have p256:0<=(x5_1:Int):=xa;have q256:x5_1<(l1.length:Int):=xa;obtain ⟨ad256,e256,hx256_0,hx256_1,hx256_2,hx256_3,hx256_4,hx256_5,hx256_6,hx256_7,hx256_8,hx256_9,hx256_10⟩:=Ce HR1.out x5_1 p256 q256;cases e256;replace p256:=eq_true p256;replace q256:=eq_true q256;go_wp2;repeat (go_quiet (fail);try go_wp2)
        go_roundg k1;case measure=>have:=HK1.out;omega
        case rel=>exact ⟨(wrap64 (x5_1+1)),xq,H',⟨by have:=HK1.out;omega⟩,xd⟩
      ·rw [if_neg c6] at H;exact absurd H (by simp)
     ·rw [if_neg c5] at H;exact absurd H (by simp)
    ·rw [if_neg c4] at H;have c4b0:decide (x5_1<(l0.length:Int))=false:=decide_eq_false c4;clear c4;obtain rfl:=Option.some.inj H;go_wp2;repeat (go_quiet (fail);try go_wp2)
     go_ret;exact ⟨xq,xd⟩
 ·rw [if_neg c3] at H;have c3b0:((l0.length:Int)==(l1.length:Int))=false:=beq_eq_false_iff_ne.mpr c3;have c3b1:((l0.length:Int) != (l1.length:Int))=true:=bne_iff_ne.mpr c3;have c3b2:(l0.length==l1.length)=false:=by first|simpa using c3|(simp at c3⊢;omega)
  obtain rfl:=Option.some.inj H;go_enter Tryz.func15,Tryz.ntmps15;go_wp2;repeat (go_quiet (fail);try go_wp2)
  go_ret;exact ⟨xq,xd⟩
end Go.Proofs.YtikggnalmidlhaaGreatDoor.Print
end
