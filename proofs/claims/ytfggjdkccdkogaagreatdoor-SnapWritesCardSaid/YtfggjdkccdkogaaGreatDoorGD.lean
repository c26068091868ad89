/- (held).many: are there more than a jar has? -/
import Derived.Test.YtfggjdkccdkogaaGreatDoorGC
import Derived.BigRegionIn
namespace Go.Proofs.YtfggjdkccdkogaaGreatDoor.Print
open RowKit Ac Aq Aw Range Shelf
set_option linter.unusedVariables false
set_option linter.unusedSimpArgs false
attribute [local go_sem] Oper.semAt_some
def Hy:List ByteArray->Int->ByteArray->Bool
 |[],_,_=>false
 |x::l,n,d=>if 12<(if x=d then n else 0)+1 then true else Hy l ((if x=d then n else 0)+1) x
def Gr.f (l:List CO):Option Bool:=if l.length<=1099511627776 then some (Hy (l.map (·.f0.f0)) 0 ⟨#[]⟩||decide (60<l.length)) else none
structure MS (w:World) (A0:Option Addr) (n c0:Nat) (b:Bool) (o:Int) (d:ByteArray) (W:World):Prop where
 h:Boxed W w.heap.size 45 (.slice A0 n c0)
 r:Boxed W (w.heap.size+1) 4 (.bool b)
 o:Boxed W (w.heap.size+1+1) 3 (.int .i64 o)
 d:Boxed W (w.heap.size+1+1+1) 9 (.string d)
 b:Below w.heap.size w W
theorem GL {W:World} {B:Nat} {t:TypeId} {v:Value} (h:Boxed W B t v) (g:Nat) (u:Value) (hne:B≠g):Boxed (W.setCell ⟨g,0,none⟩ u) B t v:=(Below.heap_setCell W ⟨g,0,none⟩ u B hne).trans h
section
variable {w:World} {A0:Option Addr} {n c0:Nat} {b:Bool} {o:Int} {d:ByteArray} {W:World}
theorem MS.UX (h:MS w A0 n c0 b o d W) (o':Int):MS w A0 n c0 b o' d (W.setCell ⟨w.heap.size+1+1,0,none⟩ (.int .i64 o')):=⟨GL h.h _ _ (by omega),GL h.r _ _ (by omega),h.o.set _,GL h.d _ _ (by omega),h.b.setCell (p:=⟨w.heap.size+1+1,0,none⟩) (by show w.heap.size<=w.heap.size+1+1;omega) _⟩
theorem MS.Yh (h:MS w A0 n c0 b o d W) (d':ByteArray):MS w A0 n c0 b o d' (W.setCell ⟨w.heap.size+1+1+1,0,none⟩ (.string d')):=⟨GL h.h _ _ (by omega),GL h.r _ _ (by omega),GL h.o _ _ (by omega),h.d.set _,h.b.setCell (p:=⟨w.heap.size+1+1+1,0,none⟩) (by show w.heap.size<=w.heap.size+1+1+1;omega) _⟩
theorem MS.ZT (h:MS w A0 n c0 b o d W) (b':Bool):MS w A0 n c0 b' o d (W.setCell ⟨w.heap.size+1,0,none⟩ (.bool b')):=⟨GL h.h _ _ (by omega),h.r.set _,GL h.o _ _ (by omega),GL h.d _ _ (by omega),h.b.setCell (p:=⟨w.heap.size+1,0,none⟩) (by show w.heap.size<=w.heap.size+1;omega) _⟩
theorem MS.drew (h:MS w A0 n c0 b o d W):MS w A0 n c0 b o d W.drew:=⟨h.h,h.r,h.o,h.d,h.b.drew⟩
theorem MS.own {B:Nat} (hB:w.heap.size<=B) (h:MS w A0 n c0 b o d W) {W':World} {row:Option Nat} (hg:W.grownBy W' row) (hr:∀ r,row=some r->B<=r/\∃ o:Obj,W.heap[r]? =some o/\o.isCells=false):MS w A0 n c0 b o d W':=
 ⟨boxed_own (B:=B) (λ_=>_) 0 W W' row h.h hg hr,boxed_own (B:=B) (λ_=>_) 0 W W' row h.r hg hr,boxed_own (B:=B) (λ_=>_) 0 W W' row h.o hg hr,boxed_own (B:=B) (λ_=>_) 0 W W' row h.d hg hr,(ownFrom_below (Nat.le_refl _) hB:OwnFrom B λ(_:Nat) W=>Below w.heap.size w W) 0 W W' row h.b hg hr⟩
end
theorem bytes_inj {a b:ByteArray} (h:a.toList=b.toList):a=b:=by
 rw [ByteArray.toList_eq,ByteArray.toList_eq] at h;exact ByteArray.ext (Array.toList_inj.1 h)
theorem WJ {W w3:World} {B:Nat} {ty:TypeId} {v:Value} (hb:Below W.heap.size W w3) (h:Boxed W B ty v):Boxed w3 B ty v:=(hb.block B h.lt).trans h
def Yi (w W:World) (A0:Option Addr) (n c0:Nat) (d:ByteArray) (a0:Act):Exit->Act->World->Prop
 | .normal,a,W'=>a=a0/\MS w A0 n c0 false 0 d W'/\KeepsOthers W W'/\Below w.heap.size W W'
 |_,_,_=>False
def UY (w:World) (A0:Option Addr) (c0:Nat) (l:List CO):Nat->World->Prop:=λj W=>∃ o d,MS w A0 l.length c0 false o d W/\(0<=o/\o<=12)/\Hy ((l.map (·.f0.f0)).drop j) o d=Hy (l.map (·.f0.f0)) 0 ⟨#[]⟩
def Xc (w:World) (A0:Option Addr) (c0:Nat) (l:List CO):Code->Nat->World->Prop:=λc _ W=>c= .ret/\(∃ o d,MS w A0 l.length c0 true o d W)/\Hy (l.map (·.f0.f0)) 0 ⟨#[]⟩=true
theorem LH {w:World} {A0:Option Addr} {c0:Nat} {l:List CO} {B:Nat} (hB:w.heap.size<=B):OwnFrom B (UY w A0 c0 l):=by
 rintro j W W' row ⟨o,d,h1,h2⟩ hg hr;exact ⟨o,d,h1.own hB hg hr,h2⟩
theorem TM {w:World} {A0:Option Addr} {c0:Nat} {l:List CO} {B:Nat} (hB:w.heap.size<=B) (c:Code):OwnFrom B (Xc w A0 c0 l c):=by
 rintro j W W' row ⟨e,⟨o,d,h1⟩,h2⟩ hg hr;exact ⟨e,⟨o,d,h1.own hB hg hr⟩,h2⟩
theorem WK (A0:Option Addr) (c0 n:Nat) (w:World):Calls Tryz.prog 53 #[.agg #[.slice A0 n c0]] w λe w'=>e= .returned (.int .i64 n)/\Below w.heap.size w w':=by
 have hu27:=Tryz.underlying43;go_enter Tryz.func53,Tryz.ntmps53;go_wp2;go_ret;exact ⟨rfl,by repeat (first|exact Below.refl _ _|apply Ce|apply Bu)⟩
set_option maxHeartbeats 4000000 in
set_option maxRecDepth 100000 in
theorem Gr.calls (A0:Option Addr) (c0:Nat) (l:List CO) (r:Bool) (w:World) (hr:Kd.C En w A0 l.length l) (hc:l.length<=c0) (h:Gr.f l=some r):
 Calls Tryz.prog 54 #[.agg #[.slice A0 l.length c0]] w λe w'=>e= .returned (.bool r)/\Below w.heap.size w w':=by
 unfold Gr.f at h;by_cases hn:l.length<=1099511627776;case neg=>rw [if_neg hn] at h;exact absurd h (by simp)
 rw [if_pos hn] at h;obtain rfl:=Option.some.inj h;have huH:=Tryz.underlying45;have huT:=Tryz.underlying43;have huK:=Tryz.underlying84;refine Jc Tryz.func54 rfl ?_;simp only [Tryz.ntmps54,List.size_toArray,List.length_cons,List.length_nil,Nat.reduceAdd,Nat.reduceSub,Array.replicate_succ,Array.replicate_zero,List.push_toArray,List.append_toArray,List.nil_append,List.cons_append];go_wp2;obtain ⟨W0,hW0⟩:∃ W0,(((w.alloc (.cells #[.slice A0 l.length c0] 45)).alloc (.cells #[.bool false] 4)).alloc (.cells #[.int .i64 0] 3)).alloc (.cells #[.string ⟨#[]⟩] 9)=W0:=⟨_,rfl⟩;have M0:MS w A0 l.length c0 false 0 ⟨#[]⟩ W0:=by
  rw [<-hW0];refine ⟨(((Boxed.new w _ _).alloc _).alloc _).alloc _,?_,?_,?_,(((((Below.refl _ w).alloc (Nat.le_refl _) _).alloc (by simp) _).alloc (by simp;omega) _).alloc (by simp;omega) _)⟩
  ·have:=Boxed.new (w.alloc (.cells #[.slice A0 l.length c0] 45)) 4 (.bool false);rw [World.size_alloc] at this;exact (this.alloc _).alloc _
  ·have:=Boxed.new ((w.alloc (.cells #[.slice A0 l.length c0] 45)).alloc (.cells #[.bool false] 4)) 3 (.int .i64 0);rw [World.size_alloc,World.size_alloc] at this;exact this.alloc _
  ·have:=Boxed.new (((w.alloc (.cells #[.slice A0 l.length c0] 45)).alloc (.cells #[.bool false] 4)).alloc (.cells #[.int .i64 0] 3)) 9 (.string ⟨#[]⟩);rw [World.size_alloc,World.size_alloc,World.size_alloc] at this;exact this
 have hs:W0.heap.size=w.heap.size+1+1+1+1:=by rw [<-hW0];simp
 rw [hW0];clear hW0;refine Nw (gf:=57) (fb:=#[.agg #[.slice A0 l.length c0]]) (n₀:=w.heap.size) (enc:=LC) (xs:=l) rfl (enters_of Tryz.func57 (by kernel_rfl) rfl)
  (Nt A0 c0 l w _ 8 hr hc (by omega) M0.b) (by omega) (λ_ _=>rfl)
  (UY w A0 c0 l) (Xc w A0 c0 l) (LH (by omega)) (TM (by omega))
  ⟨_,_,M0,by omega,rfl⟩
  (LJ (λx g=>{tmps:=#[.agg #[.slice A0 l.length c0], .pointer (some ⟨w.heap.size,0,none⟩), .pointer (some ⟨w.heap.size+1,0,none⟩), .pointer (some ⟨w.heap.size+1+1,0,none⟩), .pointer (some ⟨w.heap.size+1+1+1,0,none⟩), .pointer (some ⟨g,0,none⟩), .pointer (some ⟨w.heap.size,0,none⟩), .agg #[.slice A0 l.length c0], .func (.func 57) #[.agg #[.slice A0 l.length c0]] #[], .agg #[.string x.f0.f0, .string x.f0.f1, .string x.f0.f2], .agg #[.string x.f1.f0, .string x.f1.f1, .string x.f1.f2, .string x.f1.f3, .int .i64 x.f1.f4, .int .i64 x.f1.f5, .int .i64 x.f1.f6, .bool x.f1.f7, .bool x.f1.f8, .bool x.f1.f9, .int .i64 x.f1.f10],undef,undef,undef,undef,undef,undef,undef,undef,undef,undef,undef,undef,undef,undef],defers:=[]}) (λx=>#[.string x.f0.f0, .string x.f0.f1, .string x.f0.f2]) 84 (UY w A0 c0 l))
  (LJ.own (LH (by omega))) ?assign ?body ?done ?stop
 case assign=>
  intro lp j x W hx hI;have hS:w.heap.size<=W.heap.size:=by obtain ⟨o,d,hM,_⟩:=hI;exact hM.b.size
  unfold LC
  gi_wp2
  exact ⟨(KeepsOthers.alloc _ _).from _,(Below.refl _ W).alloc hS _,W.heap.size,rfl,Ii _ _,(LH (Nat.le_refl _)).alloc _ hI⟩
 case body=>
  rintro lp j x a1 W hx ⟨g,hq,hg,o,d,hM,ho,hR⟩;dsimp only at hq hg;subst hq;have g0:=JG hg (i:=0) rfl;have c1:=hM.o.cell;have c2:=hM.d.cell;have f1:=hM.o.frozen;have f2:=hM.d.frozen;have c3:=hM.r.cell;have f3:=hM.r.frozen;have hj:j<l.length:=(List.getElem?_eq_some_iff.1 hx).1;have hdr:(l.map (·.f0.f0)).drop j=x.f0.f0::(l.map (·.f0.f0)).drop (j+1):=by
   rw [<-List.map_drop, <-List.map_drop,List.drop_eq_getElem_cons hj,(List.getElem?_eq_some_iff.1 hx).2];rfl
  rw [hdr,Hy] at hR;by_cases hd:x.f0.f0=d
  ·rw [if_pos hd] at hR;by_cases hb:12<o+1
   ·rw [if_pos hb] at hR;have HR:=AA.mk hR;have hb1:decide (12<o+1)=true:=decide_eq_true hb;clear hR hdr
    gi_wp2
    exact ⟨((KeepsOthers.setCell _ _ _).trans (KeepsOthers.setCell _ _ _)).from _,rfl,⟨_,_,(hM.UX _).ZT _⟩,HR.out.symm⟩
   ·rw [if_neg hb] at hR;have HR:=AA.mk hR;have hb1:decide (12<o+1)=false:=decide_eq_false hb;clear hR hdr
    gi_wp2
    exact ⟨(KeepsOthers.setCell _ _ _).from _,(Below.refl w.heap.size W).setCell (p:=⟨w.heap.size+1+1,0,none⟩) (by show w.heap.size<=w.heap.size+1+1;omega) _,_,_,hM.UX _,by omega,by rw [<-HR.out,hd]⟩
  ·rw [if_neg hd,if_neg (by omega)] at hR;have HR:=AA.mk hR;have n4:(x.f0.f0.toList==d.toList)=false:=by rw [beq_eq_false_iff_ne];intro e;exact hd (bytes_inj e)
   have n5:(x.f0.f0.toList != d.toList)=true:=by rw [bne,n4];rfl
   have ne1:¬g=w.heap.size+1+1:=λe=>by subst e;have:=hg.symm.trans hM.o;simp at this
   have ne2:¬g=w.heap.size+1+1+1:=λe=>by subst e;have:=hg.symm.trans hM.d;simp at this
   have ne3:¬w.heap.size+1+1=g:=λe=>ne1 e.symm
   have ne4:¬w.heap.size+1+1+1=g:=λe=>ne2 e.symm
   clear hR hdr
   gi_wp2
   refine wpIn_mono (Q:=Yi w W A0 l.length c0 x.f0.f0 {tmps:=#[.agg #[.slice A0 l.length c0], .pointer (some ⟨w.heap.size,0,none⟩), .pointer (some ⟨w.heap.size+1,0,none⟩), .pointer (some ⟨w.heap.size+1+1,0,none⟩), .pointer (some ⟨w.heap.size+1+1+1,0,none⟩), .pointer (some ⟨g,0,none⟩), .pointer (some ⟨w.heap.size,0,none⟩), .agg #[.slice A0 l.length c0], .func (.func 57) #[.agg #[.slice A0 l.length c0]] #[], .agg #[.string x.f0.f0, .string x.f0.f1, .string x.f0.f2], .agg #[.string x.f1.f0, .string x.f1.f1, .string x.f1.f2, .string x.f1.f3, .int .i64 x.f1.f4, .int .i64 x.f1.f5, .int .i64 x.f1.f6, .bool x.f1.f7, .bool x.f1.f8, .bool x.f1.f9, .int .i64 x.f1.f10], .pointer (some ⟨g,0,none⟩), .string x.f0.f0, .string d, .bool true, .pointer (some ⟨g,0,none⟩), .string x.f0.f0,undef,undef,undef,undef,undef,undef,undef,undef],defers:=[]}) ?region ?next;case region=>
    gi_region
    all_goals exact ⟨rfl,by first|exact (hM.drew.UX _).Yh _|exact (hM.drew.Yh _).UX _,by first|exact ((KeepsOthers.drew _).trans ((KeepsOthers.setCell _ _ _).trans (KeepsOthers.setCell _ _ _))),by first|exact (((Below.refl w.heap.size W).drew.setCell (p:=⟨w.heap.size+1+1,0,none⟩) (by show w.heap.size<=w.heap.size+1+1;omega) _).setCell (p:=⟨w.heap.size+1+1+1,0,none⟩) (by show w.heap.size<=w.heap.size+1+1+1;omega) _)|exact (((Below.refl w.heap.size W).drew.setCell (p:=⟨w.heap.size+1+1+1,0,none⟩) (by show w.heap.size<=w.heap.size+1+1+1;omega) _).setCell (p:=⟨w.heap.size+1+1,0,none⟩) (by show w.heap.size<=w.heap.size+1+1;omega) _)⟩
   rintro (_|_|_|_|_|_) a3 W3 ⟨⟩;rename_i e3 q3;subst e3;obtain ⟨q1,q2,q4⟩:=q3;have r1:=q1.o.cell;have r3:=q1.o.frozen
   gi_wp2
   exact ⟨(q2.trans (KeepsOthers.setCell _ _ _)).from _,q4.setCell (p:=⟨w.heap.size+1+1,0,none⟩) (by show w.heap.size<=w.heap.size+1+1;omega) _,_,_,q1.UX _,by omega,HR.out⟩
 case done=>
  rintro D W hD ⟨o,d,hM,ho,hR⟩ hK;have hc:=hM.h.cell;have hR0:Hy (l.map (·.f0.f0)) 0 ⟨#[]⟩=false:=by rw [<-hR,List.drop_eq_nil_of_le (by simp)];rfl
  have HR:=AA.mk hR0;clear hR hR0;go_wp2_with (go_at_call 53;refine (WK _ _ _ _).mono ?_;rintro e w3 ⟨rfl,hb3⟩;have x3:=WJ hb3 hM.r;have xc:=x3.cell;have xf:=x3.frozen);have hK3:=DN hK hb3;have hK':=(KeepsOthers.setCell w3 ⟨w.heap.size+1,0,none⟩ (.bool (decide (60<(l.length:Int))))).same D _ hK3 rfl;refine ⟨by simp, .inl ⟨_,_,rfl,run_takeDeferred hK',?_⟩⟩;have hc5:=cell_kept (World.cell?_setCell_same' w3 ⟨w.heap.size+1,0,none⟩ (.bool (decide (60<(l.length:Int)))) (by rw [xc];rfl)) (grownBy_putObj' _ D (.deferred none)) (λr e=>by cases e;exact ⟨_,hK',rfl⟩);have hB3:Below w.heap.size w w3:=hM.b.trans (hb3.mono hM.b.size);refine ⟨.bool (decide (60<(l.length:Int))),?_,?_,(hB3.setCell (p:=⟨w.heap.size+1,0,none⟩) (by show w.heap.size<=w.heap.size+1;omega) _).trans (belowK_b (w:=w) (Nat.le_refl _) _ D _ _ (by omega) hK' rfl rfl)⟩
  ·simp [results,Tryz.f54,go_sem,hc5]
  ·rw [HR.out,Bool.false_or,show decide (60<(l.length:Int))=decide (60<l.length) from decide_eq_decide.2 (by omega)]
 case stop=>
  rintro D c j W hD _ ⟨rfl,⟨o,d,hM⟩,hR⟩ hK;have HR:=AA.mk hR;clear hR;go_wp2;refine ⟨by simp, .inl ⟨_,_,rfl,run_takeDeferred hK,?_⟩⟩;have hc5:=cell_kept hM.r.cell (grownBy_putObj' _ D (.deferred none)) (λr e=>by cases e;exact ⟨_,hK,rfl⟩);refine ⟨.bool true,?_,?_,hM.b.trans (belowK_b (w:=w) (Nat.le_refl _) _ D _ _ (by omega) hK rfl rfl)⟩
  ·simp [results,Tryz.f54,go_sem,hc5]
  ·rw [HR.out,Bool.true_or]
end Go.Proofs.YtfggjdkccdkogaaGreatDoor.Print
