/- nets.Read, walked by hand. -/
import Derived.Test.YtikggnalmidlhaaGreatDoorM22
namespace Go.Proofs.YtikggnalmidlhaaGreatDoor.Print
open RowKit AR Aa Ad Range Shelf
set_option linter.unusedVariables false
set_option linter.unusedSimpArgs false
attribute [local go_sem] Oper.semAt_some
def G7:ByteArray:=⟨#[35,32,78,101,116,115,99,97,112,101,32,72,84,84,80,32,67,111,111,107,105,101,32,70,105,108,101]⟩
theorem JX:G7.toList=([35,32,78,101,116,115,99,97,112,101,32,72,84,84,80,32,67,111,111,107,105,101,32,70,105,108,101]:List UInt8):=by rw [ByteArray.toList_eq];rfl
def KI (k:Nat) (now:Int):List ByteArray->Option (List CU×Int)
 |[]=>some ([],0)
 |s::l=>(Db.f k s now).bind λc=>if c.2=0 then (KI k now l).bind λr=>some (c.1::r.1,r.2) else some ([],c.2)
def Sw (k:Nat) (now:Int) (l:List ByteArray):Option (List CU×Int):=(KI k now (EE l)).bind λr=>some (if r.2=0 then r.1 else [],r.2)
def Pz (k:Nat) (now:Int):List ByteArray->Option (List CU×Int)
 |[]=>some ([],190)
 |h::l=>if h.toList=G7.toList then Sw k now (h::l) else some ([],190)
def CV.f (k:Nat) (s:ByteArray) (now:Int):Option (List CU×Int):=(EX.f s).bind λl=>if now<0\/253402300799<now then some ([],1) else Pz k now l
theorem KI.mono (k:Nat) (now:Int):∀ l,Bz (KI k now l) (KI (k+1) now l)
 |[]=>Bz.refl _
 |s::l=>Bz.bind (Db.mono _ _ _) (λc=>Bz.ite (Bz.bind (KI.mono k now l) (λ_=>Bz.refl _)) (Bz.refl _))
theorem CV.mono:∀ a0 a1 k,Bz (CV.f k a0 a1) (CV.f (k+1) a0 a1):=by
 intro s now k;unfold CV.f;refine Bz.bind (Bz.refl _) (λl=>Bz.ite (Bz.refl _) ?_);unfold Pz;split
 ·exact Bz.refl _
 ·exact Bz.ite (Bz.bind (KI.mono k now _) (λ_=>Bz.refl _)) (Bz.refl _)
theorem Kg {k:Nat} {now:Int}:∀ {L:List ByteArray} {cs:List CU} {e:Int},KI k now L=some (cs,e)->cs.length<=L.length/\(∀ (j:Nat) (c:CU),cs[j]? =some c->∃ s,L[j]? =some s/\Db.f k s now=some (c,(0:Int)))/\((e=0/\cs.length=L.length)\/(e≠0/\∃ s c,L[cs.length]? =some s/\Db.f k s now=some (c,e)))
 |[],cs,e,h=>by
  simp only [KI,Option.some.injEq,Prod.mk.injEq] at h;obtain ⟨rfl,rfl⟩:=h;exact ⟨Nat.le_refl _,λj c h=>by simp at h, .inl ⟨rfl,rfl⟩⟩
 |s::L,cs,e,h=>by
  unfold KI at h;obtain ⟨⟨c,e1⟩,h1,h⟩:=Option.bind_eq_some_iff.1 h;dsimp only at h;split at h
  ·rename_i hz;subst hz;obtain ⟨⟨cs2,e2⟩,h2,h⟩:=Option.bind_eq_some_iff.1 h;simp only [Option.some.injEq,Prod.mk.injEq] at h;obtain ⟨rfl,rfl⟩:=h;obtain ⟨i1,i2,i3⟩:=Kg h2;refine ⟨by simpa using i1,λj c2 hj=>?_,?_⟩
   ·cases j with
    |zero=>exact ⟨s,rfl,by simp only [List.getElem?_cons_zero,Option.some.injEq] at hj;rw [<-hj];exact h1⟩
    |succ j=>exact i2 j c2 hj
   ·rcases i3 with ⟨a,b⟩|⟨a,b⟩
    ·exact .inl ⟨a,by simp [b]⟩
    ·exact .inr ⟨a,b⟩
  ·rename_i hz;simp only [Option.some.injEq,Prod.mk.injEq] at h;obtain ⟨rfl,rfl⟩:=h;exact ⟨Nat.zero_le _,λj c h=>by simp at h, .inr ⟨hz,s,c,rfl,h1⟩⟩
theorem O3 (l:List ByteArray):(EE l).length<=l.length:=List.length_filter_le _ _
def MG (cs:List CU) (j:Nat):List Value:=(cs.take j).flatMap Gd
theorem JO {W:World} {b base j z:Nat} {v:Value} {e:TypeId} {xs:List Value} (h:W.ownsRow base e z v j xs) (hlt:b<base):some b≠v.ownBlock:=by
 rcases h.2 with ⟨rfl,_⟩|⟨g,cap,cur,rfl,hg,_⟩
 ·intro e;cases e
 ·intro e;have:b=g:=by simpa [Value.ownBlock] using e
  omega
theorem OG {W W9:World} {b base j z:Nat} {v u:Value} {e:TypeId} {xs:List Value} (hw:W9=W.setCell ⟨b,0,none⟩ u) (O:AA (W.ownsRow base e z v j xs)) (hlt:b<base):AA (W9.ownsRow base e z v j xs):=by
 subst hw;exact ⟨O.out.kept (grownBy_setCell' W b u) (.inr (JO O.out hlt).symm)⟩
theorem OH {W W9:World} {b D:Nat} {u:Value} {o:Obj} (hw:W9=W.setCell ⟨b,0,none⟩ u) (K:AA (W.heap[D]? =some o)) (hne:D≠b):AA (W9.heap[D]? =some o):=by
 subst hw;exact ⟨(heap_setCell_other W ⟨b,0,none⟩ D u hne).trans K.out⟩
theorem JY {W X:World} {cs:Array Value} {t:TypeId} {o:Obj} (hb:Below W.heap.size W X):Below W.heap.size W ((X.alloc o).setRow X.heap.size cs):=
 have h:=hb.alloc hb.size o
 {h with size:=by simpa using h.size,block:=λi hi=>(setRow_other (X.alloc o) X.heap.size i cs (by have:=hb.size;omega)).trans (h.block i hi)}
theorem Iw {W X:World} (h:Below W.heap.size W X):KeepsOthers W X:=⟨h.size,λk o hk _=>(h.block k (Array.getElem?_eq_some_iff.1 hk).1).trans hk⟩
theorem Kh {cs:List CU} {j:Nat} {c:CU} (h:cs[j]? =some c):MG cs (j+1)=MG cs j++Gd c:=by
 unfold MG;rw [List.take_add_one,h,List.flatMap_append];simp
theorem Sy (W:World) (base:Nat) (ok:Nat->Prop) (cs:List CU):∀ j,j<=cs.length->CG (λx l=>Fu.M W base ok x l) 11 (cs.take j) (MG cs j)
 |0,_=>by simpa [MG] using CG.none _ _
 |j+1,h=>by
  have h1:=Sy W base ok cs j (by omega);have h2:=CG.snoc h1 (Er W base ok cs[j]) rfl;have e:=Kh (List.getElem?_eq_getElem (show j<cs.length by omega));rw [e,List.take_add_one,List.getElem?_eq_getElem (show j<cs.length by omega)];exact h2
section
variable {F:Fence} {n:Nat} {ops:Array Oper} {rest:List Oper} {o:Oper} {a:Act} {w W:World} {bs bs':Bs} {Q:Exit->Act->World->Prop} {t ty:TypeId} {x y:Operand} {g i:Nat} {cs:Array Value}
theorem P5 {v:Value} {bs₁:Bs} (h:∀ W',AA (St w W' bs')->W'=W.setCell ⟨g,i,none⟩ v->wpListIn F n Tryz.prog ops Q rest a W') (S:AA (St w W bs):=by with_reducible assumption) (ho:o.op= .store ty x y:=by with_reducible rfl) (hg:o.guard=none:=by rfl) (hd:o.dst=none:=by rfl) (hx:a.eval x= .pointer (some ⟨g,i,none⟩):=by exact rfl)
 (hz:(Tryz.prog.info? ty).map (·.size)=some 1:=by kernel_rfl) (hy:a.eval y=v:=by first|rfl|(go_simp;done)|(go_simp;rfl)) (hu:KL bs g cs t (cs.setIfInBounds i v) bs₁:=by with_reducible first|exact .head|exact .tail .head|exact .tail (.tail .head)|exact .tail (.tail (.tail .head))|exact .tail (.tail (.tail (.tail .head))))
 (hc:bs₁=bs':=by simp only [List.setIfInBounds_toArray,List.set_cons_zero,List.set_cons_succ];rfl) (hi:i<cs.size:=by simp) (h1:v.oneCell'=true:=by rfl):wpListIn F n Tryz.prog ops Q (o::rest) a W:=by
 subst hc;refine wpListIn_plain hg λK hK=>?_
 unfold Oper.wpIn;refine ⟨by simp [Oper.about,ho],?_⟩;rw [Oper.semAt_plain F _ _ (by rw [ho];intro c hc';cases hc')];unfold execOp;simp only [ho,hx,hy,Instr.storeAt,Instr.sureAddr,Sem.run_bind,Sem.run_pure,Result.andThen_ok,FU S.out hu.mem hi h1 hz];have e:a.put o.dst undef=a:=by rw [hd];rfl
 exact hK _ _ (by rw [e];exact h _ (St.set S v hu) rfl)
theorem OI {v:Value} {bs₁:Bs} (h:∀ W',AA (St w W' bs')->W'=W.setCell ⟨g,i,none⟩ v->wpList Tryz.prog ops Q rest a W') (S:AA (St w W bs):=by with_reducible assumption) (ho:o.op= .store ty x y:=by with_reducible rfl) (hg:o.guard=none:=by rfl) (hd:o.dst=none:=by rfl) (hx:a.eval x= .pointer (some ⟨g,i,none⟩):=by exact rfl)
 (hz:(Tryz.prog.info? ty).map (·.size)=some 1:=by kernel_rfl) (hy:a.eval y=v:=by first|rfl|(go_simp;done)|(go_simp;rfl)) (hu:KL bs g cs t (cs.setIfInBounds i v) bs₁:=by with_reducible first|exact .head|exact .tail .head|exact .tail (.tail .head)|exact .tail (.tail (.tail .head))|exact .tail (.tail (.tail (.tail .head))))
 (hc:bs₁=bs':=by simp only [List.setIfInBounds_toArray,List.set_cons_zero,List.set_cons_succ];rfl) (hi:i<cs.size:=by simp) (h1:v.oneCell'=true:=by rfl):wpList Tryz.prog ops Q (o::rest) a W:=by
 subst hc;refine wpList_plain hg λK hK=>?_
 unfold Oper.wp execOp;simp only [ho,hx,hy,Instr.storeAt,Instr.sureAddr,Sem.run_bind,Sem.run_pure,Result.andThen_ok,FU S.out hu.mem hi h1 hz];have e:a.put o.dst undef=a:=by rw [hd];rfl
 exact hK _ _ (by rw [e];exact h _ (St.set S v hu) rfl)
end
theorem Ki {W:World} {g ty:Nat} {d:TypeDesc} {v:Value} (hc:W.cell? ⟨g,0,none⟩=some v) (hu:Tryz.prog.underlying ty=some d) (hk:H5 d=false):(loadVar ty ⟨g,0,none⟩).run Tryz.prog W= .ok v W:=by
 have hagg:(isAgg ty).run Tryz.prog W= .ok false W:=by
  unfold isAgg;rw [Sem.run_bind,run_underlying hu W];cases d<;>first|rfl|(simp [H5] at hk;done)
 simp [loadVar,Sem.run_bind,hagg,hc]
theorem MH {fn:Func} {p q:Tmp} {t u:TypeId} {tmps:Array Value} {W:World} {g h:Nat} {d e:TypeDesc} {x y:Value} (hr:fn.results=#[.cell p t, .cell q u]) (hp:tmps.getD p undef= .pointer (some ⟨g,0,none⟩)) (hq:tmps.getD q undef= .pointer (some ⟨h,0,none⟩))
 (hx:W.cell? ⟨g,0,none⟩=some x) (hy:W.cell? ⟨h,0,none⟩=some y) (hu:Tryz.prog.underlying t=some d) (hk:H5 d=false) (hv:Tryz.prog.underlying u=some e) (hl:H5 e=false):(results fn tmps).run Tryz.prog W= .ok (.tuple #[x,y]) W:=by
 have hp':tmps[p]?.getD undef= .pointer (some ⟨g,0,none⟩):=by simpa using hp
 have hq':tmps[q]?.getD undef= .pointer (some ⟨h,0,none⟩):=by simpa using hq
 simp [results,hr,hp',hq',asAddr,Ki hx hu hk,Ki hy hv hl]
def Sz (w:World) (r:List CU) (c:Int) (e:Ending) (w':World):Prop:=∃ v0_:Value,e= .returned (.tuple #[v0_, .int .i64 c])/\Kd.R Fu 53 w' w.heap.size (λ_=>True) v0_ r/\Below w.heap.size w w'
theorem TA (w W:World):Kd.R Fu 53 W w.heap.size (λ_=>True) (.slice none 0 0) []:=⟨λ_ _=>trivial,[],World.ownsRow_nil _ _ _ _,CG.none _ _⟩
theorem TY {tmps:Array Value} {W:World} {b4 b5:Nat} {x y:Value} (h4:tmps.getD 4 undef= .pointer (some ⟨b4,0,none⟩)) (h5:tmps.getD 5 undef= .pointer (some ⟨b5,0,none⟩)) (hx:W.cell? ⟨b4,0,none⟩=some x) (hy:W.cell? ⟨b5,0,none⟩=some y):(results Tryz.f13 tmps).run Tryz.prog W= .ok (.tuple #[x,y]) W:=
 MH rfl h4 h5 hx hy Tryz.underlying22 rfl Tryz.underlying36 rfl
theorem RZ {w W:World} {bs:Bs} {a:Act} {b4 b5:Nat} {c:Int} (S:AA (St w W bs)) (hd:a.defers=[]) (h4:a.tmps.getD 4 undef= .pointer (some ⟨b4,0,none⟩)) (h5:a.tmps.getD 5 undef= .pointer (some ⟨b5,0,none⟩)) (m4:(b4,#[.slice none 0 0],22)∈bs) (m5:(b5,#[.int .i64 c],36)∈bs):
 TB Tryz.prog Tryz.f13 (Sz w [] c) .ret a W:=by
 obtain ⟨tm,ds⟩:=a;obtain rfl:ds=[]:=hd;exact ⟨_,TY h4 h5 (St.cell S m4 rfl) (St.cell S m5 rfl),_,rfl,TA _ _,S.out.b⟩
set_option maxHeartbeats 4000000 in
set_option maxRecDepth 100000 in
theorem CV.calls (k:Nat) (a0:ByteArray) (a1:Int) (r1:List CU) (r2:Int) (w:World) (hG:AA (Ck w)) (h:CV.f k a0 a1=some (r1,r2)):
 Calls Tryz.prog 13 #[.string a0, .int .i64 a1] w λe w'=>∃ v0_:Value,e= .returned (.tuple #[v0_, .int .i64 r2])/\Kd.R Fu 53 w' w.heap.size (λ_=>True) v0_ r1/\Below w.heap.size w w':=by
 show Calls _ _ _ _ (Sz w r1 r2);unfold CV.f at h;obtain ⟨l,hl,h⟩:=Option.bind_eq_some_iff.1 h;have SP:=AA.mk hl;clear hl;have u1:=Tryz.underlying22;have u2:=Tryz.underlying36;have u3:=Tryz.underlying9;have u4:=Tryz.underlying45;have u5:=Tryz.underlying3;have u6:=Tryz.underlying53;refine Ef Tryz.func13 rfl ?_;simp only [Tryz.ntmps13,List.size_toArray,List.length_cons,List.length_nil,Nat.reduceAdd,Nat.reduceSub,Array.replicate_succ,Array.replicate_zero,List.push_toArray,List.append_toArray,List.nil_append,List.cons_append];have S:=St.start w;go_upto_region 2 with (first|(refine NT (N:=3) #[.int .i64 a1] 3 (λb3 W_ S_=>?_);replace S:=S_;clear S_)|(refine NT (N:=4) #[.slice none 0 0] 22 (λb4 W_ S_=>?_);replace S:=S_;clear S_)|(refine NT (N:=5) #[.int .i64 0] 36 (λb5 W_ S_=>?_);replace S:=S_;clear S_)|(go_at_call 27;refine (EX.calls a0 l _ (St.laid S hG) SP.out).mono ?_;rintro e W_ ⟨v8,rfl,hr,hb⟩;obtain ⟨A8,c8,rfl,hcap,hC⟩:=Kd.JP hr;replace S:=St.below S hb;clear hb))
 by_cases hb0:a1<0
 ·rw [if_pos (.inl hb0)] at h;simp only [Option.some.injEq,Prod.mk.injEq] at h;obtain ⟨rfl,rfl⟩:=h;have d1:decide (a1<0)=true:=decide_eq_true hb0;clear hb0 hr hC;go_wp2_with (first|((with_reducible refine DD rfl ?_);(first|refine EM ?_|(refine Gf ?_;refine EM ?_)))|((with_reducible refine C8 rfl ?_);refine IZ (λW_ S_=>?_);replace S:=S_;clear S_));exact RZ S rfl (by rfl) (by rfl) (.tail _ (.head _)) (.head _)
 have d1:decide (a1<0)=false:=decide_eq_false hb0;by_cases hb1:253402300799<a1
 ·rw [if_pos (.inr hb1)] at h;simp only [Option.some.injEq,Prod.mk.injEq] at h;obtain ⟨rfl,rfl⟩:=h;have d2:decide (253402300799<a1)=true:=decide_eq_true hb1;clear hb0 hb1 hr hC;go_wp2_with (first|((with_reducible refine DD rfl ?_);(first|refine EM ?_|(refine Gf ?_;refine EM ?_)))|((with_reducible refine C8 rfl ?_);refine IZ (λW_ S_=>?_);replace S:=S_;clear S_));exact RZ S rfl (by rfl) (by rfl) (.tail _ (.head _)) (.head _)
 have d2:decide (253402300799<a1)=false:=decide_eq_false hb1;rw [if_neg (by omega)] at h;clear hb0 hb1;cases l with
 |nil=>
  simp only [Pz,Option.some.injEq,Prod.mk.injEq] at h;obtain ⟨rfl,rfl⟩:=h;clear hr hC;go_wp2_with (first|((with_reducible refine DD rfl ?_);(first|refine EM ?_|(refine Gf ?_;refine EM ?_)))|((with_reducible refine C8 rfl ?_);refine IZ (λW_ S_=>?_);replace S:=S_;clear S_));exact RZ S rfl (by rfl) (by rfl) (.tail _ (.head _)) (.head _)
 |cons hd tl=>
  replace h:(if hd.toList=G7.toList then Sw k a1 (hd::tl) else some ([],190))=some (r1,r2):=h;obtain ⟨ad,rfl,hx⟩:=Kd.DF hC 0 (by omega) (by simp);have hrd:Cf ByteArray.empty (hd::tl) 0=hd:=rfl;rw [hrd,Int.toNat_zero] at hx;obtain ⟨n,hn⟩:∃ n,n=(hd::tl).length:=⟨_,rfl⟩;have hn1:1<=n:=by rw [hn];simp
  rw [<-hn];replace hn:=AA.mk hn;have hx0:W_.cell? ad=some (.string hd):=by rw [Addr.add_zero'] at hx;exact hx
  have e0:((n:Int)==0)=false:=beq_eq_false_iff_ne.2 (by omega);have e1:((n:Int) != 0)=true:=bne_iff_ne.2 (by omega);have e2:(n==0)=false:=beq_eq_false_iff_ne.2 (by omega);have p1:=eq_true (show (0:Int)<(n:Int) by omega);have p2:=eq_true (show 0<n by omega);by_cases hh:hd.toList=G7.toList;case neg=>
   rw [if_neg hh] at h;simp only [Option.some.injEq,Prod.mk.injEq] at h;obtain ⟨rfl,rfl⟩:=h;have g1:(hd.toList==([35,32,78,101,116,115,99,97,112,101,32,72,84,84,80,32,67,111,111,107,105,101,32,70,105,108,101]:List UInt8))=false:=by rw [<-JX];exact beq_eq_false_iff_ne.2 hh
   clear hr hC hh;go_wp2_with (first|((with_reducible refine DD rfl ?_);(first|refine EM ?_|(refine Gf ?_;refine EM ?_)))|((with_reducible refine C8 rfl ?_);refine IZ (λW_ S_=>?_);replace S:=S_;clear S_));exact RZ S rfl (by rfl) (by rfl) (.tail _ (.head _)) (.head _)
  rw [if_pos hh] at h;have g1:(hd.toList==([35,32,78,101,116,115,99,97,112,101,32,72,84,84,80,32,67,111,111,107,105,101,32,70,105,108,101]:List UInt8))=true:=by rw [<-JX];exact beq_iff_eq.2 hh
  clear hh;go_upto_region 6 with (first|((with_reducible refine DD rfl ?_);(first|refine EM ?_|(refine Gf ?_;refine EM ?_))))
  obtain ⟨⟨cs,e⟩,hrun,h⟩:=Option.bind_eq_some_iff.1 h;simp only [Option.some.injEq,Prod.mk.injEq] at h;obtain ⟨hr1,hr2⟩:=h;subst hr2;replace hr1:=AA.mk hr1;have hlen:(hd::tl).length<=1000000000:=by
   have:=SP.out;unfold EX.f at this;split at this
   ·rename_i hq;rw [<-Option.some.inj this,List.length_map];have q1:=JZ a0.data.toList.length a0.data.toList;have q2:a0.data.toList.length=a0.size:=by rw [Array.length_toList];rfl
    unfold Bq;omega
   ·cases this
  have hnn:=hn.out;rw [<-hnn] at hlen hcap;obtain ⟨L,hL⟩:∃ L,L=EE (hd::tl):=⟨_,rfl⟩;have hLl:L.length<=n:=by rw [hL,hnn];exact O3 _
  rw [<-hL] at hrun;obtain ⟨i1,i2,i3⟩:=Kg hrun;obtain ⟨N1,hN1⟩:∃ N1,N1=W_.heap.size:=⟨_,rfl⟩;have c3:=S.out.x _ (.tail _ (.tail _ (.head _)));have c4:=S.out.x _ (.tail _ (.head _));have c5:=S.out.x _ (.head _);have c45:b5≠b4:=(List.pairwise_cons.1 S.out.n).1 _ (.head _);have hBw:=S.out.b;dsimp only at c3 c4 c5;have l3:b3<N1:=by rw [hN1];exact (Array.getElem?_eq_some_iff.1 c3.1).1
  have l4:b4<N1:=by rw [hN1];exact (Array.getElem?_eq_some_iff.1 c4.1).1
  have l5:b5<N1:=by rw [hN1];exact (Array.getElem?_eq_some_iff.1 c5.1).1
  clear hr hx hx0 p1 p2 e0 e1 e2 d1 d2 g1 hrun hnn;replace hN1:=AA.mk hN1;replace hL:=AA.mk hL;obtain ⟨i0,hi,hz0,hz1,hz2⟩:=info_parts Su;go_wp2_with (go_at_call 28;refine (KG (some ad) n c8 _).mono ?_;rintro e w' ⟨rfl,rfl⟩);rw [<-hN1.out];have g1:((W_.alloc (.cells #[.slice none 0 0] 22)).alloc (.cells #[.slice (some ad) n c8] 45)).heap[N1+1]? =some (.cells #[.slice (some ad) n c8] 45 (0,0)):=by
   have:=World.alloc_heap_new (W_.alloc (.cells #[.slice none 0 0] 22)) (.cells #[.slice (some ad) n c8] 45);rwa [World.size_alloc, <-hN1.out] at this
  have bO:Boxed ((W_.alloc (.cells #[.slice none 0 0] 22)).alloc (.cells #[.slice (some ad) n c8] 45)) N1 22 (.slice none 0 0):=by rw [hN1.out];exact (Boxed.new W_ 22 (.slice none 0 0)).alloc _
  have hB0:Below N1 W_ ((W_.alloc (.cells #[.slice none 0 0] 22)).alloc (.cells #[.slice (some ad) n c8] 45)):=by rw [hN1.out];exact ((Below.refl _ W_).alloc (Nat.le_refl _) _).alloc (by simp) _
  have hs0:((W_.alloc (.cells #[.slice none 0 0] 22)).alloc (.cells #[.slice (some ad) n c8] 45)).heap.size=N1+2:=by rw [World.size_alloc,World.size_alloc, <-hN1.out]
  generalize (W_.alloc (.cells #[.slice none 0 0] 22)).alloc (.cells #[.slice (some ad) n c8] 45)=W0 at g1 bO hB0 hs0⊢
  have hBw0:Below w.heap.size w W0:=hBw.trans (hB0.mono (by rw [hN1.out];exact hBw.size));have hwN:w.heap.size<=N1:=by rw [hN1.out];exact hBw.size
  have hIown:=(OwnFrom.and (Own.from (holdsRow_own (N1+1+1) N1 22 53 11 (λj:Nat=>j) (MG cs) (λj _=>j<=cs.length)) W0.heap.size) (ownFrom_below (by omega) (by omega)):OwnFrom W0.heap.size (λ(j:Nat) W=>(∃ v,Boxed W N1 22 v/\W.ownsRow (N1+1+1) 53 11 v j (MG cs j)/\j<=cs.length)/\Below N1 W0 W));refine Kk (gf:=52) (fv:=#[.pointer (some ⟨N1+1,0,none⟩)]) (n₀:=N1) (b:=N1+1) (enc:=encS) (xs:=L) rfl (enters_of Tryz.func52 (by kernel_rfl) rfl)
   (by rw [hL.out];exact (KF (some ad) c8 (hd::tl) (N1+1) N1 W_ W0 8 hC (by rw [<-hn.out];exact hcap) (by rw [<-hn.out];exact hlen) hN1.out hB0 (by rw [<-hn.out];exact g1))) (by omega) (by omega) (λ_ _=>rfl)
   (λj W=>(∃ v,Boxed W N1 22 v/\W.ownsRow (N1+1+1) 53 11 v j (MG cs j)/\j<=cs.length)/\Below N1 W0 W)
   (λc _ W=>((c=Code.ret/\e≠0)/\W.heap[b4]? =some (.cells #[.slice none 0 0] 22 (0,0))/\W.heap[b5]? =some (.cells #[.int .i64 e] 36 (0,0)))/\Below w.heap.size w W)
   hIown
   ?hIx
   ?hIb
   ?hIxb
   ⟨⟨_,bO,World.ownsRow_nil _ _ _ _,Nat.zero_le _⟩,Below.refl _ _⟩
   (λs=>{tmps:=#[.string a0, .int .i64 a1,undef, .pointer (some ⟨b3,0,none⟩), .pointer (some ⟨b4,0,none⟩), .pointer (some ⟨b5,0,none⟩), .slice (some ad) n c8, .pointer (some ⟨N1,0,none⟩), .string s,undef,undef, .string a0, .slice (some ad) n c8, .bool false, .int .i64 a1, .bool false, .bool false, .int .i64 a1, .bool false, .bool false, .bool false, .slice (some ad) n c8, .int .i64 n, .bool false, .bool false, .slice (some ad) n c8, .pointer (some ad), .string hd, .bool false, .bool false, .slice (some ad) n c8, .func (.func 52) #[] #[.pointer (some ⟨N1+1,0,none⟩)], .string s,undef,undef,undef,undef,undef,undef,undef,undef,undef,undef,undef,undef,undef,undef],defers:=[]})
   ?assign ?body ?done ?stop
  case hIx=>
   rintro c j A C row ⟨⟨hc,h4,h5⟩,hB⟩ hg hr;have kp:∀ {i:Nat} {o:Obj},i<N1->A.heap[i]? =some o->C.heap[i]? =some o:=λ {i o} hi hk=>(hg.block i (Array.getElem?_eq_some_iff.1 hk).1 (λq=>by have h9:W0.heap.size<=i:=(hr i q.symm).1;omega)).trans hk
   exact ⟨⟨hc,kp l4 h4,kp l5 h5⟩,hB.grown hg hB.size (λk q=>by have h9:W0.heap.size<=k:=(hr _ q).1;omega)⟩
  case hIb=>
   rintro j A C ⟨⟨v,hv,hrow,hj⟩,hB⟩ hg;exact ⟨⟨v,hv.kept hg (λq=>absurd (Option.some.inj q) (by omega)),hrow.kept hg (.inr (JO (b:=N1+1) hrow (by omega)).symm),hj⟩,hB.grown hg (by have:=hB.size;omega) (λk q=>by have:=Option.some.inj q;omega)⟩
  case hIxb=>
   rintro c j A C ⟨⟨hc,h4,h5⟩,hB⟩ hg;have kp:∀ {i:Nat} {o:Obj},i<N1->A.heap[i]? =some o->C.heap[i]? =some o:=λ {i o} hi hk=>(hg.block i (Array.getElem?_eq_some_iff.1 hk).1 (λq=>by have:=Option.some.inj q;omega)).trans hk
   exact ⟨⟨hc,kp l4 h4,kp l5 h5⟩,hB.grown hg hB.size (λk q=>by have:=Option.some.inj q;omega)⟩
  case assign=>
   intro lp x W K hx hK;unfold encS
   gi_wp2
   exact hK
  case body=>
   rintro lp j x W hx ⟨⟨v,hv,hrow,hj⟩,hB⟩;have hW0:Below w.heap.size w W:=hBw0.trans (hB.mono (by omega));have hN0:Below N1 W_ W:=hB0.trans (hB.mono (by omega));have hc3:W.cell? ⟨b3,0,none⟩=some (.int .i64 a1):=(AL ((hN0.block b3 l3).trans c3.1) 0).trans rfl;clear hIown;by_cases hjl:j<cs.length
   ·obtain ⟨c,hcj⟩:∃ c,cs[j]? =some c:=⟨_,List.getElem?_eq_getElem hjl⟩;obtain ⟨x',hx',hf⟩:=i2 j c hcj;obtain rfl:x'=x:=Option.some.inj (hx'.symm.trans hx);have RD:AA (Calls Tryz.prog 29 #[.string x', .int .i64 a1] W λe W'=>e= .returned (.tuple #[.agg #[.string c.f0, .string c.f1, .string c.f2, .string c.f3, .int .i64 c.f4, .int .i64 c.f5, .int .i64 c.f6, .bool c.f7, .bool c.f8, .bool c.f9, .int .i64 c.f10], .int .i64 0])/\Below W.heap.size W W'):=⟨Db.calls k x' a1 c 0 W ⟨Ck.below hG.out hW0⟩ hf⟩
    gi_upto_region 10 with (first|((with_reducible apply And.intro);(focus exact trivial);gi_at_call 29;refine (CallsIn.inRound lp (callsIn_wide.2 RD.out)).mono ?_;rintro e_ w' ⟨rfl,hb⟩)|((with_reducible refine GH rfl ?_);refine Iu _ _ _ rfl rfl _ #[.string c.f0, .string c.f1, .string c.f2, .string c.f3, .int .i64 c.f4, .int .i64 c.f5, .int .i64 c.f6, .bool c.f7, .bool c.f8, .bool c.f9, .int .i64 c.f10] rfl rfl 53 Fa (Eh _ _) (by kernel_rfl) rfl (by simp [Value.oneCell']) ?_))
    have hF1:=JY (cs:=#[.string c.f0, .string c.f1, .string c.f2, .string c.f3, .int .i64 c.f4, .int .i64 c.f5, .int .i64 c.f6, .bool c.f7, .bool c.f8, .bool c.f9, .int .i64 c.f10]) (t:=53) (o:= .cells Fa 53) hb;have hF2:((w'.alloc (.cells Fa 53)).setRow w'.heap.size #[.string c.f0, .string c.f1, .string c.f2, .string c.f3, .int .i64 c.f4, .int .i64 c.f5, .int .i64 c.f6, .bool c.f7, .bool c.f8, .bool c.f9, .int .i64 c.f10]).heap[w'.heap.size]? =some (.cells #[.string c.f0, .string c.f1, .string c.f2, .string c.f3, .int .i64 c.f4, .int .i64 c.f5, .int .i64 c.f6, .bool c.f7, .bool c.f8, .bool c.f9, .int .i64 c.f10] 53 (0,0)):=setRow_heap _ _ Fa #[.string c.f0, .string c.f1, .string c.f2, .string c.f3, .int .i64 c.f4, .int .i64 c.f5, .int .i64 c.f6, .bool c.f7, .bool c.f8, .bool c.f9, .int .i64 c.f10] 53 (0,0) (Eh _ _);have hgl:=hb.size;change Code.wpIn _ _ _ _ _ _ ((w'.alloc (.cells Fa 53)).setRow w'.heap.size #[.string c.f0, .string c.f1, .string c.f2, .string c.f3, .int .i64 c.f4, .int .i64 c.f5, .int .i64 c.f6, .bool c.f7, .bool c.f8, .bool c.f9, .int .i64 c.f10]);generalize (w'.alloc (.cells Fa 53)).setRow w'.heap.size #[.string c.f0, .string c.f1, .string c.f2, .string c.f3, .int .i64 c.f4, .int .i64 c.f5, .int .i64 c.f6, .bool c.f7, .bool c.f8, .bool c.f9, .int .i64 c.f10]=W4 at hF1 hF2⊢
    generalize w'.heap.size=g at hF2 hgl⊢
    have hv4:Boxed W4 N1 22 v:=(hF1.block N1 hv.lt).trans hv;have hrow4:=IC hrow hF1;have hB4:Below N1 W0 W4:=hB.trans (hF1.mono (by have:=hB.size;omega));have hc:=hv4.cell;have hfz:=hv4.frozen;have htk:=Kh hcj;have hs1:=hB.size;have hs4:=hF1.size;clear hb hv hrow hB hc3 RD
    gi_wp2_with (first|((with_reducible refine L9 (ty:=53) rfl ?_);refine NH _ _ rfl rfl g rfl 53 #[.string c.f0, .string c.f1, .string c.f2, .string c.f3, .int .i64 c.f4, .int .i64 c.f5, .int .i64 c.f6, .bool c.f7, .bool c.f8, .bool c.f9, .int .i64 c.f10] (0,0) _ hF2 u6 rfl (by kernel_rfl) ?_)|(gi_at_builtin;refine wpListIn_append_own _ rfl _ _ 22 rfl (N1+1+1) 53 i0 (.agg #[.string ⟨#[]⟩, .string ⟨#[]⟩, .string ⟨#[]⟩, .string ⟨#[]⟩, .int .i64 0, .int .i64 0, .int .i64 0, .bool false, .bool false, .bool false, .int .i64 0]) 11 104 u1 hi hz0 hz1 hz2 rfl (by decide) _ _ _ rfl (hrow4.alloc _) ⟨W4.heap.size,0,none⟩ 1 1 (Gd c) rfl rfl (Ke W4 _ 53) (by simp [Gd,Value.oneCell']) (by unfold maxLen;omega) (by omega) (by simp;omega) ?_;intro v' w1 hown' hgrow _;obtain ⟨g',cap',rfl⟩:=ownsRow_succ hown';obtain ⟨hv1,hv2,hr2,hk2,hb2⟩:=hv4.appended (by decide) (EU (base':=N1) hrow4 (by omega)) (by omega) (by omega) (EU (base':=N1) hown' (by omega)) hgrow;have hc1:=hv1.cell;have hf1:=hv1.frozen))
    have hb3:(w1.setCell ⟨N1,0,none⟩ (.slice (some ⟨g',0,none⟩) (j+1) cap')).heap[N1+1]? =W4.heap[N1+1]? :=
     (heap_setCell_other _ _ _ _ (by simp)).trans ((hgrow.block _ (by simp;omega) (JO (b:=N1+1) hrow4 (by omega))).trans (Below.heap_alloc _ _ _ (by omega)))
    exact ⟨((Iw hF1).trans hk2).from _,⟨(hF1.mono (by omega)).trans hb2,hb3.trans (hF1.block (N1+1) (by omega))⟩,⟨_,hv2,by have hq:=hown'.kept (grownBy_setCell' w1 N1 (.slice (some ⟨g',0,none⟩) (j+1) cap')) (.inr (JO hown' (by omega)).symm);rw [htk];exact hq,hjl⟩,hB4.trans hb2⟩
   ·have hje:j=cs.length:=by omega
    have hjL:j<L.length:=(List.getElem?_eq_some_iff.1 hx).1;rcases i3 with ⟨_,q⟩|⟨he,x',c,hx',hf⟩
    ·omega
    rw [<-hje] at hx';obtain rfl:x'=x:=Option.some.inj (hx'.symm.trans hx);have RD:AA (Calls Tryz.prog 29 #[.string x', .int .i64 a1] W λe' W'=>e'= .returned (.tuple #[.agg (Ra c), .int .i64 e])/\Below W.heap.size W W'):=⟨Db.calls k x' a1 c e W ⟨Ck.below hG.out hW0⟩ hf⟩;have ge:(e != 0)=true:=bne_iff_ne.2 he;have ge2:(e==0)=false:=beq_eq_false_iff_ne.2 he
    gi_upto_region 10 with (first|((with_reducible apply And.intro);(focus exact trivial);gi_at_call 29;refine (CallsIn.inRound lp (callsIn_wide.2 RD.out)).mono ?_;rintro e_ w' ⟨rfl,hb⟩)|((with_reducible refine GH rfl ?_);refine Iu _ _ _ rfl rfl _ (Ra c) rfl rfl 53 Fa (Eh _ _) (by kernel_rfl) rfl (by simp [Ra,Value.oneCell']) ?_))
    have hF1:=JY (cs:=Ra c) (t:=53) (o:= .cells Fa 53) hb;change Code.wpIn _ _ _ _ _ _ ((w'.alloc (.cells Fa 53)).setRow w'.heap.size (Ra c));generalize (w'.alloc (.cells Fa 53)).setRow w'.heap.size (Ra c)=W4 at hF1⊢
    generalize w'.heap.size=g;have kp:∀ {i:Nat} {o:Obj},i<N1->W_.heap[i]? =some o->W4.heap[i]? =some o:=λ {i o} hi hk=>by
     have h1:=hN0.block i hi;have h2:=(Array.getElem?_eq_some_iff.1 (h1.trans hk)).1;exact (hF1.block i h2).trans (h1.trans hk)
    have S4:AA (St w W4 [(b5,#[.int .i64 0],36),(b4,#[.slice none 0 0],22)]):=⟨⟨AP hW0 hF1,λp hp=>by
     rcases List.mem_cons.1 hp with rfl|hp
     ·exact ⟨kp l5 c5.1,c5.2⟩
     ·obtain rfl:=List.mem_singleton.1 hp
      exact ⟨kp l4 c4.1,c4.2⟩,List.pairwise_cons.2 ⟨λp hp=>by obtain rfl:=List.mem_singleton.1 hp;exact c45,List.pairwise_singleton _ _⟩⟩⟩
    have K:=AA.mk (Iw hF1);clear hb hF1 RD S kp hN0 hW0 hc3 hrow hv hB
    gi_wp2_with (first|((with_reducible refine GH rfl ?_);refine P5 (λW9 S9 hw9=>?_);replace K:=AA.mk (show KeepsOthers W W9 from K.out.trans (by rw [hw9];exact KeepsOthers.setCell _ _ _));replace S4:=S9;clear S9 hw9))
    exact ⟨K.out.from _,⟨⟨rfl,he⟩,(S4.out.x _ (.tail _ (.head _))).1,(S4.out.x _ (.head _)).1⟩,S4.out.b⟩
  case done=>
   rintro D W hD ⟨⟨v,hv,hrow,hj⟩,hB⟩ hK;obtain ⟨he,hcl⟩:e=0/\cs.length=L.length:=by
    rcases i3 with h|⟨_,x',c,hx',_⟩
    ·exact h
    ·have:=(List.getElem?_eq_some_iff.1 hx').1;omega
   subst he;have hr:=hr1.out;rw [if_pos rfl] at hr;subst hr;have hW0:Below w.heap.size w W:=hBw0.trans (hB.mono (by omega));have hN0:Below N1 W_ W:=hB0.trans (hB.mono (by omega));have S4:AA (St w W [(N1,#[v],22),(b5,#[.int .i64 0],36),(b4,#[.slice none 0 0],22)]):=⟨⟨hW0,λp hp=>by
    rcases List.mem_cons.1 hp with rfl|hp
    ·exact ⟨hv,hwN⟩
    rcases List.mem_cons.1 hp with rfl|hp
    ·exact ⟨(hN0.block b5 l5).trans c5.1,c5.2⟩
    ·obtain rfl:=List.mem_singleton.1 hp
     exact ⟨(hN0.block b4 l4).trans c4.1,c4.2⟩,List.pairwise_cons.2 ⟨λp hp=>by
    rcases List.mem_cons.1 hp with rfl|hp
    ·show N1≠b5;omega
    ·obtain rfl:=List.mem_singleton.1 hp
     show N1≠b4;omega,List.pairwise_cons.2 ⟨λp hp=>by obtain rfl:=List.mem_singleton.1 hp;exact c45,List.pairwise_singleton _ _⟩⟩⟩⟩
   have O:=AA.mk hrow;have K:=AA.mk hK;have hne4:D≠b4:=by omega
   have hne5:D≠b5:=by omega
   have hv1:v.oneCell'=true:=by
    rcases hrow.2 with ⟨rfl,_⟩|⟨g,cap,cur,rfl,_⟩<;>rfl
   clear S hrow hv hB hN0 hW0 hIown hK;go_wp2_with (first|((with_reducible refine DD rfl ?_);refine EM ?_)|((with_reducible refine C8 rfl ?_);first|(refine OI (g:=b4) (v:=v) (λW9 S9 hw9=>?_) (h1:=hv1);replace O:=OG hw9 O (by omega);replace K:=OH hw9 K hne4;replace S4:=S9;clear S9 hw9)|(refine OI (g:=b5) (v:= .int .i64 0) (λW9 S9 hw9=>?_);replace O:=OG hw9 O (by omega);replace K:=OH hw9 K hne5;replace S4:=S9;clear S9 hw9)));refine ⟨by simp, .inl ⟨_,_,rfl,run_takeDeferred K.out,?_⟩⟩;have q4:=(World.putObj_heap_other (o:= .deferred none) (λq=>hne4 q.symm)).trans (S4.out.x _ (.tail _ (.tail _ (.head _)))).1;have q5:=(World.putObj_heap_other (o:= .deferred none) (λq=>hne5 q.symm)).trans (S4.out.x _ (.tail _ (.head _))).1;refine ⟨_,TY (b4:=b4) (b5:=b5) rfl rfl ((AL q4 0).trans rfl) ((AL q5 0).trans rfl),v,rfl,?_,?_⟩
   ·rw [<-hcl] at O;have hq:=Sy (W9.putObj D (.deferred none)) w.heap.size (λk=>True/\some k≠v.ownBlock) cs cs.length (Nat.le_refl _);rw [List.take_length] at hq;exact ⟨λ_ _=>trivial,_,EU (ownsRow_putObj O.out _ K.out rfl) (by omega),hq⟩
   ·exact S4.out.b.trans (belowK_b (w:=w) (Nat.le_refl _) _ D _ _ (by omega) K.out rfl rfl)
  case stop=>
   rintro D c j W hD hjl ⟨⟨⟨rfl,he⟩,h4,h5⟩,hB⟩ hK;have hne4:D≠b4:=by omega
   have hne5:D≠b5:=by omega
   have hr:=hr1.out;rw [if_neg he] at hr;subst hr;go_wp2;refine ⟨by simp, .inl ⟨_,_,rfl,run_takeDeferred hK,?_⟩⟩;have q4:=(World.putObj_heap_other (o:= .deferred none) (λq=>hne4 q.symm)).trans h4;have q5:=(World.putObj_heap_other (o:= .deferred none) (λq=>hne5 q.symm)).trans h5;exact ⟨_,TY (b4:=b4) (b5:=b5) rfl rfl ((AL q4 0).trans rfl) ((AL q5 0).trans rfl),_,rfl,TA _ _,hB.trans (belowK_b (w:=w) (Nat.le_refl _) _ D _ _ (by omega) hK rfl rfl)⟩
end Go.Proofs.YtikggnalmidlhaaGreatDoor.Print
