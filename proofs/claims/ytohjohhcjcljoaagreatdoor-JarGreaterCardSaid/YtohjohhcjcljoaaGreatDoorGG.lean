/- What JarGreater's walk needs beside the others' words: append onto a slice without room; a cut with a capacity; what is found. -/
import Derived.Test.YtohjohhcjcljoaaGreatDoorGthree
namespace Go.Proofs.YtohjohhcjcljoaaGreatDoor.Print
open RowKit Ak BR BS Range Shelf
set_option linter.unusedVariables false
set_option linter.unusedSimpArgs false
theorem Xe (A:Option Addr) (n c:Nat) (hc:n<=c) (W:World):(Instr.slice 22 (.slice A n c) none (some (.int .i64 (n:Int))) (some (.int .i64 (n:Int)))).run Tryz.prog W= .ok (.slice A n n) W:=by
 obtain ⟨i0,hi,hzz⟩:=Option.map_eq_some_iff.1 JF;have hel:Tryz.prog.elem 22=43:=by kernel_rfl
 simp only [Prod.mk.injEq] at hzz;cases A<;>simp [Instr.slice,run_underlying Tryz.underlying22,Instr.sliceBounds,run_sliceBound,hc,hel,sizeOf,typeInfo,hi,Addr.add]
theorem XM {ops:Array Oper} {rest:List Oper} {o:Oper} {a:Act} {Q:Exit->Act->World->Prop} {w W:World} {js:List (Nat×List OW)} {cs:Cs} {A B:Option Addr} {n m c c0:Nat} {xs ys:List Um}
 (S:AA (St w W js cs)) (Tx:WT W A n c0 xs) (Ty:WT W B m c ys) (hl:n+m<=1000) (hg:o.guard=none) (s x:Operand) (hop:o.op=Op.call {callee:=Callee.builtin Builtin.append,args:=#[s,x],argTypes:=#[22,22]})
 (hs:a.eval s= .slice A n n) (hx:a.eval x= .slice B m c) (h:∀ N A' c' w1,WT w1 A' N c' (xs++ys)->AA (St w w1 js cs)->wpList Tryz.prog ops Q rest (a.put o.dst (.slice A' N c')) w1):wpList Tryz.prog ops Q (o::rest) a W:=by
 obtain ⟨hxl,hxv⟩:=Tx;obtain ⟨hyl,hyv⟩:=Ty;have hxc:=(Kd.Bf hxv).2.2;have hyc:=(Kd.Bf hyv).2.2;rw [hxl] at hxc;rw [hyl] at hyc;obtain ⟨i0,hi,hzz⟩:=Option.map_eq_some_iff.1 JF;simp only [Prod.mk.injEq] at hzz;obtain ⟨hz0,hz1,hz2⟩:=hzz;rcases Nat.eq_zero_or_pos m with rfl|hm
 ·obtain rfl:ys=[]:=List.eq_nil_of_length_eq_zero hyl;have hrun:(Builtin.append_ #[22,22] o.type #[.slice A n n, .slice B 0 c]).run Tryz.prog W= .ok (.slice A n n) W:=by
   cases A<;>cases B<;>simp [Builtin.append_,run_underlying Tryz.underlying22,sizeOf,typeInfo,hi,Builtin.lenOf,Builtin.firstCells,storeCells,loadCells,loadCellsFrom]
  refine wpList_plain hg λK hK=>?_
  unfold Oper.wp;simp [execOp,hop,resolve,invoke,builtin,hs,hx,hrun,Result.andThen];refine hK _ _ (h n A n W ?_ S);rw [List.append_nil];subst hxl;exact ⟨rfl,Kd.Hd (Nat.le_refl _) (Kd.Tq hxv)⟩
 ·obtain ⟨ad,rfl,_⟩:=hyc.2.2 hm;obtain ⟨news,hnr,hnc⟩:=En.UL hyc;have hone:∀ {zs:List Um} {us:List Value},Cw (E8.K W) E8.sz zs us->∀ u∈us,u.oneCell'=true:=by
   intro zs us hr u hu;obtain ⟨q,hq,rfl⟩:=List.mem_iff_getElem.1 hu;have hs0:0<E8.sz:=by decide
   have hql:q/E8.sz<zs.length:=by
    rw [Nat.div_lt_iff_lt_mul hs0, <-hr.1];exact hq
   have hc:=hr.2 (q/E8.sz) _ (List.getElem?_eq_getElem hql);refine E8.K_one hc _ ?_;rw [List.mem_iff_getElem?];refine ⟨q%E8.sz,?_⟩;rw [List.getElem?_take,if_pos (Nat.mod_lt _ hs0),List.getElem?_drop,Nat.mul_comm,Nat.div_add_mod,List.getElem?_eq_getElem hq]
  have holds:∃ olds,Cw (E8.K W) E8.sz xs olds/\∀ b,A=some b->∀ j u,olds[j]? =some u->W.cell? (b.add j)=some u:=by
   cases A with
   |none=>
    have h0:n=0:=by
     rcases Nat.eq_zero_or_pos n with h|h
     ·exact h
     ·obtain ⟨_,h,_⟩:=hxc.2.2 h;cases h
    obtain rfl:xs=[]:=List.eq_nil_of_length_eq_zero (by omega);exact ⟨[],Cw.none _ _,λ_ h=>by cases h⟩
   |some b=>
    obtain ⟨olds,h1,h2⟩:=En.UL hxc;exact ⟨olds,h1,λ_ h=>by cases h;exact h2⟩
  obtain ⟨olds,hor,hoc⟩:=holds;have hA:A=none->n=0/\n=0:=λe=>by
   subst e;rcases Nat.eq_zero_or_pos n with h|h
   ·exact ⟨h,h⟩
   ·obtain ⟨_,h,_⟩:=hxc.2.2 h;cases h
  refine wpList_append_grows W hg s x 22 hop 43 i0 _ 11 104 Tryz.underlying22 hi hz0 hz1 hz2 rfl (by decide) A n n olds hs hA (by rw [hor.1,hxl];rfl) hoc ad m c news hx (by rw [hnr.1,hyl];rfl) hnc (hone hnr) (by omega) (by simp only [maxLen];omega) (by omega) ?_;intro v' w' hown hgr;have hb:Below W.heap.size W w':=Below.grown (Below.refl _ W) hgr (Nat.le_refl _) (λ_ h=>by cases h);have hR:Kd.R E8 43 w' W.heap.size (λ_=>True) v' (xs++ys):=⟨λ_ _=>trivial,olds++news,by rw [List.length_append,hxl,hyl];exact hown,(Kd.NW hor hnr).H9 λp c hp=>by
   rw [NP hp]
   exact WJ _ _ _ p⟩
  obtain ⟨A',c',rfl,t⟩:=WT.Vt (Kd.Ul (base':=0) hR);rw [List.length_append,hxl,hyl] at t⊢
  exact h _ A' c' w' t (St.below S hb)
theorem rowAt {W:World} {A:Option Addr} {n c0:Nat} {zs:List Um} (T:WT W A n c0 zs) (i:Nat) (hi:i<zs.length):∃ ad c,A=some ad/\c∈zs/\W.cell? (ad.add (i*11))=some (.string c.f0)/\W.cell? ⟨(ad.add (i*11)).block,(ad.add (i*11)).off+1,none⟩=some (.string c.f1)/\W.cell? ⟨(ad.add (i*11)).block,(ad.add (i*11)).off+2,none⟩=some (.string c.f2)/\W.cell? ⟨(ad.add (i*11)).block,(ad.add (i*11)).off+3,none⟩=some (.string c.f3)/\W.cell? ⟨(ad.add (i*11)).block,(ad.add (i*11)).off+4,none⟩=some (.int .i64 c.f4)/\W.cell? ⟨(ad.add (i*11)).block,(ad.add (i*11)).off+5,none⟩=some (.int .i64 c.f5)/\W.cell? ⟨(ad.add (i*11)).block,(ad.add (i*11)).off+6,none⟩=some (.int .i64 c.f6)/\W.cell? ⟨(ad.add (i*11)).block,(ad.add (i*11)).off+7,none⟩=some (.bool c.f7)/\W.cell? ⟨(ad.add (i*11)).block,(ad.add (i*11)).off+8,none⟩=some (.bool c.f8)/\W.cell? ⟨(ad.add (i*11)).block,(ad.add (i*11)).off+9,none⟩=some (.bool c.f9)/\W.cell? ⟨(ad.add (i*11)).block,(ad.add (i*11)).off+10,none⟩=some (.int .i64 c.f10):=by
 obtain ⟨hl,hv⟩:=T;obtain ⟨ad,e,h⟩:=DL (Kd.Bf hv).2.2 (i:Int) (by omega) (by omega);have hr:AB zs (i:Int)=zs[i]:=by unfold AB;rw [Int.toNat_natCast,List.getD_eq_getElem?_getD,List.getElem?_eq_getElem hi];rfl
 rw [hr,Int.toNat_natCast] at h;exact ⟨ad,zs[i],e,List.getElem_mem hi,h⟩
theorem St.Xh {w W:World} {js:List (Nat×List OW)} {cs:Cs} (S:AA (St w W js cs)) {g:Nat} {l:List OW} (hm:(g,l)∈js):∃ A c,W.heap[g]? =some (.cells #[.slice A l.length c] 31 (0,0))/\Ij W A l.length c l:=S.out.j _ hm
end Go.Proofs.YtohjohhcjcljoaaGreatDoor.Print
