/- SnapBursts, walked by hand. -/
import Derived.Test.YtfggjdkccdkogaaGreatDoorPrint29
import Derived.Laws.IdiomStrings
import Derived.Laws.BitsAllLaws
namespace Go.Proofs.YtfggjdkccdkogaaGreatDoor.Print
open RowKit Ac Aq Aw
attribute [local go_sem] DC DD DX DY Co Cq DI DJ
set_option linter.unusedVariables false
set_option linter.unusedSimpArgs false
def bS (z k:Nat) (l:List UInt8):List UInt8:=l.set ((z+k)/8) (UInt8.ofNat ((l.getD ((z+k)/8) 0).toNat ^^^ 2^((z+k)%8)))
def bM (z m:Nat) (l:List UInt8):Nat->List UInt8×Bool
 |0=>(l,false)
 |k+1=>if m/2^k%2=1/\z+k<8*l.length then (bS z k (bM z m l k).1,true) else bM z m l k
theorem bT (z m:Nat) (l:List UInt8):∀ k,(bM z m l k).1.length=l.length:=by
 intro k;induction k with
 |zero=>rfl
 |succ k ih=>
  unfold bM;split
  ·unfold bS;rw [List.length_set,ih]
  ·exact ih
theorem and_one {m:Nat} (h:m<4294967296) (i:Nat):Go.bits .and .u32 ((m:Int)/2^i) 1=((m/2^i%2:Nat):Int):=by
 have e:(m:Int)/2^i=((m/2^i:Nat):Int):=by rw [Int.natCast_ediv,Int.natCast_pow];rfl
 rw [e,show (1:Int)=((1:Nat):Int) from rfl,u32_and_nat _ _ (Nat.lt_of_le_of_lt (Nat.div_le_self _ _) h) (by decide),nat_mask1]
theorem bG {r:Nat} (h:r<8):IntKind.u8.wrap ((2:Int)^r)=(2:Int)^r:=by
 have:∀ r:Fin 8,IntKind.u8.wrap ((2:Int)^r.val)=(2:Int)^r.val:=by decide
 exact this ⟨r,h⟩
theorem bH (b:UInt8) (r:Nat) (h:r<8):Go.bits .xor .u8 (b.toNat:Int) ((2^r:Nat):Int)=((UInt8.ofNat (b.toNat ^^^ 2^r)).toNat:Int):=by
 have h1:b.toNat<2^8:=UInt8.toNat_lt _;have h2:2^r<2^8:=Nat.pow_lt_pow_right (by decide) h;rw [u8_xor_nat _ _ h1 h2,UInt8.toNat_ofNat',Nat.mod_eq_of_lt (Nat.xor_lt_two_pow h1 h2)]
structure Mem (w W:World) (g:Nat) (l:List UInt8):Prop where
 b:Below w.heap.size w W
 x:∃ C,W.heap[g]? =some (.cells C 5 (C.size,C.size+1))/\l.length<=C.size/\∀ j (h:j<l.length),C[j]? =some (.int .u8 (l[j].toNat:Int))
 g:w.heap.size<=g
section
variable {w W:World} {g j:Nat} {l:List UInt8}
theorem Mem.drew (M:AA (Mem w W g l)):AA (Mem w W.drew g l):=⟨⟨Bb M.out.b,M.out.x,M.out.g⟩⟩
theorem Mem.cell (M:Mem w W g l) (h:j<l.length):W.cell? ⟨g,j,none⟩=some (.int .u8 (l[j].toNat:Int)):=by
 obtain ⟨C,h1,h2,h3⟩:=M.x;rw [cell_of_row W g j C _ _ h1];exact h3 j h
theorem Mem.frozen (M:Mem w W g l) (h:j<l.length):W.frozen? ⟨g,j,none⟩=false:=by
 obtain ⟨C,h1,h2,h3⟩:=M.x;have:¬C.size<=j:=by omega
 simp [World.frozen?,h1,this]
theorem Mem.set (M:AA (Mem w W g l)) (h:j<l.length) (u:UInt8):AA (Mem w (W.setCell ⟨g,j,none⟩ (.int .u8 (u.toNat:Int))) g (l.set j u)):=by
 obtain ⟨C,h1,h2,h3⟩:=M.out.x;refine ⟨⟨M.out.b.setCell (p:=⟨g,j,none⟩) M.out.g _,⟨C.setIfInBounds j (.int .u8 (u.toNat:Int)),?_,?_,?_⟩,M.out.g⟩⟩
 ·simp [World.setCell,Array.getElem?_modify,h1]
 ·rw [List.length_set,Array.size_setIfInBounds];exact h2
 ·intro i hi;rw [List.length_set] at hi;by_cases e:j=i
  ·subst e;rw [Array.getElem?_setIfInBounds_self_of_lt (by omega),List.getElem_set_self]
  ·rw [Array.getElem?_setIfInBounds_ne e,List.getElem_set_ne e];exact h3 i hi
theorem Mem.start (HB:AA (Below w.heap.size w W)) (s:ByteArray):AA (Mem w (Lib.bytesWorld W 5 s) W.heap.size s.data.toList):=by
 refine ⟨⟨AO HB.out (Lib.bytesWorld_below W _ s),⟨_,Lib.bytesWorld_at_new W _ s,?_,?_⟩,HB.out.size⟩⟩
 ·unfold Lib.bytesCells;rw [Array.size_append,Array.size_map,Array.length_toList];omega
 ·intro j hj;have hj2:j<s.data.size:=by simpa using hj
  unfold Lib.bytesCells;rw [Array.getElem?_append_left (by rw [Array.size_map];exact hj2),Array.getElem?_map,Array.getElem?_eq_getElem hj2,Array.getElem_toList];rfl
variable {ops:Array Oper} {rest:List Oper} {o:Oper} {a:Act} {Q:Exit->Act->World->Prop} {x:Operand}
theorem aC {p q:TypeId} (_:o.op= .convert p q x) (h:wpList Tryz.prog ops Q (o::rest) a W):wpList Tryz.prog ops Q (o::rest) a W:=h
theorem bI {s:ByteArray} (h:∀ g W' c,AA (Mem w W' g s.data.toList)->wpList Tryz.prog ops Q rest (a.put o.dst (.slice (some ⟨g,0,none⟩) s.data.toList.length c)) W') (HB:AA (Below w.heap.size w W):=by with_reducible assumption) (ho:o.op= .convert 9 67 x:=by with_reducible rfl) (hg:o.guard=none:=by rfl) (hx:a.eval x= .string s:=by exact rfl):wpList Tryz.prog ops Q (o::rest) a W:=by
 refine wpList_plain hg λK hK=>?_
 unfold Oper.wp execOp;simp only [ho,hx,Sem.run_bind,Sem.run_pure,Result.andThen_ok,Lib.run_convert_string_bytes W 9 67 5 s Tryz.underlying9 Tryz.underlying67 Tryz.underlying5];exact hK _ _ (h _ _ _ (Mem.start HB s))
theorem bD {c n:Nat} (h:wpList Tryz.prog ops Q rest (a.put o.dst (.string ⟨l.toArray⟩)) W) (M:AA (Mem w W g l):=by with_reducible assumption) (ho:o.op= .convert 67 9 x:=by with_reducible rfl) (hg:o.guard=none:=by rfl) (hx:a.eval x= .slice (some ⟨g,0,none⟩) n c:=by exact rfl) (hl:AA (l.length=n):=by with_reducible assumption):wpList Tryz.prog ops Q (o::rest) a W:=by
 obtain ⟨rfl⟩:=hl;have hr:=run_convert_bytes_back (P:=Tryz.prog) W 67 9 5 ⟨g,0,none⟩ c l Tryz.underlying67 Tryz.underlying5 Tryz.underlying9 (λj hj=>by
  have hadd:(⟨g,0,none⟩:Addr).add j=⟨g,j,none⟩:=by unfold Addr.add;split<;>simp_all
  rw [hadd]
  exact Mem.cell M.out hj)
 have hrun:(execOp a.eval o).run Tryz.prog W= .ok (.value (.string ⟨l.toArray⟩)) W:=by
  unfold execOp;simp only [ho,hx,Sem.run_bind,Sem.run_pure,Result.andThen_ok,hr]
 exact Kd.LV hg hrun h
end
set_option maxHeartbeats 4000000 in
set_option maxRecDepth 100000 in
theorem aW {k:Nat} {z0:Int} {z1 mask:Int} {is may:Bool} {A1:Option Addr} {c1:Nat} {l1:List Cz} {js:List CO} {s:ByteArray} {w:World} (HR1:AA (Kd.C k25 w A1 l1.length l1)) (HC1:AA (l1.length<=c1)) (hG:AA (D8 w))
 (J:AA (Dv.f k l1=some (js,is))) (W1:AA (Av.f k z0 js=some (s,may))) (AL:AA (AX.f k=some true))
 (hs:AA (s.size<=1000000000)) (R:AA (is=false\/is=true/\may=false\/is=true/\may=true/\z1<0\/is=true/\may=true/\0<=z1/\8*(s.size:Int)<=z1)):
 Calls Tryz.prog 9 #[.agg #[.int .i64 z0, .int .i64 z1], .slice A1 l1.length c1, .int .u32 mask] w λe w'=>e= .returned (.bool true)/\Below w.heap.size w w':=by
 have hu1:=Tryz.underlying47;have HB:=AA.mk (Below.refl w.heap.size w);go_enter Tryz.func9,Tryz.ntmps9;go_upto_region 1 with (first|(refine Dp (N:=3) (cs:=#[.int .i64 z0, .int .i64 z1]) (t:=65) (λb3 hg w1 hbox hb=>?_);have BK3:=AA.mk (hbox);replace HB:=AA.mk (AO xb hb);clear hb hbox hg))
 replace BK3:=AA.mk (Bd BK3.out);replace HB:=AA.mk (Bb HB.out);refine EG (n:=6) (S:=λw'=>w'.cell? ⟨b3,0,none⟩=some (.int .i64 z0)/\w'.cell? ⟨b3,1,none⟩=some (.int .i64 z1)) (ds:=[]) (bm 6 0) (by kernel_rfl) rfl rfl ⟨(AJ BK3.out 0).trans rfl,(AJ BK3.out 1).trans rfl⟩ (λhHeld=>?_);generalize w1.drew=w2 at BK3 HB hHeld⊢
 refine AZ (i:=0) (N:=some 20) (bm 6 1) rfl rfl (by kernel_rfl) (Or.inl ⟨by rfl,by intro w';go_simp;with_reducible rfl⟩) ?_;refine Cu (i:=1) (N:=some 21) (bm 6 3) rfl rfl (by kernel_rfl) (Or.inl ⟨by rfl,by rintro w' ⟨s0,s1⟩;go_simp;with_reducible rfl⟩) hHeld ?_;refine AZ (i:=2) (N:=some 22) (bm 6 7) rfl rfl (by kernel_rfl) (Or.inl ⟨by rfl,by intro w';go_simp;with_reducible rfl⟩) ?_;refine Cu (i:=3) (N:=some 23) (bm 6 15) rfl rfl (by kernel_rfl) (Or.inl ⟨by rfl,by rintro w' ⟨s0,s1⟩;go_simp;with_reducible rfl⟩) hHeld ?_;refine AZ (i:=4) (N:=some 7) (bm 6 31) rfl rfl (by kernel_rfl) (Or.inl ⟨by rfl,by intro w';go_simp;with_reducible rfl⟩) ?_;refine AZ (i:=5) (N:=some 8) (bm 6 63) rfl rfl (by kernel_rfl) (Or.inl ⟨by rfl,by intro w';go_simp;with_reducible rfl⟩) ?_;refine Ep (by kernel_rfl) ?_;clear hHeld BK3;go_upto_region 4 with (first|((with_reducible refine AQ (f:=18) rfl ?_);refine Ag (some 26) rfl rfl Tryz.func18 (by kernel_rfl) rfl #[.slice A1 l1.length c1] rfl xg ?_;(with_reducible refine (Dv.calls k _ _ l1 js is _ ?side1 ?side2 xl J.out).mono ?_);(case side1=>exact (Kd.Ed HR1.out HB.out));(case side2=>exact HC1.out);rintro e w' ⟨v4,rfl,ho0,hb⟩;refine ⟨_,rfl,?_⟩;have HO:=AA.mk (Kd.CJ ho0 (Ai xb));replace HB:=AA.mk (AO xb hb);(try clear hb);(try clear ho0))|(refine Dp (N:=9) (cs:=#[.slice none 0 0]) (t:=47) (λb9 hg w5 hbox hb=>?_);replace HO:=AA.mk (Kd.Af (xR HO) hb);have BK9:=AA.mk (hbox);have GW9:AA (w.heap.size<=b9):=Dq hg xb;have GE9:AA (w.heap.size<=b9):=Dq hg xb;replace HB:=AA.mk (AO xb hb);clear hb hbox hg;obtain ⟨Ao,co,eo⟩:=Kd.Cg HO.out;subst eo;have hcz9_0:w5.cell? ⟨b9,0,none⟩=some (.slice none 0 0):=(AJ BK9.out 0).trans rfl;have hfz9_0:=AP BK9.out 0)|((with_reducible refine AQ (f:=19) rfl ?_);refine Ag (some 32) rfl rfl Tryz.func19 (by kernel_rfl) rfl #[.int .i64 z0, .agg #[.slice Ao js.length co]] rfl xg ?_;(with_reducible refine (Av.calls k z0 _ _ js s may _ ?side1 ?side2 W1.out).mono ?_);(case side1=>refine (Kd.BN (e:=129) (base:=w.heap.size) (ok:=λk_=>True) (n:=js.length) (c:=co) ?_).2.2;exact (by (with_reducible repeat (first|apply Kd.BX|apply Kd.BZ|apply Kd.Bc));exact (Kd.CK (Kd.BG (p:=⟨b9,0,none⟩) (Kd.Cf HO.out BK9.out (by decide)) (λ_ hk=>hk.2) (.slice Ao js.length co)) (λ_ h_=>h_.1))));(case side2=>exact (Kd.BN HO.out).2.1);rintro e w14 ⟨rfl,hb⟩;refine ⟨_,rfl,?_⟩;replace HB:=AA.mk (AO xb hb);clear HO BK9;(try clear hb)))
 have hw8:IntKind.i64.wrap (8*(s.size:Int))=8*(s.size:Int):=(CE _).trans (by have:=hs.out;unfold wrap64;omega);rcases R.out with rfl|⟨rfl,rfl⟩|⟨rfl,rfl,h3⟩|⟨rfl,rfl,h3,h4⟩
 case' inr.inr.inl=>have d1:decide (z1<0)=true:=decide_eq_true h3;clear h3
 case' inr.inr.inr=>have d1:decide (z1<0)=false:=decide_eq_false (by omega);have d2:decide (8*(s.size:Int)<=z1)=true:=decide_eq_true h4;clear h3 h4
 all_goals
  clear R;go_wp2_with (first|((with_reducible refine AQ (f:=15) rfl ?_);refine Ag (some 52) rfl rfl Tryz.func15 (by kernel_rfl) rfl #[] rfl xg ?_;(with_reducible refine (AX.calls k true _ xl ⟨rfl⟩ AL.out).mono ?_);rintro e w16 ⟨rfl,hb⟩;refine ⟨_,rfl,?_⟩;replace HB:=AA.mk (AO xb hb);(try clear hb)));go_ret;exact ⟨rfl,HB.out⟩
set_option maxHeartbeats 4000000 in
set_option maxRecDepth 100000 in
theorem ag {k:Nat} {z0:Int} {z m:Nat} {v e:Int} {ms:List Cz} {A1:Option Addr} {c1:Nat} {l1:List Cz} {js:List CO} {s:ByteArray} {w:World} (HR1:AA (Kd.C k25 w A1 l1.length l1)) (HC1:AA (l1.length<=c1)) (hG:AA (D8 w))
 (J:AA (Dv.f k l1=some (js,true))) (W1:AA (Av.f k z0 js=some (s,true))) (AL:AA (AX.f k=some true))
 (hs:AA (s.size<=1000000000)) (hz:AA (z<8*s.size)) (hm:AA (m<4294967296)) (RD:AA (Ck.f k ⟨(bM z m s.data.toList 32).1.toArray⟩=some (v,ms,e))) (E:AA ((e==0)= !(bM z m s.data.toList 32).2)) (MS:AA ((bM z m s.data.toList 32).2=true->ms=[])):
 Calls Tryz.prog 9 #[.agg #[.int .i64 z0, .int .i64 z], .slice A1 l1.length c1, .int .u32 m] w λe w'=>e= .returned (.bool true)/\Below w.heap.size w w':=by
 have hu1:=Tryz.underlying47;have HB:=AA.mk (Below.refl w.heap.size w);go_enter Tryz.func9,Tryz.ntmps9;go_upto_region 1 with (first|(refine Dp (N:=3) (cs:=#[.int .i64 z0, .int .i64 z]) (t:=65) (λb3 hg w1 hbox hb=>?_);have BK3:=AA.mk (hbox);replace HB:=AA.mk (AO xb hb);clear hb hbox hg))
 replace BK3:=AA.mk (Bd BK3.out);replace HB:=AA.mk (Bb HB.out);refine EG (n:=6) (S:=λw'=>w'.cell? ⟨b3,0,none⟩=some (.int .i64 z0)/\w'.cell? ⟨b3,1,none⟩=some (.int .i64 z)) (ds:=[]) (bm 6 0) (by kernel_rfl) rfl rfl ⟨(AJ BK3.out 0).trans rfl,(AJ BK3.out 1).trans rfl⟩ (λhHeld=>?_);generalize w1.drew=w2 at BK3 HB hHeld⊢
 refine AZ (i:=0) (N:=some 20) (bm 6 1) rfl rfl (by kernel_rfl) (Or.inl ⟨by rfl,by intro w';go_simp;with_reducible rfl⟩) ?_;refine Cu (i:=1) (N:=some 21) (bm 6 3) rfl rfl (by kernel_rfl) (Or.inl ⟨by rfl,by rintro w' ⟨s0,s1⟩;go_simp;with_reducible rfl⟩) hHeld ?_;refine AZ (i:=2) (N:=some 22) (bm 6 7) rfl rfl (by kernel_rfl) (Or.inl ⟨by rfl,by intro w';go_simp;with_reducible rfl⟩) ?_;refine Cu (i:=3) (N:=some 23) (bm 6 15) rfl rfl (by kernel_rfl) (Or.inl ⟨by rfl,by rintro w' ⟨s0,s1⟩;go_simp;with_reducible rfl⟩) hHeld ?_;refine AZ (i:=4) (N:=some 7) (bm 6 31) rfl rfl (by kernel_rfl) (Or.inl ⟨by rfl,by intro w';go_simp;with_reducible rfl⟩) ?_;refine AZ (i:=5) (N:=some 8) (bm 6 63) rfl rfl (by kernel_rfl) (Or.inl ⟨by rfl,by intro w';go_simp;with_reducible rfl⟩) ?_;refine Ep (by kernel_rfl) ?_;clear hHeld BK3;go_upto_region 4 with (first|((with_reducible refine AQ (f:=18) rfl ?_);refine Ag (some 26) rfl rfl Tryz.func18 (by kernel_rfl) rfl #[.slice A1 l1.length c1] rfl xg ?_;(with_reducible refine (Dv.calls k _ _ l1 js true _ ?side1 ?side2 xl J.out).mono ?_);(case side1=>exact (Kd.Ed HR1.out HB.out));(case side2=>exact HC1.out);rintro e w' ⟨v4,rfl,ho0,hb⟩;refine ⟨_,rfl,?_⟩;have HO:=AA.mk (Kd.CJ ho0 (Ai xb));replace HB:=AA.mk (AO xb hb);(try clear hb);(try clear ho0))|(refine Dp (N:=9) (cs:=#[.slice none 0 0]) (t:=47) (λb9 hg w5 hbox hb=>?_);replace HO:=AA.mk (Kd.Af (xR HO) hb);have BK9:=AA.mk (hbox);have GW9:AA (w.heap.size<=b9):=Dq hg xb;have GE9:AA (w.heap.size<=b9):=Dq hg xb;replace HB:=AA.mk (AO xb hb);clear hb hbox hg;obtain ⟨Ao,co,eo⟩:=Kd.Cg HO.out;subst eo;have hcz9_0:w5.cell? ⟨b9,0,none⟩=some (.slice none 0 0):=(AJ BK9.out 0).trans rfl;have hfz9_0:=AP BK9.out 0)|((with_reducible refine AQ (f:=19) rfl ?_);refine Ag (some 32) rfl rfl Tryz.func19 (by kernel_rfl) rfl #[.int .i64 z0, .agg #[.slice Ao js.length co]] rfl xg ?_;(with_reducible refine (Av.calls k z0 _ _ js s true _ ?side1 ?side2 W1.out).mono ?_);(case side1=>refine (Kd.BN (e:=129) (base:=w.heap.size) (ok:=λk_=>True) (n:=js.length) (c:=co) ?_).2.2;exact (by (with_reducible repeat (first|apply Kd.BX|apply Kd.BZ|apply Kd.Bc));exact (Kd.CK (Kd.BG (p:=⟨b9,0,none⟩) (Kd.Cf HO.out BK9.out (by decide)) (λ_ hk=>hk.2) (.slice Ao js.length co)) (λ_ h_=>h_.1))));(case side2=>exact (Kd.BN HO.out).2.1);rintro e w14 ⟨rfl,hb⟩;refine ⟨_,rfl,?_⟩;replace HB:=AA.mk (AO xb hb);clear HO BK9;(try clear hb)))
 have hw8:IntKind.i64.wrap (8*(s.size:Int))=8*(s.size:Int):=(CE _).trans (by have:=hs.out;unfold wrap64;omega);have d1:decide ((z:Int)<0)=false:=decide_eq_false (by omega);have d2:decide (8*(s.size:Int)<=(z:Int))=false:=decide_eq_false (by have:=hz.out;omega);go_upto_block 0 with (first|((with_reducible refine aC rfl ?_);refine bI (λg W_ cc M_=>?_);have M:=M_;clear M_ HB))
 clear J W1 HR1 HC1 hw8 d1 d2;go_cut [14] (λv14 wc=>v14= .bool (bM z m s.data.toList 32).2/\AA (Mem w wc g (bM z m s.data.toList 32).1));case first=>
  go_wp2_with (fail);go_loopw [14,55] (λv14 v55 wr=>∃ i:Nat,v55= .int .i64 i/\v14= .bool (bM z m s.data.toList i).2/\AA (i<=32)/\AA (Mem w wr g (bM z m s.data.toList i).1)) (λ_ v55 _=>32 - (intOf v55).toNat);case atStart=>exact ⟨0,rfl,rfl,⟨by omega⟩,M⟩
  case round=>
   clear M;obtain ⟨i,rfl,rfl,hi,M⟩:=hrel;have hi2:=hi.out;have hsl:s.data.toList.length=s.size:=by rw [Array.length_toList];rfl
   by_cases hlt:i<32
   ·have d1:decide ((i:Int)<32)=true:=decide_eq_true (by omega);have d2:decide (i<32)=true:=decide_eq_true hlt;have hw1:IntKind.i64.wrap ((z:Int)+(i:Int))=((z+i:Nat):Int):=(CE _).trans (by have:=hs.out;have:=hz.out;unfold wrap64;omega);have hw8:IntKind.i64.wrap (8*(s.size:Int))=8*(s.size:Int):=(CE _).trans (by have:=hs.out;unfold wrap64;omega);replace hlt:=AA.mk hlt;replace hsl:=AA.mk hsl;have hba:Go.bits .and .u32 ((m:Int)/2^i) 1=((m/2^i%2:Nat):Int):=and_one (by have:=hm.out;omega) i;by_cases hb1:m/2^i%2=1
    ·have f1:(Go.bits .and .u32 ((m:Int)/2^i) 1==1)=true:=beq_iff_eq.2 (by rw [hba,hb1];rfl);have f1b:(Go.bits .and .u32 ((m:Int)/2^i) 1=1)=True:=eq_true (by rw [hba,hb1];rfl);clear hba;by_cases hb2:z+i<8*s.size
     ·have f2:decide ((z:Int)+(i:Int)<8*(s.size:Int))=true:=decide_eq_true (by omega);replace hb1:=AA.mk hb1;replace hb2:=AA.mk hb2;go_upto_region 13 with (fail)
      have hN1:=AA.mk (show bM z m s.data.toList (i+1)=(bS z i (bM z m s.data.toList i).1,true) by rw [bM,if_pos ⟨hb1.out,by rw [hsl.out];exact hb2.out⟩]);have hpe:(z:Int)+(i:Int)=((z+i:Nat):Int):=by omega
      rw [hpe];obtain ⟨p,hp⟩:∃ p,p=z+i:=⟨_,rfl⟩;rw [<-hp] at hb2⊢
      obtain ⟨q,hq⟩:∃ q,q=p/8:=⟨_,rfl⟩;obtain ⟨r,hr⟩:∃ r,r=p%8:=⟨_,rfl⟩;have hq2:q<s.size:=by have:=hb2.out;omega
      have hs2:=hs.out;have tq:Int.tdiv (p:Int) 8=(q:Int):=by rw [Int.tdiv_eq_ediv_of_nonneg (by omega)];omega
      have tr:Int.tmod (p:Int) 8=(r:Int):=by rw [Int.tmod_eq_emod_of_nonneg (by omega)];omega
      have wq:IntKind.i64.wrap (q:Int)=(q:Int):=(CE _).trans (by unfold wrap64;omega);have wr_:IntKind.i64.wrap (r:Int)=(r:Int):=(CE _).trans (by unfold wrap64;omega);have q1:=eq_true (show 0<=(q:Int) by omega);have q2:=eq_true (show (q:Int)<(s.size:Int) by omega);have q3:=eq_true (show q<s.size from hq2);have r0:=eq_true (show 0<=(r:Int) by omega);have r1:=eq_true (show (r:Int)<=8 by omega);have hsh:IntKind.u8.wrap ((2:Int)^r)=(2:Int)^r:=bG (by omega);have hlen:=bT z m s.data.toList i;obtain ⟨L,hL⟩:∃ L,L=(bM z m s.data.toList i).1:=⟨_,rfl⟩;rw [<-hL] at M hlen;rw [hsl.out] at hlen;have hqL:q<L.length:=by rw [hlen];exact hq2
      have c1:=Mem.cell (Mem.drew M).out hqL;have c2:=Mem.frozen (Mem.drew M).out hqL;obtain ⟨b,hb⟩:∃ b,b=L[q]:=⟨_,rfl⟩;rw [<-hb] at c1;obtain ⟨u,hu⟩:∃ u,u=UInt8.ofNat (b.toNat ^^^ 2^r):=⟨_,rfl⟩;have hxor:Go.bits .xor .u8 (b.toNat:Int) ((2:Int)^r)=(u.toNat:Int):=by rw [hu, <-bH b r (by omega),Int.natCast_pow];rfl
      have hxor2:Go.bits .xor .u8 (b.toNat:Int) ((2:Int)^min r 8%256)=(u.toNat:Int):=by rw [Nat.min_eq_left (by omega), <-IntKind.wrap_u8,hsh,hxor]
      replace hu:=AA.mk hu;have HQ:=AA.mk (And.intro hq (And.intro hr (And.intro hp hb)));replace hlen:=AA.mk hlen;replace hL:=AA.mk hL;replace hqL:=AA.mk hqL;have M2:=Mem.drew M;clear hq hr hp hb hq2 hs2 hpe hw1 f1 f1b f2 M;refine EG (n:=11) (S:=λw'=>w'.cell? ⟨g,q,none⟩=some (.int .u8 (b.toNat:Int))) (ds:=[10]) (bm 11 0) (by kernel_rfl) rfl rfl c1 (λhHeld=>?_);refine AZ (i:=0) (N:=some 73) (bm 11 1) rfl rfl (by kernel_rfl) (Or.inl ⟨by rfl,by intro w';go_simp;with_reducible rfl⟩) ?_;refine AZ (i:=1) (N:=some 74) (bm 11 3) rfl rfl (by kernel_rfl) (Or.inl ⟨by rfl,by intro w';go_simp;with_reducible rfl⟩) ?_;refine AZ (i:=2) (N:=some 75) (bm 11 7) rfl rfl (by kernel_rfl) (Or.inl ⟨by rfl,by intro w';go_simp;with_reducible rfl⟩) ?_;refine AZ (i:=3) (N:=some 76) (bm 11 15) rfl rfl (by kernel_rfl) (Or.inl ⟨by rfl,by intro w';go_simp;with_reducible rfl⟩) ?_;refine Cu (i:=4) (N:=some 77) (bm 11 31) rfl rfl (by kernel_rfl) (Or.inl ⟨by rfl,by rintro w' s0;go_simp;with_reducible rfl⟩) hHeld ?_;refine AZ (i:=5) (N:=some 78) (bm 11 63) rfl rfl (by kernel_rfl) (Or.inl ⟨by rfl,by intro w';go_simp;with_reducible rfl⟩) ?_;refine AZ (i:=6) (N:=some 79) (bm 11 127) rfl rfl (by kernel_rfl) (Or.inl ⟨by rfl,by intro w';go_simp;with_reducible rfl⟩) ?_;refine AZ (i:=7) (N:=some 80) (bm 11 255) rfl rfl (by kernel_rfl) (Or.inl ⟨by rfl,by intro w';go_simp;with_reducible rfl⟩) ?_;refine AZ (i:=8) (N:=some 81) (bm 11 511) rfl rfl (by kernel_rfl) (Or.inl ⟨by rfl,by intro w';go_simp;with_reducible rfl⟩) ?_;refine AZ (i:=9) (N:=some 82) (bm 11 1023) rfl rfl (by kernel_rfl) (Or.inl ⟨by rfl,by intro w';go_simp;with_reducible rfl⟩) ?_;refine Yz (i:=10) (N:=none) (bm 11 2047) rfl rfl (by kernel_rfl) (by decide) (λK hK=>?_);refine JU (w1:=?_) (by rfl) rfl ?_ ?_
      rotate_left
      ·go_simp;rfl
      refine hK.out _ _ ?_;clear hK K;refine Ep (by kernel_rfl) ?_;have M3:=Mem.set M2 hqL.out u;clear M2 c1 c2 hHeld;go_wp2;go_roundw;case rel=>
       refine ⟨i+1,by have:=hlt.out;go_num,by rw [hN1.out],⟨by have:=hlt.out;omega⟩,?_⟩;rw [hN1.out, <-hL.out];obtain ⟨rfl,rfl,rfl,rfl⟩:=HQ.out;have e1:bS z i L=L.set ((z+i)/8) u:=by
        rw [hu.out];unfold bS;rw [List.getD_eq_getElem?_getD,List.getElem?_eq_getElem hqL.out,Option.getD_some]
       show AA (Mem w _ g (bS z i L));rw [e1,hxor2];exact M3
      case measure=>have:=hlt.out;simp [intOf];omega
     ·have f2:decide ((z:Int)+(i:Int)<8*(s.size:Int))=false:=decide_eq_false (by omega);have hN1:=AA.mk (show bM z m s.data.toList (i+1)=bM z m s.data.toList i by rw [bM,if_neg (λh=>by rw [hsl.out] at h;exact hb2 h.2)]);clear hb2 hb1;go_wp2;go_roundw;case rel=>exact ⟨i+1,by have:=hlt.out;go_num,by rw [hN1.out],⟨by have:=hlt.out;omega⟩,by rw [hN1.out];exact M⟩
      case measure=>have:=hlt.out;simp [intOf];omega
    ·have f1:(Go.bits .and .u32 ((m:Int)/2^i) 1==1)=false:=beq_eq_false_iff_ne.2 (by rw [hba];omega);have f1b:(Go.bits .and .u32 ((m:Int)/2^i) 1=1)=False:=eq_false (by rw [hba];omega);have hN1:=AA.mk (show bM z m s.data.toList (i+1)=bM z m s.data.toList i by rw [bM,if_neg (λh=>hb1 h.1)]);clear hba hb1;go_wp2;go_roundw;case rel=>exact ⟨i+1,by have:=hlt.out;go_num,by rw [hN1.out],⟨by have:=hlt.out;omega⟩,by rw [hN1.out];exact M⟩
     case measure=>have:=hlt.out;simp [intOf];omega
   ·obtain rfl:i=32:=by omega
    have d1:decide (((32:Nat):Int)<32)=false:=by decide
    clear hlt;go_wp2;go_meet;case rel=>exact ⟨rfl,M⟩
 case rest=>
  clear M;obtain ⟨rfl,M⟩:=hcut;obtain ⟨⟨L,t⟩,hF⟩:∃ F,F=bM z m s.data.toList 32:=⟨_,rfl⟩;have HL:=AA.mk (show (bM z m s.data.toList 32).1.length=s.size by rw [bT,Array.length_toList];rfl);rw [<-hF] at M RD E MS HL⊢
  clear hF;simp only at M RD E MS HL⊢
  have HB:=AA.mk M.out.b;cases t
  ·have e0:(e==0)=true:=E.out;clear E MS;go_wp2_with (first|((with_reducible refine aC rfl ?_);refine bD ?_)|(go_at_call 21;refine (Ck.calls k _ v ms e _ xl RD.out).mono ?_;rintro e_ W_ ⟨v18,rfl,hR,hb⟩;obtain ⟨Ao2,co2,rfl⟩:=Kd.Cg hR;clear hR M;replace HB:=AA.mk (AO xb hb);clear hb)|((with_reducible refine AQ (f:=15) rfl ?_);refine Ag (some 91) rfl rfl Tryz.func15 (by kernel_rfl) rfl #[] rfl xg ?_;(with_reducible refine (AX.calls k true _ xl ⟨rfl⟩ AL.out).mono ?_);rintro e w16 ⟨rfl,hb⟩;refine ⟨_,rfl,?_⟩;replace HB:=AA.mk (AO xb hb);(try clear hb)));go_ret;exact ⟨rfl,HB.out⟩
  ·have e0:(e==0)=false:=E.out;have m0:=MS.out rfl;have hml:ms.length=0:=by rw [m0];rfl
   clear m0;clear E MS;go_wp2_with (first|((with_reducible refine aC rfl ?_);refine bD ?_)|(go_at_call 21;refine (Ck.calls k _ v ms e _ xl RD.out).mono ?_;rintro e_ W_ ⟨v18,rfl,hR,hb⟩;obtain ⟨Ao2,co2,rfl⟩:=Kd.Cg hR;clear hR M;replace HB:=AA.mk (AO xb hb);clear hb)|((with_reducible refine AQ (f:=15) rfl ?_);refine Ag (some 91) rfl rfl Tryz.func15 (by kernel_rfl) rfl #[] rfl xg ?_;(with_reducible refine (AX.calls k true _ xl ⟨rfl⟩ AL.out).mono ?_);rintro e w16 ⟨rfl,hb⟩;refine ⟨_,rfl,?_⟩;replace HB:=AA.mk (AO xb hb);(try clear hb)));go_ret;exact ⟨rfl,HB.out⟩
theorem wf_u32 {n:Int} (h:(Lit.int .u32 n).wf=true):0<=n/\n<4294967296:=by
 simp only [Lit.wf,Bool.and_eq_true,decide_eq_true_eq] at h;obtain ⟨h1,h2⟩:=h;have h1:(0:Int)<=n:=h1;have h2:n<=4294967295:=h2;omega
def ah (k:Nat) (z0 z1 mask:Int) (l1:List Cz):Prop:=∃ (js:List CO) (is may:Bool) (s:ByteArray),Dv.f k l1=some (js,is)/\Av.f k z0 js=some (s,may)/\AX.f k=some true/\s.size<=1000000000/\
 ((is=false\/is=true/\may=false\/is=true/\may=true/\z1<0\/is=true/\may=true/\0<=z1/\8*(s.size:Int)<=z1)\/
  (is=true/\may=true/\0<=z1/\z1<8*(s.size:Int)/\∃ v ms e,Ck.f k ⟨(bM z1.toNat mask.toNat s.data.toList 32).1.toArray⟩=some (v,ms,e)/\(e==0)= !(bM z1.toNat mask.toNat s.data.toList 32).2/\((bM z1.toNat mask.toNat s.data.toList 32).2=true->ms=[])))
def bN.Pure:Prop:=∀ (z0 z1:Int) (l1:List Cz) (mask:Int),0<=mask/\mask<4294967296->∃ k,ah k z0 z1 mask l1
theorem bN.walk (P:bN.Pure) (z0 z1:Int) (A1:Option Addr) (c1:Nat) (l1:List Cz) (mask:Int) (w:World) (hr1:Kd.C k25 w A1 l1.length l1) (hc1:l1.length<=c1) (hm:0<=mask/\mask<4294967296) (hG:AA (D8 w)):
 Calls Tryz.prog 9 #[.agg #[.int .i64 z0, .int .i64 z1], .slice A1 l1.length c1, .int .u32 mask] w λe w'=>e= .returned (.bool true)/\Below w.heap.size w w':=by
 obtain ⟨k,js,is,may,s,J,W1,AL,hs,h|⟨rfl,rfl,h0,h1,v,ms,e,RD,E,MS⟩⟩:=P z0 z1 l1 mask hm
 ·exact aW ⟨hr1⟩ ⟨hc1⟩ hG ⟨J⟩ ⟨W1⟩ ⟨AL⟩ ⟨hs⟩ ⟨h⟩
 ·obtain ⟨z,rfl⟩:=Int.eq_ofNat_of_zero_le h0;obtain ⟨m,rfl⟩:=Int.eq_ofNat_of_zero_le hm.1;rw [Int.toNat_natCast,Int.toNat_natCast] at RD E MS;exact ag ⟨hr1⟩ ⟨hc1⟩ hG ⟨J⟩ ⟨W1⟩ ⟨AL⟩ ⟨hs⟩ ⟨by omega⟩ ⟨by omega⟩ ⟨RD⟩ ⟨E⟩ ⟨MS⟩
end Go.Proofs.YtfggjdkccdkogaaGreatDoor.Print
