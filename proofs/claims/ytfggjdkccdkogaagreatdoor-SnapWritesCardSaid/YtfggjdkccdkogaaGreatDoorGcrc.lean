/- Layer 4 by hand: the table of sums, and the sum of a row of texts; the sums' steps as plain numbers. No condition but that a text's length fits a whole number. -/
import Derived.Test.YtfggjdkccdkogaaGreatDoorPC
import Derived.LoopTactic
namespace Go.Proofs.YtfggjdkccdkogaaGreatDoor.Ns
def P:Nat:=3988292384
def step1 (n:Nat):Nat:=if n%2=1 then (n/2) ^^^ P else n/2
def steps:Nat->Nat->Nat
 |0,n=>n
 |k+1,n=>steps k (step1 n)
def entry (c:Nat):Nat:=steps 8 c
def upd (s b:Nat):Nat:=(s/256) ^^^ entry ((s%256) ^^^ b)
theorem Qy (m:Nat):step1 (2*m)=m:=by
 unfold step1;rw [if_neg (by omega)];omega
theorem TD (a b c d:Nat):(a ^^^ b) ^^^ (c ^^^ d)=(a ^^^ c) ^^^ (b ^^^ d):=by
 rw [Nat.xor_assoc,Nat.xor_assoc];congr 1;rw [<-Nat.xor_assoc, <-Nat.xor_assoc,Nat.xor_comm b c]
theorem TE (x y:Nat):step1 (x ^^^ y)=step1 x ^^^ step1 y:=by
 unfold step1;have hm:(x ^^^ y)%2=(x+y)%2:=by
  have h:=Nat.xor_mod_two_pow (a:=x) (b:=y) (n:=1);rw [Nat.pow_one] at h;rw [h];rcases Nat.mod_two_eq_zero_or_one x with hx|hx<;>rcases Nat.mod_two_eq_zero_or_one y with hy|hy<;>rw [hx,hy]<;>simp<;>omega
 have hd:(x ^^^ y)/2=x/2 ^^^ y/2:=Nat.xor_div_two;rw [hm,hd];by_cases hx:x%2=1<;>by_cases hy:y%2=1
 ·rw [if_neg (by omega),if_pos hx,if_pos hy,TD,Nat.xor_self,Nat.xor_zero]
 ·rw [if_pos (by omega),if_pos hx,if_neg hy,Nat.xor_assoc,Nat.xor_comm (y/2) P,Nat.xor_assoc]
 ·rw [if_pos (by omega),if_neg hx,if_pos hy,Nat.xor_assoc]
 ·rw [if_neg (by omega),if_neg hx,if_neg hy]
theorem TF (k:Nat):∀ x y,steps k (x ^^^ y)=steps k x ^^^ steps k y:=by
 induction k with
 |zero=>exact λ_ _=>rfl
 |succ k ih=>intro x y;simp only [steps];rw [TE,ih]
theorem Pp (k:Nat):∀ m,steps k (m*2^k)=m:=by
 induction k with
 |zero=>intro m;simp [steps]
 |succ k ih=>
  intro m;simp only [steps];rw [show m*2^(k+1)=2*(m*2^k) by rw [Nat.pow_succ];ac_rfl,Qy,ih]
theorem Pq {n:Nat} (h:n<2^32):step1 n<2^32:=by
 unfold step1;split
 ·exact Nat.xor_lt_two_pow (by omega) (by decide)
 ·omega
theorem Ps (k:Nat):∀ {n:Nat},n<2^32->steps k n<2^32:=by
 induction k with
 |zero=>exact id
 |succ k ih=>exact λh=>ih (Pq h)
theorem Xp (s:Nat):s=(s/256)*2^8 ^^^ s%256:=by
 have h:s=2^8*(s/256)+s%256:=by omega
 apply Nat.eq_of_testBit_eq;intro i;rw [Nat.testBit_xor]
 conv=>lhs;rw [h]
 rw [Nat.testBit_two_pow_mul_add _ (by omega:s%256<2^8),Nat.mul_comm,Nat.testBit_two_pow_mul];by_cases hi:i<8
 ·simp [hi,show ¬8<=i by omega]
 ·have:(s%256).testBit i=false:=Nat.testBit_lt_two_pow (Nat.lt_of_lt_of_le (Nat.mod_lt _ (by decide)) (Nat.pow_le_pow_right (n:=2) (i:=8) (by decide) (by omega)));rw [if_neg hi,this];simp;omega
theorem TG (s b:Nat):upd s b=steps 8 (s ^^^ b):=by
 unfold upd entry
 conv=>rhs;rw [Xp s,Nat.xor_assoc,TF,Pp]
end Go.Proofs.YtfggjdkccdkogaaGreatDoor.Ns
namespace Go.Proofs.YtfggjdkccdkogaaGreatDoor.Print
open RowKit Ac Aq Aw
set_option linter.unusedVariables false
set_option linter.unusedSimpArgs false
def Ma (i:Nat):Int:=(Ns.entry i:Nat)
theorem WC:∀ n:Fin 256,EE.FJ.f 10 (n.val:Int)=some (Ma n.val):=by decide+kernel
theorem Ya {i:Nat} (h:i<256):EE.FJ.f 10 (i:Int)=some (Ma i):=WC ⟨i,h⟩
def G6 (i:Nat):Array Value:=((List.range 256).map λj=>Value.int .u32 (if j<i then Ma j else 0)).toArray
theorem GZ (i:Nat):(G6 i).size=256:=by simp [G6]
theorem UO (i j:Nat) (h:j<256):(G6 i)[j]? =some (.int .u32 (if j<i then Ma j else 0)):=by simp [G6,h]
theorem UQ (i:Nat) (h:i<256):(G6 i).setIfInBounds i (.int .u32 (Ma i))=G6 (i+1):=by
 apply Array.ext
 ·simp [G6]
 ·intro j h1 h2;have hj:j<256:=by rw [GZ] at h2;exact h2
  rw [Array.getElem_setIfInBounds (by simpa [GZ] using h1)];simp only [G6,List.getElem_toArray,List.getElem_map,List.getElem_range];split
  ·subst_vars
   rw [if_pos (by omega)]
  ·by_cases hlt:j<i
   ·rw [if_pos hlt,if_pos (by omega)]
   ·rw [if_neg hlt,if_neg (by omega)]
theorem Ru (i:Nat):(G6 i).all (·.oneCell')=true:=by
 rw [Array.all_eq_true_iff_forall_mem];intro v hv;simp only [G6,List.mem_toArray,List.mem_map] at hv;obtain ⟨j,_,rfl⟩:=hv;rfl
theorem UR {W w3:World} {D:Nat} {o:Obj} (hb:Below W.heap.size W w3) (h:W.heap[D]? =some o):w3.heap[D]? =some o:=(hb.block D (Array.getElem?_eq_some_iff.1 h).1).trans h
theorem KY:(Tryz.prog.info? 134).map (·.size)=some 256:=by kernel_rfl
theorem Nv {B:Nat} {a w:World} {g:Nat} {cs:Array Value} (h:Below B a w) (hg:B<=g):Below B a (w.setRow g cs):=
 {h with size:=by simpa using h.size,block:=λi hi=>(setRow_other w g i cs (by omega)).trans (h.block i hi)}
theorem TH:Tryz.zeroCells134=G6 0:=by kernel_rfl
theorem Qz {ops:Array Oper} {rest:List Oper} {o:Oper} {a:Act} {Q:Exit->Act->World->Prop} {W:World} {N:Tmp} (h:∀ g,AA (g=W.heap.size)->∀ w1,w1.heap[g]? =some (.cells (G6 0) 134 (0,0))->Below W.heap.size W w1->wpList Tryz.prog ops Q rest (a.put o.dst (.pointer (some ⟨g,0,none⟩))) w1)
 (hd:o.dst=some N:=by with_reducible rfl) (ho:o.op= .alloc 134:=by rfl) (hg:o.guard=none:=by rfl):wpList Tryz.prog ops Q (o::rest) a W:=by
 refine Ju (N:=N) hg hd (cs:=G6 0) (t:=134) ?_ (λg e=>h g ⟨e⟩);obtain ⟨dst,op,ty,pos,after,guard⟩:=o;subst ho;rw [<-TH];go_simp
set_option maxHeartbeats 4000000 in
set_option maxRecDepth 100000 in
theorem TI.calls (w:World):Calls Tryz.prog 87 #[] w λe w'=>e= .returned (.agg (G6 256))/\Below w.heap.size w w':=by
 have hu:=Tryz.underlying134;go_enter Tryz.func87,Tryz.ntmps87;go_wp2_with (first|(refine Qz (N:=0) (λg0 hg0 w1 hb0 b0=>?_))|(refine Qz (N:=1) (λg1 hg1 w2 hb1 b1=>?_)));have k0:=AA.mk (UR b1 hb0);have k1:=AA.mk hb1;have B:=AA.mk (AO b0 b1);have n0:=AA.mk (show w.heap.size<=g0 by rw [hg0.out];exact Nat.le_refl _);have n1:=AA.mk (show w.heap.size<=g1 by rw [hg1.out];exact b0.size);have ne:=AA.mk (show g0≠g1 by have:=(Array.getElem?_eq_some_iff.1 hb0).1;have:=hg1.out;omega);clear hb0 hb1 b0 b1 hg0 hg1;go_loopw [3] (λv3 wr=>∃ i:Nat,v3= .int .i64 i/\AA (i<=256)/\AA (wr.heap[g1]? =some (.cells (G6 i) 134 (0,0)))/\AA (wr.heap[g0]? =some (.cells (G6 0) 134 (0,0)))/\AA (Below w.heap.size w wr)) (λv3 _=>256 - (intOf v3).toNat);case atStart=>exact ⟨0,rfl,⟨by omega⟩,k1,k0,B⟩
 case round=>
  clear k0 k1 B;obtain ⟨i,rfl,hi,k1,k0,B⟩:=hrel;have hi2:=hi.out;by_cases hlt:i<256
  ·have d1:decide ((i:Int)<256)=true:=decide_eq_true (by omega);have d2:decide (i<256)=true:=decide_eq_true hlt;have hw:IntKind.u8.wrap (i:Int)=(i:Int):=by rw [IntKind.wrap_u8];omega
   have hE:=AA.mk (Ya hlt);have c1:wr.cell? ⟨g1,i,none⟩=some (.int .u32 (if i<i then Ma i else 0)):=(cell_of_row wr g1 i _ _ _ k1.out).trans (UO i i hlt);have f1:=frozen_of_row wr g1 i _ _ k1.out;have p1:=eq_true (show 0<=(i:Int) by omega);have p2:=eq_true (show (i:Int)<256 by omega);go_wp2_with (go_at_call 112;refine (EE.FJ.calls 10 (i:Int) (Ma i) _ hE.out).mono ?_;rintro e w2 ⟨rfl,nd,rfl⟩);go_roundw;case rel=>
    refine ⟨i+1,by go_num,⟨by omega⟩,⟨?_⟩,⟨?_⟩,⟨?_⟩⟩
    ·exact MN (show (wr.drewN nd).heap[g1]? =_ from k1.out) i _ (UQ i hlt)
    ·exact (heap_setCell_other _ _ _ _ ne.out).trans (show (wr.drewN nd).heap[g0]? =_ from k0.out)
    ·exact (Ce B.out nd).setCell (p:=⟨g1,i,none⟩) n1.out _
   case measure=>simp [intOf];omega
  ·obtain rfl:i=256:=by omega
   have d1:decide (((256:Nat):Int)<256)=false:=by decide
   clear hlt hi2;go_wp2_with (first|(refine wpList_load_row rfl 134 _ rfl g1 rfl 134 (G6 256) (0,0) _ k1.out hu rfl (by rw [GZ];exact KY) ?_)|(refine wpList_store_row rfl 134 _ _ rfl g0 (G6 256) rfl rfl 134 (G6 0) k0.out (by rw [GZ];exact KY) (by rw [GZ,GZ]) (Ru 256) ?_));refine bodyPost_ret (results_cell_row rfl _ _ g0 134 (G6 256) (0,0) _ rfl (setRow_heap _ _ _ _ _ _ k0.out) hu rfl (by rw [GZ];exact KY)) rfl ?_;exact ⟨rfl,Nv B.out n0.out⟩
def NV (s b:Int):Int:=Go.bits .xor .u32 (s/256) (Ma (Go.bits .xor .u8 (s%256) b).toNat)
def NW (s:Int) (t:ByteArray):Int:=(bytesOf t).foldl NV s
def UT (l:List ByteArray):Int:=Go.bits .xor .u32 IntKind.u32.max (l.foldl NW 4294967295)
def Ig.f (l:List ByteArray):Option Int:=if ∀ t∈l,t.size<=9223372036854775806 then some (UT l) else none
theorem WE (a b:Int):0<=Go.bits .xor .u8 a b/\Go.bits .xor .u8 a b<256:=by
 unfold Go.bits;rw [IntKind.wrap_u8];omega
theorem TJ (s:Int) (t:ByteArray) (k:Nat) (h:k<t.size):((bytesOf t).take (k+1)).foldl NV s=NV (((bytesOf t).take k).foldl NV s) (bt t k):=by
 have hl:k<(bytesOf t).length:=by rw [bytesOf_length];exact h
 rw [List.take_add_one,List.getElem?_eq_getElem hl,List.foldl_append];have:(bytesOf t)[k]=bt t (k:Int):=by
  rw [<-KJ];unfold rd;rw [Int.toNat_natCast,List.getD_eq_getElem?_getD,List.getElem?_eq_getElem hl];rfl
 rw [this];rfl
set_option maxHeartbeats 4000000 in
set_option maxRecDepth 100000 in
theorem Ig.calls (A0:Option Addr) (c0:Nat) (l:List ByteArray) (r:Int) (w:World) (hr:Kd.string.C w A0 l.length l) (hc:l.length<=c0) (h:Ig.f l=some r):
 Calls Tryz.prog 60 #[.slice A0 l.length c0] w λe w'=>e= .returned (.int .u32 r)/\Below w.heap.size w w':=by
 unfold Ig.f at h;by_cases hn:∀ t∈l,t.size<=9223372036854775806;case neg=>rw [if_neg hn] at h;exact absurd h (by simp)
 rw [if_pos hn] at h;obtain rfl:=Option.some.inj h;clear h;have HN:=AA.mk hn;have HR:=AA.mk hr;have hL:=hr.2.1;clear hn hr;have hu:=Tryz.underlying134;go_enter Tryz.func60,Tryz.ntmps60;go_wp2_with (first|(go_at_call 87;refine (TI.calls _).mono ?_;rintro e w1 ⟨rfl,b1⟩)|(refine Qz (N:=3) (λg3 hg3 w2 hb3 b2=>?_))|(refine wpList_store_row rfl 134 _ _ rfl g3 (G6 256) rfl rfl 134 (G6 0) hb3 (by rw [GZ];exact KY) (by rw [GZ,GZ]) (Ru 256) ?_));have K:=AA.mk (setRow_heap w2 g3 (G6 0) (G6 256) 134 (0,0) hb3);have n3:=AA.mk (show w.heap.size<=g3 by rw [hg3.out];exact b1.size);have B:=AA.mk (Nv (g:=g3) (cs:=G6 256) (AO b1 b2) n3.out);clear hb3 hg3 b1 b2;generalize w2.setRow g3 (G6 256)=W0 at K B⊢
 go_loopw [4,11] (λv4 v11 wr=>∃ i:Nat,v11= .int .i64 i/\v4= .int .u32 ((l.take i).foldl NW 4294967295)/\AA (i<=l.length)/\AA (wr.heap[g3]? =some (.cells (G6 256) 134 (0,0)))/\AA (Below w.heap.size w wr)) (λ_ v11 _=>l.length - (intOf v11).toNat);case atStart=>exact ⟨0,rfl,rfl,⟨Nat.zero_le _⟩,K,B⟩
 case round=>
  clear K B;obtain ⟨i,rfl,rfl,hi,K,B⟩:=hrel;have hi2:=hi.out;by_cases hlt:i<l.length
  ·obtain ⟨ad,rfl,hx⟩:=Kd.FR (Kd.Ed HR.out B.out) (i:Int) (by omega) (by omega);have hr:EH ByteArray.empty l (i:Int)=l[i]:=by unfold EH;rw [Int.toNat_natCast,List.getD_eq_getElem?_getD,List.getElem?_eq_getElem hlt];rfl
   rw [hr,Int.toNat_natCast] at hx;have hsz:=HN.out l[i] (List.getElem_mem hlt);have hnext:=AA.mk (show (l.take (i+1)).foldl NW 4294967295=NW ((l.take i).foldl NW 4294967295) l[i] by rw [List.take_add_one,List.getElem?_eq_getElem hlt,List.foldl_append];rfl);have d1:decide ((i:Int)<(l.length:Int))=true:=decide_eq_true (by omega);have d2:decide (i<l.length)=true:=decide_eq_true hlt;have p1:=eq_true (show 0<=(i:Int) by omega);have p2:=eq_true (show (i:Int)<(l.length:Int) by omega);generalize l[i]=t at hx hsz hnext;generalize (l.take i).foldl NW 4294967295=s0 at hnext⊢
   clear hr;go_wp2;go_loopw [4,17] (λv4 v17 wr=>∃ j:Nat,v17= .int .i64 j/\v4= .int .u32 (((bytesOf t).take j).foldl NV s0)/\AA (j<=t.size)/\AA (wr.heap[g3]? =some (.cells (G6 256) 134 (0,0)))/\AA (Below w.heap.size w wr)) (λ_ v17 _=>t.size - (intOf v17).toNat);case atStart=>exact ⟨0,rfl,rfl,⟨Nat.zero_le _⟩,K,B⟩
   case round=>
    clear K B hx;obtain ⟨j,rfl,rfl,hj,K,B⟩:=hrel;have hj2:=hj.out;by_cases hlj:j<t.size
    ·have ec:bt t (j:Int)=((t[j]'hlj).toNat:Int):=by simp [bt,hlj]
     have hn:=AA.mk (TJ s0 t j hlj);rw [ec] at hn;generalize ((bytesOf t).take j).foldl NV s0=s at hn⊢
     have hb:=WE (s%256) ((t[j]'hlj).toNat:Int);have e1:decide ((j:Int)<(t.size:Int))=true:=decide_eq_true (by omega);have e2:decide (j<t.size)=true:=decide_eq_true hlj;have r1:=eq_true (show 0<=(j:Int) by omega);have r2:=eq_true (show (j:Int)<(t.size:Int) by omega);have hx:=AA.mk (show NV s ((t[j]'hlj).toNat:Int)=Go.bits .xor .u32 (s/256) (Ma (Go.bits .xor .u8 (s%256) ((t[j]'hlj).toNat:Int)).toNat) from rfl);have hwx:IntKind.u8.wrap s=s%256:=IntKind.wrap_u8 s;obtain ⟨X,hX⟩:∃ X:Nat,Go.bits .xor .u8 (s%256) ((t[j]'hlj).toNat:Int)=(X:Int):=⟨(Go.bits .xor .u8 (s%256) ((t[j]'hlj).toNat:Int)).toNat,by omega⟩;rw [hX] at hb;rw [hX,Int.toNat_natCast] at hx;have c3:wr.cell? ⟨g3,X,none⟩=some (.int .u32 (Ma X)):=(cell_of_row wr g3 X _ _ _ K.out).trans ((UO 256 X (by omega)).trans (by rw [if_pos (by omega)]));have q1:=eq_true hb.1;have q2:=eq_true hb.2;clear hb;go_wp2;go_roundw;case rel=>exact ⟨j+1,by go_num,by rw [hn.out,hx.out],⟨by omega⟩,K,B⟩
     case measure=>simp [intOf];omega
    ·obtain rfl:j=t.size:=by omega
     have e1:decide ((t.size:Int)<(t.size:Int))=false:=decide_eq_false (by omega);have e2:decide (t.size<t.size)=false:=decide_eq_false (by omega);go_wp2;go_roundw;case rel=>exact ⟨i+1,by go_num,by rw [hnext.out];unfold NW;rw [List.take_of_length_le (by rw [bytesOf_length];exact Nat.le_refl _)],⟨by omega⟩,K,B⟩
     case measure=>simp [intOf];omega
  ·obtain rfl:i=l.length:=by omega
   have d1:decide ((l.length:Int)<(l.length:Int))=false:=decide_eq_false (by omega);have d2:decide (l.length<l.length)=false:=decide_eq_false (by omega);rw [List.take_length];have hs:=AA.mk (show UT l=Go.bits .xor .u32 IntKind.u32.max (l.foldl NW 4294967295) from rfl);generalize l.foldl NW 4294967295=s at hs⊢
   go_wp2;go_ret;exact ⟨by rw [hs.out];rfl,B.out⟩
end Go.Proofs.YtfggjdkccdkogaaGreatDoor.Print
