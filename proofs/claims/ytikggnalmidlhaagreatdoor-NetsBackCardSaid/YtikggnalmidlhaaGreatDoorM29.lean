/- Several parts of the claim's proof in one text, said short by a program of this session. No condition. -/
import Derived.Test.YtikggnalmidlhaaGreatDoorM6
import Derived.Handy
import Derived.RangeFuncSeq
section
namespace Go.Proofs.YtikggnalmidlhaaGreatDoor.Print
open RowKit AR Aa Ad
set_option linter.unusedVariables false
set_option linter.unusedSimpArgs false
set_option maxHeartbeats 4000000 in
set_option maxRecDepth 100000 in
theorem RS (n:Int) (w:World) (hn:0<n) (hm:n<=1099511627776):Calls Tryz.prog 108 #[.slice none 0 0, .int .i64 n] w λe w'=>∃ v0_:Value,e= .returned v0_/\Kd.R Ex 98 w' w.heap.size (λ_=>True) v0_ []/\Below w.heap.size w w':=by
 have e1:decide (n<0)=false:=decide_eq_false (by omega);have e2:decide (0<n)=true:=decide_eq_true (by omega);have e3:wrap64 n=n:=by unfold wrap64;omega
 have hb:Tryz.t98.bytes=152:=rfl;have hns:Builtin.nextslicecap n.toNat 0=n.toNat:=by unfold Builtin.nextslicecap;rw [if_pos (by omega)]
 go_enter Tryz.func108,Tryz.ntmps108;go_wp2;all_goals (try (exfalso;omega))
 all_goals (try (exfalso;simp only [hb,hns] at*;omega))
 go_ret;have hge:=grownCap_ge w n.toNat 0 98;have hcap:n.toNat<=maxLen:=by unfold maxLen;omega
 refine ⟨_,rfl,⟨λ_ _=>trivial,[],⟨rfl, .inr ⟨w.heap.size,_,_,rfl,Nat.le_refl _,heap_alloc_new _ _,Nat.zero_le _,grownCap_le_maxLen w n.toNat 0 98 hcap,?_,rfl⟩⟩,CG.none _ _⟩,(Bj (Below.refl _ _) _).drew⟩;rw [Array.size_append,size_zeroCells,size_zeroCells];have hz:(Ex:Kd Cj).sz=14:=rfl;rw [hz];show n.toNat*14+(grownCap w n.toNat 0 98 - n.toNat)*14=grownCap w n.toNat 0 98*14;omega
set_option maxHeartbeats 4000000 in
set_option maxRecDepth 100000 in
theorem Pv (w:World):Calls Tryz.prog 108 #[.slice none 0 0, .int .i64 0] w λe w'=>∃ v0_:Value,e= .returned v0_/\Kd.R Ex 98 w' w.heap.size (λ_=>True) v0_ []/\Below w.heap.size w w':=by
 go_enter Tryz.func108,Tryz.ntmps108;go_wp2;go_ret;exact ⟨_,rfl,Kd.Eu _ _ _ _ _,Below.refl _ _⟩
def DX.f (l:List Cj) (n:Int):Option (List Cj):=if l=[]/\0<=n/\n<=1099511627776 then some [] else none
theorem DX.calls (A0:Option Addr) (c0:Nat) (l:List Cj) (n:Int) (r:List Cj) (w:World) (hr:Kd.C Ex w A0 l.length l) (hc:l.length<=c0) (h:DX.f l n=some r) (hA:A0=none/\c0=0:=by exact ⟨rfl,rfl⟩):
 Calls Tryz.prog 108 #[.slice A0 l.length c0, .int .i64 n] w λe w'=>∃ v0_:Value,e= .returned v0_/\Kd.R Ex 98 w' w.heap.size (λ_=>True) v0_ r/\Below w.heap.size w w':=by
 unfold DX.f at h;by_cases hh:l=[]/\0<=n/\n<=1099511627776
 ·rw [if_pos hh] at h;obtain rfl:=Option.some.inj h;obtain ⟨rfl,rfl⟩:=hA;obtain ⟨rfl,h0,h1⟩:=hh;by_cases hz:n=0
  ·subst hz;exact Pv w
  ·exact RS n w (by omega) h1
 ·rw [if_neg hh] at h;exact absurd h (by simp)
end Go.Proofs.YtikggnalmidlhaaGreatDoor.Print
end
section
namespace Go.Proofs.YtikggnalmidlhaaGreatDoor.Print
open RowKit Y AR Aa Ad
set_option linter.unusedVariables false
set_option linter.unusedSimpArgs false
theorem QA (a0 a1 a2 b0 b1 b2:ByteArray) (w:World):Calls Tryz.prog 178 #[.agg #[.string a0, .string a1, .string a2], .agg #[.string b0, .string b1, .string b2]] w λe w'=>e= .returned (.int .i64 (JF a0 a1 a2 b0 b1 b2))/\Below w.heap.size w w':=by
 obtain ⟨k1,h⟩:=TW a0 a1 a2 b0 b1 b2;exact Ct.CP.calls k1 a0 a1 a2 b0 b1 b2 _ w h
set_option maxHeartbeats 4000000 in
set_option maxRecDepth 100000 in
theorem Ja (x:Cj) (t0 t1 t2:ByteArray) (w:World):Calls Tryz.prog 107 #[.agg #[.string x.f0.f0, .string x.f0.f1, .string x.f0.f2, .string x.f1.f0, .string x.f1.f1, .string x.f1.f2, .string x.f1.f3, .int .i64 x.f1.f4, .int .i64 x.f1.f5, .int .i64 x.f1.f6, .bool x.f1.f7, .bool x.f1.f8, .bool x.f1.f9, .int .i64 x.f1.f10], .agg #[.string t0, .string t1, .string t2]] w λe w'=>e= .returned (.int .i64 (JF x.f0.f0 x.f0.f1 x.f0.f2 t0 t1 t2))/\Below w.heap.size w w':=by
 have hu65:=Tryz.underlying98;have huK:=Tryz.underlying69;go_enter Tryz.func107,Tryz.ntmps107;go_wp2_with (go_at_call 178;refine (QA _ _ _ _ _ _ _).mono ?_;rintro e w' ⟨rfl,hb⟩);go_ret;refine ⟨rfl,AP ?_ hb⟩;repeat (first|exact Below.refl _ _|apply Bj)
def Re (p:Nat->Bool):Nat->Nat->Nat->Nat
 |0,i,_=>i
 |n+1,i,j=>if i<j then (if p ((i+j)/2)=true then Re p n ((i+j)/2+1) j else Re p n i ((i+j)/2)) else i
def OM (l:List Cj) (t0 t1 t2:ByteArray) (i:Nat):Int:=JF (Ag l (i:Int)).f0.f0 (Ag l (i:Int)).f0.f1 (Ag l (i:Int)).f0.f2 t0 t1 t2
def U4 (l:List Cj) (t0 t1 t2:ByteArray) (i:Nat):Bool:=decide (OM l t0 t1 t2 i<0)
def Rf (l:List Cj) (t0 t1 t2:ByteArray):Nat:=Re (U4 l t0 t1 t2) l.length 0 l.length
def Iz (l:List Cj) (t0 t1 t2:ByteArray):Bool:=decide (Rf l t0 t1 t2<l.length)&&decide (OM l t0 t1 t2 (Rf l t0 t1 t2)=0)
theorem keepCell {W w3:World} {a:Addr} {v:Value} (hb:Below W.heap.size W w3) (h:W.cell? a=some v):w3.cell? a=some v:=by
 obtain ⟨o,ho,_⟩:=not_walk_of_cell h;exact (hb.cell (p:=a) (Array.getElem?_eq_some_iff.1 ho).1).trans h
set_option maxHeartbeats 8000000 in
set_option maxRecDepth 100000 in
theorem MM (A0:Option Addr) (c0:Nat) (l:List Cj) (t0 t1 t2:ByteArray) (w:World) (hr:Kd.C Ex w A0 l.length l) (hc:l.length<=c0) (hn:l.length<=4611686018427387903):
 Calls Tryz.prog 106 #[.slice A0 l.length c0, .agg #[.string t0, .string t1, .string t2], .func (.func 107) #[] #[]] w λe w'=>e= .returned (.tuple #[.int .i64 (Rf l t0 t1 t2), .bool (Iz l t0 t1 t2)])/\Below w.heap.size w w':=by
 have huK:=Tryz.underlying69;have huC:=Tryz.underlying53;have hu65:=Tryz.underlying98;have HR:=AA.mk hr;have HN:=AA.mk hn;clear hr hn;go_enter Tryz.func106,Tryz.ntmps106;go_wp2;go_loopw [9,10] (λv9 v10 wr=>∃ i j n:Nat,i<=j/\j<=l.length/\v9= .int .i64 i/\v10= .int .i64 j/\AA (j - i<=n/\Re (U4 l t0 t1 t2) n i j=Rf l t0 t1 t2)/\AA (Below w.heap.size w wr)/\AA (wr.heap[w.heap.size]? =some (.cells #[.string t0, .string t1, .string t2] 69 (0,0)))) (λv9 v10 _=>(intOf v10).toNat - (intOf v9).toNat);case atStart=>exact ⟨0,l.length,l.length,Nat.zero_le _,Nat.le_refl _,rfl,rfl,⟨by omega,rfl⟩,⟨by repeat (first|exact Below.refl _ _|apply Bj)⟩,⟨Eh _ _⟩⟩
 case round=>
  obtain ⟨i,j,n,hij,hj,rfl,rfl,HA,HB,HK⟩:=hrel;have y0:wr.cell? ⟨w.heap.size,0,none⟩=some (.string t0):=GJ HK.out rfl;have y1:wr.cell? ⟨w.heap.size,1,none⟩=some (.string t1):=GJ HK.out rfl;have y2:wr.cell? ⟨w.heap.size,2,none⟩=some (.string t2):=GJ HK.out rfl;by_cases hlt:i<j
  ·have e1:decide ((i:Int)<(j:Int))=true:=decide_eq_true (by omega);have e1b:decide (i<j)=true:=decide_eq_true hlt;obtain ⟨m,hm⟩:∃ m,m=(i+j)/2:=⟨_,rfl⟩;have hn:=HN.out;have hm1:i<=m/\m<j:=by omega
   have hh:wrap64 (IntKind.u64.wrap (wrap64 ((i:Int)+(j:Int)))/2)=(m:Int):=by
    have a1:wrap64 ((i:Int)+(j:Int))=(i:Int)+(j:Int):=by unfold wrap64;omega
    rw [a1,show IntKind.u64.wrap ((i:Int)+(j:Int))=(i:Int)+(j:Int) by rw [LJ];omega];unfold wrap64;omega
   obtain ⟨ad,rfl,h0,h1,h2,h3,h4,h5,h6,h7,h8,h9,h10,h11,h12,h13⟩:=NW (Kd.DW HR.out HB.out) (m:Int) (by omega) (by omega);have p1:=eq_true (show 0<=(m:Int) by omega);have q1:=eq_true (show (m:Int)<(l.length:Int) by omega);rw [Int.toNat_natCast] at h0 h1 h2 h3 h4 h5 h6 h7 h8 h9 h10 h11 h12 h13;have HM:=AA.mk hm;have HM1:=AA.mk hm1;clear hm hm1 hn hlt;by_cases hb:(JF (Ag l (m:Int)).f0.f0 (Ag l (m:Int)).f0.f1 (Ag l (m:Int)).f0.f2 t0 t1 t2)<0
   ·have e2:decide ((JF (Ag l (m:Int)).f0.f0 (Ag l (m:Int)).f0.f1 (Ag l (m:Int)).f0.f2 t0 t1 t2)<0)=true:=decide_eq_true hb;have HBs:=AA.mk (show U4 l t0 t1 t2 m=true from e2);obtain ⟨m1,hm1⟩:∃ m1:Nat,m1=m+1:=⟨_,rfl⟩;have hw:wrap64 ((m:Int)+1)=(m1:Int):=by have:=HN.out;have:=HM1.out;unfold wrap64;omega
    have HM2:=AA.mk hm1;have HW:=AA.mk hw;clear hb hm1 hw;have hS:∀ w':World,Below wr.heap.size wr w'->Below wr.heap.size wr w'/\w'.cell? (ad.add (m*14))=some (.string (Ag l (m:Int)).f0.f0)/\w'.cell? ⟨(ad.add (m*14)).block,(ad.add (m*14)).off+1,none⟩=some (.string (Ag l (m:Int)).f0.f1)/\w'.cell? ⟨(ad.add (m*14)).block,(ad.add (m*14)).off+2,none⟩=some (.string (Ag l (m:Int)).f0.f2)/\w'.cell? ⟨(ad.add (m*14)).block,(ad.add (m*14)).off+3,none⟩=some (.string (Ag l (m:Int)).f1.f0)/\w'.cell? ⟨(ad.add (m*14)).block,(ad.add (m*14)).off+4,none⟩=some (.string (Ag l (m:Int)).f1.f1)/\w'.cell? ⟨(ad.add (m*14)).block,(ad.add (m*14)).off+5,none⟩=some (.string (Ag l (m:Int)).f1.f2)/\w'.cell? ⟨(ad.add (m*14)).block,(ad.add (m*14)).off+6,none⟩=some (.string (Ag l (m:Int)).f1.f3)/\w'.cell? ⟨(ad.add (m*14)).block,(ad.add (m*14)).off+7,none⟩=some (.int .i64 (Ag l (m:Int)).f1.f4)/\w'.cell? ⟨(ad.add (m*14)).block,(ad.add (m*14)).off+8,none⟩=some (.int .i64 (Ag l (m:Int)).f1.f5)/\w'.cell? ⟨(ad.add (m*14)).block,(ad.add (m*14)).off+9,none⟩=some (.int .i64 (Ag l (m:Int)).f1.f6)/\w'.cell? ⟨(ad.add (m*14)).block,(ad.add (m*14)).off+10,none⟩=some (.bool (Ag l (m:Int)).f1.f7)/\w'.cell? ⟨(ad.add (m*14)).block,(ad.add (m*14)).off+11,none⟩=some (.bool (Ag l (m:Int)).f1.f8)/\w'.cell? ⟨(ad.add (m*14)).block,(ad.add (m*14)).off+12,none⟩=some (.bool (Ag l (m:Int)).f1.f9)/\w'.cell? ⟨(ad.add (m*14)).block,(ad.add (m*14)).off+13,none⟩=some (.int .i64 (Ag l (m:Int)).f1.f10)/\w'.cell? ⟨w.heap.size,0,none⟩=some (.string t0)/\w'.cell? ⟨w.heap.size,1,none⟩=some (.string t1)/\w'.cell? ⟨w.heap.size,2,none⟩=some (.string t2):=λw' hb=>⟨hb,keepCell hb h0,keepCell hb h1,keepCell hb h2,keepCell hb h3,keepCell hb h4,keepCell hb h5,keepCell hb h6,keepCell hb h7,keepCell hb h8,keepCell hb h9,keepCell hb h10,keepCell hb h11,keepCell hb h12,keepCell hb h13,keepCell hb y0,keepCell hb y1,keepCell hb y2⟩
    have hSB:=AA.mk hS;clear hS h0 h1 h2 h3 h4 h5 h6 h7 h8 h9 h10 h11 h12 h13 y0 y1 y2;go_wp2;go_region_held3 (λw'=>Below wr.heap.size wr w'/\w'.cell? (ad.add (m*14))=some (.string (Ag l (m:Int)).f0.f0)/\w'.cell? ⟨(ad.add (m*14)).block,(ad.add (m*14)).off+1,none⟩=some (.string (Ag l (m:Int)).f0.f1)/\w'.cell? ⟨(ad.add (m*14)).block,(ad.add (m*14)).off+2,none⟩=some (.string (Ag l (m:Int)).f0.f2)/\w'.cell? ⟨(ad.add (m*14)).block,(ad.add (m*14)).off+3,none⟩=some (.string (Ag l (m:Int)).f1.f0)/\w'.cell? ⟨(ad.add (m*14)).block,(ad.add (m*14)).off+4,none⟩=some (.string (Ag l (m:Int)).f1.f1)/\w'.cell? ⟨(ad.add (m*14)).block,(ad.add (m*14)).off+5,none⟩=some (.string (Ag l (m:Int)).f1.f2)/\w'.cell? ⟨(ad.add (m*14)).block,(ad.add (m*14)).off+6,none⟩=some (.string (Ag l (m:Int)).f1.f3)/\w'.cell? ⟨(ad.add (m*14)).block,(ad.add (m*14)).off+7,none⟩=some (.int .i64 (Ag l (m:Int)).f1.f4)/\w'.cell? ⟨(ad.add (m*14)).block,(ad.add (m*14)).off+8,none⟩=some (.int .i64 (Ag l (m:Int)).f1.f5)/\w'.cell? ⟨(ad.add (m*14)).block,(ad.add (m*14)).off+9,none⟩=some (.int .i64 (Ag l (m:Int)).f1.f6)/\w'.cell? ⟨(ad.add (m*14)).block,(ad.add (m*14)).off+10,none⟩=some (.bool (Ag l (m:Int)).f1.f7)/\w'.cell? ⟨(ad.add (m*14)).block,(ad.add (m*14)).off+11,none⟩=some (.bool (Ag l (m:Int)).f1.f8)/\w'.cell? ⟨(ad.add (m*14)).block,(ad.add (m*14)).off+12,none⟩=some (.bool (Ag l (m:Int)).f1.f9)/\w'.cell? ⟨(ad.add (m*14)).block,(ad.add (m*14)).off+13,none⟩=some (.int .i64 (Ag l (m:Int)).f1.f10)/\w'.cell? ⟨w.heap.size,0,none⟩=some (.string t0)/\w'.cell? ⟨w.heap.size,1,none⟩=some (.string t1)/\w'.cell? ⟨w.heap.size,2,none⟩=some (.string t2))
     ((refine hSB.out _ ?_;with_reducible repeat (first|exact And.left (by assumption)|exact below_undrew (And.left (by assumption))|exact AP (And.left (by assumption)) hb|exact Below.refl _ _|refine Bj ?_ _|refine CK ?_|refine Bw ?_ _)))
     (first|(go_at_call 107;refine (Ja _ _ _ _ _).mono ?_;rintro e w' ⟨rfl,hb⟩))
    have hb:=And.left ‹Below wr.heap.size wr _/\_›;go_wp2;go_roundw;case rel=>
     have hA:=HA.out;have hM:=HM1.out;have hm1:=HM2.out;cases n with
     |zero=>omega
     |succ n=>
      refine ⟨m1,j,n,by omega,hj,congrArg _ HW.out,rfl,⟨by omega,?_⟩,⟨AP HB.out hb⟩,⟨DV HK.out hb⟩⟩;rw [hm1, <-hA.2,Re,if_pos (by omega), <-HM.out,if_pos HBs.out]
    case measure=>
     have hM:=HM1.out;have hm1:=HM2.out;rw [HW.out];show ((j:Int).toNat) - ((m1:Int)).toNat<(j:Int).toNat - (i:Int).toNat;omega
   ·have e2:decide ((JF (Ag l (m:Int)).f0.f0 (Ag l (m:Int)).f0.f1 (Ag l (m:Int)).f0.f2 t0 t1 t2)<0)=false:=decide_eq_false hb;have HBs:=AA.mk (show U4 l t0 t1 t2 m=false from e2);clear hb;have hS:∀ w':World,Below wr.heap.size wr w'->Below wr.heap.size wr w'/\w'.cell? (ad.add (m*14))=some (.string (Ag l (m:Int)).f0.f0)/\w'.cell? ⟨(ad.add (m*14)).block,(ad.add (m*14)).off+1,none⟩=some (.string (Ag l (m:Int)).f0.f1)/\w'.cell? ⟨(ad.add (m*14)).block,(ad.add (m*14)).off+2,none⟩=some (.string (Ag l (m:Int)).f0.f2)/\w'.cell? ⟨(ad.add (m*14)).block,(ad.add (m*14)).off+3,none⟩=some (.string (Ag l (m:Int)).f1.f0)/\w'.cell? ⟨(ad.add (m*14)).block,(ad.add (m*14)).off+4,none⟩=some (.string (Ag l (m:Int)).f1.f1)/\w'.cell? ⟨(ad.add (m*14)).block,(ad.add (m*14)).off+5,none⟩=some (.string (Ag l (m:Int)).f1.f2)/\w'.cell? ⟨(ad.add (m*14)).block,(ad.add (m*14)).off+6,none⟩=some (.string (Ag l (m:Int)).f1.f3)/\w'.cell? ⟨(ad.add (m*14)).block,(ad.add (m*14)).off+7,none⟩=some (.int .i64 (Ag l (m:Int)).f1.f4)/\w'.cell? ⟨(ad.add (m*14)).block,(ad.add (m*14)).off+8,none⟩=some (.int .i64 (Ag l (m:Int)).f1.f5)/\w'.cell? ⟨(ad.add (m*14)).block,(ad.add (m*14)).off+9,none⟩=some (.int .i64 (Ag l (m:Int)).f1.f6)/\w'.cell? ⟨(ad.add (m*14)).block,(ad.add (m*14)).off+10,none⟩=some (.bool (Ag l (m:Int)).f1.f7)/\w'.cell? ⟨(ad.add (m*14)).block,(ad.add (m*14)).off+11,none⟩=some (.bool (Ag l (m:Int)).f1.f8)/\w'.cell? ⟨(ad.add (m*14)).block,(ad.add (m*14)).off+12,none⟩=some (.bool (Ag l (m:Int)).f1.f9)/\w'.cell? ⟨(ad.add (m*14)).block,(ad.add (m*14)).off+13,none⟩=some (.int .i64 (Ag l (m:Int)).f1.f10)/\w'.cell? ⟨w.heap.size,0,none⟩=some (.string t0)/\w'.cell? ⟨w.heap.size,1,none⟩=some (.string t1)/\w'.cell? ⟨w.heap.size,2,none⟩=some (.string t2):=λw' hb=>⟨hb,keepCell hb h0,keepCell hb h1,keepCell hb h2,keepCell hb h3,keepCell hb h4,keepCell hb h5,keepCell hb h6,keepCell hb h7,keepCell hb h8,keepCell hb h9,keepCell hb h10,keepCell hb h11,keepCell hb h12,keepCell hb h13,keepCell hb y0,keepCell hb y1,keepCell hb y2⟩
    have hSB:=AA.mk hS;clear hS h0 h1 h2 h3 h4 h5 h6 h7 h8 h9 h10 h11 h12 h13 y0 y1 y2;go_wp2;go_region_held3 (λw'=>Below wr.heap.size wr w'/\w'.cell? (ad.add (m*14))=some (.string (Ag l (m:Int)).f0.f0)/\w'.cell? ⟨(ad.add (m*14)).block,(ad.add (m*14)).off+1,none⟩=some (.string (Ag l (m:Int)).f0.f1)/\w'.cell? ⟨(ad.add (m*14)).block,(ad.add (m*14)).off+2,none⟩=some (.string (Ag l (m:Int)).f0.f2)/\w'.cell? ⟨(ad.add (m*14)).block,(ad.add (m*14)).off+3,none⟩=some (.string (Ag l (m:Int)).f1.f0)/\w'.cell? ⟨(ad.add (m*14)).block,(ad.add (m*14)).off+4,none⟩=some (.string (Ag l (m:Int)).f1.f1)/\w'.cell? ⟨(ad.add (m*14)).block,(ad.add (m*14)).off+5,none⟩=some (.string (Ag l (m:Int)).f1.f2)/\w'.cell? ⟨(ad.add (m*14)).block,(ad.add (m*14)).off+6,none⟩=some (.string (Ag l (m:Int)).f1.f3)/\w'.cell? ⟨(ad.add (m*14)).block,(ad.add (m*14)).off+7,none⟩=some (.int .i64 (Ag l (m:Int)).f1.f4)/\w'.cell? ⟨(ad.add (m*14)).block,(ad.add (m*14)).off+8,none⟩=some (.int .i64 (Ag l (m:Int)).f1.f5)/\w'.cell? ⟨(ad.add (m*14)).block,(ad.add (m*14)).off+9,none⟩=some (.int .i64 (Ag l (m:Int)).f1.f6)/\w'.cell? ⟨(ad.add (m*14)).block,(ad.add (m*14)).off+10,none⟩=some (.bool (Ag l (m:Int)).f1.f7)/\w'.cell? ⟨(ad.add (m*14)).block,(ad.add (m*14)).off+11,none⟩=some (.bool (Ag l (m:Int)).f1.f8)/\w'.cell? ⟨(ad.add (m*14)).block,(ad.add (m*14)).off+12,none⟩=some (.bool (Ag l (m:Int)).f1.f9)/\w'.cell? ⟨(ad.add (m*14)).block,(ad.add (m*14)).off+13,none⟩=some (.int .i64 (Ag l (m:Int)).f1.f10)/\w'.cell? ⟨w.heap.size,0,none⟩=some (.string t0)/\w'.cell? ⟨w.heap.size,1,none⟩=some (.string t1)/\w'.cell? ⟨w.heap.size,2,none⟩=some (.string t2))
     ((refine hSB.out _ ?_;with_reducible repeat (first|exact And.left (by assumption)|exact below_undrew (And.left (by assumption))|exact AP (And.left (by assumption)) hb|exact Below.refl _ _|refine Bj ?_ _|refine CK ?_|refine Bw ?_ _)))
     (first|(go_at_call 107;refine (Ja _ _ _ _ _).mono ?_;rintro e w' ⟨rfl,hb⟩))
    have hb:=And.left ‹Below wr.heap.size wr _/\_›;go_wp2;go_roundw;case rel=>
     have hA:=HA.out;have hM:=HM1.out;cases n with
     |zero=>omega
     |succ n=>
      refine ⟨i,m,n,by omega,by omega,rfl,rfl,⟨by omega,?_⟩,⟨AP HB.out hb⟩,⟨DV HK.out hb⟩⟩;rw [<-hA.2,Re,if_pos (by omega), <-HM.out,if_neg (by rw [HBs.out];decide)]
    case measure=>
     have hM:=HM1.out;show ((m:Int).toNat) - ((i:Int)).toNat<(j:Int).toNat - (i:Int).toNat;omega
  ·have e1:decide ((i:Int)<(j:Int))=false:=decide_eq_false (by omega);have e1b:decide (i<j)=false:=decide_eq_false hlt;have hi:i=Rf l t0 t1 t2:=by
    have:=HA.out.2;rw [<-this];cases n with
    |zero=>rfl
    |succ n=>rw [Re,if_neg hlt]
   have HI:=AA.mk hi;by_cases hl:i<l.length
   ·have e2:decide ((i:Int)<(l.length:Int))=true:=decide_eq_true (by omega);have e2b:decide (i<l.length)=true:=decide_eq_true hl;obtain ⟨ad,rfl,h0,h1,h2,h3,h4,h5,h6,h7,h8,h9,h10,h11,h12,h13⟩:=NW (Kd.DW HR.out HB.out) (i:Int) (by omega) (by omega);have p1:=eq_true (show 0<=(i:Int) by omega);have q1:=eq_true (show (i:Int)<(l.length:Int) by omega);rw [Int.toNat_natCast] at h0 h1 h2 h3 h4 h5 h6 h7 h8 h9 h10 h11 h12 h13;have HH:=AA.mk (show Iz l t0 t1 t2=decide ((JF (Ag l (i:Int)).f0.f0 (Ag l (i:Int)).f0.f1 (Ag l (i:Int)).f0.f2 t0 t1 t2)=0) by unfold Iz OM;rw [<-hi,decide_eq_true hl,Bool.true_and]);clear hl hlt hi;have hS:∀ w':World,Below wr.heap.size wr w'->Below wr.heap.size wr w'/\w'.cell? (ad.add (i*14))=some (.string (Ag l (i:Int)).f0.f0)/\w'.cell? ⟨(ad.add (i*14)).block,(ad.add (i*14)).off+1,none⟩=some (.string (Ag l (i:Int)).f0.f1)/\w'.cell? ⟨(ad.add (i*14)).block,(ad.add (i*14)).off+2,none⟩=some (.string (Ag l (i:Int)).f0.f2)/\w'.cell? ⟨(ad.add (i*14)).block,(ad.add (i*14)).off+3,none⟩=some (.string (Ag l (i:Int)).f1.f0)/\w'.cell? ⟨(ad.add (i*14)).block,(ad.add (i*14)).off+4,none⟩=some (.string (Ag l (i:Int)).f1.f1)/\w'.cell? ⟨(ad.add (i*14)).block,(ad.add (i*14)).off+5,none⟩=some (.string (Ag l (i:Int)).f1.f2)/\w'.cell? ⟨(ad.add (i*14)).block,(ad.add (i*14)).off+6,none⟩=some (.string (Ag l (i:Int)).f1.f3)/\w'.cell? ⟨(ad.add (i*14)).block,(ad.add (i*14)).off+7,none⟩=some (.int .i64 (Ag l (i:Int)).f1.f4)/\w'.cell? ⟨(ad.add (i*14)).block,(ad.add (i*14)).off+8,none⟩=some (.int .i64 (Ag l (i:Int)).f1.f5)/\w'.cell? ⟨(ad.add (i*14)).block,(ad.add (i*14)).off+9,none⟩=some (.int .i64 (Ag l (i:Int)).f1.f6)/\w'.cell? ⟨(ad.add (i*14)).block,(ad.add (i*14)).off+10,none⟩=some (.bool (Ag l (i:Int)).f1.f7)/\w'.cell? ⟨(ad.add (i*14)).block,(ad.add (i*14)).off+11,none⟩=some (.bool (Ag l (i:Int)).f1.f8)/\w'.cell? ⟨(ad.add (i*14)).block,(ad.add (i*14)).off+12,none⟩=some (.bool (Ag l (i:Int)).f1.f9)/\w'.cell? ⟨(ad.add (i*14)).block,(ad.add (i*14)).off+13,none⟩=some (.int .i64 (Ag l (i:Int)).f1.f10)/\w'.cell? ⟨w.heap.size,0,none⟩=some (.string t0)/\w'.cell? ⟨w.heap.size,1,none⟩=some (.string t1)/\w'.cell? ⟨w.heap.size,2,none⟩=some (.string t2):=λw' hb=>⟨hb,keepCell hb h0,keepCell hb h1,keepCell hb h2,keepCell hb h3,keepCell hb h4,keepCell hb h5,keepCell hb h6,keepCell hb h7,keepCell hb h8,keepCell hb h9,keepCell hb h10,keepCell hb h11,keepCell hb h12,keepCell hb h13,keepCell hb y0,keepCell hb y1,keepCell hb y2⟩
    have hSB:=AA.mk hS;clear hS h0 h1 h2 h3 h4 h5 h6 h7 h8 h9 h10 h11 h12 h13 y0 y1 y2;go_wp2;go_region_held3 (λw'=>Below wr.heap.size wr w'/\w'.cell? (ad.add (i*14))=some (.string (Ag l (i:Int)).f0.f0)/\w'.cell? ⟨(ad.add (i*14)).block,(ad.add (i*14)).off+1,none⟩=some (.string (Ag l (i:Int)).f0.f1)/\w'.cell? ⟨(ad.add (i*14)).block,(ad.add (i*14)).off+2,none⟩=some (.string (Ag l (i:Int)).f0.f2)/\w'.cell? ⟨(ad.add (i*14)).block,(ad.add (i*14)).off+3,none⟩=some (.string (Ag l (i:Int)).f1.f0)/\w'.cell? ⟨(ad.add (i*14)).block,(ad.add (i*14)).off+4,none⟩=some (.string (Ag l (i:Int)).f1.f1)/\w'.cell? ⟨(ad.add (i*14)).block,(ad.add (i*14)).off+5,none⟩=some (.string (Ag l (i:Int)).f1.f2)/\w'.cell? ⟨(ad.add (i*14)).block,(ad.add (i*14)).off+6,none⟩=some (.string (Ag l (i:Int)).f1.f3)/\w'.cell? ⟨(ad.add (i*14)).block,(ad.add (i*14)).off+7,none⟩=some (.int .i64 (Ag l (i:Int)).f1.f4)/\w'.cell? ⟨(ad.add (i*14)).block,(ad.add (i*14)).off+8,none⟩=some (.int .i64 (Ag l (i:Int)).f1.f5)/\w'.cell? ⟨(ad.add (i*14)).block,(ad.add (i*14)).off+9,none⟩=some (.int .i64 (Ag l (i:Int)).f1.f6)/\w'.cell? ⟨(ad.add (i*14)).block,(ad.add (i*14)).off+10,none⟩=some (.bool (Ag l (i:Int)).f1.f7)/\w'.cell? ⟨(ad.add (i*14)).block,(ad.add (i*14)).off+11,none⟩=some (.bool (Ag l (i:Int)).f1.f8)/\w'.cell? ⟨(ad.add (i*14)).block,(ad.add (i*14)).off+12,none⟩=some (.bool (Ag l (i:Int)).f1.f9)/\w'.cell? ⟨(ad.add (i*14)).block,(ad.add (i*14)).off+13,none⟩=some (.int .i64 (Ag l (i:Int)).f1.f10)/\w'.cell? ⟨w.heap.size,0,none⟩=some (.string t0)/\w'.cell? ⟨w.heap.size,1,none⟩=some (.string t1)/\w'.cell? ⟨w.heap.size,2,none⟩=some (.string t2))
     ((refine hSB.out _ ?_;with_reducible repeat (first|exact And.left (by assumption)|exact below_undrew (And.left (by assumption))|exact AP (And.left (by assumption)) hb|exact Below.refl _ _|refine Bj ?_ _|refine CK ?_|refine Bw ?_ _)))
     (first|(go_at_call 107;refine (Ja _ _ _ _ _).mono ?_;rintro e w' ⟨rfl,hb⟩))
    have hb:=And.left ‹Below wr.heap.size wr _/\_›;go_wp2;go_ret2;refine ⟨?_,AP HB.out hb⟩;rw [HH.out, <-HI.out];first|rfl|(congr;done)|(simp;done)
   ·have e2:decide ((i:Int)<(l.length:Int))=false:=decide_eq_false (by omega);have e2b:decide (i<l.length)=false:=decide_eq_false hl;have HH:=AA.mk (show Iz l t0 t1 t2=false by unfold Iz;rw [<-hi,decide_eq_false hl,Bool.false_and]);clear hl hlt hi;go_wp2;go_quiet (fail);go_wp2;go_ret2;refine ⟨?_,Bw HB.out _⟩;rw [HH.out, <-HI.out];rfl
def Cx.f (l:List Cj) (t0 t1 t2:ByteArray):Option (Int×Bool):=if l.length<=4611686018427387903 then some ((Rf l t0 t1 t2:Int),Iz l t0 t1 t2) else none
set_option maxHeartbeats 4000000 in
set_option maxRecDepth 100000 in
theorem Cx.calls (A0:Option Addr) (c0:Nat) (l:List Cj) (t0 t1 t2:ByteArray) (r1:Int) (r2:Bool) (w:World) (hr:Kd.C Ex w A0 l.length l) (hc:l.length<=c0) (h:Cx.f l t0 t1 t2=some (r1,r2)):
 Calls Tryz.prog 70 #[.agg #[.slice A0 l.length c0], .agg #[.string t0, .string t1, .string t2]] w λe w'=>e= .returned (.tuple #[.int .i64 r1, .bool r2])/\Below w.heap.size w w':=by
 unfold Cx.f at h;by_cases hn:l.length<=4611686018427387903
 ·rw [if_pos hn] at h;simp only [Option.some.injEq,Prod.mk.injEq] at h;obtain ⟨rfl,rfl⟩:=h;have hu27:=Tryz.underlying25;have HR:=AA.mk hr;have HC:=AA.mk hc;have HN:=AA.mk hn;clear hr hc hn;go_enter Tryz.func70,Tryz.ntmps70;go_wp2_with (go_at_call 106;refine (MM _ _ l _ _ _ _ (Kd.CZ (Kd.CZ HR.out _) _) HC.out HN.out).mono ?_;rintro e w2 ⟨rfl,hb⟩);go_ret2;refine ⟨rfl,AP ?_ hb⟩;repeat (first|exact Below.refl _ _|apply Bj)
 ·rw [if_neg hn] at h;exact absurd h (by simp)
end Go.Proofs.YtikggnalmidlhaaGreatDoor.Print
end
section
namespace Go.Proofs.YtikggnalmidlhaaGreatDoor.Print
open RowKit AR Aa Ad
attribute [local go_sem] BM BN Bo Bp BC BD BO BP
set_option linter.unusedVariables false
set_option linter.unusedSimpArgs false
mutual
def Ab.l0:Nat->List (List (Cj))->Int->List (List (Cj))->Int->Int->Option ((List (Cj)))
 |0,_,_,_,_,_=>none
 |k+1,x0,x3,x9,x10,x11=>if x11<x10 then (if 0<=x11 then (if x11<(x9.length:Int) then (if (wrap64 (x3+((FB x9 x11).length:Int)))<0 then (none) else (Ab.l0 k x0 (wrap64 (x3+((FB x9 x11).length:Int))) x9 x10 (wrap64 (x11+1)))) else (none)) else (none)) else ((DX.f ([]:List (Cj)) x3).bind λt125=>(Ab.l1 k t125 x0 (x0.length:Int) 0))
def Ab.l1:Nat->List (Cj)->List (List (Cj))->Int->Int->Option ((List (Cj)))
 |0,_,_,_,_=>none
 |k+1,x6,x25,x26,x27=>if x27<x26 then (if 0<=x27 then (if x27<(x25.length:Int) then (if x6.length+(FB x25 x27).length<925904528653 then (Ab.l1 k (x6++(FB x25 x27)) x25 x26 (wrap64 (x27+1))) else (none)) else (none)) else (none)) else (some x6)
end
def Ab.f (k:Nat) (l0:List (List (Cj))):Option ((List (Cj))):=Ab.l0 k l0 0 l0 (l0.length:Int) 0
theorem Ab.Dt:∀ k,(∀ y0 y1 y2 y3 y4,Bz (Ab.l0 k y0 y1 y2 y3 y4) (Ab.l0 (k+1) y0 y1 y2 y3 y4))/\(∀ y0 y1 y2 y3,Bz (Ab.l1 k y0 y1 y2 y3) (Ab.l1 (k+1) y0 y1 y2 y3))
 |0=>⟨λ_ _ _ _ _ r h=>by simp [Ab.l0] at h,λ_ _ _ _ r h=>by simp [Ab.l1] at h⟩
 |k+1=>by
  obtain ⟨ih0,ih1⟩:=Ab.Dt k;refine ⟨?_,?_⟩
  ·intro y0 y1 y2 y3 y4;unfold Ab.l0
   repeat' first|(with_reducible first|exact ih0 _ _ _ _ _|exact ih1 _ _ _ _|exact Bz.refl _|exact Bz.none _|refine Bz.ite ?_ ?_|refine Bz.bind ?_ (λ_=>?_))|exact ih0 _ _ _ _ _|exact ih1 _ _ _ _|exact Bz.none _|refine Bz.ite ?_ ?_|refine Bz.bind ?_ (λ_=>?_)
  ·intro y0 y1 y2 y3;unfold Ab.l1
   repeat' first|(with_reducible first|exact ih0 _ _ _ _ _|exact ih1 _ _ _ _|exact Bz.refl _|exact Bz.none _|refine Bz.ite ?_ ?_|refine Bz.bind ?_ (λ_=>?_))|exact ih0 _ _ _ _ _|exact ih1 _ _ _ _|exact Bz.none _|refine Bz.ite ?_ ?_|refine Bz.bind ?_ (λ_=>?_)
theorem Ab.mono:∀ a0 k,Bz (Ab.f k a0) (Ab.f (k+1) a0):=by
 intro a0 k;obtain ⟨ih0,ih1⟩:=Ab.Dt k;unfold Ab.f
 repeat' first|(with_reducible first|exact ih0 _ _ _ _ _|exact ih1 _ _ _ _|exact Bz.refl _|exact Bz.none _|refine Bz.ite ?_ ?_|refine Bz.bind ?_ (λ_=>?_))|exact ih0 _ _ _ _ _|exact ih1 _ _ _ _|exact Bz.none _|refine Bz.ite ?_ ?_|refine Bz.bind ?_ (λ_=>?_)
set_option maxHeartbeats 8000000 in
set_option maxRecDepth 100000 in
theorem Ab.calls (k:Nat) (A0:Option Addr) (c0:Nat) (l0:List (List (Cj))) (r:List (Cj)) (w:World) (hr0:Kd.C (Kd.slice 98 Ex) w A0 l0.length l0) (hc0:l0.length<=c0) (h:Ab.f k l0=some r):
 Calls Tryz.prog 71 #[.slice A0 l0.length c0] w λe w'=>∃ v0_:Value,e= .returned (v0_)/\Kd.R Ex 98 w' w.heap.size (λ_=>True) v0_ r/\Below w.heap.size w w':=by
 have HR0:=AA.mk hr0;have HC0:=AA.mk hc0;clear hr0 hc0;have HB:=AA.mk (Below.refl w.heap.size w);have H:(Ab.l0 k l0 0 l0 (l0.length:Int) 0)=some r:=h;clear h;have H':=AA.mk H;clear H;go_enter Tryz.func71,Tryz.ntmps71;go_wp2;go_loopg [3,11] k (λkq v3 v11 w'=>∃ (x3_1:Int) (x11_1:Int),v3= .int .i64 x3_1/\v11= .int .i64 x11_1/\AA (Ab.l0 kq l0 x3_1 l0 (l0.length:Int) x11_1=some r)/\AA (kq<=k)/\AA (Below w.heap.size w w'));case atStart=>exact ⟨(0),(0),xq,xq,H',⟨Nat.le_refl _⟩,⟨xb⟩⟩
 case round=>
  clear H';obtain ⟨x3_1,x11_1,rfl,rfl,HA,HK1,HB⟩:=hrel;cases gk with
  |zero=>exact absurd HA.out (by simp [Ab.l0])
  |succ k1=>
   have H:=HA.out;clear HA;simp only [Ab.l0] at H;by_cases c2:x11_1<(l0.length:Int)
   ·rw [if_pos c2] at H;have c2b0:decide (x11_1<(l0.length:Int))=true:=decide_eq_true c2;clear c2;by_cases c3:0<=x11_1
    ·rw [if_pos c3] at H;have c3b0:decide (0<=x11_1)=true:=decide_eq_true c3;clear c3;by_cases c4:x11_1<(l0.length:Int)
     ·rw [if_pos c4] at H;have c4b0:decide (x11_1<(l0.length:Int))=true:=decide_eq_true c4;clear c4;by_cases c5:(wrap64 (x3_1+((FB l0 x11_1).length:Int)))<0
      ·rw [if_pos c5] at H;exact absurd H (by simp)
      ·rw [if_neg c5] at H;have c5b0:decide ((wrap64 (x3_1+((FB l0 x11_1).length:Int)))<0)=false:=decide_eq_false c5;clear c5;have H':=AA.mk H;clear H;have p124:0<=(x11_1:Int):=xa;have q124:x11_1<(l0.length:Int):=xa;obtain ⟨ad124,A124_0,c124_0,e124,hx124_0,hl124_0,hi124_0⟩:=TE HR0.out x11_1 p124 q124;cases e124;replace hx124_0:=AJ HB.out hx124_0;have HR124_0:=AA.mk hi124_0;have HC124_0:=AA.mk hl124_0;clear hi124_0 hl124_0;replace p124:=eq_true p124;replace q124:=eq_true q124;go_wp2;go_roundg k1;case measure=>have:=HK1.out;omega
       case rel=>exact ⟨(wrap64 (x3_1+((FB l0 x11_1).length:Int))),(wrap64 (x11_1+1)),xq,xq,H',⟨by have:=HK1.out;omega⟩,⟨xb⟩⟩
     ·rw [if_neg c4] at H;exact absurd H (by simp)
    ·rw [if_neg c3] at H;exact absurd H (by simp)
   ·rw [if_neg c2] at H;have c2b0:decide (x11_1<(l0.length:Int))=false:=decide_eq_false c2;clear c2;replace H:=Option.bind_eq_some_iff.mp H;obtain ⟨t125,A60,H⟩:=H;replace H:(Ab.l1 k1 t125 l0 (l0.length:Int) 0)=some r:=H;have A6:=AA.mk A60;clear A60;have H':=AA.mk H;clear H;go_wp2_with (first|((with_reducible refine AO (f:=108) rfl ?_);refine Ak (some 24) rfl rfl Tryz.func108 (by kernel_rfl) rfl #[.slice none 0 0, .int .i64 x3_1] rfl xg ?_;(refine (DX.calls _ _ ([]:List (Cj)) x3_1 t125 _ ?side1 ?side2 A6.out).mono ?_);(case side1=>exact Kd.TG _ _);(case side2=>exact Nat.le_refl _);rintro e w7 ⟨v126,rfl,ho0,hb⟩;refine ⟨_,rfl,?_⟩;have HO127:=AA.mk (Kd.Cm ho0 (BF xb));replace HB:=AA.mk (AP xb hb);(try clear hb);(try clear ho0)));go_loopg [6,27] k1 (λkq v6 v27 w'=>∃ (x6_2:List (Cj)) (x27_2:Int),v27= .int .i64 x27_2/\AA (Ab.l1 kq x6_2 l0 (l0.length:Int) x27_2=some r)/\AA (kq<=k1)/\AA (Kd.R Ex 98 w' w.heap.size (λ_=>True) v6 x6_2)/\AA (Below w.heap.size w w'));case atStart=>exact ⟨(t125),(0),xq,H',⟨Nat.le_refl _⟩,⟨by (with_reducible repeat (first|apply Kd.Bd|apply Kd.Be|apply Kd.Bl));exact HO127.out⟩,⟨xb⟩⟩
    case round=>
     clear H';try clear c1
     try clear p1
     try clear q1
     try clear hx1
     try clear c2
     try clear c2b0
     try clear p2
     try clear c3
     try clear c3b0
     try clear p3
     try clear c4
     try clear c4b0
     try clear c5
     try clear c5b0
     try clear p6
     try clear c7
     try clear hx124_0
     try clear p124
     try clear q124
     obtain ⟨x6_2,x27_2,rfl,HA,HK2,HO_6,HB⟩:=hrel;cases gk with
     |zero=>exact absurd HA.out (by simp [Ab.l1])
     |succ k2=>
      have H:=HA.out;clear HA;simp only [Ab.l1] at H;by_cases c8:x27_2<(l0.length:Int)
      ·rw [if_pos c8] at H;have c8b0:decide (x27_2<(l0.length:Int))=true:=decide_eq_true c8;clear c8;by_cases c9:0<=x27_2
       ·rw [if_pos c9] at H;have c9b0:decide (0<=x27_2)=true:=decide_eq_true c9;clear c9;by_cases c10:x27_2<(l0.length:Int)
        ·rw [if_pos c10] at H;have c10b0:decide (x27_2<(l0.length:Int))=true:=decide_eq_true c10;clear c10;by_cases c11:x6_2.length+(FB l0 x27_2).length<925904528653
         ·rw [if_pos c11] at H;have LMc11:=AA.mk c11;clear c11;obtain ⟨y129,hy129⟩:∃ y_:List (Cj),y_=(x6_2++(FB l0 x27_2)):=⟨_,rfl⟩;replace H:(Ab.l1 k2 y129 l0 (l0.length:Int) (wrap64 (x27_2+1)))=some r:=by first|(rw [hy129];with_reducible exact H)|(have H2_:=(Option.bind_some _ _).symm.trans H;rw [hy129];with_reducible exact H2_)|(have H2_:=(Option.bind_some _ _).symm.trans H;with_reducible exact H2_)|with_reducible exact H|(rw [hy129];exact H)|exact H
          have Ny129:=AA.mk hy129;clear hy129;have H':=AA.mk H;clear H;have p128:0<=(x27_2:Int):=xa;have q128:x27_2<(l0.length:Int):=xa;obtain ⟨ad128,A128_0,c128_0,e128,hx128_0,hl128_0,hi128_0⟩:=TE HR0.out x27_2 p128 q128;cases e128;replace hx128_0:=AJ HB.out hx128_0;have HR128_0:=AA.mk hi128_0;have HC128_0:=AA.mk hl128_0;clear hi128_0 hl128_0;replace p128:=eq_true p128;replace q128:=eq_true q128;go_wp2_with (first|((with_reducible refine DR (b:= .append) (xs:=#[.tmp 31, .tmp 32]) rfl ?_);at_builtin;refine Kd.KP Ex (w0:=w) w.heap.size rfl (.tmp 31) (.tmp 32) 23 98 (.agg #[(.string ⟨#[]⟩),(.string ⟨#[]⟩),(.string ⟨#[]⟩),(.string ⟨#[]⟩),(.string ⟨#[]⟩),(.string ⟨#[]⟩),(.string ⟨#[]⟩),(.int .i64 0),(.int .i64 0),(.int .i64 0),(.bool false),(.bool false),(.bool false),(.int .i64 0)]) 152 rfl Tryz.underlying23 Ib rfl (by decide) (by omega) u6 x6_2 (FB l0 x27_2) _ _ _ (λ_=>True) (λ_=>False) rfl rfl ?aO ?aR (λ_ _ h=>h) (λ_ h=>h.elim) ?aF ?aB ?aS ?aL ?_;(case aR=>repeat (first|exact (Kd.DW HR128_0.out HB.out)|(with_reducible refine Kd.CZ ?_ _)|(with_reducible refine Kd.Cb ?_ _)|(with_reducible refine Kd.Cs ?_)));(case aB=>exact xb);(case aF=>exact (λ_ _=>trivial));(case aO=>exact (xR HO_6));(case aS=>exact (BF xb));(case aL=>have:=LMc11.out;omega);intro v130 w12 ho hb hg hat;rw [<-Ny129.out] at ho;have n0_:=AA.mk (hb);have n1_:=AA.mk (ho);clear HB;clear HO_6;have HB:=n0_;have HO131:=n1_;clear n0_ n1_;clear ho hb hg hat));go_roundg k2;case measure=>have:=HK1.out;have:=HK2.out;omega
          case rel=>exact ⟨(y129),(wrap64 (x27_2+1)),xq,H',⟨by have:=HK1.out;have:=HK2.out;omega⟩,⟨by (with_reducible repeat (first|apply Kd.Bd|apply Kd.Be|apply Kd.Bl));exact HO131.out⟩,⟨xb⟩⟩
         ·rw [if_neg c11] at H;exact absurd H (by simp)
        ·rw [if_neg c10] at H;exact absurd H (by simp)
       ·rw [if_neg c9] at H;exact absurd H (by simp)
      ·rw [if_neg c8] at H;have c8b0:decide (x27_2<(l0.length:Int))=false:=decide_eq_false c8;clear c8;obtain rfl:=Option.some.inj H;go_wp2;go_ret;exact ⟨_,xe,by (with_reducible repeat (first|apply Kd.Bd|apply Kd.Be|apply Kd.Bl));exact HO_6.out,xb⟩
end Go.Proofs.YtikggnalmidlhaaGreatDoor.Print
end
