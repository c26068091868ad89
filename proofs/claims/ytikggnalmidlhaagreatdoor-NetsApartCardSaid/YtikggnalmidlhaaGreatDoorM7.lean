/- Several parts of the claim's proof in one text, said short by a program of this session. No condition. -/
import Derived.Test.YtikggnalmidlhaaGreatDoorM5
import Derived.Handy
import Derived.RangeFuncSeq
import Derived.Deep.Slices
import Derived.Deep.Fields
import Derived.ChangeSame
import Derived.ChangeArms
section
namespace Go.Proofs.YtikggnalmidlhaaGreatDoor.Print
open RowKit Y AR Aa Ad
set_option linter.unusedVariables false
set_option linter.unusedSimpArgs false
theorem QA (a0 a1 a2 b0 b1 b2:ByteArray) (w:World):Calls Tryz.prog 178 #[.agg #[.string a0, .string a1, .string a2], .agg #[.string b0, .string b1, .string b2]] w λe w'=>e= .returned (.int .i64 (JF a0 a1 a2 b0 b1 b2))/\Below w.heap.size w w':=by
 obtain ⟨k1,h⟩:=TW a0 a1 a2 b0 b1 b2;exact Ct.CP.calls k1 a0 a1 a2 b0 b1 b2 _ w h
set_option maxHeartbeats 4000000 in
set_option maxRecDepth 100000 in
theorem Ja (x:Cj) (t0 t1 t2:ByteArray) (w:World):Calls Tryz.prog 107 #[.agg #[.string x.f0.f0, .string x.f0.f1, .string x.f0.f2, .string x.f1.f0, .string x.f1.f1, .string x.f1.f2, .string x.f1.f3, .int .i64 x.f1.f4, .int .i64 x.f1.f5, .int .i64 x.f1.f6, .bool x.f1.f7, .bool x.f1.f8, .bool x.f1.f9, .int .i64 x.f1.f10], .agg #[.string t0, .string t1, .string t2]] w λe w'=>e= .returned (.int .i64 (JF x.f0.f0 x.f0.f1 x.f0.f2 t0 t1 t2))/\Below w.heap.size w w':=by
 have hu65:=Tryz.underlying98;have huK:=Tryz.underlying69;go_enter Tryz.func107,Tryz.ntmps107;go_wp2_with (go_at_call 178;refine (QA _ _ _ _ _ _ _).mono ?_;rintro e w' ⟨rfl,hb⟩);go_ret;refine ⟨rfl,AP ?_ hb⟩;repeat (first|exact Below.refl _ _|apply Bj)
def Re (p:Nat->Bool):Nat->Nat->Nat->Nat
 |0,i,_=>i
 |n+1,i,j=>if i<j then (if p ((i+j)/2)=true then Re p n ((i+j)/2+1) j else Re p n i ((i+j)/2)) else i
def OM (l:List Cj) (t0 t1 t2:ByteArray) (i:Nat):Int:=JF (Ag l (i:Int)).f0.f0 (Ag l (i:Int)).f0.f1 (Ag l (i:Int)).f0.f2 t0 t1 t2
def U4 (l:List Cj) (t0 t1 t2:ByteArray) (i:Nat):Bool:=decide (OM l t0 t1 t2 i<0)
def Rf (l:List Cj) (t0 t1 t2:ByteArray):Nat:=Re (U4 l t0 t1 t2) l.length 0 l.length
def Iz (l:List Cj) (t0 t1 t2:ByteArray):Bool:=decide (Rf l t0 t1 t2<l.length)&&decide (OM l t0 t1 t2 (Rf l t0 t1 t2)=0)
theorem keepCell {W w3:World} {a:Addr} {v:Value} (hb:Below W.heap.size W w3) (h:W.cell? a=some v):w3.cell? a=some v:=by
 obtain ⟨o,ho,_⟩:=not_walk_of_cell h;exact (hb.cell (p:=a) (Array.getElem?_eq_some_iff.1 ho).1).trans h
set_option maxHeartbeats 8000000 in
set_option maxRecDepth 100000 in
theorem MM (A0:Option Addr) (c0:Nat) (l:List Cj) (t0 t1 t2:ByteArray) (w:World) (hr:Kd.C Ex w A0 l.length l) (hc:l.length<=c0) (hn:l.length<=4611686018427387903):
 Calls Tryz.prog 106 #[.slice A0 l.length c0, .agg #[.string t0, .string t1, .string t2], .func (.func 107) #[] #[]] w λe w'=>e= .returned (.tuple #[.int .i64 (Rf l t0 t1 t2), .bool (Iz l t0 t1 t2)])/\Below w.heap.size w w':=by
 have huK:=Tryz.underlying69;have huC:=Tryz.underlying53;have hu65:=Tryz.underlying98;have HR:=AA.mk hr;have HN:=AA.mk hn;clear hr hn;go_enter Tryz.func106,Tryz.ntmps106;go_wp2;go_loopw [9,10] (λv9 v10 wr=>∃ i j n:Nat,i<=j/\j<=l.length/\v9= .int .i64 i/\v10= .int .i64 j/\AA (j - i<=n/\Re (U4 l t0 t1 t2) n i j=Rf l t0 t1 t2)/\AA (Below w.heap.size w wr)/\AA (wr.heap[w.heap.size]? =some (.cells #[.string t0, .string t1, .string t2] 69 (0,0)))) (λv9 v10 _=>(intOf v10).toNat - (intOf v9).toNat);case atStart=>exact ⟨0,l.length,l.length,Nat.zero_le _,Nat.le_refl _,rfl,rfl,⟨by omega,rfl⟩,⟨by repeat (first|exact Below.refl _ _|apply Bj)⟩,⟨Eh _ _⟩⟩
 case round=>
  obtain ⟨i,j,n,hij,hj,rfl,rfl,HA,HB,HK⟩:=hrel;have y0:wr.cell? ⟨w.heap.size,0,none⟩=some (.string t0):=GJ HK.out rfl;have y1:wr.cell? ⟨w.heap.size,1,none⟩=some (.string t1):=GJ HK.out rfl;have y2:wr.cell? ⟨w.heap.size,2,none⟩=some (.string t2):=GJ HK.out rfl;by_cases hlt:i<j
  ·have e1:decide ((i:Int)<(j:Int))=true:=decide_eq_true (by omega);have e1b:decide (i<j)=true:=decide_eq_true hlt;obtain ⟨m,hm⟩:∃ m,m=(i+j)/2:=⟨_,rfl⟩;have hn:=HN.out;have hm1:i<=m/\m<j:=by omega
   have hh:wrap64 (IntKind.u64.wrap (wrap64 ((i:Int)+(j:Int)))/2)=(m:Int):=by
    have a1:wrap64 ((i:Int)+(j:Int))=(i:Int)+(j:Int):=by unfold wrap64;omega
    rw [a1,show IntKind.u64.wrap ((i:Int)+(j:Int))=(i:Int)+(j:Int) by rw [LJ];omega];unfold wrap64;omega
   obtain ⟨ad,rfl,h0,h1,h2,h3,h4,h5,h6,h7,h8,h9,h10,h11,h12,h13⟩:=NW (Kd.DW HR.out HB.out) (m:Int) (by omega) (by omega);have p1:=eq_true (show 0<=(m:Int) by omega);have q1:=eq_true (show (m:Int)<(l.length:Int) by omega);rw [Int.toNat_natCast] at h0 h1 h2 h3 h4 h5 h6 h7 h8 h9 h10 h11 h12 h13;have HM:=AA.mk hm;have HM1:=AA.mk hm1;clear hm hm1 hn hlt;by_cases hb:(JF (Ag l (m:Int)).f0.f0 (Ag l (m:Int)).f0.f1 (Ag l (m:Int)).f0.f2 t0 t1 t2)<0
   ·have e2:decide ((JF (Ag l (m:Int)).f0.f0 (Ag l (m:Int)).f0.f1 (Ag l (m:Int)).f0.f2 t0 t1 t2)<0)=true:=decide_eq_true hb;have HBs:=AA.mk (show U4 l t0 t1 t2 m=true from e2);obtain ⟨m1,hm1⟩:∃ m1:Nat,m1=m+1:=⟨_,rfl⟩;have hw:wrap64 ((m:Int)+1)=(m1:Int):=by have:=HN.out;have:=HM1.out;unfold wrap64;omega
    have HM2:=AA.mk hm1;have HW:=AA.mk hw;clear hb hm1 hw;have hS:∀ w':World,Below wr.heap.size wr w'->Below wr.heap.size wr w'/\w'.cell? (ad.add (m*14))=some (.string (Ag l (m:Int)).f0.f0)/\w'.cell? ⟨(ad.add (m*14)).block,(ad.add (m*14)).off+1,none⟩=some (.string (Ag l (m:Int)).f0.f1)/\w'.cell? ⟨(ad.add (m*14)).block,(ad.add (m*14)).off+2,none⟩=some (.string (Ag l (m:Int)).f0.f2)/\w'.cell? ⟨(ad.add (m*14)).block,(ad.add (m*14)).off+3,none⟩=some (.string (Ag l (m:Int)).f1.f0)/\w'.cell? ⟨(ad.add (m*14)).block,(ad.add (m*14)).off+4,none⟩=some (.string (Ag l (m:Int)).f1.f1)/\w'.cell? ⟨(ad.add (m*14)).block,(ad.add (m*14)).off+5,none⟩=some (.string (Ag l (m:Int)).f1.f2)/\w'.cell? ⟨(ad.add (m*14)).block,(ad.add (m*14)).off+6,none⟩=some (.string (Ag l (m:Int)).f1.f3)/\w'.cell? ⟨(ad.add (m*14)).block,(ad.add (m*14)).off+7,none⟩=some (.int .i64 (Ag l (m:Int)).f1.f4)/\w'.cell? ⟨(ad.add (m*14)).block,(ad.add (m*14)).off+8,none⟩=some (.int .i64 (Ag l (m:Int)).f1.f5)/\w'.cell? ⟨(ad.add (m*14)).block,(ad.add (m*14)).off+9,none⟩=some (.int .i64 (Ag l (m:Int)).f1.f6)/\w'.cell? ⟨(ad.add (m*14)).block,(ad.add (m*14)).off+10,none⟩=some (.bool (Ag l (m:Int)).f1.f7)/\w'.cell? ⟨(ad.add (m*14)).block,(ad.add (m*14)).off+11,none⟩=some (.bool (Ag l (m:Int)).f1.f8)/\w'.cell? ⟨(ad.add (m*14)).block,(ad.add (m*14)).off+12,none⟩=some (.bool (Ag l (m:Int)).f1.f9)/\w'.cell? ⟨(ad.add (m*14)).block,(ad.add (m*14)).off+13,none⟩=some (.int .i64 (Ag l (m:Int)).f1.f10)/\w'.cell? ⟨w.heap.size,0,none⟩=some (.string t0)/\w'.cell? ⟨w.heap.size,1,none⟩=some (.string t1)/\w'.cell? ⟨w.heap.size,2,none⟩=some (.string t2):=λw' hb=>⟨hb,keepCell hb h0,keepCell hb h1,keepCell hb h2,keepCell hb h3,keepCell hb h4,keepCell hb h5,keepCell hb h6,keepCell hb h7,keepCell hb h8,keepCell hb h9,keepCell hb h10,keepCell hb h11,keepCell hb h12,keepCell hb h13,keepCell hb y0,keepCell hb y1,keepCell hb y2⟩
    have hSB:=AA.mk hS;clear hS h0 h1 h2 h3 h4 h5 h6 h7 h8 h9 h10 h11 h12 h13 y0 y1 y2;go_wp2;go_region_held3 (λw'=>Below wr.heap.size wr w'/\w'.cell? (ad.add (m*14))=some (.string (Ag l (m:Int)).f0.f0)/\w'.cell? ⟨(ad.add (m*14)).block,(ad.add (m*14)).off+1,none⟩=some (.string (Ag l (m:Int)).f0.f1)/\w'.cell? ⟨(ad.add (m*14)).block,(ad.add (m*14)).off+2,none⟩=some (.string (Ag l (m:Int)).f0.f2)/\w'.cell? ⟨(ad.add (m*14)).block,(ad.add (m*14)).off+3,none⟩=some (.string (Ag l (m:Int)).f1.f0)/\w'.cell? ⟨(ad.add (m*14)).block,(ad.add (m*14)).off+4,none⟩=some (.string (Ag l (m:Int)).f1.f1)/\w'.cell? ⟨(ad.add (m*14)).block,(ad.add (m*14)).off+5,none⟩=some (.string (Ag l (m:Int)).f1.f2)/\w'.cell? ⟨(ad.add (m*14)).block,(ad.add (m*14)).off+6,none⟩=some (.string (Ag l (m:Int)).f1.f3)/\w'.cell? ⟨(ad.add (m*14)).block,(ad.add (m*14)).off+7,none⟩=some (.int .i64 (Ag l (m:Int)).f1.f4)/\w'.cell? ⟨(ad.add (m*14)).block,(ad.add (m*14)).off+8,none⟩=some (.int .i64 (Ag l (m:Int)).f1.f5)/\w'.cell? ⟨(ad.add (m*14)).block,(ad.add (m*14)).off+9,none⟩=some (.int .i64 (Ag l (m:Int)).f1.f6)/\w'.cell? ⟨(ad.add (m*14)).block,(ad.add (m*14)).off+10,none⟩=some (.bool (Ag l (m:Int)).f1.f7)/\w'.cell? ⟨(ad.add (m*14)).block,(ad.add (m*14)).off+11,none⟩=some (.bool (Ag l (m:Int)).f1.f8)/\w'.cell? ⟨(ad.add (m*14)).block,(ad.add (m*14)).off+12,none⟩=some (.bool (Ag l (m:Int)).f1.f9)/\w'.cell? ⟨(ad.add (m*14)).block,(ad.add (m*14)).off+13,none⟩=some (.int .i64 (Ag l (m:Int)).f1.f10)/\w'.cell? ⟨w.heap.size,0,none⟩=some (.string t0)/\w'.cell? ⟨w.heap.size,1,none⟩=some (.string t1)/\w'.cell? ⟨w.heap.size,2,none⟩=some (.string t2))
     ((refine hSB.out _ ?_;with_reducible repeat (first|exact And.left (by assumption)|exact below_undrew (And.left (by assumption))|exact AP (And.left (by assumption)) hb|exact Below.refl _ _|refine Bj ?_ _|refine CK ?_|refine Bw ?_ _)))
     (first|(go_at_call 107;refine (Ja _ _ _ _ _).mono ?_;rintro e w' ⟨rfl,hb⟩))
    have hb:=And.left ‹Below wr.heap.size wr _/\_›;go_wp2;go_roundw;case rel=>
     have hA:=HA.out;have hM:=HM1.out;have hm1:=HM2.out;cases n with
     |zero=>omega
     |succ n=>
      refine ⟨m1,j,n,by omega,hj,congrArg _ HW.out,rfl,⟨by omega,?_⟩,⟨AP HB.out hb⟩,⟨DV HK.out hb⟩⟩;rw [hm1, <-hA.2,Re,if_pos (by omega), <-HM.out,if_pos HBs.out]
    case measure=>
     have hM:=HM1.out;have hm1:=HM2.out;rw [HW.out];show ((j:Int).toNat) - ((m1:Int)).toNat<(j:Int).toNat - (i:Int).toNat;omega
   ·have e2:decide ((JF (Ag l (m:Int)).f0.f0 (Ag l (m:Int)).f0.f1 (Ag l (m:Int)).f0.f2 t0 t1 t2)<0)=false:=decide_eq_false hb;have HBs:=AA.mk (show U4 l t0 t1 t2 m=false from e2);clear hb;have hS:∀ w':World,Below wr.heap.size wr w'->Below wr.heap.size wr w'/\w'.cell? (ad.add (m*14))=some (.string (Ag l (m:Int)).f0.f0)/\w'.cell? ⟨(ad.add (m*14)).block,(ad.add (m*14)).off+1,none⟩=some (.string (Ag l (m:Int)).f0.f1)/\w'.cell? ⟨(ad.add (m*14)).block,(ad.add (m*14)).off+2,none⟩=some (.string (Ag l (m:Int)).f0.f2)/\w'.cell? ⟨(ad.add (m*14)).block,(ad.add (m*14)).off+3,none⟩=some (.string (Ag l (m:Int)).f1.f0)/\w'.cell? ⟨(ad.add (m*14)).block,(ad.add (m*14)).off+4,none⟩=some (.string (Ag l (m:Int)).f1.f1)/\w'.cell? ⟨(ad.add (m*14)).block,(ad.add (m*14)).off+5,none⟩=some (.string (Ag l (m:Int)).f1.f2)/\w'.cell? ⟨(ad.add (m*14)).block,(ad.add (m*14)).off+6,none⟩=some (.string (Ag l (m:Int)).f1.f3)/\w'.cell? ⟨(ad.add (m*14)).block,(ad.add (m*14)).off+7,none⟩=some (.int .i64 (Ag l (m:Int)).f1.f4)/\w'.cell? ⟨(ad.add (m*14)).block,(ad.add (m*14)).off+8,none⟩=some (.int .i64 (Ag l (m:Int)).f1.f5)/\w'.cell? ⟨(ad.add (m*14)).block,(ad.add (m*14)).off+9,none⟩=some (.int .i64 (Ag l (m:Int)).f1.f6)/\w'.cell? ⟨(ad.add (m*14)).block,(ad.add (m*14)).off+10,none⟩=some (.bool (Ag l (m:Int)).f1.f7)/\w'.cell? ⟨(ad.add (m*14)).block,(ad.add (m*14)).off+11,none⟩=some (.bool (Ag l (m:Int)).f1.f8)/\w'.cell? ⟨(ad.add (m*14)).block,(ad.add (m*14)).off+12,none⟩=some (.bool (Ag l (m:Int)).f1.f9)/\w'.cell? ⟨(ad.add (m*14)).block,(ad.add (m*14)).off+13,none⟩=some (.int .i64 (Ag l (m:Int)).f1.f10)/\w'.cell? ⟨w.heap.size,0,none⟩=some (.string t0)/\w'.cell? ⟨w.heap.size,1,none⟩=some (.string t1)/\w'.cell? ⟨w.heap.size,2,none⟩=some (.string t2):=λw' hb=>⟨hb,keepCell hb h0,keepCell hb h1,keepCell hb h2,keepCell hb h3,keepCell hb h4,keepCell hb h5,keepCell hb h6,keepCell hb h7,keepCell hb h8,keepCell hb h9,keepCell hb h10,keepCell hb h11,keepCell hb h12,keepCell hb h13,keepCell hb y0,keepCell hb y1,keepCell hb y2⟩
    have hSB:=AA.mk hS;clear hS h0 h1 h2 h3 h4 h5 h6 h7 h8 h9 h10 h11 h12 h13 y0 y1 y2;go_wp2;go_region_held3 (λw'=>Below wr.heap.size wr w'/\w'.cell? (ad.add (m*14))=some (.string (Ag l (m:Int)).f0.f0)/\w'.cell? ⟨(ad.add (m*14)).block,(ad.add (m*14)).off+1,none⟩=some (.string (Ag l (m:Int)).f0.f1)/\w'.cell? ⟨(ad.add (m*14)).block,(ad.add (m*14)).off+2,none⟩=some (.string (Ag l (m:Int)).f0.f2)/\w'.cell? ⟨(ad.add (m*14)).block,(ad.add (m*14)).off+3,none⟩=some (.string (Ag l (m:Int)).f1.f0)/\w'.cell? ⟨(ad.add (m*14)).block,(ad.add (m*14)).off+4,none⟩=some (.string (Ag l (m:Int)).f1.f1)/\w'.cell? ⟨(ad.add (m*14)).block,(ad.add (m*14)).off+5,none⟩=some (.string (Ag l (m:Int)).f1.f2)/\w'.cell? ⟨(ad.add (m*14)).block,(ad.add (m*14)).off+6,none⟩=some (.string (Ag l (m:Int)).f1.f3)/\w'.cell? ⟨(ad.add (m*14)).block,(ad.add (m*14)).off+7,none⟩=some (.int .i64 (Ag l (m:Int)).f1.f4)/\w'.cell? ⟨(ad.add (m*14)).block,(ad.add (m*14)).off+8,none⟩=some (.int .i64 (Ag l (m:Int)).f1.f5)/\w'.cell? ⟨(ad.add (m*14)).block,(ad.add (m*14)).off+9,none⟩=some (.int .i64 (Ag l (m:Int)).f1.f6)/\w'.cell? ⟨(ad.add (m*14)).block,(ad.add (m*14)).off+10,none⟩=some (.bool (Ag l (m:Int)).f1.f7)/\w'.cell? ⟨(ad.add (m*14)).block,(ad.add (m*14)).off+11,none⟩=some (.bool (Ag l (m:Int)).f1.f8)/\w'.cell? ⟨(ad.add (m*14)).block,(ad.add (m*14)).off+12,none⟩=some (.bool (Ag l (m:Int)).f1.f9)/\w'.cell? ⟨(ad.add (m*14)).block,(ad.add (m*14)).off+13,none⟩=some (.int .i64 (Ag l (m:Int)).f1.f10)/\w'.cell? ⟨w.heap.size,0,none⟩=some (.string t0)/\w'.cell? ⟨w.heap.size,1,none⟩=some (.string t1)/\w'.cell? ⟨w.heap.size,2,none⟩=some (.string t2))
     ((refine hSB.out _ ?_;with_reducible repeat (first|exact And.left (by assumption)|exact below_undrew (And.left (by assumption))|exact AP (And.left (by assumption)) hb|exact Below.refl _ _|refine Bj ?_ _|refine CK ?_|refine Bw ?_ _)))
     (first|(go_at_call 107;refine (Ja _ _ _ _ _).mono ?_;rintro e w' ⟨rfl,hb⟩))
    have hb:=And.left ‹Below wr.heap.size wr _/\_›;go_wp2;go_roundw;case rel=>
     have hA:=HA.out;have hM:=HM1.out;cases n with
     |zero=>omega
     |succ n=>
      refine ⟨i,m,n,by omega,by omega,rfl,rfl,⟨by omega,?_⟩,⟨AP HB.out hb⟩,⟨DV HK.out hb⟩⟩;rw [<-hA.2,Re,if_pos (by omega), <-HM.out,if_neg (by rw [HBs.out];decide)]
    case measure=>
     have hM:=HM1.out;show ((m:Int).toNat) - ((i:Int)).toNat<(j:Int).toNat - (i:Int).toNat;omega
  ·have e1:decide ((i:Int)<(j:Int))=false:=decide_eq_false (by omega);have e1b:decide (i<j)=false:=decide_eq_false hlt;have hi:i=Rf l t0 t1 t2:=by
    have:=HA.out.2;rw [<-this];cases n with
    |zero=>rfl
    |succ n=>rw [Re,if_neg hlt]
   have HI:=AA.mk hi;by_cases hl:i<l.length
   ·have e2:decide ((i:Int)<(l.length:Int))=true:=decide_eq_true (by omega);have e2b:decide (i<l.length)=true:=decide_eq_true hl;obtain ⟨ad,rfl,h0,h1,h2,h3,h4,h5,h6,h7,h8,h9,h10,h11,h12,h13⟩:=NW (Kd.DW HR.out HB.out) (i:Int) (by omega) (by omega);have p1:=eq_true (show 0<=(i:Int) by omega);have q1:=eq_true (show (i:Int)<(l.length:Int) by omega);rw [Int.toNat_natCast] at h0 h1 h2 h3 h4 h5 h6 h7 h8 h9 h10 h11 h12 h13;have HH:=AA.mk (show Iz l t0 t1 t2=decide ((JF (Ag l (i:Int)).f0.f0 (Ag l (i:Int)).f0.f1 (Ag l (i:Int)).f0.f2 t0 t1 t2)=0) by unfold Iz OM;rw [<-hi,decide_eq_true hl,Bool.true_and]);clear hl hlt hi;have hS:∀ w':World,Below wr.heap.size wr w'->Below wr.heap.size wr w'/\w'.cell? (ad.add (i*14))=some (.string (Ag l (i:Int)).f0.f0)/\w'.cell? ⟨(ad.add (i*14)).block,(ad.add (i*14)).off+1,none⟩=some (.string (Ag l (i:Int)).f0.f1)/\w'.cell? ⟨(ad.add (i*14)).block,(ad.add (i*14)).off+2,none⟩=some (.string (Ag l (i:Int)).f0.f2)/\w'.cell? ⟨(ad.add (i*14)).block,(ad.add (i*14)).off+3,none⟩=some (.string (Ag l (i:Int)).f1.f0)/\w'.cell? ⟨(ad.add (i*14)).block,(ad.add (i*14)).off+4,none⟩=some (.string (Ag l (i:Int)).f1.f1)/\w'.cell? ⟨(ad.add (i*14)).block,(ad.add (i*14)).off+5,none⟩=some (.string (Ag l (i:Int)).f1.f2)/\w'.cell? ⟨(ad.add (i*14)).block,(ad.add (i*14)).off+6,none⟩=some (.string (Ag l (i:Int)).f1.f3)/\w'.cell? ⟨(ad.add (i*14)).block,(ad.add (i*14)).off+7,none⟩=some (.int .i64 (Ag l (i:Int)).f1.f4)/\w'.cell? ⟨(ad.add (i*14)).block,(ad.add (i*14)).off+8,none⟩=some (.int .i64 (Ag l (i:Int)).f1.f5)/\w'.cell? ⟨(ad.add (i*14)).block,(ad.add (i*14)).off+9,none⟩=some (.int .i64 (Ag l (i:Int)).f1.f6)/\w'.cell? ⟨(ad.add (i*14)).block,(ad.add (i*14)).off+10,none⟩=some (.bool (Ag l (i:Int)).f1.f7)/\w'.cell? ⟨(ad.add (i*14)).block,(ad.add (i*14)).off+11,none⟩=some (.bool (Ag l (i:Int)).f1.f8)/\w'.cell? ⟨(ad.add (i*14)).block,(ad.add (i*14)).off+12,none⟩=some (.bool (Ag l (i:Int)).f1.f9)/\w'.cell? ⟨(ad.add (i*14)).block,(ad.add (i*14)).off+13,none⟩=some (.int .i64 (Ag l (i:Int)).f1.f10)/\w'.cell? ⟨w.heap.size,0,none⟩=some (.string t0)/\w'.cell? ⟨w.heap.size,1,none⟩=some (.string t1)/\w'.cell? ⟨w.heap.size,2,none⟩=some (.string t2):=λw' hb=>⟨hb,keepCell hb h0,keepCell hb h1,keepCell hb h2,keepCell hb h3,keepCell hb h4,keepCell hb h5,keepCell hb h6,keepCell hb h7,keepCell hb h8,keepCell hb h9,keepCell hb h10,keepCell hb h11,keepCell hb h12,keepCell hb h13,keepCell hb y0,keepCell hb y1,keepCell hb y2⟩
    have hSB:=AA.mk hS;clear hS h0 h1 h2 h3 h4 h5 h6 h7 h8 h9 h10 h11 h12 h13 y0 y1 y2;go_wp2;go_region_held3 (λw'=>Below wr.heap.size wr w'/\w'.cell? (ad.add (i*14))=some (.string (Ag l (i:Int)).f0.f0)/\w'.cell? ⟨(ad.add (i*14)).block,(ad.add (i*14)).off+1,none⟩=some (.string (Ag l (i:Int)).f0.f1)/\w'.cell? ⟨(ad.add (i*14)).block,(ad.add (i*14)).off+2,none⟩=some (.string (Ag l (i:Int)).f0.f2)/\w'.cell? ⟨(ad.add (i*14)).block,(ad.add (i*14)).off+3,none⟩=some (.string (Ag l (i:Int)).f1.f0)/\w'.cell? ⟨(ad.add (i*14)).block,(ad.add (i*14)).off+4,none⟩=some (.string (Ag l (i:Int)).f1.f1)/\w'.cell? ⟨(ad.add (i*14)).block,(ad.add (i*14)).off+5,none⟩=some (.string (Ag l (i:Int)).f1.f2)/\w'.cell? ⟨(ad.add (i*14)).block,(ad.add (i*14)).off+6,none⟩=some (.string (Ag l (i:Int)).f1.f3)/\w'.cell? ⟨(ad.add (i*14)).block,(ad.add (i*14)).off+7,none⟩=some (.int .i64 (Ag l (i:Int)).f1.f4)/\w'.cell? ⟨(ad.add (i*14)).block,(ad.add (i*14)).off+8,none⟩=some (.int .i64 (Ag l (i:Int)).f1.f5)/\w'.cell? ⟨(ad.add (i*14)).block,(ad.add (i*14)).off+9,none⟩=some (.int .i64 (Ag l (i:Int)).f1.f6)/\w'.cell? ⟨(ad.add (i*14)).block,(ad.add (i*14)).off+10,none⟩=some (.bool (Ag l (i:Int)).f1.f7)/\w'.cell? ⟨(ad.add (i*14)).block,(ad.add (i*14)).off+11,none⟩=some (.bool (Ag l (i:Int)).f1.f8)/\w'.cell? ⟨(ad.add (i*14)).block,(ad.add (i*14)).off+12,none⟩=some (.bool (Ag l (i:Int)).f1.f9)/\w'.cell? ⟨(ad.add (i*14)).block,(ad.add (i*14)).off+13,none⟩=some (.int .i64 (Ag l (i:Int)).f1.f10)/\w'.cell? ⟨w.heap.size,0,none⟩=some (.string t0)/\w'.cell? ⟨w.heap.size,1,none⟩=some (.string t1)/\w'.cell? ⟨w.heap.size,2,none⟩=some (.string t2))
     ((refine hSB.out _ ?_;with_reducible repeat (first|exact And.left (by assumption)|exact below_undrew (And.left (by assumption))|exact AP (And.left (by assumption)) hb|exact Below.refl _ _|refine Bj ?_ _|refine CK ?_|refine Bw ?_ _)))
     (first|(go_at_call 107;refine (Ja _ _ _ _ _).mono ?_;rintro e w' ⟨rfl,hb⟩))
    have hb:=And.left ‹Below wr.heap.size wr _/\_›;go_wp2;go_ret2;refine ⟨?_,AP HB.out hb⟩;rw [HH.out, <-HI.out];first|rfl|(congr;done)|(simp;done)
   ·have e2:decide ((i:Int)<(l.length:Int))=false:=decide_eq_false (by omega);have e2b:decide (i<l.length)=false:=decide_eq_false hl;have HH:=AA.mk (show Iz l t0 t1 t2=false by unfold Iz;rw [<-hi,decide_eq_false hl,Bool.false_and]);clear hl hlt hi;go_wp2;go_quiet (fail);go_wp2;go_ret2;refine ⟨?_,Bw HB.out _⟩;rw [HH.out, <-HI.out];rfl
def Cx.f (l:List Cj) (t0 t1 t2:ByteArray):Option (Int×Bool):=if l.length<=4611686018427387903 then some ((Rf l t0 t1 t2:Int),Iz l t0 t1 t2) else none
set_option maxHeartbeats 4000000 in
set_option maxRecDepth 100000 in
theorem Cx.calls (A0:Option Addr) (c0:Nat) (l:List Cj) (t0 t1 t2:ByteArray) (r1:Int) (r2:Bool) (w:World) (hr:Kd.C Ex w A0 l.length l) (hc:l.length<=c0) (h:Cx.f l t0 t1 t2=some (r1,r2)):
 Calls Tryz.prog 70 #[.agg #[.slice A0 l.length c0], .agg #[.string t0, .string t1, .string t2]] w λe w'=>e= .returned (.tuple #[.int .i64 r1, .bool r2])/\Below w.heap.size w w':=by
 unfold Cx.f at h;by_cases hn:l.length<=4611686018427387903
 ·rw [if_pos hn] at h;simp only [Option.some.injEq,Prod.mk.injEq] at h;obtain ⟨rfl,rfl⟩:=h;have hu27:=Tryz.underlying25;have HR:=AA.mk hr;have HC:=AA.mk hc;have HN:=AA.mk hn;clear hr hc hn;go_enter Tryz.func70,Tryz.ntmps70;go_wp2_with (go_at_call 106;refine (MM _ _ l _ _ _ _ (Kd.CZ (Kd.CZ HR.out _) _) HC.out HN.out).mono ?_;rintro e w2 ⟨rfl,hb⟩);go_ret2;refine ⟨rfl,AP ?_ hb⟩;repeat (first|exact Below.refl _ _|apply Bj)
 ·rw [if_neg hn] at h;exact absurd h (by simp)
end Go.Proofs.YtikggnalmidlhaaGreatDoor.Print
end
section
namespace Go.Proofs.YtikggnalmidlhaaGreatDoor.Print
open Go RowKit ChangeShapes WideShapes Deep AR Aa Ad
set_option linter.unusedVariables false
section
variable {H:Type} {enc:TypeId×Value->H} {P:Program} {w:World} {base:Nat} {spare:Nat->Bool} {held:Bool}
theorem MN {t e:TypeId} {fs:Array Field} {fuel:Nat} {cs:List Value} {x:DataW H×List MemPlace} (ht:P.underlying t=some (.slice e)) (he:P.underlying e=some (.struct fs))
 (hone:oneCellFields P fs=true) (hC:P.cellsOf e=fs.size) (h:DataW.trod enc P w base spare held fuel t cs=some x):
 cs=[.slice none 0 0]\/∃ (a:Addr) (len cap:Nat),cs=[.slice (some a) len cap]/\len<=cap/\cap<=maxLen/\
  ∀ i,i<len->∀ (j:Nat) (f:Field),fs[j]? =some f->∃ (v:Value) (y:DataW H×List MemPlace) (n:Nat),w.cell? (a.add (i*fs.size+j))=some v/\DataW.trod enc P w base spare held n f.type [v]=some y:=by
 rcases open_slice ht h with h0|⟨a,len,cap,m,n,D,Pl,hcs,hb,hl,hm,hmm,hx,hi⟩
 ·exact .inl h0.1
 ·refine .inr ⟨a,len,cap,hcs,hl,hm,λi hin j f hj=>?_⟩;obtain ⟨cs',hc,ht'⟩:=hi i (by rw [hmm];split<;>omega);rw [hC] at hc;obtain ⟨ys,n',hn',hy,hlen,hyl,hf⟩:=DataW.trod_struct he ht';obtain ⟨_,hcl,hat⟩:=World.cells?_some hc;obtain ⟨ho,hk⟩:=hone_of hone j f hj;have hjl:j<fs.size:=(Array.getElem?_eq_some_iff.1 hj).1;have hcell:=hat j hjl;have hv:cs'[j]? =some (cs'[j]'(by omega)):=List.getElem?_eq_getElem (by omega);have h1:=hf j f hj;rw [ho,hk] at h1;have hone':(cs'.drop j).take 1=[cs'[j]'(by omega)]:=by
   rw [List.drop_eq_getElem_cons (by omega)];rfl
  rw [hone'] at h1;have hys:ys[j]? =some (ys[j]'(by omega)):=List.getElem?_eq_getElem (by omega);refine ⟨_,_,n',?_,h1.trans hys⟩;rw [<-Go.Deep.add_add,hcell,hv]
end
theorem I1 {α:Type} {Q:Nat->α->Prop}:∀ (n:Nat),(∀ i,i<n->∃ x,Q i x)->∃ l:List α,l.length=n/\∀ j x,l[j]? =some x->Q j x
 |0,_=>⟨[],rfl,λj x h=>by simp at h⟩
 |n+1,h=>by
  obtain ⟨l,hl,hq⟩:=I1 n (λi hi=>h i (by omega));obtain ⟨x,hx⟩:=h n (by omega);refine ⟨l++[x],by simp [hl],λj y hj=>?_⟩;rcases Nat.lt_or_ge j l.length with hlt|hge
  ·rw [List.getElem?_append_left hlt] at hj;exact hq j y hj
  ·rw [List.getElem?_append_right hge] at hj;have h0:j - l.length=0:=by
    cases hz:j - l.length with
    |zero=>rfl
    |succ m=>rw [hz] at hj;simp at hj
   rw [h0] at hj;obtain rfl:x=y:=by simpa using hj
   have:j=n:=by omega
   subst this;exact hx
set_option maxRecDepth 100000 in
theorem O7 {H:Type} {enc:TypeId×Value->H} {w:World} {base:Nat} {spare:Nat->Bool} {held:Bool} {r:Reach} {b0:Nat} {v:Value} {d:DataW H} {ps:List MemPlace}
 (hv:Value.okWide Tryz.prog w r b0 22 v) (h:DataW.Trod enc Tryz.prog w base spare held 22 v d ps):
 ∃ (a:Option Addr) (c:Nat) (l:List CU),v= .slice a l.length c/\Kd.C Fu w a l.length l/\l.length<=c/\∀ x∈l,x.f0.size<=9223372036854775807/\x.f1.size<=9223372036854775807/\x.f2.size<=9223372036854775807/\x.f3.size<=9223372036854775807/\(Lit.int .i64 x.f4).wf=true/\(Lit.int .i64 x.f5).wf=true/\(Lit.int .i64 x.f6).wf=true/\(Lit.int .i64 x.f10).wf=true:=by
 have hu:=Tryz.underlying22;have he:=Tryz.underlying53;have hi:=Tryz.underlying3;have hs:=Tryz.underlying9;have hb:=Tryz.underlying4;obtain ⟨a,len,cap,rfl⟩:=okWide_slice hu hv;obtain ⟨fuel,hf⟩:=h;rcases MN hu he (by kernel_rfl) (by kernel_rfl) hf with hcs|⟨x,len',cap',hcs,hl,hm,hall⟩
 ·simp [Value.cells] at hcs;obtain ⟨rfl,rfl,rfl⟩:=hcs;exact ⟨none,0,[],rfl,⟨rfl,by simp,λh=>by simp at h⟩,Nat.le_refl _,λx hx=>by simp at hx⟩
 ·simp [Value.cells] at hcs;obtain ⟨rfl,rfl,rfl⟩:=hcs;have key:∀ i,i<len->∃ y:CU,(w.cell? (x.add (i*11+0))=some (.string y.f0)/\w.cell? (x.add (i*11+1))=some (.string y.f1)/\w.cell? (x.add (i*11+2))=some (.string y.f2)/\w.cell? (x.add (i*11+3))=some (.string y.f3)/\w.cell? (x.add (i*11+4))=some (.int .i64 y.f4)/\w.cell? (x.add (i*11+5))=some (.int .i64 y.f5)/\w.cell? (x.add (i*11+6))=some (.int .i64 y.f6)/\w.cell? (x.add (i*11+7))=some (.bool y.f7)/\w.cell? (x.add (i*11+8))=some (.bool y.f8)/\w.cell? (x.add (i*11+9))=some (.bool y.f9)/\w.cell? (x.add (i*11+10))=some (.int .i64 y.f10))/\(y.f0.size<=9223372036854775807/\y.f1.size<=9223372036854775807/\y.f2.size<=9223372036854775807/\y.f3.size<=9223372036854775807/\(Lit.int .i64 y.f4).wf=true/\(Lit.int .i64 y.f5).wf=true/\(Lit.int .i64 y.f6).wf=true/\(Lit.int .i64 y.f10).wf=true):=by
   intro i hlt;obtain ⟨v0,y0,n0,c0,t0⟩:=hall i hlt 0 _ rfl;obtain ⟨v1,y1,n1,c1,t1⟩:=hall i hlt 1 _ rfl;obtain ⟨v2,y2,n2,c2,t2⟩:=hall i hlt 2 _ rfl;obtain ⟨v3,y3,n3,c3,t3⟩:=hall i hlt 3 _ rfl;obtain ⟨v4,y4,n4,c4,t4⟩:=hall i hlt 4 _ rfl;obtain ⟨v5,y5,n5,c5,t5⟩:=hall i hlt 5 _ rfl;obtain ⟨v6,y6,n6,c6,t6⟩:=hall i hlt 6 _ rfl;obtain ⟨v7,y7,n7,c7,t7⟩:=hall i hlt 7 _ rfl;obtain ⟨v8,y8,n8,c8,t8⟩:=hall i hlt 8 _ rfl;obtain ⟨v9,y9,n9,c9,t9⟩:=hall i hlt 9 _ rfl;obtain ⟨v10,y10,n10,c10,t10⟩:=hall i hlt 10 _ rfl;obtain ⟨m0,e0,_,w0⟩:=DataW.trod_string hs t0;obtain ⟨m1,e1,_,w1⟩:=DataW.trod_string hs t1;obtain ⟨m2,e2,_,w2⟩:=DataW.trod_string hs t2;obtain ⟨m3,e3,_,w3⟩:=DataW.trod_string hs t3;obtain ⟨m4,e4,_,w4⟩:=DataW.trod_int hi t4;obtain ⟨m5,e5,_,w5⟩:=DataW.trod_int hi t5;obtain ⟨m6,e6,_,w6⟩:=DataW.trod_int hi t6;obtain ⟨m7,e7,_⟩:=DataW.trod_bool hb t7;obtain ⟨m8,e8,_⟩:=DataW.trod_bool hb t8;obtain ⟨m9,e9,_⟩:=DataW.trod_bool hb t9;obtain ⟨m10,e10,_,w10⟩:=DataW.trod_int hi t10;obtain rfl:=(List.cons.inj e0).1;obtain rfl:=(List.cons.inj e1).1;obtain rfl:=(List.cons.inj e2).1;obtain rfl:=(List.cons.inj e3).1;obtain rfl:=(List.cons.inj e4).1;obtain rfl:=(List.cons.inj e5).1;obtain rfl:=(List.cons.inj e6).1;obtain rfl:=(List.cons.inj e7).1;obtain rfl:=(List.cons.inj e8).1;obtain rfl:=(List.cons.inj e9).1;obtain rfl:=(List.cons.inj e10).1;exact ⟨⟨m0,m1,m2,m3,m4,m5,m6,m7,m8,m9,m10⟩,⟨c0,c1,c2,c3,c4,c5,c6,c7,c8,c9,c10⟩,Nat.le_trans w0 (by unfold maxLen;omega),Nat.le_trans w1 (by unfold maxLen;omega),Nat.le_trans w2 (by unfold maxLen;omega),Nat.le_trans w3 (by unfold maxLen;omega),w4,w5,w6,w10⟩
  obtain ⟨l,hlen,hq⟩:=I1 len key;subst hlen;refine ⟨some x,cap,l,rfl,⟨rfl,by unfold maxLen at hm;omega,λ_=>⟨x,rfl,λj p hj=>⟨_,rfl,Tg w p,λi u hu=>?_⟩⟩⟩,hl,λy hy=>?_⟩
  ·obtain ⟨⟨h0,h1,h2,h3,h4,h5,h6,h7,h8,h9,h10⟩,_⟩:=hq j p hj
   match i,hu with
   |0,hu=>obtain rfl:=Option.some.inj hu;exact h0
   |1,hu=>obtain rfl:=Option.some.inj hu;exact h1
   |2,hu=>obtain rfl:=Option.some.inj hu;exact h2
   |3,hu=>obtain rfl:=Option.some.inj hu;exact h3
   |4,hu=>obtain rfl:=Option.some.inj hu;exact h4
   |5,hu=>obtain rfl:=Option.some.inj hu;exact h5
   |6,hu=>obtain rfl:=Option.some.inj hu;exact h6
   |7,hu=>obtain rfl:=Option.some.inj hu;exact h7
   |8,hu=>obtain rfl:=Option.some.inj hu;exact h8
   |9,hu=>obtain rfl:=Option.some.inj hu;exact h9
   |10,hu=>obtain rfl:=Option.some.inj hu;exact h10
   |i+11,hu=>simp at hu
  ·obtain ⟨j,hj⟩:=List.getElem?_of_mem hy;exact (hq j y hj).2
end Go.Proofs.YtikggnalmidlhaaGreatDoor.Print
end
section
namespace Go.Proofs.YtikggnalmidlhaaGreatDoor.Print
open RowKit AR Aa Ad
attribute [local go_sem] BM BN Bo Bp BC BD BO BP
set_option linter.unusedVariables false
set_option linter.unusedSimpArgs false
theorem Uj (d:Nat) (w:World) (x0 y0:ByteArray) (x1 y1:ByteArray) (x2 y2:ByteArray) (x3 y3:ByteArray) (x4 y4:Int) (x5 y5:Int) (x6 y6:Int) (x7 y7:Bool) (x8 y8:Bool) (x9 y9:Bool) (x10 y10:Int):
 (Op.equalIn (d+2) 53 (.agg #[.string x0, .string x1, .string x2, .string x3, .int .i64 x4, .int .i64 x5, .int .i64 x6, .bool x7, .bool x8, .bool x9, .int .i64 x10]) (.agg #[.string y0, .string y1, .string y2, .string y3, .int .i64 y4, .int .i64 y5, .int .i64 y6, .bool y7, .bool y8, .bool y9, .int .i64 y10])).run Tryz.prog w= .ok (x0.toList==y0.toList&&(x1.toList==y1.toList&&(x2.toList==y2.toList&&(x3.toList==y3.toList&&(x4==y4&&(x5==y5&&(x6==y6&&(x7==y7&&(x8==y8&&(x9==y9&&(x10==y10))))))))))) w:=by
 refine Qb Tryz.underlying53 (by kernel_rfl) ?_;refine D9 (by rfl) (by go_simp;rfl) (by go_simp;rfl) (by go_simp) ?_;refine D9 (by rfl) (by go_simp;rfl) (by go_simp;rfl) (by go_simp) ?_;refine D9 (by rfl) (by go_simp;rfl) (by go_simp;rfl) (by go_simp) ?_;refine D9 (by rfl) (by go_simp;rfl) (by go_simp;rfl) (by go_simp) ?_;refine D9 (by rfl) (by go_simp;rfl) (by go_simp;rfl) (by go_simp) ?_;refine D9 (by rfl) (by go_simp;rfl) (by go_simp;rfl) (by go_simp) ?_;refine D9 (by rfl) (by go_simp;rfl) (by go_simp;rfl) (by go_simp) ?_;refine D9 (by rfl) (by go_simp;rfl) (by go_simp;rfl) (by go_simp) ?_;refine D9 (by rfl) (by go_simp;rfl) (by go_simp;rfl) (by go_simp) ?_;refine D9 (by rfl) (by go_simp;rfl) (by go_simp;rfl) (by go_simp) ?_;exact Mg (by rfl) (by go_simp;rfl) (by go_simp;rfl) (by go_simp)
end Go.Proofs.YtikggnalmidlhaaGreatDoor.Print
end
section
namespace Go.Proofs.YtikggnalmidlhaaGreatDoor.Print
open RowKit AR Aa Ad
attribute [local go_sem] BM BN Bo Bp BC BD BO BP
set_option linter.unusedVariables false
set_option linter.unusedSimpArgs false
def De.f (l0_0:List (Cj)):Option (Int):=some (l0_0.length:Int)
set_option maxHeartbeats 8000000 in
set_option maxRecDepth 100000 in
theorem De.calls (A0_0:Option Addr) (c0_0:Nat) (l0_0:List (Cj)) (r:Int) (w:World) (hr0_0:Kd.C Ex w A0_0 l0_0.length l0_0) (hc0_0:l0_0.length<=c0_0) (h:De.f l0_0=some r):
 Calls Tryz.prog 38 #[.agg #[.slice A0_0 l0_0.length c0_0]] w λe w'=>e= .returned (.int .i64 r)/\Below w.heap.size w w':=by
 have hu25:=Tryz.underlying25;have HR0_0:=AA.mk hr0_0;have HC0_0:=AA.mk hc0_0;clear hr0_0 hc0_0;have HB:=AA.mk (Below.refl w.heap.size w);have H:(some (l0_0.length:Int))=some r:=h;clear h;obtain rfl:=Option.some.inj H;go_enter Tryz.func38,Tryz.ntmps38;go_wp2_with (first|(refine Dk (N:=1) (cs:=#[.slice A0_0 l0_0.length c0_0]) (t:=25) (λgb176 hg w2 hbox hb=>?_);have BK176:=AA.mk (hbox);have GW176:AA (w.heap.size<=gb176):=Dp hg xb;have GE176:AA (w.heap.size<=gb176):=Dp hg xb;replace HB:=AA.mk (AP xb hb);clear hb hbox hg;have hcz3_0:w2.cell? ⟨gb176,0,none⟩=some (.slice A0_0 l0_0.length c0_0):=(AL BK176.out 0).trans rfl;have hfz3_0:=AX BK176.out 0));go_ret;exact ⟨xe,xb⟩
end Go.Proofs.YtikggnalmidlhaaGreatDoor.Print
end
section
namespace Go.Proofs.YtikggnalmidlhaaGreatDoor.Print
open RowKit AR Aa Ad
attribute [local go_sem] BM BN Bo Bp BC BD BO BP
set_option linter.unusedVariables false
set_option linter.unusedSimpArgs false
def EA.f (a0:Bool):Option (ByteArray):=if a0=true then (some (⟨#[84,82,85,69]⟩:ByteArray)) else (some (⟨#[70,65,76,83,69]⟩:ByteArray))
set_option maxHeartbeats 8000000 in
set_option maxRecDepth 100000 in
theorem EA.calls (a0:Bool) (r:ByteArray) (w:World) (h:EA.f a0=some r):
 Calls Tryz.prog 42 #[.bool a0] w λe w'=>e= .returned (.string r)/\Ap w w':=by
 have H:(if a0=true then (some (⟨#[84,82,85,69]⟩:ByteArray)) else (some (⟨#[70,65,76,83,69]⟩:ByteArray)))=some r:=h;clear h;by_cases c2:a0=true
 ·subst c2;rw [if_pos rfl] at H;obtain rfl:=Option.some.inj H;go_enter Tryz.func42,Tryz.ntmps42;go_wp2;go_ret;exact ⟨xq,xd⟩
 ·replace c2:=Bool.eq_false_iff.mpr c2;subst c2;have H1:(some (⟨#[70,65,76,83,69]⟩:ByteArray))=some r:=by rw [if_neg (show ¬(false=true) by decide)] at H;exact H
  clear H;have H:=H1;clear H1;obtain rfl:=Option.some.inj H;go_enter Tryz.func42,Tryz.ntmps42;go_wp2;go_ret;exact ⟨xq,xd⟩
end Go.Proofs.YtikggnalmidlhaaGreatDoor.Print
end
