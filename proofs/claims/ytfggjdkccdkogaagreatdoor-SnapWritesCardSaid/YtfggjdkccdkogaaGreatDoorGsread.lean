/- snap.Read, walked by hand. -/
import Derived.Test.YtfggjdkccdkogaaGreatDoorGown
import Derived.Test.YtfggjdkccdkogaaGreatDoorGread
namespace Go.Proofs.YtfggjdkccdkogaaGreatDoor.Print
open RowKit Ac Aq Aw
set_option linter.unusedVariables false
set_option linter.unusedSimpArgs false
def JW (k:Nat) (s:ByteArray) (no v:Int):Option (Md×ByteArray×Int):=
 (Cw.f k s no 64).bind λa=>(Cw.f k a.2.1 a.2.2 64).bind λb=>(Cw.f k b.2.1 b.2.2 64).bind λc=>(Cw.f k c.2.1 c.2.2 128).bind λd=>
 (Dt.f d.2.1 d.2.2).bind λf=>(Bl.f k f.2.1 f.2.2 253402300799).bind λx=>(Bl.f k x.2.1 x.2.2 253402300799).bind λy=>
 (if 1<v then (Bl.f k y.2.1 y.2.2 253402300799).map λz=>(z.1,Ee f.1 4,z.2.1,z.2.2) else some (y.1,true,y.2.1,y.2.2)).bind λz=>
 (if 2<v then (Dt.f z.2.2.1 z.2.2.2).map λq=>(wrap64 q.1,q.2.1,q.2.2) else some (0,z.2.2.1,z.2.2.2)).bind λq=>
 (FM.f v a.1 b.1 c.1 d.1 (Ee f.1 1) (Ee f.1 2) x.1 y.1 z.2.1 z.1).bind λfl=>
 (if f.1=fl then (Aj.f k a.1 b.1 c.1 d.1 y.1 z.1 x.1 z.2.1 (Ee f.1 1) (Ee f.1 2) q.1).bind λok=>Bp.f q.2.1 q.2.2 (!ok) 224 else Bp.f q.2.1 q.2.2 true 224).map λe=>
 (⟨a.1,b.1,c.1,d.1,y.1,z.1,x.1,z.2.1,Ee f.1 1,Ee f.1 2,q.1⟩,e.1,e.2)
section
variable {w W:World} {g k:Nat} {L bs bs':Bs} {s s':ByteArray} {no no' v:Int}
theorem ZY {c:Md} (S:AA (St w W ((g,Hg s no,79)::L)):=by with_reducible assumption) (F:AA (JW k s no v=some (c,s',no')):=by with_reducible assumption) (hG:AA (D8 w):=by with_reducible assumption):
 Calls Tryz.prog 38 #[.pointer (some ⟨g,0,none⟩), .int .i64 v] W λe W'=>e= .returned (.agg (Pn c))/\AA (St w W' ((g,Hg s' no',79)::L)):=by
 have F:=F.out;unfold JW at F;obtain ⟨⟨d,s1,n1⟩,P1,F⟩:=Option.bind_eq_some_iff.1 F;obtain ⟨⟨p,s2,n2⟩,P2,F⟩:=Option.bind_eq_some_iff.1 F;obtain ⟨⟨nm,s3,n3⟩,P3,F⟩:=Option.bind_eq_some_iff.1 F;obtain ⟨⟨vl,s4,n4⟩,P4,F⟩:=Option.bind_eq_some_iff.1 F;obtain ⟨⟨f,s5,n5⟩,O1,F⟩:=Option.bind_eq_some_iff.1 F;obtain ⟨⟨ex,s6,n6⟩,N1,F⟩:=Option.bind_eq_some_iff.1 F;obtain ⟨⟨cr,s7,n7⟩,N2,F⟩:=Option.bind_eq_some_iff.1 F;obtain ⟨⟨ac,ho,s8,n8⟩,N3,F⟩:=Option.bind_eq_some_iff.1 F;obtain ⟨⟨ss,s9,n9⟩,O2,F⟩:=Option.bind_eq_some_iff.1 F;obtain ⟨fl,FL,F⟩:=Option.bind_eq_some_iff.1 F;obtain ⟨⟨s10,n10⟩,R,E⟩:=Option.map_eq_some_iff.1 F;simp only at P1 P2 P3 P4 O1 N1 N2 N3 O2 FL R;simp only [Prod.mk.injEq] at E;obtain ⟨rfl,rfl,rfl⟩:=E;have M3:1<v/\ho=Ee f 4/\Bl.f k s7 n7 253402300799=some (ac,s8,n8)\/v<=1/\ho=true/\ac=cr/\s8=s7/\n8=n7:=by
  by_cases h:1<v
  ·rw [if_pos h] at N3;obtain ⟨⟨z1,z2,z3⟩,Z,e⟩:=Option.map_eq_some_iff.1 N3;simp only [Prod.mk.injEq] at e;obtain ⟨rfl,rfl,rfl,rfl⟩:=e;exact .inl ⟨h,rfl,Z⟩
  ·rw [if_neg h] at N3;simp only [Option.some.injEq,Prod.mk.injEq] at N3;obtain ⟨rfl,rfl,rfl,rfl⟩:=N3;exact .inr ⟨by omega,rfl,rfl,rfl,rfl⟩
 have M2:2<v/\(∃ si,Dt.f s8 n8=some (si,s9,n9)/\ss=wrap64 si)\/v<=2/\ss=0/\s9=s8/\n9=n8:=by
  by_cases h:2<v
  ·rw [if_pos h] at O2;obtain ⟨⟨z1,z2,z3⟩,Z,e⟩:=Option.map_eq_some_iff.1 O2;simp only [Prod.mk.injEq] at e;obtain ⟨rfl,rfl,rfl⟩:=e;exact .inl ⟨h,z1,Z,rfl⟩
  ·rw [if_neg h] at O2;simp only [Option.some.injEq,Prod.mk.injEq] at O2;obtain ⟨rfl,rfl,rfl⟩:=O2;exact .inr ⟨by omega,rfl,rfl,rfl⟩
 by_cases hf:f=fl
 ·rw [if_pos hf] at R;obtain ⟨ok,R1,R2⟩:=Option.bind_eq_some_iff.1 R;exact R3 S hG ⟨P1⟩ ⟨P2⟩ ⟨P3⟩ ⟨P4⟩ ⟨O1⟩ ⟨N1⟩ ⟨N2⟩ ⟨M3⟩ ⟨M2⟩ ⟨FL⟩ ⟨.inl ⟨hf,R1,R2⟩⟩
 ·rw [if_neg hf] at R;exact R3 (ok:=true) S hG ⟨P1⟩ ⟨P2⟩ ⟨P3⟩ ⟨P4⟩ ⟨O1⟩ ⟨N1⟩ ⟨N2⟩ ⟨M3⟩ ⟨M2⟩ ⟨FL⟩ ⟨.inr ⟨hf,R⟩⟩
end
def JX (out:List Md) (c:Md) (s:ByteArray) (no:Int):Option (ByteArray×Int):=if 0<out.length then Bp.f s no (decide (0<=LG (AB out ((out.length:Int) - 1)).f0 (AB out ((out.length:Int) - 1)).f1 (AB out ((out.length:Int) - 1)).f2 c.f0 c.f1 c.f2)) 224 else some (s,no)
def Fz (k:Nat) (v:Int):Nat->ByteArray->Int->List Md->Option (List Md×ByteArray×Int)
 |0,s,no,out=>some (out,s,no)
 |m+1,s,no,out=>(JW k s no v).bind λr=>(JX out r.1 r.2.1 r.2.2).bind λq=>if q.2=0 then Fz k v m q.1 q.2 (out++[r.1]) else some (out++[r.1],q.1,q.2)
def Je (k:Nat) (s:ByteArray):Option (Int×List Md×Int):=
 (Bl.f k (s.extract 3 (s.size - 4)) 0 60).bind λn=>if 0<=n.1/\n.1<=60 then (Fz k (wrap64 (bt s 2)) n.1.toNat n.2.1 n.2.2 []).bind λr=>(Dy.f k r.1).bind λj=>
  (Bp.f r.2.1 r.2.2 (!(r.2.1.toList==([]:List UInt8))||j.2 != 0) 224).bind λe=>if e.2=0 then some (wrap64 (bt s 2),r.1,0) else some (0,[],e.2) else none
def Ck.f (k:Nat) (s:ByteArray):Option (Int×List Md×Int):=
 if 1000000000<s.size then none else if s.size<8 then some (0,[],220) else if (s.extract 0 2).toList=([67,74]:List UInt8) then (if bt s 2<1\/3<bt s 2 then some (0,[],222) else (EK.f s).bind λok=>if ok=true then Je k s else some (0,[],223)) else some (0,[],221)
theorem Py {s s':ByteArray} {no no' no2:Int} {is:Bool} (h:Bp.f s no is no2=some (s',no')):Bp.f s' no' is no2=some (s',no'):=by
 unfold Bp.f at h⊢
 cases is
 ·rw [if_neg (by decide)] at h⊢
 ·rw [if_pos rfl] at h⊢
  split at h
  ·simp only [Option.some.injEq,Prod.mk.injEq] at h;obtain ⟨rfl,rfl⟩:=h;split<;>rfl
  ·simp only [Option.some.injEq,Prod.mk.injEq] at h;obtain ⟨rfl,rfl⟩:=h;rw [if_neg (by assumption)]
def Two (w W:World) (A B:Bs):Prop:=St w W A\/St w W B
section
variable {w W W':World} {A B L:Bs} {b g q:Nat} {cs:Array Value} {t:TypeId} {s s':ByteArray} {no no' no2:Int} {is:Bool} {xs:List Md} {ad:Addr} {cc:Nat}
theorem Two.below (h:Two w W A B) (hb:Below W.heap.size W W'):Two w W' A B:=h.imp (λh=>(St.below ⟨h⟩ hb).out) λh=>(St.below ⟨h⟩ hb).out
theorem Two.Ua {n:Nat} (h:Two w (W.drewN n) A B):Two w W A B:=h.imp (λh=>⟨⟨h.b.os,h.b.tape,h.b.output,h.b.size,h.b.block⟩,h.x,h.n⟩) λh=>⟨⟨h.b.os,h.b.tape,h.b.output,h.b.size,h.b.block⟩,h.x,h.n⟩
theorem Two.drewN {n:Nat} (h:Two w W A B):Two w (W.drewN n) A B:=h.below (Ce (Below.refl _ _) _)
theorem Two.drew (h:Two w W A B):Two w W.drew A B:=h.below (Bb (Below.refl _ _))
theorem Two.fails (h:Two w W ((b,cs,t)::(g,Hg s no,79)::L) ((b,cs,t)::(g,Hg s' no',79)::L)) (F:AA (Bp.f s no is no2=some (s',no')):=by with_reducible assumption):
 Calls Tryz.prog 39 #[.pointer (some ⟨g,0,none⟩), .bool is, .int .i64 no2] W λe W'=>e= .returned (.tuple #[])/\AA (St w W' ((b,cs,t)::(g,Hg s' no',79)::L)):=by
 rcases h with h|h
 ·exact Jd ⟨h⟩ (.tail .head) F
 ·exact Jd ⟨h⟩ (.tail .head) ⟨Py F.out⟩
theorem Ub (R:Gm w L (.slice (some ad) xs.length cc) xs) (h:∀ p∈L,W.heap[p.1]? =some (.cells p.2.1 p.2.2 (0,0))) (hq:q<xs.length):W.cell? (ad.add (q*11))=some (.string (AB xs (q:Int)).f0)/\W.cell? ⟨(ad.add (q*11)).block,(ad.add (q*11)).off+1,none⟩=some (.string (AB xs (q:Int)).f1)/\W.cell? ⟨(ad.add (q*11)).block,(ad.add (q*11)).off+2,none⟩=some (.string (AB xs (q:Int)).f2)/\W.cell? ⟨(ad.add (q*11)).block,(ad.add (q*11)).off+3,none⟩=some (.string (AB xs (q:Int)).f3)/\W.cell? ⟨(ad.add (q*11)).block,(ad.add (q*11)).off+4,none⟩=some (.int .i64 (AB xs (q:Int)).f4)/\W.cell? ⟨(ad.add (q*11)).block,(ad.add (q*11)).off+5,none⟩=some (.int .i64 (AB xs (q:Int)).f5)/\W.cell? ⟨(ad.add (q*11)).block,(ad.add (q*11)).off+6,none⟩=some (.int .i64 (AB xs (q:Int)).f6)/\W.cell? ⟨(ad.add (q*11)).block,(ad.add (q*11)).off+7,none⟩=some (.bool (AB xs (q:Int)).f7)/\W.cell? ⟨(ad.add (q*11)).block,(ad.add (q*11)).off+8,none⟩=some (.bool (AB xs (q:Int)).f8)/\W.cell? ⟨(ad.add (q*11)).block,(ad.add (q*11)).off+9,none⟩=some (.bool (AB xs (q:Int)).f9)/\W.cell? ⟨(ad.add (q*11)).block,(ad.add (q*11)).off+10,none⟩=some (.int .i64 (AB xs (q:Int)).f10):=by
 obtain ⟨ad',e,h⟩:=Dw (Kd.Ew (Kd.Y4 (base':=0) (R W h))).2.2 (q:Int) (by omega) (by omega);cases e;rw [Int.toNat_natCast] at h;exact h
theorem Two.cells {x:Md} (h:Two w W ((b,Pn x,t)::(g,Hg s no,79)::L) ((b,Pn x,t)::(g,Hg s' no',79)::L)):(∀ p∈L,W.heap[p.1]? =some (.cells p.2.1 p.2.2 (0,0)))/\W.cell? ⟨b,0,none⟩=some (.string x.f0)/\W.cell? ⟨b,1,none⟩=some (.string x.f1)/\W.cell? ⟨b,2,none⟩=some (.string x.f2)/\W.cell? ⟨b,3,none⟩=some (.string x.f3)/\W.cell? ⟨b,4,none⟩=some (.int .i64 x.f4)/\W.cell? ⟨b,5,none⟩=some (.int .i64 x.f5)/\W.cell? ⟨b,6,none⟩=some (.int .i64 x.f6)/\W.cell? ⟨b,7,none⟩=some (.bool x.f7)/\W.cell? ⟨b,8,none⟩=some (.bool x.f8)/\W.cell? ⟨b,9,none⟩=some (.bool x.f9)/\W.cell? ⟨b,10,none⟩=some (.int .i64 x.f10):=by
 have hb:W.heap[b]? =some (.cells (Pn x) t (0,0)):=h.elim (λh=>(h.x _ (.head _)).1) λh=>(h.x _ (.head _)).1
 exact ⟨λp hp=>h.elim (λh=>(h.x p (.tail _ (.tail _ hp))).1) λh=>(h.x p (.tail _ (.tail _ hp))).1,BK hb⟩
end
theorem ZZ {w W:World} {F L:Bs} {k:Nat} {A:Option Addr} {cc:Nat} {xs:List Md} {j:List CO} {jn:Int} (S:AA (St w W (F++L))) (RI:AA (Gm w L (.slice A xs.length cc) xs)) (J:AA (Dy.f k xs=some (j,jn))) (hG:AA (D8 w)):
 Calls Tryz.prog 26 #[.slice A xs.length cc] W λe W'=>∃ A' c' l',e= .returned (.tuple #[.agg #[.slice A' l' c'], .int .i64 jn])/\AA (St w W' (F++L)):=by
 have hC:=Kd.Ew (Kd.Y4 (base':=0) (Gm.reads S RI));refine (Dy.calls k A cc xs j jn W hC.2.2 hC.2.1 (St.laid S hG) J.out).mono ?_;rintro e W' ⟨v,rfl,hR,hb⟩;obtain ⟨A',c',rfl⟩:=Kd.Cg hR;exact ⟨A',c',_,rfl,St.below S hb⟩
def Oq (w:World) (v n3:Int) (out:List Md) (e:Ending) (w':World):Prop:=∃ v1_:Value,e= .returned (.tuple #[.int .i64 (if n3=0 then v else 0),v1_, .int .i64 (if n3=0 then 0 else n3)])/\Kd.R k25 25 w' w.heap.size (λ_=>True) v1_ (if n3=0 then out else [])/\Below w.heap.size w w'
theorem Yq {w W:World} {bs:Bs} {s:ByteArray} {r:Bool} (S:AA (St w W bs):=by with_reducible assumption) (F:AA (EK.f s=some r):=by with_reducible assumption):Calls Tryz.prog 36 #[.string s] W λe W'=>e= .returned (.bool r)/\AA (St w W' bs):=St.G7 S (EK.calls s r W F.out)
set_option maxHeartbeats 8000000 in
set_option maxRecDepth 100000 in
theorem Uc {k:Nat} {s s1 s2 s3:ByteArray} {n1 n2 n3 jn:Int} {N:Nat} {out:List Md} {j:List CO} {w:World} (S:AA (St w w [])) (hG:AA (D8 w)) (hs:8<=s.size) (hz:s.size<=1000000000) (hm:(s.extract 0 2).toList=([67,74]:List UInt8)) (hv:AA (1<=bt s 2/\bt s 2<=3)) (C:AA (EK.f s=some true))
 (NB:AA (Bl.f k (s.extract 3 (s.size - 4)) 0 60=some ((N:Int),s1,n1))) (hn:N<=60) (RW:AA (Fz k (wrap64 (bt s 2)) N s1 n1 []=some (out,s2,n2))) (J:AA (Dy.f k out=some (j,jn))) (E:AA (Bp.f s2 n2 (!(s2.toList==([]:List UInt8))||jn != 0) 224=some (s3,n3))):
 Calls Tryz.prog 21 #[.string s] w (Oq w (wrap64 (bt s 2)) n3 out):=by
 have hu1:=Tryz.underlying25;have hu2:=Tryz.underlying79;have hu3:=Tryz.underlying54;have hu4:=Tryz.underlying9;have d0:decide ((s.size:Int)<8)=false:=decide_eq_false (by omega);have d1:decide (s.size<8)=false:=decide_eq_false (by omega);have p2:=eq_true (show (2:Int)<=(s.size:Int) by omega);have c4b0:((s.extract 0 2).toList==([67,74]:List UInt8))=true:=beq_iff_eq.mpr hm;have c4b1:((s.extract 0 2).toList != ([67,74]:List UInt8))=false:=bne_eq_false_iff_eq.mpr hm;have q6:=eq_true (show 2<s.size by omega);have q7:=eq_true (show (2:Int)<(s.size:Int) by omega);have hx6:∀ h:2<s.size,((s[2]'h).toNat:Int)=bt s 2:=CV s 2;have d2:decide (bt s 2<1)=false:=decide_eq_false (by have:=hv.out;omega);have d3:decide (3<bt s 2)=false:=decide_eq_false (by have:=hv.out;omega);obtain ⟨m,hm4⟩:∃ m,m=s.size - 4:=⟨_,rfl⟩;rw [<-hm4] at NB;have hz4:wrap64 ((s.size:Int) - 4)=(m:Int):=by unfold wrap64;omega
 have z1:=eq_true (show (3:Int)<=(m:Int) by omega);have z2:=eq_true (show (m:Int)<=(s.size:Int) by omega);have HM:=AA.mk hm4;clear hm hm4 hz hs;go_enter Tryz.func21,Tryz.ntmps21;go_upto_region 13 with (first|(go_at_call 36;refine (Yq).mono ?_;rintro e W_ ⟨rfl,S_⟩;replace S:=S_;clear S_)|(refine Gg (N:=43) #[.string (s.extract 3 m), .int .i64 0] 79 (λg W_ S_=>?_);replace S:=S_;clear S_)|(go_at_call 37;refine (Oo).mono ?_;rintro e W_ ⟨rfl,S_⟩;replace S:=S_;clear S_))
 go_upto_block 1 with (fail)
 clear NB C;go_cut [8] (λv8 wc=>∃ L,(∃ A c,v8= .slice A out.length c)/\AA (St w wc ((g,Hg s2 n2,79)::L))/\AA (Gm w L v8 out));case first=>
  have RN:=Gm.nil w;go_wp2_with (fail);go_loopw [8,47] (λv8 v47 wr=>∃ (i:Nat) (so:ByteArray) (no:Int) (xs:List Md) (L:Bs),v47= .int .i64 i/\(∃ A c,v8= .slice A xs.length c)/\AA (xs.length=i/\i<=N/\Fz k (wrap64 (bt s 2)) (N - i) so no xs=some (out,s2,n2))/\AA (St w wr ((g,Hg so no,79)::L))/\AA (Gm w L v8 xs)) (λ_ v47 _=>N - (intOf v47).toNat);case atStart=>exact ⟨0,s1,n1,[],[],rfl,⟨none,0,rfl⟩,⟨rfl,Nat.zero_le _,RW.out⟩,S,RN⟩
  case round=>
   clear S RN RW;obtain ⟨i,so,no,xs,L,rfl,⟨A,cc,rfl⟩,HI,S,RI⟩:=hrel;obtain ⟨hl,hiN,RW⟩:=HI.out;clear HI;by_cases hlt:i<N
   ·have e1:decide ((i:Int)<(N:Int))=true:=decide_eq_true (by omega);have e2:decide (i<N)=true:=decide_eq_true hlt;obtain ⟨m',hm'⟩:∃ m',N - i=m'+1:=⟨N - i - 1,by omega⟩;rw [hm'] at RW;obtain ⟨⟨c,sa,na⟩,F,RW1⟩:=Option.bind_eq_some_iff.1 RW;obtain ⟨⟨sb,nb⟩,O,RW2⟩:=Option.bind_eq_some_iff.1 RW1;simp only at F O RW2;replace F:=AA.mk F;replace RW2:=AA.mk RW2;clear RW RW1;replace hl:=AA.mk hl;have hN1:=AA.mk (show N - (i+1)=m' by omega);have hi2:(i:Int)<60:=by omega
    clear hm' hlt;go_upto_region 17 with (first|(go_at_call 38;refine (ZY).mono ?_;rintro e W_ ⟨rfl,S_⟩;replace S:=S_;clear S_)|(refine Gg (N:=9) ZX 25 (λb9 W_ S_=>?_);replace S:=S_;clear S_)|((with_reducible refine Dr rfl ?_);refine Gh (λW_ S_=>?_);replace S:=S_;clear S_))
    have hl2:xs.length<60:=by have:=hl.out;omega
    clear F;rcases Nat.eq_zero_or_pos xs.length with h0|h0
    case' inl=>
     unfold JX at O;rw [if_neg (by omega)] at O;simp only [Option.some.injEq,Prod.mk.injEq] at O;obtain ⟨e5,e6⟩:=O;rw [e5,e6] at S;clear e5 e6;have e3:decide (0<(xs.length:Int))=false:=decide_eq_false (by omega);have e4:decide (0<xs.length)=false:=decide_eq_false (by omega);replace h0:=AA.mk h0;go_upto_region 19 with (fail)
    case' inr=>
     unfold JX at O;rw [if_pos h0] at O;obtain ⟨q,hq⟩:∃ q,q=xs.length - 1:=⟨_,rfl⟩;rw [show (xs.length:Int) - 1=(q:Int) by omega] at O;replace O:=AA.mk O;have e3:decide (0<(xs.length:Int))=true:=decide_eq_true (by omega);have e4:decide (0<xs.length)=true:=decide_eq_true h0;have w1:wrap64 ((xs.length:Int) - 1)=(q:Int):=by unfold wrap64;omega
     have w2:IntKind.i64.wrap ((xs.length:Int) - 1)=(q:Int):=(CE _).trans w1;have z1:=eq_true (show 0<=(q:Int) by omega);have z2:=eq_true (show (q:Int)<(xs.length:Int) by omega);obtain ⟨ad,hA⟩:∃ ad,A=some ad:=by
      obtain ⟨ad,hA,_⟩:=Dw (Kd.Ew (Kd.Y4 (base':=0) (Gm.reads (F:=[_,_]) S RI))).2.2 0 (by omega) (by omega);exact ⟨ad,hA⟩
     subst hA;have hSB:∀ w':World,Two w w' ((b9,Pn c,25)::(g,Hg sa na,79)::L) ((b9,Pn c,25)::(g,Hg sb nb,79)::L)->Two w w' ((b9,Pn c,25)::(g,Hg sa na,79)::L) ((b9,Pn c,25)::(g,Hg sb nb,79)::L)/\w'.cell? (ad.add (q*11))=some (.string (AB xs (q:Int)).f0)/\w'.cell? ⟨(ad.add (q*11)).block,(ad.add (q*11)).off+1,none⟩=some (.string (AB xs (q:Int)).f1)/\w'.cell? ⟨(ad.add (q*11)).block,(ad.add (q*11)).off+2,none⟩=some (.string (AB xs (q:Int)).f2)/\w'.cell? ⟨(ad.add (q*11)).block,(ad.add (q*11)).off+3,none⟩=some (.string (AB xs (q:Int)).f3)/\w'.cell? ⟨(ad.add (q*11)).block,(ad.add (q*11)).off+4,none⟩=some (.int .i64 (AB xs (q:Int)).f4)/\w'.cell? ⟨(ad.add (q*11)).block,(ad.add (q*11)).off+5,none⟩=some (.int .i64 (AB xs (q:Int)).f5)/\w'.cell? ⟨(ad.add (q*11)).block,(ad.add (q*11)).off+6,none⟩=some (.int .i64 (AB xs (q:Int)).f6)/\w'.cell? ⟨(ad.add (q*11)).block,(ad.add (q*11)).off+7,none⟩=some (.bool (AB xs (q:Int)).f7)/\w'.cell? ⟨(ad.add (q*11)).block,(ad.add (q*11)).off+8,none⟩=some (.bool (AB xs (q:Int)).f8)/\w'.cell? ⟨(ad.add (q*11)).block,(ad.add (q*11)).off+9,none⟩=some (.bool (AB xs (q:Int)).f9)/\w'.cell? ⟨(ad.add (q*11)).block,(ad.add (q*11)).off+10,none⟩=some (.int .i64 (AB xs (q:Int)).f10)/\w'.cell? ⟨b9,0,none⟩=some (.string c.f0)/\w'.cell? ⟨b9,1,none⟩=some (.string c.f1)/\w'.cell? ⟨b9,2,none⟩=some (.string c.f2)/\w'.cell? ⟨b9,3,none⟩=some (.string c.f3)/\w'.cell? ⟨b9,4,none⟩=some (.int .i64 c.f4)/\w'.cell? ⟨b9,5,none⟩=some (.int .i64 c.f5)/\w'.cell? ⟨b9,6,none⟩=some (.int .i64 c.f6)/\w'.cell? ⟨b9,7,none⟩=some (.bool c.f7)/\w'.cell? ⟨b9,8,none⟩=some (.bool c.f8)/\w'.cell? ⟨b9,9,none⟩=some (.bool c.f9)/\w'.cell? ⟨b9,10,none⟩=some (.int .i64 c.f10):=λw' h=>⟨h,by
      have h2:=h.cells
      have h1:=Ub (q:=q) RI.out h2.1 (by omega)
      exact ⟨h1.1,h1.2.1,h1.2.2.1,h1.2.2.2.1,h1.2.2.2.2.1,h1.2.2.2.2.2.1,h1.2.2.2.2.2.2.1,h1.2.2.2.2.2.2.2.1,h1.2.2.2.2.2.2.2.2.1,h1.2.2.2.2.2.2.2.2.2.1,h1.2.2.2.2.2.2.2.2.2.2,h2.2⟩⟩
     replace hSB:=AA.mk hSB;have TW:=AA.mk (show Two w _ ((b9,Pn c,25)::(g,Hg sa na,79)::L) ((b9,Pn c,25)::(g,Hg sb nb,79)::L) from .inl S.out);clear S hq;replace h0:=AA.mk h0;go_upto_region 18 with (fail)
     go_region_held3 (λw'=>Two w w' ((b9,Pn c,25)::(g,Hg sa na,79)::L) ((b9,Pn c,25)::(g,Hg sb nb,79)::L)/\w'.cell? (ad.add (q*11))=some (.string (AB xs (q:Int)).f0)/\w'.cell? ⟨(ad.add (q*11)).block,(ad.add (q*11)).off+1,none⟩=some (.string (AB xs (q:Int)).f1)/\w'.cell? ⟨(ad.add (q*11)).block,(ad.add (q*11)).off+2,none⟩=some (.string (AB xs (q:Int)).f2)/\w'.cell? ⟨(ad.add (q*11)).block,(ad.add (q*11)).off+3,none⟩=some (.string (AB xs (q:Int)).f3)/\w'.cell? ⟨(ad.add (q*11)).block,(ad.add (q*11)).off+4,none⟩=some (.int .i64 (AB xs (q:Int)).f4)/\w'.cell? ⟨(ad.add (q*11)).block,(ad.add (q*11)).off+5,none⟩=some (.int .i64 (AB xs (q:Int)).f5)/\w'.cell? ⟨(ad.add (q*11)).block,(ad.add (q*11)).off+6,none⟩=some (.int .i64 (AB xs (q:Int)).f6)/\w'.cell? ⟨(ad.add (q*11)).block,(ad.add (q*11)).off+7,none⟩=some (.bool (AB xs (q:Int)).f7)/\w'.cell? ⟨(ad.add (q*11)).block,(ad.add (q*11)).off+8,none⟩=some (.bool (AB xs (q:Int)).f8)/\w'.cell? ⟨(ad.add (q*11)).block,(ad.add (q*11)).off+9,none⟩=some (.bool (AB xs (q:Int)).f9)/\w'.cell? ⟨(ad.add (q*11)).block,(ad.add (q*11)).off+10,none⟩=some (.int .i64 (AB xs (q:Int)).f10)/\w'.cell? ⟨b9,0,none⟩=some (.string c.f0)/\w'.cell? ⟨b9,1,none⟩=some (.string c.f1)/\w'.cell? ⟨b9,2,none⟩=some (.string c.f2)/\w'.cell? ⟨b9,3,none⟩=some (.string c.f3)/\w'.cell? ⟨b9,4,none⟩=some (.int .i64 c.f4)/\w'.cell? ⟨b9,5,none⟩=some (.int .i64 c.f5)/\w'.cell? ⟨b9,6,none⟩=some (.int .i64 c.f6)/\w'.cell? ⟨b9,7,none⟩=some (.bool c.f7)/\w'.cell? ⟨b9,8,none⟩=some (.bool c.f8)/\w'.cell? ⟨b9,9,none⟩=some (.bool c.f9)/\w'.cell? ⟨b9,10,none⟩=some (.int .i64 c.f10))
      ((refine hSB.out _ ?_;(first|exact .inr (AA.out hb)|with_reducible repeat (first|exact And.left (by assumption)|exact Two.Ua (And.left (by assumption))|exact Two.below (And.left (by assumption)) hb|exact TW.out|refine Two.drew ?_|refine Two.drewN ?_))))
      (first|(go_at_call 40;refine (EE.HZ.calls _ _ _ _ _ _ _ _ _ _ _ _ _ _ _ rfl).mono ?_;rintro e w' ⟨rfl,hb⟩)|(go_at_call 41;refine (P6 _ _ _ _ _ _ _).mono ?_;rintro e w' ⟨rfl,hb⟩)|(go_at_call 39;refine (Two.fails (by first|exact And.left (by assumption)|exact Two.Ua (And.left (by assumption))) O).mono ?_;rintro e w' ⟨rfl,hb⟩))
     have S:=hb;clear hSB TW e3 e4 w1 w2 z1 z2 O;go_upto_region 19 with (fail)
    all_goals
     clear h0;by_cases hz:nb=0
     case' pos=>have f1:(nb != 0)=false:=by rw [hz];rfl
     case' neg=>have f1:(nb != 0)=true:=bne_iff_ne.2 hz
     all_goals
      replace hz:=AA.mk hz;go_wp2_with (first|((with_reducible refine Db rfl ?_);refine Ke ?_)|(at_builtin;refine WL [(b9,Pn c,25),(g,Hg sb nb,79)] c (by omega) S RI (λv_ W_ L_ S_ R_=>?_);replace S:AA (St w W_ ((b9,Pn c,25)::(g,Hg sb nb,79)::L_)):=S_;clear S_)|((with_reducible refine Db rfl ?_);refine Gs ?_));have hR:=AA.mk (Kd.Cg (Gm.reads (F:=[_]) (St.drop S) R_));have hRW:=RW2.out;first|(go_roundw;(case rel=>exact ⟨i+1,sb,nb,xs++[c],L_,by go_num,hR.out,⟨by rw [List.length_append,hl.out];rfl,by have:=of_decide_eq_true e2;omega,by rw [hN1.out];rw [if_pos hz.out] at hRW;exact hRW⟩,St.drop S,R_⟩);(case measure=>have:=of_decide_eq_true e2;simp [intOf];omega))|(go_meet;(case rel=>(rw [if_neg hz.out] at hRW;simp only [Option.some.injEq,Prod.mk.injEq] at hRW;obtain ⟨rfl,rfl,rfl⟩:=hRW;exact ⟨L_,hR.out,St.drop S,R_⟩)))
   ·obtain rfl:i=N:=by omega
    have e1:decide ((i:Int)<(i:Int))=false:=decide_eq_false (by omega);have e2:decide (i<i)=false:=decide_eq_false (by omega);rw [Nat.sub_self] at RW;simp only [Fz,Option.some.injEq,Prod.mk.injEq] at RW;obtain ⟨rfl,rfl,rfl⟩:=RW;go_wp2;go_meet;case rel=>exact ⟨L,⟨_,_,rfl⟩,S,RI⟩
 case rest=>
  obtain ⟨L,⟨A,cc,rfl⟩,S,RI⟩:=hcut;have hC:=AA.mk (Kd.Ew (Kd.Y4 (base':=0) (Gm.reads (F:=[_]) S RI)));have E2:Bp.f s2 n2 (if s2.toList=[] then jn != 0 else true) 224=some (s3,n3):=by
   rw [<-E.out];by_cases he:s2.toList=[]
   ·rw [if_pos he,he];rfl
   ·rw [if_neg he,beq_eq_false_iff_ne.2 he];rfl
  clear E RW;by_cases he:s2.toList=[]
  case' pos=>rw [if_pos he] at E2;have g1:(s2.toList==([]:List UInt8))=true:=beq_iff_eq.2 he;have g2:(s2.toList != ([]:List UInt8))=false:=bne_eq_false_iff_eq.2 he;have g3:s2.toList.isEmpty=true:=by rw [he];rfl
  case' neg=>rw [if_neg he] at E2;have g1:(s2.toList==([]:List UInt8))=false:=beq_eq_false_iff_ne.2 he;have g2:(s2.toList != ([]:List UInt8))=true:=bne_iff_ne.2 he;have g3:s2.toList.isEmpty=false:=List.isEmpty_eq_false_iff.2 he
  all_goals
   clear he;replace E2:=AA.mk E2;go_upto_region 24 with (first|(go_at_call 26;refine (ZZ (F:=[(g,Hg s2 n2,79)]) S RI J hG).mono ?_;rintro e W_ ⟨A_,c_,l_,rfl,S_⟩;replace S:AA (St w W_ ((g,Hg s2 n2,79)::L)):=S_;clear S_)|(refine Gg (N:=11) #[.slice none 0 0] 47 (λb11 W_ S_=>?_);replace S:=S_;clear S_)|((with_reducible refine Dr rfl ?_);refine Gh (λW_ S_=>?_);replace S:=S_;clear S_)|((with_reducible refine Db rfl ?_);refine Gs ?_)|(go_at_call 39;refine (Jd).mono ?_;rintro e W_ ⟨rfl,S_⟩;replace S:=S_;clear S_))
   clear J E2 g1 g2 g3;by_cases hz:n3=0
   ·have f1:(n3 != 0)=false:=by rw [hz];rfl
    replace hz:=AA.mk hz;go_wp2_with (first|((with_reducible refine Db rfl ?_);refine Gs ?_));go_ret3;unfold Oq;rw [if_pos hz.out,if_pos hz.out,if_pos hz.out];exact ⟨_,rfl,Kd.CK (Gm.reads (F:=[_]) (St.drop S) RI) (λ_ _=>trivial),S.out.b⟩
   ·have f1:(n3 != 0)=true:=bne_iff_ne.2 hz;replace hz:=AA.mk hz;go_upto_region 25 with (first|((with_reducible refine Db rfl ?_);refine Gs ?_))
    have hc:=St.cell (i:=1) S (.tail _ (.head _)) rfl;go_quiet (fail);go_wp2;go_ret3;unfold Oq;rw [if_neg hz.out,if_neg hz.out,if_neg hz.out];exact ⟨_,rfl,Kd.Em _ _ _ _ _,(St.below S (Ce (Below.refl _ _) _)).out.b⟩
def Jf (w:World) (no:Int) (e:Ending) (w':World):Prop:=∃ v1_:Value,e= .returned (.tuple #[.int .i64 0,v1_, .int .i64 no])/\Kd.R k25 25 w' w.heap.size (λ_=>True) v1_ []/\Below w.heap.size w w'
set_option maxHeartbeats 4000000 in
set_option maxRecDepth 100000 in
theorem WO {s:ByteArray} {w:World} (h:s.size<8):Calls Tryz.prog 21 #[.string s] w (Jf w 220):=by
 have d0:decide ((s.size:Int)<8)=true:=decide_eq_true (by omega);have d1:decide (s.size<8)=true:=decide_eq_true h;clear h;go_enter Tryz.func21,Tryz.ntmps21;go_wp2;go_ret3;exact ⟨_,rfl,Kd.Em _ _ _ _ _,Below.refl _ _⟩
set_option maxHeartbeats 4000000 in
set_option maxRecDepth 100000 in
theorem WQ {s:ByteArray} {w:World} (hs:8<=s.size) (hm:(s.extract 0 2).toList≠([67,74]:List UInt8)):Calls Tryz.prog 21 #[.string s] w (Jf w 221):=by
 have d0:decide ((s.size:Int)<8)=false:=decide_eq_false (by omega);have d1:decide (s.size<8)=false:=decide_eq_false (by omega);have p2:=eq_true (show (2:Int)<=(s.size:Int) by omega);have c4b0:((s.extract 0 2).toList==([67,74]:List UInt8))=false:=beq_eq_false_iff_ne.mpr hm;have c4b1:((s.extract 0 2).toList != ([67,74]:List UInt8))=true:=bne_iff_ne.mpr hm;clear hs hm;go_enter Tryz.func21,Tryz.ntmps21;go_wp2;go_ret3;exact ⟨_,rfl,Kd.Em _ _ _ _ _,Below.refl _ _⟩
set_option maxHeartbeats 4000000 in
set_option maxRecDepth 100000 in
theorem Ud {s:ByteArray} {w:World} (hs:8<=s.size) (hm:(s.extract 0 2).toList=([67,74]:List UInt8)) (hv:bt s 2<1):Calls Tryz.prog 21 #[.string s] w (Jf w 222):=by
 have d0:decide ((s.size:Int)<8)=false:=decide_eq_false (by omega);have d1:decide (s.size<8)=false:=decide_eq_false (by omega);have p2:=eq_true (show (2:Int)<=(s.size:Int) by omega);have c4b0:((s.extract 0 2).toList==([67,74]:List UInt8))=true:=beq_iff_eq.mpr hm;have c4b1:((s.extract 0 2).toList != ([67,74]:List UInt8))=false:=bne_eq_false_iff_eq.mpr hm;have q6:=eq_true (show 2<s.size by omega);have q7:=eq_true (show (2:Int)<(s.size:Int) by omega);have hx6:∀ h:2<s.size,((s[2]'h).toNat:Int)=bt s 2:=CV s 2;have d2:decide (bt s 2<1)=true:=decide_eq_true hv;clear hs hm hv;go_enter Tryz.func21,Tryz.ntmps21;go_wp2;go_ret3;exact ⟨_,rfl,Kd.Em _ _ _ _ _,Below.refl _ _⟩
set_option maxHeartbeats 4000000 in
set_option maxRecDepth 100000 in
theorem Ue {s:ByteArray} {w:World} (hs:8<=s.size) (hm:(s.extract 0 2).toList=([67,74]:List UInt8)) (hv:3<bt s 2):Calls Tryz.prog 21 #[.string s] w (Jf w 222):=by
 have d0:decide ((s.size:Int)<8)=false:=decide_eq_false (by omega);have d1:decide (s.size<8)=false:=decide_eq_false (by omega);have p2:=eq_true (show (2:Int)<=(s.size:Int) by omega);have c4b0:((s.extract 0 2).toList==([67,74]:List UInt8))=true:=beq_iff_eq.mpr hm;have c4b1:((s.extract 0 2).toList != ([67,74]:List UInt8))=false:=bne_eq_false_iff_eq.mpr hm;have q6:=eq_true (show 2<s.size by omega);have q7:=eq_true (show (2:Int)<(s.size:Int) by omega);have hx6:∀ h:2<s.size,((s[2]'h).toNat:Int)=bt s 2:=CV s 2;have d2:decide (bt s 2<1)=false:=decide_eq_false (by omega);have d3:decide (3<bt s 2)=true:=decide_eq_true hv;clear hs hm hv;go_enter Tryz.func21,Tryz.ntmps21;go_wp2;go_ret3;exact ⟨_,rfl,Kd.Em _ _ _ _ _,Below.refl _ _⟩
set_option maxHeartbeats 4000000 in
set_option maxRecDepth 100000 in
theorem WR {s:ByteArray} {w:World} (S:AA (St w w [])) (hs:8<=s.size) (hm:(s.extract 0 2).toList=([67,74]:List UInt8)) (hv:AA (1<=bt s 2/\bt s 2<=3)) (C:AA (EK.f s=some false)):Calls Tryz.prog 21 #[.string s] w (Jf w 223):=by
 have d0:decide ((s.size:Int)<8)=false:=decide_eq_false (by omega);have d1:decide (s.size<8)=false:=decide_eq_false (by omega);have p2:=eq_true (show (2:Int)<=(s.size:Int) by omega);have c4b0:((s.extract 0 2).toList==([67,74]:List UInt8))=true:=beq_iff_eq.mpr hm;have c4b1:((s.extract 0 2).toList != ([67,74]:List UInt8))=false:=bne_eq_false_iff_eq.mpr hm;have q6:=eq_true (show 2<s.size by omega);have q7:=eq_true (show (2:Int)<(s.size:Int) by omega);have hx6:∀ h:2<s.size,((s[2]'h).toNat:Int)=bt s 2:=CV s 2;have d2:decide (bt s 2<1)=false:=decide_eq_false (by have:=hv.out;omega);have d3:decide (3<bt s 2)=false:=decide_eq_false (by have:=hv.out;omega);clear hs hm;go_enter Tryz.func21,Tryz.ntmps21;go_wp2_with (first|(go_at_call 36;refine (Yq).mono ?_;rintro e W_ ⟨rfl,S_⟩;replace S:=S_;clear S_));go_ret3;exact ⟨_,rfl,Kd.Em _ _ _ _ _,S.out.b⟩
theorem CZ.Za {α β:Type} {x y:Option α} {f:α->β} (h:CZ x y):CZ (x.map f) (y.map f):=by
 intro r hr;obtain ⟨a,ha,rfl⟩:=Option.map_eq_some_iff.1 hr;rw [h a ha];rfl
theorem JW.mono (k:Nat) (s:ByteArray) (no v:Int):CZ (JW k s no v) (JW (k+1) s no v):=by
 unfold JW
 repeat' first|(with_reducible first|exact Cw.mono _ _ _ _|exact Bl.mono _ _ _ _|exact CZ.refl _|refine CZ.Za ?_|refine CZ.ite ?_ ?_|refine CZ.bind ?_ (λ_=>?_))|exact Aj.mono _ _ _ _ _ _ _ _ _ _ _ _
theorem Fz.mono (k:Nat) (v:Int):∀ (m:Nat) (s:ByteArray) (no:Int) (out:List Md),CZ (Fz k v m s no out) (Fz (k+1) v m s no out)
 |0,_,_,_=>CZ.refl _
 |m+1,s,no,out=>by
  unfold Fz;exact CZ.bind (JW.mono k s no v) λ_=>CZ.bind (CZ.refl _) λ_=>CZ.ite (Fz.mono k v m _ _ _) (CZ.refl _)
theorem Ck.mono:∀ a0 k,CZ (Ck.f k a0) (Ck.f (k+1) a0):=by
 intro s k;unfold Ck.f Je
 repeat' first|(with_reducible first|exact Bl.mono _ _ _ _|exact Fz.mono _ _ _ _ _ _|exact Dy.mono _ _|exact CZ.refl _|refine CZ.ite ?_ ?_|refine CZ.bind ?_ (λ_=>?_))
theorem Ck.calls (k:Nat) (a0:ByteArray) (r1:Int) (r2:List Md) (r3:Int) (w:World) (hG:AA (D8 w)) (h:Ck.f k a0=some (r1,r2,r3)):
 Calls Tryz.prog 21 #[.string a0] w λe w'=>∃ v1_:Value,e= .returned (.tuple #[.int .i64 r1,v1_, .int .i64 r3])/\Kd.R k25 25 w' w.heap.size (λ_=>True) v1_ r2/\Below w.heap.size w w':=by
 have S:=St.start w;unfold Ck.f at h;split at h
 ·cases h
 split at h
 ·simp only [Option.some.injEq,Prod.mk.injEq] at h;obtain ⟨rfl,rfl,rfl⟩:=h;exact WO (by assumption)
 split at h;case isFalse hm=>
  simp only [Option.some.injEq,Prod.mk.injEq] at h;obtain ⟨rfl,rfl,rfl⟩:=h;exact WQ (by omega) hm
 rename_i hm;split at h
 ·rename_i hv;simp only [Option.some.injEq,Prod.mk.injEq] at h;obtain ⟨rfl,rfl,rfl⟩:=h;rcases hv with hv|hv
  ·exact Ud (by omega) hm hv
  ·exact Ue (by omega) hm hv
 rename_i hv;obtain ⟨b,hb,h⟩:=Option.bind_eq_some_iff.1 h;cases b;case false=>
  simp only [Option.some.injEq,Prod.mk.injEq,if_neg (show ¬(false=true) by decide)] at h;obtain ⟨rfl,rfl,rfl⟩:=h;exact WR S (by omega) hm ⟨by omega⟩ ⟨hb⟩
 rw [if_pos rfl] at h;unfold Je at h;obtain ⟨⟨n,s1,n1⟩,N,h⟩:=Option.bind_eq_some_iff.1 h;split at h;case isFalse=>cases h
 rename_i hn;simp only at hn N;obtain ⟨N',rfl⟩:=Int.eq_ofNat_of_zero_le hn.1;obtain ⟨⟨out,s2,n2⟩,RW,h⟩:=Option.bind_eq_some_iff.1 h;obtain ⟨⟨j,jn⟩,J,h⟩:=Option.bind_eq_some_iff.1 h;obtain ⟨⟨s3,n3⟩,E,h⟩:=Option.bind_eq_some_iff.1 h;simp only [Int.toNat_natCast] at RW J E h;refine (Uc S hG (by omega) (by omega) hm ⟨by omega⟩ ⟨hb⟩ ⟨N⟩ (by have:=hn.2;omega) ⟨RW⟩ ⟨J⟩ ⟨E⟩).mono λe w' hp=>?_
 unfold Oq at hp;split at h
 ·rename_i hz;simp only [Option.some.injEq,Prod.mk.injEq] at h;obtain ⟨rfl,rfl,rfl⟩:=h;rw [if_pos hz,if_pos hz,if_pos hz] at hp;exact hp
 ·rename_i hz;simp only [Option.some.injEq,Prod.mk.injEq] at h;obtain ⟨rfl,rfl,rfl⟩:=h;rw [if_neg hz,if_neg hz,if_neg hz] at hp;exact hp
end Go.Proofs.YtfggjdkccdkogaaGreatDoor.Print
