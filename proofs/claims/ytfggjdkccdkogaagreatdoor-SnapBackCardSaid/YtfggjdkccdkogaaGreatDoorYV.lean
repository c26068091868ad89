/- A whole text: what is read is what would be written; what is written is read again. -/
import Derived.Test.YtfggjdkccdkogaaGreatDoorYU
section
namespace Go.Proofs.YtfggjdkccdkogaaGreatDoor.Y
set_option linter.unusedVariables false
set_option linter.unusedSimpArgs false
open RowKit Print Ac Aq Aw
theorem K5 {α:Type} {f:Nat->Option α} {a b:α} (h:Ev f a) (h':Ev f b):a=b:=by
 obtain ⟨K,h⟩:=h;obtain ⟨L,h'⟩:=h';exact Option.some.inj ((h (K+L) (by omega)).symm.trans (h' (K+L) (by omega)))
theorem Li {s:ByteArray} {l rest:List Int} {n:Nat} (hs:bytesOf s=l++rest) (hn:l.length=n):bytesOf (s.extract n s.size)=rest:=by
 have hl:=congrArg List.length hs;rw [bytesOf_length,List.length_append] at hl;rw [Dj,hs,List.drop_left' hn];exact List.take_of_length_le (by omega)
theorem JD (s:ByteArray) (n:Nat):bytesOf (s.extract n s.size)=(bytesOf s).drop n:=by
 rw [Dj];exact List.take_of_length_le (by rw [List.length_drop,bytesOf_length];omega)
theorem K6 {t s:ByteArray} {most:Int} {rest:List Int} (hm:(t.size:Int)<=most) (hm2:most<=1000) (hs:bytesOf s=bytesOf (Jr t)++rest):∃ s',Gc most s 0=(t,s',0)/\bytesOf s'=rest:=by
 have h:=Xb (t:=t) (s:=s) (most:=most) (rest:=rest) (by omega) (by rw [hs,JR,List.append_assoc]);rw [if_neg (by unfold mx;split<;>omega)] at h;refine ⟨s.extract ((GX t.size).length+t.size) s.size,?_,Li hs (by rw [bytesOf_length,Og])⟩;unfold Gc;rw [if_pos rfl,h];simp only
 rw [show (((GX t.size).length:Int)+(t.size:Int)).toNat=(GX t.size).length+t.size by omega]
theorem MW {n:Nat} {s:ByteArray} {most:Int} {rest:List Int} (hn:(n:Int)<=most) (hm2:most<=253402300799) (hs:bytesOf s=GX n++rest):∃ s',Ie most s 0=((n:Int),s',0)/\bytesOf s'=rest:=by
 have h:=V6 (n:=n) (s:=s) (rest:=rest) (by omega) hs;refine ⟨s.extract (GX n).length s.size,?_,Li hs rfl⟩;unfold Ie;rw [if_pos rfl,h];simp only
 rw [if_pos trivial,if_neg (by omega),Int.toNat_natCast,show mn (n:Int) most=(n:Int) by unfold mn;rw [if_neg (by omega)]]
theorem Sm {b:Int} {s:ByteArray} {rest:List Int} (hs:bytesOf s=b::rest):∃ s',JZ s 0=(b,s',0)/\bytesOf s'=rest:=by
 have hz:s.size≠0:=by rw [<-bytesOf_length,hs];simp
 refine ⟨s.extract 1 s.size,?_,Li (l:=[b]) hs rfl⟩;unfold JZ;rw [if_pos rfl,if_neg hz,show bt s 0=b from SX (i:=0) (by rw [hs];rfl)]
theorem J3 {t s s':ByteArray} {most no:Int} (h:Gc most s no=(t,s',0)):no=0/\bytesOf s=bytesOf (Jr t)++bytesOf s':=by
 unfold Gc at h;by_cases h0:no=0
 ·rw [if_pos h0] at h;simp only [Prod.mk.injEq] at h;obtain ⟨h1,h2,h3⟩:=h;have:=V8 (s:=s) (u:=t) (most:=most) (a:=(MG s most).2.1) (Prod.ext h1 (Prod.ext rfl h3));refine ⟨h0,?_⟩;rw [this.2.2.1, <-h2,JD,List.take_append_drop]
 ·rw [if_neg h0] at h;simp only [Prod.mk.injEq] at h;exact absurd h.2.2 h0
theorem K7 {n:Int} {s s':ByteArray} {most no:Int} (h:Ie most s no=(n,s',0)):no=0/\∃ m:Nat,n=m/\(m:Int)<=most/\m<18446744073709551616/\bytesOf s=GX m++bytesOf s':=by
 unfold Ie at h;by_cases h0:no=0
 ·rw [if_pos h0] at h;simp only [Prod.mk.injEq] at h;obtain ⟨h1,h2,h3⟩:=h;by_cases he:(tk s).2.2=0
  ·rw [if_pos he] at h3;have hle:¬(tk s).1>most:=λhg=>by rw [if_pos hg] at h3;cases h3
   obtain ⟨m,e1,e2,e3,e4,e5⟩:=Pm (s:=s) (n:=(tk s).1) (a:=(tk s).2.1) (Prod.ext rfl (Prod.ext rfl he));have hn:n=(tk s).1:=by rw [<-h1];unfold mn;rw [if_neg hle]
   refine ⟨h0,m,hn.trans e1,by omega,e5,?_⟩;rw [<-h2,JD,e2,Int.toNat_natCast]
   conv=>rhs;lhs;rw [<-e3]
   rw [List.take_append_drop]
  ·rw [if_neg he] at h3;exact absurd h3 he
 ·rw [if_neg h0] at h;simp only [Prod.mk.injEq] at h;exact absurd h.2.2 h0
theorem Qm {b:Int} {s s':ByteArray} {no:Int} (h:JZ s no=(b,s',0)):no=0/\bytesOf s=b::bytesOf s':=by
 unfold JZ at h;by_cases h0:no=0
 ·rw [if_pos h0] at h;by_cases hz:s.size=0
  ·rw [if_pos hz] at h;simp only [Prod.mk.injEq] at h;exact absurd h.2.2 (by decide)
  ·rw [if_neg hz] at h;simp only [Prod.mk.injEq] at h;obtain ⟨h1,h2,_⟩:=h;refine ⟨h0,?_⟩;rw [<-h2,JD, <-h1,OD];have hl:=bytesOf_length s
   match hb:bytesOf s with
   |[]=>rw [hb] at hl;exact absurd hl.symm hz
   |c::l=>rfl
 ·rw [if_neg h0] at h;simp only [Prod.mk.injEq] at h;exact absurd h.2.2 h0
theorem OV (v:Int) (se ht ho:Bool):Ee (GV v se ht ho) 1=se/\Ee (GV v se ht ho) 2=ht/\Ee (GV v se ht ho) 4=(ho&&decide (1<v))/\0<=GV v se ht ho/\GV v se ht ho<256:=by
 unfold GV;by_cases h:1<v
 ·cases se<;>cases ht<;>cases ho<;>simp [h]<;>decide
 ·cases se<;>cases ht<;>cases ho<;>simp [h]<;>decide
theorem Ib {n:Int} (h0:0<=n) (h1:n<=253402300799):bytesOf (Lj n)=GX n.toNat:=by
 unfold Lj;rw [EU h0 (by omega),ME]
theorem J4 {b:Int} (h0:0<=b) (h1:b<256):bytesOf (strOfNums [b])=[b]:=Ec (by intro x hx;obtain rfl:=List.mem_singleton.1 hx;exact ⟨h0,h1⟩)
theorem MC {c:SC} (h:Fy c=true):c.f0.size<=64/\c.f1.size<=64/\c.f2.size<=64/\c.f3.size<=128/\(0<=c.f4/\c.f4<=253402300799)/\(0<=c.f5/\c.f5<=253402300799)/\(0<=c.f6/\c.f6<=253402300799)/\0<=c.f10/\c.f10<=3:=by
 have h':Gw c.f0 c.f1 c.f2 c.f3 c.f4 c.f5 c.f6 c.f7 c.f10=true:=h;unfold Gw Rb OJ KS MB Nu at h';simp only [Bool.and_eq_true,decide_eq_true_eq,Bool.not_eq_true',decide_eq_false_iff_not] at h';obtain ⟨r1,r2,r3,⟨r4,r5,r6⟩,r7,r8,r9,r10,⟨r11,r12,r13⟩,r14,r15⟩:=h';have hc:c.f0.size<=64:=by
  have e:=Tx (s:=c.f0) (t:=(Gl c.f0).1) (Prod.ext rfl r1);exact e.2.1
 exact ⟨hc,by omega,by omega,by omega,r11,r12,r13,r14,r15⟩
theorem OW {v:Int} {c:SC} (h:Fy c=true):bytesOf (KV v c)=bytesOf (Jr c.f0)++(bytesOf (Jr c.f1)++(bytesOf (Jr c.f2)++(bytesOf (Jr c.f3)++(GV v c.f8 c.f9 c.f7::(GX c.f6.toNat++(GX c.f4.toNat++((if 1<v then GX c.f5.toNat else [])++(if 2<v then [c.f10] else [])))))))):=by
 obtain ⟨_,_,_,_,h4,h5,h6,h10⟩:=MC h;have hf:=OV v c.f8 c.f9 c.f7;unfold KV Hl;simp only [Dm,J4 hf.2.2.2.1 hf.2.2.2.2,Ib h6.1 h6.2,Ib h4.1 h4.2,List.append_assoc,List.singleton_append,List.cons_append,List.nil_append];have e1:bytesOf (if 1<v then Lj c.f5 else (⟨#[]⟩:ByteArray))=if 1<v then GX c.f5.toNat else []:=by
  split
  ·exact Ib h5.1 h5.2
  ·rfl
 have e2:bytesOf (if 2<v then strOfNums [c.f10%256] else (⟨#[]⟩:ByteArray))=if 2<v then [c.f10] else []:=by
  split
  ·rw [show c.f10%256=c.f10 by omega,J4 (by omega) (by omega)]
  ·rfl
 rw [e1,e2]
theorem Vg {v:Int} {c:SC} {s:ByteArray} {rest:List Int} (hv:1<=v/\v<=3) (hs:s.size<=1000000000) (h:Fy c=true) (hb:bytesOf s=bytesOf (KV v c)++rest):
 ∃ s',Ev (λk=>JW k s 0 v) (GK (3+v) 0 c,s',0)/\bytesOf s'=rest:=by
 obtain ⟨h0,h1,h2,h3,h4,h5,h6,h10⟩:=MC h;have hf:=OV v c.f8 c.f9 c.f7;rw [OW h] at hb;simp only [List.append_assoc,List.cons_append] at hb;have sz:∀ {a b:ByteArray} {l m:List Int},bytesOf a=l++m->bytesOf b=m->a.size<=1000000000->b.size<=1000000000:=λ {a b l m} ha hb' hs=>by
  have:=congrArg List.length ha;rw [<-hb',List.length_append,bytesOf_length,bytesOf_length] at this;omega
 obtain ⟨s1,t1,b1⟩:=K6 (most:=64) (by omega) (by decide) hb;have z1:=sz hb b1 hs;obtain ⟨s2,t2,b2⟩:=K6 (most:=64) (by omega) (by decide) b1;have z2:=sz b1 b2 z1;obtain ⟨s3,t3,b3⟩:=K6 (most:=64) (by omega) (by decide) b2;have z3:=sz b2 b3 z2;obtain ⟨s4,t4,b4⟩:=K6 (most:=128) (by omega) (by decide) b3;have z4:=sz b3 b4 z3;obtain ⟨s5,t5,b5⟩:=Sm b4;have z5:=sz (l:=[_]) b4 b5 z4;obtain ⟨s6,t6,b6⟩:=MW (n:=c.f6.toNat) (most:=Fs) (by show _<=(253402300799:Int);omega) (by decide) b5;have z6:=sz b5 b6 z5;obtain ⟨s7,t7,b7⟩:=MW (n:=c.f4.toNat) (most:=Fs) (by show _<=(253402300799:Int);omega) (by decide) b6;have z7:=sz b6 b7 z6;have p1:=F6 (s:=s) (no:=0) (most:=64) hs (by decide);have p2:=F6 (s:=s1) (no:=0) (most:=64) z1 (by decide);have p3:=F6 (s:=s2) (no:=0) (most:=64) z2 (by decide);have p4:=F6 (s:=s3) (no:=0) (most:=128) z3 (by decide);have p5:=D6 (OM s4 0);have p6:=FT (s:=s5) (no:=0) (most:=Fs) z5 (by decide) (by decide);have p7:=FT (s:=s6) (no:=0) (most:=Fs) z6 (by decide) (by decide);rw [t1] at p1;rw [t2] at p2;rw [t3] at p3;rw [t4] at p4;rw [t5] at p5;rw [t6] at p6;rw [t7] at p7;have n4:((c.f4.toNat:Nat):Int)=c.f4:=by omega
 have n5:((c.f5.toNat:Nat):Int)=c.f5:=by omega
 have n6:((c.f6.toNat:Nat):Int)=c.f6:=by omega
 rw [n4] at p7;rw [n6] at p6;obtain ⟨s8,p8,b8,z8⟩:∃ s8,Ev (λk=>if 1<v then (Bl.f k s7 0 253402300799).map λz=>(z.1,Ee (GV v c.f8 c.f9 c.f7) 4,z.2.1,z.2.2) else some (c.f4,true,s7,0)) ((if v=1 then c.f4 else c.f5),(if v=1 then true else c.f7),s8,0)/\bytesOf s8=(if 2<v then [c.f10] else [])++rest/\s8.size<=1000000000:=by
  by_cases h1:1<v
  ·rw [if_pos h1] at b7;obtain ⟨s8,t8,b8⟩:=MW (n:=c.f5.toNat) (most:=Fs) (by show _<=(253402300799:Int);omega) (by decide) b7;have p8:=FT (s:=s7) (no:=0) (most:=Fs) z7 (by decide) (by decide);rw [t8,n5] at p8;refine ⟨s8,AU h1 (BJ (Iw p8) ?_),b8,sz b7 b8 z7⟩;simp only [hf.2.2.1,decide_eq_true h1,Bool.and_true];rw [if_neg (by omega),if_neg (by omega)]
  ·rw [if_neg h1,List.nil_append] at b7;refine ⟨s7,Ab h1 (BJ (Ad _) ?_),b7,z7⟩;rw [if_pos (by omega),if_pos (by omega)]
 obtain ⟨s9,p9,b9⟩:∃ s9,Ev (λ_=>if 2<v then (Dt.f s8 0).map λq=>(wrap64 q.1,q.2.1,q.2.2) else some (0,s8,0)) ((if v=3 then c.f10 else 0),s9,0)/\bytesOf s9=rest:=by
  by_cases h2:2<v
  ·rw [if_pos h2] at b8;obtain ⟨s9,t9,b9⟩:=Sm b8;have p9:=D6 (OM s8 0);rw [t9] at p9;refine ⟨s9,AU h2 (BJ (Iw p9) ?_),b9⟩;rw [if_pos (by omega)];simp only [Prod.mk.injEq,and_true];unfold wrap64;omega
  ·rw [if_neg h2,List.nil_append] at b8;refine ⟨s8,Ab h2 (BJ (Ad _) ?_),b8⟩;rw [if_neg (by omega)]
 have hk:GK (3+v) 0 c=⟨c.f0,c.f1,c.f2,c.f3,c.f4,(if v=1 then c.f4 else c.f5),c.f6,(if v=1 then true else c.f7),c.f8,c.f9,(if v=3 then c.f10 else 0)⟩:=by
  rcases (show v=1\/v=2\/v=3 by omega) with rfl|rfl|rfl<;>rfl
 have hr:Fy (GK (3+v) 0 c)=true:=NN (f:=3+v) (now:=0) ⟨by omega,by decide⟩ h;have right:=Kw (d:=c.f0) (p:=c.f1) (n:=c.f2) (v:=c.f3) (c4:=c.f4) (c5:=(if v=1 then c.f4 else c.f5)) (c6:=c.f6) (ho:=(if v=1 then true else c.f7)) (se:=c.f8) (ht:=c.f9) (ss:=(if v=3 then c.f10 else 0)) (by omega) (by omega) (by omega) (by omega);rw [hk] at hr⊢
 have hr':Gw c.f0 c.f1 c.f2 c.f3 c.f4 (if v=1 then c.f4 else c.f5) c.f6 (if v=1 then true else c.f7) (if v=3 then c.f10 else 0)=true:=hr;rw [hr'] at right;have fl:=MV v c.f0 c.f1 c.f2 c.f3 c.f8 c.f9 c.f6 c.f4 (if v=1 then true else c.f7) (if v=1 then c.f4 else c.f5);have hfl:GV v c.f8 c.f9 (if v=1 then true else c.f7)=GV v c.f8 c.f9 c.f7:=by
  by_cases h1:v=1
  ·rw [if_pos h1];unfold GV;rw [if_neg (show ¬(true=true/\1<v) by omega),if_neg (show ¬(c.f7=true/\1<v) by omega)]
  ·rw [if_neg h1]
 rw [hfl] at fl;refine ⟨s9,?_,b9⟩;have hb1:=hf.1;have hb2:=hf.2.1;unfold JW;refine AY p1 (AY p2 (AY p3 (AY p4 (AY p5 (AY p6 (AY p7 (AY p8 (AY p9 ?_))))))));dsimp only
 rw [hb1,hb2];refine AY (D6 fl) ?_;refine BJ (Iw (AU rfl (AY right (D6 (FD _ _ _ _))))) ?_;rfl
end Go.Proofs.YtfggjdkccdkogaaGreatDoor.Y
end
section
namespace Go.Proofs.YtfggjdkccdkogaaGreatDoor.Y
set_option linter.unusedVariables false
set_option linter.unusedSimpArgs false
open RowKit Print Ac Aq Aw
theorem Jn {α β:Type} {f:Nat->Option α} {g:Nat->α->Option β} {a:α} {r:β} (h:Ev (λk=>(f k).bind (g k)) r) (hf:Ev f a):Ev (λk=>g k a) r:=by
 obtain ⟨K,h⟩:=h;obtain ⟨L,hf⟩:=hf;refine ⟨K+L,λk hk=>?_⟩;have:=h k (by omega);simp only [hf k (by omega),Option.bind_some] at this;exact this
set_option maxHeartbeats 2000000 in
theorem UH {v:Int} {c:SC} {s s':ByteArray} (hv:1<=v/\v<=3) (hs:s.size<=1000000000) (h:Ev (λk=>JW k s 0 v) (c,s',0)):Fy c=true/\bytesOf s=bytesOf (KV v c)++bytesOf s':=by
 have hm:∀ m:Int,0<=m->mx m 0=m:=λm hm=>by unfold mx;split<;>omega
 rcases h1:Gc 64 s 0 with ⟨d,s1,n1⟩
 have z1:=Gq 64 s 0;have p1:=F6 (s:=s) (no:=0) (most:=64) hs (by decide);rw [h1] at z1 p1;simp only at z1;rcases h2:Gc 64 s1 n1 with ⟨p,s2,n2⟩
 have z2:=Gq 64 s1 n1;have p2:=F6 (s:=s1) (no:=n1) (most:=64) (by omega) (by decide);rw [h2] at z2 p2;simp only at z2;rcases h3:Gc 64 s2 n2 with ⟨nm,s3,n3⟩
 have z3:=Gq 64 s2 n2;have p3:=F6 (s:=s2) (no:=n2) (most:=64) (by omega) (by decide);rw [h3] at z3 p3;simp only at z3;rcases h4:Gc 128 s3 n3 with ⟨vl,s4,n4⟩
 have z4:=Gq 128 s3 n3;have p4:=F6 (s:=s3) (no:=n3) (most:=128) (by omega) (by decide);rw [h4] at z4 p4;simp only at z4;rw [hm 64 (by decide)] at z1 z2 z3;rw [hm 128 (by decide)] at z4;rcases h5:JZ s4 n4 with ⟨f,s5,n5⟩
 have z5:=K3 s4 n4;have p5:=D6 (OM s4 n4);rw [h5] at z5 p5;simp only at z5;rcases h6:Ie Fs s5 n5 with ⟨ex,s6,n6⟩
 have z6:=Gy Fs s5 n5;have p6:=FT (s:=s5) (no:=n5) (most:=Fs) (by omega) (by decide) (by decide);rw [h6] at z6 p6;simp only at z6;rcases h7:Ie Fs s6 n6 with ⟨cr,s7,n7⟩
 have z7:=Gy Fs s6 n6;have p7:=FT (s:=s6) (no:=n6) (most:=Fs) (by omega) (by decide) (by decide);rw [h7] at z7 p7;simp only at z7;obtain ⟨ac,ho,s8,n8,p8,z8,b8⟩:∃ (ac:Int) (ho:Bool) (s8:ByteArray) (n8:Int),Ev (λk=>if 1<v then (Bl.f k s7 n7 253402300799).map λz=>(z.1,Ee f 4,z.2.1,z.2.2) else some (cr,true,s7,n7)) (ac,ho,s8,n8)/\s8.size<=s7.size/\
  (n8=0->n7=0/\(0<=cr/\cr<=253402300799->0<=ac/\ac<=253402300799)/\bytesOf s7=(if 1<v then GX ac.toNat else [])++bytesOf s8):=by
  by_cases h2v:1<v
  ·rcases h8:Ie Fs s7 n7 with ⟨ac,s8,n8⟩
   have z8:=Gy Fs s7 n7;have p8:=FT (s:=s7) (no:=n7) (most:=Fs) (by omega) (by decide) (by decide);rw [h8] at z8 p8;simp only at z8;refine ⟨ac,Ee f 4,s8,n8,AU h2v (Iw p8),z8,λh0=>?_⟩;subst h0;obtain ⟨a,m,rfl,c2,c3,e⟩:=K7 h8;have c2':(m:Int)<=253402300799:=c2;rw [if_pos h2v];exact ⟨a,λ_=>⟨by omega,c2'⟩,e⟩
  ·refine ⟨cr,true,s7,n7,Ab h2v (Ad _),Nat.le_refl _,λh0=>⟨h0,id,?_⟩⟩;rw [if_neg h2v];rfl
 obtain ⟨ss,s9,n9,p9,b9⟩:∃ (ss:Int) (s9:ByteArray) (n9:Int),Ev (λ_=>if 2<v then (Dt.f s8 n8).map λq=>(wrap64 q.1,q.2.1,q.2.2) else some (0,s8,n8)) (ss,s9,n9)/\
  (n9=0->n8=0/\bytesOf s8=(if 2<v then [ss] else [])++bytesOf s9):=by
  by_cases h3v:2<v
  ·rcases h9:JZ s8 n8 with ⟨b,s9,n9⟩
   have z9:=K3 s8 n8;have p9:=D6 (OM s8 n8);rw [h9] at z9 p9;simp only at z9;refine ⟨wrap64 b,s9,n9,AU h3v (Iw p9),λh0=>?_⟩;subst h0;obtain ⟨a,e⟩:=Qm h9;rw [if_pos h3v,show wrap64 b=b by unfold wrap64;omega];exact ⟨a,e⟩
  ·refine ⟨0,s8,n8,Ab h3v (Ad _),λh0=>⟨h0,?_⟩⟩;rw [if_neg h3v];rfl
 have fl:=MV v d p nm vl (Ee f 1) (Ee f 2) ex cr ho ac;have right:=Kw (d:=d) (p:=p) (n:=nm) (v:=vl) (c4:=cr) (c5:=ac) (c6:=ex) (ho:=ho) (se:=Ee f 1) (ht:=Ee f 2) (ss:=ss) (by omega) (by omega) (by omega) (by omega);have hEv:Ev (λk=>JW k s 0 v) (⟨d,p,nm,vl,cr,ac,ex,ho,Ee f 1,Ee f 2,ss⟩,s9,if f=GV v (Ee f 1) (Ee f 2) ho then FI n9 (!(Gw d p nm vl cr ac ex ho ss)) 224 else FI n9 true 224):=by
  unfold JW;refine AY p1 (AY p2 (AY p3 (AY p4 (AY p5 (AY p6 (AY p7 (AY p8 (AY p9 (AY (D6 fl) ?_)))))))));dsimp only
  by_cases hf:f=GV v (Ee f 1) (Ee f 2) ho
  ·rw [if_pos hf];exact BJ (Iw (AU hf (AY right (D6 (FD _ _ _ _))))) rfl
  ·rw [if_neg hf];exact BJ (Iw (Ab hf (D6 (FD _ _ _ _)))) rfl
 have hu:=K5 h hEv;simp only [Prod.mk.injEq] at hu;obtain ⟨rfl,rfl,hno⟩:=hu;have bad:∀ n:Int,FI n true 224≠0:=λn=>by
  unfold FI;rw [if_pos rfl];by_cases h:n=0
  ·rw [if_pos h];decide
  ·rw [if_neg h];exact h
 by_cases hf:f=GV v (Ee f 1) (Ee f 2) ho
 ·rw [if_pos hf] at hno;cases hr:Gw d p nm vl cr ac ex ho ss
  ·rw [hr] at hno;exact absurd hno.symm (bad _)
  ·rw [hr] at hno;have hn9:n9=0:=hno.symm;have hR:Fy (⟨d,p,nm,vl,cr,ac,ex,ho,Ee f 1,Ee f 2,ss⟩:SC)=true:=hr;obtain ⟨e8,q9⟩:=b9 hn9;obtain ⟨e7,_,q8⟩:=b8 e8;subst e7;obtain ⟨e6,m7,rfl,_,_,q7⟩:=K7 h7;subst e6;obtain ⟨e5,m6,rfl,_,_,q6⟩:=K7 h6;subst e5;obtain ⟨e4,q5⟩:=Qm h5;subst e4;obtain ⟨e3,q4⟩:=J3 h4;subst e3;obtain ⟨e2,q3⟩:=J3 h3;subst e2;obtain ⟨e1,q2⟩:=J3 h2;subst e1;obtain ⟨_,q1⟩:=J3 h1;refine ⟨hR,?_⟩;rw [OW hR,q1,q2,q3,q4,q5,q6,q7,q8,q9];dsimp only
   rw [<-hf,Int.toNat_natCast,Int.toNat_natCast];simp only [List.append_assoc,List.cons_append]
 ·rw [if_neg hf] at hno;exact absurd hno.symm (bad _)
def Io (v:Int) (l:List SC):List Int:=l.flatMap λc=>bytesOf (KV v c)
theorem KT (v:Int):∀ (l:List SC) (b:ByteArray),bytesOf (Ic v l b)=bytesOf b++Io v l
 |[],b=>by simp [Ic,Io]
 |c::l,b=>by
  rw [JO,KT v l,Dm];simp [Io]
theorem Vh (out:List SC) (c:SC) (s:ByteArray) (n:Int):∃ n2,JX out c s n=some (s,n2):=by
 unfold JX;split
 ·exact ⟨_,FD _ _ _ _⟩
 ·exact ⟨n,rfl⟩
theorem XN {out:List SC} {c:SC} {s:ByteArray} {n:Int} (h:JX out c s n=some (s,0)):n=0:=by
 unfold JX at h;split at h
 ·rw [FD] at h;simp only [Option.some.injEq,Prod.mk.injEq,true_and] at h;by_cases h0:n=0
  ·exact h0
  ·simp only [FI,if_neg h0,ite_self] at h;exact h
 ·simp only [Option.some.injEq,Prod.mk.injEq,true_and] at h;exact h
theorem Vi {v:Int} {m:Nat} {s s1:ByteArray} {out:List SC} {c:SC} {n1 n2:Int} {r:List SC×ByteArray×Int} (h:Ev (λk=>Fz k v (m+1) s 0 out) r) (hp:Ev (λk=>JW k s 0 v) (c,s1,n1)) (ho:JX out c s1 n1=some (s1,n2)):
 Ev (λk=>if n2=0 then Fz k v m s1 n2 (out++[c]) else some (out++[c],s1,n2)) r:=by
 obtain ⟨K,h⟩:=h;obtain ⟨L,hp⟩:=hp;refine ⟨K+L,λk hk=>?_⟩;have:=h k (by omega);have hp':JW k s 0 v=some (c,s1,n1):=hp k (by omega);unfold Fz at this;dsimp only at this;rw [hp',Option.bind_some] at this;dsimp only at this;rw [ho,Option.bind_some] at this;exact this
theorem OX {v:Int} (hv:1<=v/\v<=3):∀ (m:Nat) (s s':ByteArray) (out out':List SC),s.size<=1000000000->Ev (λk=>Fz k v m s 0 out) (out',s',0)->
 ∃ l,out'=out++l/\l.length=m/\bytesOf s=Io v l++bytesOf s'
 |0,s,s',out,out',hs,h=>by
  have:=K5 h (Ad (out,s,0));simp only [Prod.mk.injEq,and_true] at this;obtain ⟨rfl,rfl⟩:=this;exact ⟨[],by simp,rfl,by simp [Io]⟩
 |m+1,s,s',out,out',hs,h=>by
  obtain ⟨c,s1,n1,S1,E1,C,hp,hq,hsim,heq,hf,hf2,hz1,hz2,hk⟩:=NL (v:=v) (s:=s) (S:=s) (no:=0) (E:=0) hv hs hs ⟨rfl,λ_=>rfl⟩;obtain ⟨n2,ho⟩:=Vh out c s1 n1;have h2:=Vi h hp ho;by_cases h0:n2=0
  ·simp only [if_pos h0] at h2;subst h0;obtain rfl:=XN ho;obtain ⟨hR,hb⟩:=UH hv hs hp;obtain ⟨l,rfl,hl,hb2⟩:=OX hv m s1 s' _ out' (by omega) h2;refine ⟨c::l,by simp,by simp [hl],?_⟩;rw [hb,hb2];simp [Io]
  ·simp only [if_neg h0] at h2;have:=K5 h2 (Ad _);simp only [Prod.mk.injEq] at this;exact absurd this.2.2.symm h0
theorem Qn {v:Int} (hv:1<=v/\v<=3):∀ (l:List SC) (s:ByteArray) (out:List SC) (rest:List Int),s.size<=1000000000->(∀ c∈l,Fy c=true)->out.length+l.length<=100->Eh D9 kC (out++l.map (GK (3+v) 0))->bytesOf s=Io v l++rest->
 ∃ s',Ev (λk=>Fz k v l.length s 0 out) (out++l.map (GK (3+v) 0),s',0)/\bytesOf s'=rest
 |[],s,out,rest,hs,hr,hl,hR,hb=>⟨s,BJ (Ad _) (by simp),hb⟩
 |c::l,s,out,rest,hs,hr,hl,hR,hb=>by
  have hb':bytesOf s=bytesOf (KV v c)++(Io v l++rest):=by rw [hb];simp [Io]
  obtain ⟨s1,hp,b1⟩:=Vg hv hs (hr c (.head _)) hb';have z1:s1.size<=1000000000:=by
   have:=congrArg List.length hb';rw [<-b1] at this;simp only [List.length_append,bytesOf_length] at this;omega
  have hR':Eh D9 kC ((out++[GK (3+v) 0 c])++l.map (GK (3+v) 0)):=by simpa using hR
  rw [List.length_cons] at hl;obtain ⟨s',hq,b'⟩:=Qn hv l s1 (out++[GK (3+v) 0 c]) rest z1 (λx hx=>hr x (.tail _ hx)) (by rw [List.length_append];simp;omega) hR' b1;have ho:JX out (GK (3+v) 0 c) s1 0=some (s1,0):=by
   unfold JX;by_cases hz:0<out.length
   ·obtain ⟨q,hq1⟩:∃ q,out.length=q+1:=⟨out.length - 1,by omega⟩;have hrd:=(Sl hq1).resolve_right (by omega);have hrd2:AB out ((out.length:Int) - 1)=out[q]'(by omega):=by rw [<-hrd,hq1,show wrap64 (((q+1:Nat):Int) - 1)=((q+1:Nat):Int) - 1 by unfold wrap64;omega]
    have hlt:Gd (kC (out[q]'(by omega))) (kC (GK (3+v) 0 c))<0:=(List.pairwise_append.1 hR).2.2 _ (List.getElem_mem _) _ (by simp);rw [if_pos hz,FD,hrd2];have hd:decide (0<=Gd (kC (out[q]'(by omega))) (kC (GK (3+v) 0 c)))=false:=decide_eq_false (by omega);show some (s1,FI 0 (decide (0<=Gd (kC (out[q]'(by omega))) (kC (GK (3+v) 0 c)))) 224)=_;rw [hd];rfl
   ·rw [if_neg hz]
  refine ⟨s',?_,b'⟩;rw [List.length_cons];unfold Fz;refine AY hp (AY (D6 ho) ?_);dsimp only
  refine AU rfl (BJ hq ?_);simp
end Go.Proofs.YtfggjdkccdkogaaGreatDoor.Y
end
section
namespace Go.Proofs.YtfggjdkccdkogaaGreatDoor.Y
set_option linter.unusedVariables false
set_option linter.unusedSimpArgs false
open RowKit Print Ac Aq Aw
theorem Np {s:ByteArray} {l:List UInt8} (h:s.toList=l):bytesOf s=l.map λ(b:UInt8)=>(b.toNat:Int):=by
 rw [Gj, <-h,toList_data]
theorem JE {r:Int×List SC×Int} {v e:Int} {out:List SC} (h:Ev (λ_=>some r) (v,out,0)) (hr:r.2.2=e) (he:e≠0):False:=by
 have:=K5 h (Ad r);rw [<-this] at hr;exact he hr.symm
theorem XO {s:ByteArray} {v:Int} {out:List SC} (h8:8<=s.size) (hc:(s.extract 0 2).toList=([67,74]:List UInt8)) (hv:bt s 2=v) (hv1:1<=v/\v<=3) (hl:out.length<=100) (hh:bytesOf (FP s)=GX out.length++Io v out):
 s.extract 0 (s.size - 4)=Ic v out (headW v out.length):=by
 apply EP;have e1:bytesOf (s.extract 0 (s.size - 4))=(bytesOf s).take (s.size - 4):=by rw [Dj,List.drop_zero,Nat.sub_zero]
 have e2:bytesOf (FP s)=((bytesOf s).take (s.size - 4)).drop 3:=by unfold FP;rw [Dj,List.drop_take]
 have e3:(bytesOf s).take 2=[67,74]:=by
  have:=Np hc;rw [Dj,List.drop_zero,Nat.sub_zero] at this;exact this
 have hlen:=bytesOf_length s;have e4:((bytesOf s).take (s.size - 4)).take 3=[67,74,v]:=by
  rw [List.take_take,Nat.min_eq_left (by omega),List.take_add_one,e3];have:(bytesOf s)[2]? =some v:=by
   rw [List.getElem?_eq_getElem (by omega)];have hb:=OD s 2;rw [hv,show (2:Int).toNat=2 by rfl,List.getD_eq_getElem?_getD,List.getElem?_eq_getElem (by omega)] at hb;exact congrArg some hb.symm
  rw [this];rfl
 rw [KT,e1, <-List.take_append_drop 3 ((bytesOf s).take (s.size - 4)),e4, <-e2,hh];have e5:bytesOf (headW v out.length)=[67,74]++([v]++GX out.length):=by
  unfold headW;rw [Dm,Dm,show v%256=v by omega,J4 (by omega) (by omega),Ib (by omega) (by omega),Int.toNat_natCast,List.append_assoc];rfl
 rw [e5];simp
theorem UI {s:ByteArray} {v:Int} {out:List SC} (hs:s.size<=1000000000) (h:Ev (λk=>Ck.f k s) (v,out,0)):s=Lm v out/\(1<=v/\v<=3):=by
 unfold Ck.f at h;simp only [if_neg (show ¬1000000000<s.size by omega)] at h;by_cases h8:s.size<8
 ·simp only [if_pos h8] at h;exact (JE h rfl (by decide)).elim
 simp only [if_neg h8] at h;by_cases hc:(s.extract 0 2).toList=([67,74]:List UInt8)
 rotate_left
 ·simp only [if_neg hc] at h;exact (JE h rfl (by decide)).elim
 simp only [if_pos hc] at h;by_cases hv:bt s 2<1\/3<bt s 2
 ·simp only [if_pos hv] at h;exact (JE h rfl (by decide)).elim
 simp only [if_neg hv,MR hs,Option.bind_some] at h;by_cases hr:IY s=true
 rotate_left
 ·simp only [if_neg hr] at h;exact (JE h rfl (by decide)).elim
 simp only [if_pos hr] at h;have hw:wrap64 (bt s 2)=bt s 2:=by unfold wrap64;omega
 have hv':1<=bt s 2/\bt s 2<=3:=by omega
 generalize hvv:bt s 2=u at*
 have hh:(FP s).size<=1000000000:=by unfold FP;rw [ByteArray.size_extract];omega
 rcases h1:Ie 60 (FP s) 0 with ⟨N,s1,n1⟩
 have p1:=FT (s:=FP s) (no:=0) (most:=60) hh (by decide) (by decide);have z1:=Gy 60 (FP s) 0;rw [h1] at p1 z1;simp only at z1;unfold Je at h;rw [hvv,hw] at h;have h2:=Jn h p1;dsimp only at h2;have hN:0<=N/\N<=60:=by
  have ha:=OL (FP s);have:N=mn (tk (FP s)).1 60:=by have:=congrArg (·.1) h1;unfold Ie at this;rw [if_pos rfl] at this;exact this.symm
  rw [this];unfold mn;split<;>omega
 simp only [if_pos hN] at h2;have key:∀ (out':List SC) (s':ByteArray) (no':Int),Ev (λk=>Fz k u N.toNat s1 n1 []) (out',s',no')->(∀ c∈out',Fb c)->out'.length<=100->no'=0/\s'.size=0/\v=u/\out=out':=by
  intro out' s' no' e1 e2 e3;have h3:=Jn h2 e1;dsimp only at h3;have h4:=Jn h3 (NG (l:=out') e3 e2);dsimp only at h4;simp only [Pf,FD,Option.bind_some] at h4;by_cases he:FI no' (!(decide (s'.size=0))||(Po out').2 != 0) 224=0
  ·simp only [if_pos he] at h4;have hu:=K5 h4 (Ad _);simp only [Prod.mk.injEq] at hu;by_cases hn:no'=0
   ·refine ⟨hn,?_,hu.1,hu.2.1⟩;by_cases hz:s'.size=0
    ·exact hz
    ·rw [decide_eq_false hz] at he;simp [FI,hn] at he
   ·simp only [FI,if_neg hn,ite_self] at he;exact absurd he hn
  ·simp only [if_neg he] at h4;exact (JE h4 rfl he).elim
 by_cases hn1:n1=0
 ·subst hn1;obtain ⟨_,m,rfl,hm60,_,hb⟩:=K7 h1;rw [Int.toNat_natCast] at key;obtain ⟨out',s',no',e1,e2,e3,e4,e5⟩:=OU (v:=u) (N:=m) hv' (by omega) m 0 s1 [] (by omega) rfl (by omega) List.Pairwise.nil (λc hc=>(by cases hc));obtain ⟨k1,k2,rfl,rfl⟩:=key out' s' no' e1 e2 (by omega);subst k1;obtain ⟨l,hl1,hl2,hl3⟩:=OX hv' m s1 s' [] out (by omega) e1;rw [List.nil_append] at hl1;subst hl1;rw [H7.2 k2,List.append_nil] at hl3;rw [hl3, <-hl2] at hb;have hbody:=XO (out:=out) (by omega) hc hvv hv' (by omega) hb;refine ⟨?_,hv'⟩;unfold IY at hr;rw [Bool.and_eq_true] at hr;have ht:=of_decide_eq_true hr.2;rw [hbody] at ht;apply EP;unfold Lm;rw [Dm, <-ht, <-hbody,JD,Dj,List.drop_zero,Nat.sub_zero,List.take_append_drop]
 ·obtain ⟨out',s',e1,e2,e3⟩:=Ql (v:=u) hv' (s:=s1) (no:=n1) (by omega) hn1 N.toNat;exact absurd (key out' s' n1 e1 e2 (by omega)).1 hn1
theorem Vj {l:List SC} (h:IZ l=false):l.length<=60:=by
 unfold IZ at h;rw [Bool.or_eq_false_iff] at h;have:=of_decide_eq_false h.2;omega
theorem Rn {v:Int} {l:List SC} (hv:1<=v/\v<=3) (hs:∀ c∈l,Fb c) (hj:PU l):Ev (λk=>Ck.f k (Lm v l)) (v,l.map (GK (3+v) 0),0):=by
 have hl:=Vj hj.few;have hm:KA (3+v) 0:=⟨by omega,by decide⟩;have hkj:=Vq hm hj;have hkf:∀ c∈l.map (GK (3+v) 0),Fb c:=λc hc=>by obtain ⟨x,hx,rfl⟩:=List.mem_map.1 hc;exact hs x hx
 have hB:bytesOf (Ic v l (headW v l.length))=[67,74,v]++(GX l.length++Io v l):=by
  rw [KT];unfold headW;rw [Dm,Dm,show v%256=v by omega,J4 (by omega) (by omega),Ib (by omega) (by omega),Int.toNat_natCast];simp only [List.append_assoc];rfl
 have hz:=NP v l (headW v l.length) hs;have hz2:=KW v l.length;have hd:=LA l.length;generalize hbody:Ic v l (headW v l.length)=B at*
 have hz3:4<=B.size:=by
  have:=congrArg List.length hB;simp only [bytesOf_length,List.length_append,List.length_cons,List.length_nil] at this;omega
 have hw:Lm v l=B++F5 B:=by unfold Lm;rw [hbody]
 rw [hw];have ht:=IX B;have hsz:(B++F5 B).size=B.size+4:=by rw [ByteArray.size_append,ht]
 have hall:bytesOf (B++F5 B)=[67,74,v]++(GX l.length++Io v l)++bytesOf (F5 B):=by rw [Dm,hB]
 have hBl:=bytesOf_length B;have hfront:(B++F5 B).extract 0 ((B++F5 B).size - 4)=B:=by
  apply EP;rw [Dj,Dm,hsz,List.drop_zero,Nat.sub_zero,Nat.add_sub_cancel];exact List.take_left' hBl
 have hright:IY (B++F5 B)=true:=by
  unfold IY;rw [hfront,decide_eq_true (by omega),Bool.true_and];refine decide_eq_true ?_;rw [JD,Dm,hsz,Nat.add_sub_cancel];exact List.drop_left' hBl
 have hhead:bytesOf (FP (B++F5 B))=GX l.length++Io v l:=by
  unfold FP;rw [Dj, <-List.drop_take,hsz,Nat.add_sub_cancel,Dm,List.take_left' hBl,hB];rfl
 have hc:((B++F5 B).extract 0 2).toList=([67,74]:List UInt8):=by
  have:(B++F5 B).extract 0 2=(⟨#[67,74]⟩:ByteArray):=by
   apply EP;rw [Dj,hall];rfl
  rw [this,toList_data]
 have hb2:bt (B++F5 B) 2=v:=SX (i:=2) (l:=GX l.length++Io v l++bytesOf (F5 B)) (by rw [hall];simp);have hh:(FP (B++F5 B)).size<=1000000000:=by unfold FP;rw [ByteArray.size_extract];omega
 obtain ⟨s1,t1,b1⟩:=MW (n:=l.length) (most:=60) (by omega) (by decide) hhead;have p1:=FT (s:=FP (B++F5 B)) (no:=0) (most:=60) hh (by decide) (by decide);have z1:=Gy 60 (FP (B++F5 B)) 0;rw [t1] at p1 z1;simp only at z1;obtain ⟨s',r1,r2⟩:=Qn hv l s1 [] [] (by omega) hj.right (by simp;omega) (by simpa using hkj.rises) (by rw [b1,List.append_nil]);rw [List.nil_append] at r1;have ho:=NG (l:=l.map (GK (3+v) 0)) (by rw [List.length_map];omega) hkf;rw [Kv hkj] at ho;have hz':s'.size=0:=H7.1 r2;unfold Ck.f;refine Ab (by omega) (Ab (by omega) (AU hc (Ab (by omega) (AY (D6 (MR (by omega))) (AU hright ?_)))));unfold Je;rw [hb2,show wrap64 v=v by unfold wrap64;omega];refine AY p1 (AU (by omega) ?_);dsimp only
 rw [Int.toNat_natCast];refine AY r1 (AY ho (AY (D6 (FD _ _ _ _)) ?_));dsimp only
 rw [Pf,decide_eq_true hz'];exact AU rfl (Ad _)
end Go.Proofs.YtfggjdkccdkogaaGreatDoor.Y
end
