/- What a format keeps of a jar: the program's and the document's; it is a jar again. -/
import Derived.Test.YtccmackhhppbdaaGreatDoorPrint18
import Derived.Test.YtccmackhhppbdaaGreatDoorYB
section
namespace Go.Proofs.YtccmackhhppbdaaGreatDoor.Y
set_option linter.unusedVariables false
set_option linter.unusedSimpArgs false
open RowKit Print Af BI BM
theorem Ol {α:Type} {f:Nat->Option α} {r:α} (hm:∀ k,Bu (f k) (f (k+1))) (K:Nat) (h:f K=some r):Ev f r:=by
 refine ⟨K,λk hk=>?_⟩;obtain ⟨d,rfl⟩:∃ d,k=K+d:=⟨k - K,by omega⟩;clear hk;induction d with
 |zero=>exact h
 |succ d ih=>exact hm _ _ ih
theorem JD:Ev (λk=>Bh.f k) true:=Ol Bh.mono 60 (by decide+kernel)
abbrev Ro:=ByteArray×ByteArray×ByteArray×ByteArray×Int×Int×Int×Bool×Bool×Bool×Int×Bool
def GU (f now:Int):Prop:=(1<=f/\f<=6)/\0<=now/\now<=253402300799
instance (f now:Int):Decidable (GU f now):=inferInstanceAs (Decidable (_/\_))
def Mj (f now:Int) (d p n v:ByteArray) (c4 c5 c6:Int) (b7 b8 b9:Bool) (ss:Int):Ro:=
 (d,p,n,v,(if f<=3 then now else c4),(if f<=3 then now else if f=4 then c4 else c5),c6,(if f=2 then true else if f=4 then true else b7),b8,b9,(if f=1 then 0 else if f=4 then 0 else if f=5 then 0 else ss),true)
def Jk (f now:Int) (d p n v:ByteArray) (c4 c5 c6:Int) (b7 b8 b9:Bool) (ss:Int):Ro:=
 if GU f now then Mj f now d p n v c4 c5 c6 b7 b8 b9 ss else (⟨#[]⟩,⟨#[]⟩,⟨#[]⟩,⟨#[]⟩,0,0,0,false,false,false,0,false)
theorem six {f:Int} (h:1<=f/\f<=6):f=1\/f=2\/f=3\/f=4\/f=5\/f=6:=by omega
theorem Pz {f:Int} (h:¬(1<=f/\f<=6)):CZ.f f=some ⟨#[]⟩:=by
 unfold CZ.f;by_cases h1:f<1
 ·rw [if_pos h1]
 ·rw [if_neg h1,if_pos (by omega)]
def QS (f:Int):ByteArray:=if f=1 then ⟨#[110,101,116,115,99,97,112,101]⟩ else if f=2 then ⟨#[104,97,114]⟩ else if f=3 then ⟨#[114,101,112,108,97,121]⟩ else if f=4 then ⟨#[118,49]⟩ else if f=5 then ⟨#[118,50]⟩ else ⟨#[118,51]⟩
theorem Om {f:Int} (h:1<=f/\f<=6):CZ.f f=some (QS f)/\(QS f).toList≠[]:=by
 rcases six h with rfl|rfl|rfl|rfl|rfl|rfl<;>exact ⟨by decide+kernel,by decide+kernel⟩
section
variable {f now:Int} {d p n v:ByteArray} {c4 c5 c6:Int} {b7 b8 b9:Bool} {ss:Int}
theorem Ib:Ev (λk=>Aq.f k f now d p n v c4 c5 c6 b7 b8 b9 ss) (Jk f now d p n v c4 c5 c6 b7 b8 b9 ss):=by
 have no:∀ x:Bool,x=true->Ev (λk=>Aq.j0 k f now x d p n v c4 c5 c6 b7 b8 b9 ss) (⟨#[]⟩,⟨#[]⟩,⟨#[]⟩,⟨#[]⟩,0,0,0,false,false,false,0,false):=by
  rintro x rfl;apply BH;simp only [Aq.j0];exact AU trivial (Ao _)
 unfold Jk Aq.f;by_cases h:1<=f/\f<=6
 ·obtain ⟨h1,h2⟩:=Om h;rw [h1];refine BN (Ao _) (Ah h2 ?_);by_cases h3:now<0
  ·rw [if_neg (λhm=>by have:=hm.2;omega)];exact AU h3 (no _ rfl)
  refine Ah h3 ?_;by_cases h4:now>253402300799
  ·rw [if_neg (λhm=>by have:=hm.2;omega)];exact no _ (decide_eq_true h4)
  rw [if_pos ⟨h,by omega,by omega⟩,decide_eq_false h4];clear h1 h2 no;apply BH;refine ⟨0,λk _=>?_⟩;rcases six h with rfl|rfl|rfl|rfl|rfl|rfl<;>simp [Aq.j0,Mj]
 ·rw [Pz h,if_neg (λhm=>h hm.1)];exact BN (Ao _) (AU (by decide+kernel) (no _ rfl))
theorem Hl (h:GU f now):Jk f now d p n v c4 c5 c6 b7 b8 b9 ss=Mj f now d p n v c4 c5 c6 b7 b8 b9 ss:=if_pos h
theorem JE (h:¬GU f now):Jk f now d p n v c4 c5 c6 b7 b8 b9 ss=(⟨#[]⟩,⟨#[]⟩,⟨#[]⟩,⟨#[]⟩,0,0,0,false,false,false,0,false):=if_neg h
end
end Go.Proofs.YtccmackhhppbdaaGreatDoor.Y
end
section
namespace Go.Proofs.YtccmackhhppbdaaGreatDoor.Y
set_option linter.unusedVariables false
set_option linter.unusedSimpArgs false
open RowKit Print Af BI BM
theorem Ml (f now:Int):CG.f f now=some (decide (GU f now)):=by
 by_cases h:GU f now
 ·obtain ⟨⟨h1,h2⟩,h3,h4⟩:=id h;rw [decide_eq_true h];unfold CG.f;rw [if_pos h1,if_pos h2,if_pos h3,decide_eq_true h4]
 ·rw [decide_eq_false h];unfold CG.f;by_cases h1:f>=1
  ·rw [if_pos h1];by_cases h2:f<=6
   ·rw [if_pos h2];by_cases h3:now>=0
    ·rw [if_pos h3,decide_eq_false (λh4=>h ⟨⟨h1,h2⟩,h3,h4⟩)]
    ·rw [if_neg h3]
   ·rw [if_neg h2]
  ·rw [if_neg h1]
theorem LC {f now:Int} {d p n v:ByteArray} {c4 c5 c6:Int} {b7 b8 b9:Bool} {ss:Int}:Ev (λk=>Ak.f k f now d p n v c4 c5 c6 b7 b8 b9 ss) (Jk f now d p n v c4 c5 c6 b7 b8 b9 ss):=by
 unfold Ak.f;rw [Ml];refine BN (Ao _) ?_;by_cases h:GU f now
 ·rw [decide_eq_true h,Hl h];refine AU rfl ⟨3,λk hk=>?_⟩;obtain ⟨k,rfl⟩:∃ m,k=m+3:=⟨k - 3,by omega⟩;rcases six h.1 with rfl|rfl|rfl|rfl|rfl|rfl<;>cases b7<;>simp [Ak.j0,Ak.j1,Ak.j2,Mj]
 ·rw [decide_eq_false h,JE h];exact Ah (by decide) (Ao _)
end Go.Proofs.YtccmackhhppbdaaGreatDoor.Y
end
section
namespace Go.Proofs.YtccmackhhppbdaaGreatDoor.Y
set_option linter.unusedVariables false
set_option linter.unusedSimpArgs false
open RowKit Print Af BI BM
theorem Lm {f now:Int} {d p n v:ByteArray} {c4 c5 c6:Int} {ho:Bool} {ss:Int} (h:GU f now) (hr:GX d p n v c4 c5 c6 ho ss=true):
 GX d p n v (if f<=3 then now else c4) (if f<=3 then now else if f=4 then c4 else c5) c6 (if f=2 then true else if f=4 then true else ho) (if f=1 then 0 else if f=4 then 0 else if f=5 then 0 else ss)=true:=by
 have hn:Js 253402300799 now=true:=by unfold Js;rw [Bool.and_eq_true];exact ⟨decide_eq_true h.2.1,decide_eq_true h.2.2⟩
 unfold GX Nf LG H9 at hr⊢
 simp only [Bool.and_eq_true,decide_eq_true_eq] at hr⊢
 obtain ⟨r1,r2,r3,r4,r5,r6,r7,r8,⟨r9,r10,r11⟩,r12,r13⟩:=hr;refine ⟨r1,r2,?_,r4,r5,r6,r7,r8,⟨?_,?_,r11⟩,?_,?_⟩
 ·by_cases e:f=2
  ·rw [if_pos e];simp
  ·rw [if_neg e];by_cases e4:f=4
   ·rw [if_pos e4];simp
   ·rw [if_neg e4];exact r3
 ·split
  ·exact hn
  ·exact r9
 ·split
  ·exact hn
  ·split
   ·exact r9
   ·exact r10
 ·repeat (first|omega|split)
 ·repeat (first|omega|split)
def E5 (f now:Int) (c:SC):SC:=⟨c.f0,c.f1,c.f2,c.f3,(if f<=3 then now else c.f4),(if f<=3 then now else if f=4 then c.f4 else c.f5),c.f6,(if f=2 then true else if f=4 then true else c.f7),c.f8,c.f9,(if f=1 then 0 else if f=4 then 0 else if f=5 then 0 else c.f10)⟩
abbrev Rc (t:Ro):SC:=⟨t.1,t.2.1,t.2.2.1,t.2.2.2.1,t.2.2.2.2.1,t.2.2.2.2.2.1,t.2.2.2.2.2.2.1,t.2.2.2.2.2.2.2.1,t.2.2.2.2.2.2.2.2.1,t.2.2.2.2.2.2.2.2.2.1,t.2.2.2.2.2.2.2.2.2.2.1⟩
abbrev Oo (f now:Int) (c:SC):Ro:=Jk f now c.f0 c.f1 c.f2 c.f3 c.f4 c.f5 c.f6 c.f7 c.f8 c.f9 c.f10
theorem Oq {f now:Int} (h:GU f now) (c:SC):Rc (Oo f now c)=E5 f now c:=by unfold Oo;rw [Hl h];rfl
theorem K9 (f now:Int) (c:SC):E5 f now (E5 f now c)=E5 f now c:=by
 unfold E5;simp only [CB.mk.injEq,true_and];refine ⟨?_,?_,?_,?_⟩<;>repeat (first|rfl|split)
def Ee (f now:Int) (l:List SC):List SC×Bool:=if GU f now then (l.map (E5 f now),true) else ([],false)
theorem Ot (f now:Int) (d:ByteArray) (l:List SC):Gx d (l.map (E5 f now))=Gx d l:=by
 unfold Gx;rw [List.filter_map,List.length_map];rfl
theorem NU (f now:Int) (l:List SC):GQ (l.map (E5 f now))=GQ l:=by
 unfold GQ;rw [List.length_map,List.any_map];congr 1;congr 1;funext x;show decide (12<Gx (E5 f now x).f0 (l.map (E5 f now)))=_;rw [Ot];rfl
theorem LA {f now:Int} {l:List SC} (hm:GU f now) (h:IX l):IX (l.map (E5 f now)):=by
 refine ⟨List.pairwise_map.2 h.rises,λc hc=>?_,by rw [NU];exact h.few⟩;obtain ⟨x,hx,rfl⟩:=List.mem_map.1 hc;exact Lm hm (h.right x hx)
theorem Mk:IX []:=⟨List.Pairwise.nil,λ_ h=>(List.not_mem_nil h).elim,rfl⟩
theorem NV {f now:Int} {l:List SC} (h:IX l):IX (Ee f now l).1:=by
 unfold Ee;split
 ·exact LA (by assumption) h
 ·exact Mk
theorem NW {f now:Int} {l:List SC} (h:∀ c∈l,E9 c):∀ c∈(Ee f now l).1,E9 c:=by
 unfold Ee;split
 ·intro c hc;obtain ⟨x,hx,rfl⟩:=List.mem_map.1 hc;exact h x hx
 ·intro c hc;cases hc
theorem NY (f now:Int) (l:List SC):(Ee f now l).1.length<=l.length:=by
 unfold Ee;split
 ·simp
 ·exact Nat.zero_le _
theorem Lp (f now:Int) (l:List SC):Ee f now (Ee f now l).1=Ee f now l:=by
 by_cases h:GU f now
 ·unfold Ee;rw [if_pos h,if_pos h,List.map_map];congr 1;refine List.map_congr_left λc _=>?_
  exact K9 f now c
 ·unfold Ee;rw [if_neg h,if_neg h]
theorem P5 (f now:Int) (l:List SC) (hl:l.length<=1000):∀ n j (acc:List SC),l.length - j=n->j<=l.length->acc.length<=j->
 Ev (λk=>BX.l0 k f now l acc (j:Int)) (if GU f now then (acc++(l.drop j).map (E5 f now),true) else ([],false)):=by
 intro n;induction n with
 |zero=>
  intro j acc hn hj ha;obtain rfl:j=l.length:=by omega
  refine BH ?_;simp only [BX.l0];refine Ah (by omega) ?_;rw [Ml];refine BN (Ao _) ?_;by_cases h:GU f now
  ·rw [if_pos h,List.drop_length,List.map_nil,List.append_nil];exact AU (decide_eq_true h) (Ao _)
  ·rw [if_neg h];exact Ah (by simpa using h) (Ao _)
 |succ n ih=>
  intro j acc hn hj ha;have hlt:j<l.length:=by omega
  refine BH ?_;simp only [BX.l0];refine AU (by omega) (AU (by omega) (BN LC (AU (by omega) ?_)));have hr:AB l (j:Int)=l[j]:=by unfold AB;rw [Int.toNat_natCast,List.getD_eq_getElem?_getD,List.getElem?_eq_getElem hlt];rfl
  rw [hr,Fp (j:=j) (by omega)];have:=ih (j+1) (acc++[Rc (Oo f now l[j])]) (by omega) (by omega) (by rw [List.length_append];simp;omega);refine BL this ?_;by_cases h:GU f now
  ·rw [if_pos h,if_pos h,Oq h,List.append_assoc,List.drop_eq_getElem_cons hlt];rfl
  ·rw [if_neg h,if_neg h]
theorem Ou (f now:Int) {l:List SC} (hl:l.length<=1000):Ev (λk=>BX.f k f now l) (Ee f now l):=by
 have:=P5 f now l hl _ 0 [] rfl (Nat.zero_le _) (Nat.le_refl _);simpa [BX.f,Ee] using this
theorem P6 {f now:Int} (hm:GU f now) (l:List SC) (hl:l.length<=100) (hj:IX l) (hs:∀ c∈l,E9 c):∀ n j (acc:List SC),l.length - j=n->j<=l.length->acc=(l.take j).map (E5 f now)->
 Ev (λk=>Bn.l0 k f now acc l (l.length:Int) (j:Int)) ((l.map (E5 f now)).map EW,true):=by
 intro n;induction n with
 |zero=>
  intro j acc hn hjl ha;obtain rfl:j=l.length:=by omega
  rw [List.take_length] at ha;subst ha;refine BH ?_;simp only [Bn.l0];have ho:=Ll (l:=l.map (E5 f now)) (by rw [List.length_map];exact hl) (λc hc=>by obtain ⟨x,hx,rfl⟩:=List.mem_map.1 hc;exact hs x hx);rw [Hg (LA hm hj)] at ho;refine Ah (by omega) (BN ho (BN Ib ?_));rw [Hl hm];exact AU rfl (Ao _)
 |succ n ih=>
  intro j acc hn hjl ha;have hlt:j<l.length:=by omega
  have hal:acc.length<=j:=by rw [ha,List.length_map,List.length_take];omega
  refine BH ?_;simp only [Bn.l0];refine AU (by omega) (AU (by omega) (AU (by omega) (BN Ib ?_)));have hr:AB l (j:Int)=l[j]:=by unfold AB;rw [Int.toNat_natCast,List.getD_eq_getElem?_getD,List.getElem?_eq_getElem hlt];rfl
  rw [hr,Hl hm,Fp (j:=j) (by omega)];refine AU rfl (AU (by omega) ?_);refine ih (j+1) (acc++[E5 f now l[j]]) (by omega) (by omega) ?_;rw [ha,List.take_add_one,List.getElem?_eq_getElem hlt,List.map_append];rfl
theorem LB (f now:Int) {l:List SC} (hl:l.length<=100) (hj:IX l) (hs:∀ c∈l,E9 c):Ev (λk=>Bn.f k f now (l.map EW)) ((Ee f now l).1.map EW,(Ee f now l).2):=by
 simp only [Bn.f,JB (show l.length<=10000 by omega),Option.bind_some];by_cases hm:GU f now
 ·have:=P6 hm l hl hj hs _ 0 [] rfl (Nat.zero_le _) rfl;unfold Ee;rw [if_pos hm];exact this
 ·unfold Ee;rw [if_neg hm];refine BH ?_;simp only [Bn.l0]
  match l,hl with
  |[],_=>
   have ho:=Ll (l:=[]) (Nat.zero_le _) (λc hc=>by cases hc);rw [Hg Mk] at ho;refine Ah (by simp) (BN ho (BN Ib ?_));rw [JE hm];exact Ah (by simp) (Ao _)
  |c::l,hl=>
   refine AU (by simp) (AU (by omega) (AU (by simp) (BN Ib ?_)));rw [JE hm];exact Ah (by simp) (Ao _)
theorem Ov (a b:List SC) (ha:a.length<=10000) (hb:b.length<=10000):Ev (λk=>FN.f k (a.map EW) (b.map EW)) (Fj a b):=by
 unfold FN.f;simp only [JB ha,JB hb,Option.bind_some];exact BN (Oc a b ha) (Ao _)
noncomputable def F5 (l:List SC):List SC×Bool:=if NQ l=true/\H7 l=true then (l,true) else ([],false)
theorem Ow (l:List SC):Ev (λk=>Cu.f k l) ((F5 l).1.map EW,(F5 l).2):=by
 simp only [Cu.f];refine BN (Qu l) ?_;by_cases hf:NQ l=true
 ·obtain ⟨hl,hs⟩:=Mf.1 hf;refine AU hf (BN (NT hl hs) ?_);by_cases hr:H7 l=true
  ·have hj:=(JC hs).1 hr;have ho:=Ll hl hs;rw [Hg hj] at ho;refine AU hr (BN ho ?_);unfold F5;rw [if_pos ⟨hf,hr⟩];exact Ao _
  ·unfold F5;rw [if_neg (λh=>hr h.2)];exact Ah hr (Ao _)
 ·unfold F5;rw [if_neg (λh=>hf h.1)];exact Ah hf (Ao _)
theorem NZ {l:List SC} (h:(F5 l).2=true):(F5 l).1=l/\l.length<=100/\IX l/\∀ c∈l,E9 c:=by
 unfold F5 at h⊢
 split at h
 ·rename_i hh;obtain ⟨hl,hs⟩:=Mf.1 hh.1;rw [if_pos hh];exact ⟨rfl,hl,(JC hs).1 hh.2,hs⟩
 ·cases h
end Go.Proofs.YtccmackhhppbdaaGreatDoor.Y
end
