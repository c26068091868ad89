/- Which cookies may be, as a plain function on texts and numbers; that the printed function comes to it. Texts have at most 3000 bytes. -/
import Derived.Test.YtikggnalmidlhaaGreatDoorM22
import Derived.Test.YtikggnalmidlhaaGreatDoorYhostC
section
namespace Go.Proofs.YtikggnalmidlhaaGreatDoor.Y
set_option linter.unusedVariables false
set_option linter.unusedSimpArgs false
open RowKit Print AR Aa Ad
abbrev ints (l:List UInt8):List Int:=l.map λb=>(b.toNat:Int)
def sepL (z:Int):List Int->List (List Int)
 |[]=>[[]]
 |x::l=>if x=z then []::sepL z l else R9 x (sepL z l)
theorem Vx (z:Int) (l:List Int):sepL z l≠[]:=by
 cases l with
 |nil=>simp [sepL]
 |cons x l=>
  unfold sepL;split
  ·simp
  ·cases sepL z l<;>simp [R9]
theorem Vt {z:Int} {a:List Int} (h:∀ c∈a,c≠z):sepL z a=[a]:=by
 induction a with
 |nil=>rfl
 |cons x a ih=>
  rw [sepL,if_neg (h x (List.mem_cons_self ..)),ih λc hc=>h c (List.mem_cons_of_mem _ hc)];rfl
theorem WH {z:Int} {a b:List Int} (h:∀ c∈a,c≠z):sepL z (a++z::b)=a::sepL z b:=by
 induction a with
 |nil=>simp [sepL]
 |cons x a ih=>
  rw [List.cons_append,sepL,if_neg (h x (List.mem_cons_self ..)),ih λc hc=>h c (List.mem_cons_of_mem _ hc)];rfl
theorem Wn {z:Int} {l:List Int}:∀ p∈sepL z l,∀ c∈p,c∈l/\c≠z:=by
 induction l with
 |nil=>intro p hp c hc;simp [sepL] at hp;subst hp;simp at hc
 |cons x l ih=>
  intro p hp c hc;unfold sepL at hp;split at hp
  ·rcases List.mem_cons.mp hp with rfl|e
   ·simp at hc
   ·exact ⟨.tail _ (ih p e c hc).1,(ih p e c hc).2⟩
  ·rename_i hx;cases hs:sepL z l with
   |nil=>exact absurd hs (Vx z l)
   |cons q t=>
    rw [hs] at hp ih;simp only [R9] at hp;rcases List.mem_cons.mp hp with rfl|e
    ·rcases List.mem_cons.mp hc with rfl|e
     ·exact ⟨List.mem_cons_self ..,hx⟩
     ·exact ⟨.tail _ (ih q (List.mem_cons_self ..) c e).1,(ih q (List.mem_cons_self ..) c e).2⟩
    ·exact ⟨.tail _ (ih p (List.mem_cons_of_mem _ e) c hc).1,(ih p (List.mem_cons_of_mem _ e) c hc).2⟩
theorem Wo (z:Int) (l:List Int):l.length+1=((sepL z l).map List.length).sum+(sepL z l).length:=by
 induction l with
 |nil=>rfl
 |cons x l ih=>
  unfold sepL;split
  ·simp only [List.length_cons,List.map_cons,List.sum_cons,List.length_nil];omega
  ·cases hs:sepL z l with
   |nil=>exact absurd hs (Vx z l)
   |cons q t=>
    rw [hs] at ih;simp only [R9,List.length_cons,List.map_cons,List.sum_cons] at ih⊢
    omega
theorem V9 (z:Int) (l:List Int):(∀ c∈l,c≠z)\/∃ x r,l=x++z::r/\(∀ c∈x,c≠z)/\r.length<l.length:=by
 induction l with
 |nil=>exact .inl (by simp)
 |cons b l ih=>
  by_cases hb:b=z
  ·subst hb;exact .inr ⟨[],l,rfl,by simp,by simp⟩
  ·rcases ih with h|⟨x,r,rfl,h1,h2⟩
   ·refine .inl λc hc=>?_
    rcases List.mem_cons.1 hc with rfl|e
    ·exact hb
    ·exact h c e
   ·refine .inr ⟨b::x,r,rfl,λc hc=>?_,by simp;omega⟩;rcases List.mem_cons.1 hc with rfl|e
    ·exact hb
    ·exact h1 c e
theorem WN {s:ByteArray} {l:List Int} (h:bytesOf s=l):s=strOfNums l:=by rw [<-h,Vv]
theorem V3 {s:ByteArray} {p:List Int} (h:∀ c∈p,c∈bytesOf s):bytesOf (strOfNums p)=p:=Da λc hc=>EN (h c hc)
theorem Wp {l:List (List Int)} {m:List ByteArray} (h:m.map bytesOf=l):m=l.map strOfNums:=by
 rw [<-h,List.map_map]
 conv=>lhs;rw [<-List.map_id m]
 exact List.map_congr_left λx _=>(Vv x).symm
def TQ (x:List Int):List Int:=if x.getLast?=some 13 then x.dropLast else x
def Wq:List (List Int)->List (List Int)
 |[]=>[]
 |[x]=>if x=[] then [] else [x]
 |x::y::r=>TQ x::Wq (y::r)
def Vh (l:List Int):List (List Int):=Wq (sepL 10 l)
theorem Vo {x:List Int} (h:∀ c∈x,c≠10):Vh x=if x=[] then [] else [x]:=by unfold Vh;rw [Vt h];rfl
theorem Vk {x r:List Int} (h:∀ c∈x,c≠10):Vh (x++10::r)=TQ x::Vh r:=by
 unfold Vh;rw [WH h];cases hs:sepL 10 r with
 |nil=>exact absurd hs (Vx 10 r)
 |cons y t=>rfl
theorem WA {x:List Int} {c:Int} (h:c∈TQ x):c∈x:=by
 unfold TQ at h;split at h
 ·exact (List.dropLast_sublist x).subset h
 ·exact h
theorem WY (x:List Int):(TQ x).length<=x.length:=by
 unfold TQ;split
 ·rw [List.length_dropLast];omega
 ·exact Nat.le_refl _
theorem Vm:∀ (n:Nat) (l:List Int),l.length<=n->((Vh l).length<=l.length)/\∀ p∈Vh l,p.length<=l.length/\∀ c∈p,c∈l/\c≠10:=by
 intro n;induction n with
 |zero=>
  intro l hl;obtain rfl:=List.eq_nil_of_length_eq_zero (Nat.le_zero.1 hl);exact ⟨Nat.le_refl _,λp hp=>by cases hp⟩
 |succ n ih=>
  intro l hl;rcases V9 10 l with h|⟨x,r,rfl,h1,h2⟩
  ·rw [Vo h];split
   ·exact ⟨Nat.zero_le _,λp hp=>by cases hp⟩
   ·rename_i hn;refine ⟨by have:=List.length_pos_iff.2 hn;simp;omega,λp hp=>?_⟩;obtain rfl:=List.mem_singleton.1 hp;exact ⟨Nat.le_refl _,λc hc=>⟨hc,h c hc⟩⟩
  ·rw [Vk h1];obtain ⟨i1,i2⟩:=ih r (by omega);simp only [List.length_append,List.length_cons] at*
   refine ⟨by omega,λp hp=>?_⟩;rcases List.mem_cons.1 hp with rfl|hp
   ·have:=WY x;exact ⟨by omega,λc hc=>⟨by simp [WA hc],h1 c (WA hc)⟩⟩
   ·obtain ⟨j1,j2⟩:=i2 p hp;exact ⟨by omega,λc hc=>⟨by simp [(j2 c hc).1],(j2 c hc).2⟩⟩
def Vi (s:ByteArray):List ByteArray:=(Vh (bytesOf s)).map strOfNums
theorem WI (s:ByteArray):(Vi s).map bytesOf=Vh (bytesOf s):=by
 unfold Vi;rw [List.map_map]
 conv=>rhs;rw [<-List.map_id (Vh (bytesOf s))]
 exact List.map_congr_left λp hp=>V3 λc hc=>(((Vm _ (bytesOf s) (Nat.le_refl _)).2 p hp).2 c hc).1
theorem V4 (s:ByteArray):(Vi s).length<=s.size:=by
 have:=(Vm _ (bytesOf s) (Nat.le_refl _)).1;rw [bytesOf_length] at this;unfold Vi;rw [List.length_map];exact this
theorem WO {s x:ByteArray} (h:x∈Vi s):x.size<=s.size/\∀ c∈bytesOf x,c≠10:=by
 have h1:bytesOf x∈Vh (bytesOf s):=by rw [<-WI];exact List.mem_map_of_mem h
 obtain ⟨j1,j2⟩:=(Vm _ (bytesOf s) (Nat.le_refl _)).2 _ h1;rw [bytesOf_length,bytesOf_length] at j1;exact ⟨j1,λc hc=>(j2 c hc).2⟩
theorem Ws {x r:List UInt8} (h:∀ c∈x,c≠10):Lib.index (x++10::r) [10]=x.length:=by
 rw [Lib.index_one];induction x with
 |nil=>simp [Lib.indexByte]
 |cons b x ih=>
  have hb:(b==10)=false:=beq_eq_false_iff_ne.2 (h b (.head _));have:=ih λc hc=>h c (.tail _ hc)
  simp only [List.cons_append,Lib.indexByte,hb,this,List.length_cons];rw [if_neg (by simp),if_neg (by first|(simp;done)|(simp;omega))];omega
theorem Wt {x:List UInt8} (h:∀ c∈x,c≠10):Lib.index x [10]= -1:=by
 rw [Lib.index_one];induction x with
 |nil=>rfl
 |cons b x ih=>
  have hb:(b==10)=false:=beq_eq_false_iff_ne.2 (h b (.head _));have:=ih λc hc=>h c (.tail _ hc)
  simp [Lib.indexByte,hb,this]
theorem Sa {x:List UInt8} {z:UInt8}:(∀ c∈x,c≠z)↔∀ c∈ints x,c≠(z.toNat:Int):=by
 constructor
 ·intro h c hc;obtain ⟨b,hb,rfl⟩:=List.mem_map.1 hc;intro e;exact h b hb (UInt8.toNat_inj.1 (by omega))
 ·intro h c hc e;exact h _ (List.mem_map_of_mem hc) (by rw [e])
theorem WZ (x:List UInt8):ints (Lib.trimSuffix x [13])=TQ (ints x):=by
 rcases List.eq_nil_or_concat x with rfl|⟨y,b,rfl⟩
 ·rfl
 ·unfold Lib.trimSuffix Lib.hasSuffix TQ ints;rw [List.concat_eq_append,List.map_append,List.map_cons,List.map_nil,List.getLast?_concat,List.dropLast_concat];have hs:[13].isSuffixOf (y++[b])=(b==13):=by
   rw [Bool.eq_iff_iff,List.isSuffixOf_iff_suffix,beq_iff_eq];constructor
   ·rintro ⟨t,ht⟩;exact (List.append_inj' ht rfl).2|>λe=>by simpa using e.symm
   ·rintro rfl;exact ⟨y,rfl⟩
  rw [hs];by_cases hb:b=13
  ·subst hb;rw [if_pos (by rfl),if_pos (by rfl),show (y++[(13:UInt8)]).length - [(13:UInt8)].length=y.length by simp,List.take_left]
  ·rw [if_neg (by simpa using hb),if_neg (λe=>hb (UInt8.toNat_inj.1 (by have:=Option.some.inj e;simp;omega))),List.map_append];rfl
theorem WK:∀ (n:Nat) (l:List UInt8),l.length<=n->(Print.Bq l).map ints=Vh (ints l):=by
 intro n;induction n with
 |zero=>
  intro l hl;obtain rfl:=List.eq_nil_of_length_eq_zero (Nat.le_zero.1 hl);rfl
 |succ n ih=>
  intro l hl;by_cases hne:l=[]
  ·subst hne;rfl
  rw [Print.MJ hne,List.map_cons];have hlt:=LF hne;rw [ih (G8 l) (by omega)];rcases V9 10 (ints l) with h|⟨x,r,e,h1,h2⟩
  ·rw [Vo h,if_neg (by simpa [ints] using hne)];have hi:=Wt (x:=l) (Sa.2 h);unfold MI G8 Lib.cut;rw [hi];rfl
  ·obtain ⟨x',r',rfl,rfl,hr⟩:∃ x' r',l=x'++10::r'/\x=ints x'/\r=ints r':=by
    obtain ⟨x',y',rfl,e1,e2⟩:=List.map_eq_append_iff.1 e;obtain ⟨b,r',rfl,e3,e4⟩:=List.map_eq_cons_iff.1 e2;exact ⟨x',r',by rw [show b=10 from UInt8.toNat_inj.1 (by simp;omega)],e1.symm,e4.symm⟩
   subst hr;rw [show ints (x'++10::r')=ints x'++10::ints r' by simp [ints],Vk h1, <-WZ];have hi:=Ws (x:=x') (r:=r') (Sa.2 h1);unfold MI G8 Lib.cut;rw [hi,if_pos (show (0:Int)<=(x'.length:Int) by omega)];simp only [Int.toNat_natCast,List.take_left,if_true,List.length_cons,List.length_nil];rw [List.drop_append,List.drop_eq_nil_of_le (by omega),show x'.length+(0+1) - x'.length=1 by omega];rfl
theorem Wu {s:ByteArray} (h:s.size<=1000000000):EX.f s=some (Vi s):=by
 unfold EX.f;rw [if_pos h];congr 1;refine Wp ?_;rw [List.map_map];exact WK _ _ (Nat.le_refl _)
theorem WL {s:ByteArray} {a k:Nat} {z:Int} (hak:a<=k) (h2:(bytesOf s).drop k=z::(bytesOf s).drop (k+1)):(bytesOf s).drop a=((bytesOf s).drop a).take (k - a)++z::(bytesOf s).drop (k+1):=by
 conv=>lhs;rw [<-List.take_append_drop (k - a) ((bytesOf s).drop a)]
 rw [List.drop_drop,show a+(k - a)=k by omega,h2]
theorem Vp {s:ByteArray} {a b:Nat}:s.extract a b=strOfNums (((bytesOf s).drop a).take (b - a)):=WN (E9 s a b)
theorem WQ (s:ByteArray) (hs:s.size<=4294967296) (d:Nat):∀ (a k:Nat) (acc:List ByteArray),k+d=s.size->a<=k->acc.length<=a->(∀ c∈((bytesOf s).drop a).take (k - a),c≠10)->Ev (λn=>Vb.l0 n s acc a k) (acc++(Vh ((bytesOf s).drop a)).map strOfNums):=by
 have hl:=bytesOf_length s;induction d with
 |zero=>
  intro a k acc hk hak hacc hno;apply BB;simp only [Vb.l0];rw [List.take_of_length_le (by rw [List.length_drop];omega)] at hno;refine Ah (by omega) ?_;by_cases ha:(a:Int)<(s.size:Int)
  ·refine AU ha (AU (by omega) (AU (by omega) (AU (by omega) (BG (Am _) ?_))));have hne:(bytesOf s).drop a≠[]:=λe=>by have:=congrArg List.length e;simp at this;omega
   rw [Vo hno,if_neg hne];simp only [List.map_cons,List.map_nil,Int.toNat_natCast];rw [Vp,List.take_of_length_le (by rw [List.length_drop];omega)]
  ·refine Ah ha (BG (Am _) ?_);rw [List.drop_eq_nil_of_le (by omega)];simp [Vh,sepL,Wq]
 |succ d ih=>
  intro a k acc hk hak hacc hno;apply BB;simp only [Vb.l0];refine AU (by omega) (AU (by omega) ?_);have hw:wrap64 ((k:Int)+1)=((k+1:Nat):Int):=by rw [KD (by omega) (by omega)];omega
  rw [hw];rcases DJ s (i:=k) (by omega) with ⟨h1,_⟩|⟨h1,h2⟩
  ·omega
  ·by_cases hc:bt s k=10
   ·refine AU hc ?_;rw [hc] at h2;have e:=WL hak h2;have nx:=ih (k+1) (k+1);by_cases hka:(k:Int)>(a:Int)
    ·refine AU hka ?_;have hw1:wrap64 ((k:Int) - 1)=((k - 1:Nat):Int):=by rw [KD (by omega) (by omega)];omega
     rw [hw1];refine AU (by omega) (AU (by omega) ?_);rcases DJ s (i:=k - 1) (by omega) with ⟨g1,_⟩|⟨g1,g2⟩
     ·omega
     rw [show k - 1+1=k by omega] at g2;have hx:=PT (l:=bytesOf s) (a:=a) (k:=k - 1) (by omega) g2;rw [show k - 1+1 - a=k - a by omega] at hx;by_cases h13:bt s ((k - 1:Nat):Int)=13
     ·refine AU h13 (AU (by omega) (AU (by omega) (AU (by omega) (AU (by omega) ?_))));refine BG (nx _ (by omega) (by omega) (by simp;omega) (by simp)) ?_;rw [e,Vk hno,List.map_cons,List.append_assoc,List.singleton_append,hx,h13];unfold TQ;rw [List.getLast?_concat,if_pos rfl,List.dropLast_concat,Int.toNat_natCast,Int.toNat_natCast, <-Vp]
     ·refine Ah h13 (AU (by omega) (AU (by omega) (AU (by omega) (AU (by omega) ?_))));refine BG (nx _ (by omega) (by omega) (by simp;omega) (by simp)) ?_;have ht:TQ (((bytesOf s).drop a).take (k - a))=((bytesOf s).drop a).take (k - a):=by
       unfold TQ;rw [hx,List.getLast?_concat,if_neg (λe=>h13 (Option.some.inj e))]
      rw [e,Vk hno,List.map_cons,List.append_assoc,List.singleton_append,ht,Int.toNat_natCast,Int.toNat_natCast, <-Vp]
    ·refine Ah hka (AU (by omega) (AU (by omega) (AU (by omega) (AU (by omega) ?_))));refine BG (nx _ (by omega) (by omega) (by simp;omega) (by simp)) ?_;have ha:a=k:=by omega
     subst ha;rw [e,Vk hno,List.map_cons,List.append_assoc,List.singleton_append,Int.toNat_natCast,Vp];simp [TQ]
   ·refine Ah hc (ih a (k+1) acc (by omega) (by omega) hacc ?_);rw [PT hak h2];intro c hcm;rcases List.mem_append.mp hcm with e|e
    ·exact hno c e
    ·simp only [List.mem_singleton] at e;rw [e];exact hc
theorem WJ {s:ByteArray} (hs:s.size<=4294967296):Ev (λn=>Vb.f n s) (Vi s):=by
 simp only [Vb.f];have:=WQ s hs s.size 0 0 [] (by omega) (Nat.le_refl _) (Nat.le_refl _) (by simp);simpa [Vi] using this
end Go.Proofs.YtikggnalmidlhaaGreatDoor.Y
end
section
namespace Go.Proofs.YtikggnalmidlhaaGreatDoor.Y
set_option linter.unusedVariables false
set_option linter.unusedSimpArgs false
open RowKit Print AR Aa Ad
def J7 (p:ByteArray):Bool:=(bytesOf p).all FP
def JE (p:ByteArray):Bool:=decide ((p.size:Int)>=1)&&(decide ((p.size:Int)<=64)&&(decide (bt p 0=47)&&J7 p))
def Nt (n:ByteArray):Bool:= !decide (n.toList=([]:List UInt8))&&(bytesOf n).all Ga
def Nu (v:ByteArray):Bool:=(bytesOf v).all Gb
theorem Q9 {p:ByteArray} (h:p.size<=3000):Dx.f p=some (J7 p):=by unfold Dx.f;rw [if_pos (by omega)];rfl
theorem UT {n:ByteArray} (h:n.size<=3000):DT.f n=some (Nt n):=by unfold DT.f;rw [if_pos (by omega)];rfl
theorem UU {v:ByteArray} (h:v.size<=3000):Cw.f v=some (Nu v):=by unfold Cw.f;rw [if_pos (by omega)];rfl
theorem Sj {p:ByteArray} (h:p.size<=3000):ET.f p=some (JE p):=by
 unfold ET.f JE;rw [Q9 h];by_cases h1:(p.size:Int)>=1
 ·rw [if_pos h1,decide_eq_true h1];by_cases h2:(p.size:Int)<=64
  ·rw [if_pos h2,decide_eq_true h2,if_pos (show 0<(p.size:Int) by omega)];by_cases h3:bt p 0=47
   ·rw [if_pos h3,decide_eq_true h3];rfl
   ·rw [if_neg h3,decide_eq_false h3];rfl
  ·rw [if_neg h2,decide_eq_false h2];rfl
 ·rw [if_neg h1,decide_eq_false h1];rfl
def Iq (c4 c5 c6:Int):Bool:=L6 253402300799 c4&&(L6 253402300799 c5&&L6 253402300799 c6)
def M8 (v:ByteArray) (c4 c5 c6 ss:Int):Bool:=Nu v&&(!decide ((v.size:Int)>128)&&(Iq c4 c5 c6&&(decide (ss>=0)&&decide (ss<=3))))
def Pn (p n v:ByteArray) (c4 c5 c6 ss:Int):Bool:=JE p&&(Nt n&&(!decide ((n.size:Int)>64)&&M8 v c4 c5 c6 ss))
def Ir (d p n v:ByteArray) (c4 c5 c6:Int) (ho:Bool) (ss:Int):Bool:=(EK d).2&&(decide (bytesOf (EK d).1=bytesOf d)&&(!(Uu d&& !ho)&&Pn p n v c4 c5 c6 ss))
theorem RA {d p n v:ByteArray} {c4 c5 c6:Int} {ho se ht:Bool} {ss:Int} (hd:d.size<=3000) (hp:p.size<=3000) (hn:n.size<=3000) (hv:v.size<=3000):Ev (λk=>AV.f k d p n v c4 c5 c6 ho se ht ss) (Ir d p n v c4 c5 c6 ho ss):=by
 have j1:∀ x:Bool,Ev (λk=>AV.j1 k x d p n v c4 c5 c6 ho se ht ss) (!x&&M8 v c4 c5 c6 ss):=by
  intro x;apply BB;simp only [AV.j1,UU hv,DN.f,Option.bind_some];unfold M8;cases x with
  |true=>exact AU rfl (Am _)
  |false=>
   refine Ah (by decide) ?_;by_cases h1:Nu v=true
   ·refine AU h1 ?_;by_cases h2:(v.size:Int)>128
    ·exact AU h2 (BG (Am _) (by simp [h2]))
    ·refine Ah h2 ?_;by_cases h3:Iq c4 c5 c6=true
     ·refine AU h3 ?_;by_cases h4:ss>=0
      ·exact AU h4 (BG (Am _) (by rw [h1,h3,decide_eq_true h4,decide_eq_false h2];simp))
      ·exact Ah h4 (BG (Am _) (by rw [decide_eq_false h4];simp))
     ·exact Ah h3 (BG (Am _) (by rw [Bool.not_eq_true] at h3;rw [h3];simp))
   ·exact Ah h1 (BG (Am _) (by rw [Bool.not_eq_true] at h1;rw [h1];simp))
 have j0:∀ x:Bool,Ev (λk=>AV.j0 k x d p n v c4 c5 c6 ho se ht ss) (!x&&Pn p n v c4 c5 c6 ss):=by
  intro x;apply BB;simp only [AV.j0,Sj hp,UT hn,Option.bind_some];unfold Pn;cases x with
  |true=>exact AU rfl (Am _)
  |false=>
   refine Ah (by decide) ?_;by_cases h1:JE p=true
   ·refine AU h1 ?_;by_cases h2:Nt n=true
    ·exact AU h2 (BG (j1 _) (by rw [h1,h2];simp))
    ·exact Ah h2 (BG (j1 _) (by rw [Bool.not_eq_true] at h2;rw [h2];simp))
   ·exact Ah h1 (BG (j1 _) (by rw [Bool.not_eq_true] at h1;rw [h1];simp))
 unfold AV.f Ir;refine BL (Qk d) ?_;by_cases h1:(EK d).2=true
 ·refine AU h1 ?_;by_cases h2:(EK d).1.toList=d.toList
  ·have h3:=toList_inj.mp h2;refine AU h2 (BL (Uv (by rw [h3];omega)) ?_);rw [h3,h1,decide_eq_true rfl];by_cases h4:Uu d=true
   ·exact AU h4 (BG (j0 _) (by rw [h4];simp))
   ·exact Ah h4 (BG (j0 _) (by rw [Bool.not_eq_true] at h4;rw [h4];simp))
  ·refine Ah h2 (BG (j0 _) ?_);rw [decide_eq_false (λe=>h2 (EC.mpr e)),bne_iff_ne.mpr h2];simp
 ·refine Ah h1 (BG (j0 _) ?_);rw [Bool.not_eq_true] at h1;rw [h1];simp
end Go.Proofs.YtikggnalmidlhaaGreatDoor.Y
end
