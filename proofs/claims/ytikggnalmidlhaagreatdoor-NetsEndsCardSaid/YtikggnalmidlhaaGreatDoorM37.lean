/- Rows that rise by their keys: putting, dropping, merging, looking up; two such with the same members are the same. No program in sight. -/
import Derived.Test.YtikggnalmidlhaaGreatDoorYhostC
section
namespace Go.Proofs.YtikggnalmidlhaaGreatDoor.Y
set_option linter.unusedVariables false
set_option linter.unusedSimpArgs false
open RowKit Print AR Aa Ad
abbrev ints (l:List UInt8):List Int:=l.map λb=>(b.toNat:Int)
def sepL (z:Int):List Int->List (List Int)
 |[]=>[[]]
 |x::l=>if x=z then []::sepL z l else R9 x (sepL z l)
theorem Vx (z:Int) (l:List Int):sepL z l≠[]:=by
 cases l with
 |nil=>simp [sepL]
 |cons x l=>
  unfold sepL;split
  ·simp
  ·cases sepL z l<;>simp [R9]
theorem Vt {z:Int} {a:List Int} (h:∀ c∈a,c≠z):sepL z a=[a]:=by
 induction a with
 |nil=>rfl
 |cons x a ih=>
  rw [sepL,if_neg (h x (List.mem_cons_self ..)),ih λc hc=>h c (List.mem_cons_of_mem _ hc)];rfl
theorem WH {z:Int} {a b:List Int} (h:∀ c∈a,c≠z):sepL z (a++z::b)=a::sepL z b:=by
 induction a with
 |nil=>simp [sepL]
 |cons x a ih=>
  rw [List.cons_append,sepL,if_neg (h x (List.mem_cons_self ..)),ih λc hc=>h c (List.mem_cons_of_mem _ hc)];rfl
theorem Wn {z:Int} {l:List Int}:∀ p∈sepL z l,∀ c∈p,c∈l/\c≠z:=by
 induction l with
 |nil=>intro p hp c hc;simp [sepL] at hp;subst hp;simp at hc
 |cons x l ih=>
  intro p hp c hc;unfold sepL at hp;split at hp
  ·rcases List.mem_cons.mp hp with rfl|e
   ·simp at hc
   ·exact ⟨.tail _ (ih p e c hc).1,(ih p e c hc).2⟩
  ·rename_i hx;cases hs:sepL z l with
   |nil=>exact absurd hs (Vx z l)
   |cons q t=>
    rw [hs] at hp ih;simp only [R9] at hp;rcases List.mem_cons.mp hp with rfl|e
    ·rcases List.mem_cons.mp hc with rfl|e
     ·exact ⟨List.mem_cons_self ..,hx⟩
     ·exact ⟨.tail _ (ih q (List.mem_cons_self ..) c e).1,(ih q (List.mem_cons_self ..) c e).2⟩
    ·exact ⟨.tail _ (ih p (List.mem_cons_of_mem _ e) c hc).1,(ih p (List.mem_cons_of_mem _ e) c hc).2⟩
theorem Wo (z:Int) (l:List Int):l.length+1=((sepL z l).map List.length).sum+(sepL z l).length:=by
 induction l with
 |nil=>rfl
 |cons x l ih=>
  unfold sepL;split
  ·simp only [List.length_cons,List.map_cons,List.sum_cons,List.length_nil];omega
  ·cases hs:sepL z l with
   |nil=>exact absurd hs (Vx z l)
   |cons q t=>
    rw [hs] at ih;simp only [R9,List.length_cons,List.map_cons,List.sum_cons] at ih⊢
    omega
theorem V9 (z:Int) (l:List Int):(∀ c∈l,c≠z)\/∃ x r,l=x++z::r/\(∀ c∈x,c≠z)/\r.length<l.length:=by
 induction l with
 |nil=>exact .inl (by simp)
 |cons b l ih=>
  by_cases hb:b=z
  ·subst hb;exact .inr ⟨[],l,rfl,by simp,by simp⟩
  ·rcases ih with h|⟨x,r,rfl,h1,h2⟩
   ·refine .inl λc hc=>?_
    rcases List.mem_cons.1 hc with rfl|e
    ·exact hb
    ·exact h c e
   ·refine .inr ⟨b::x,r,rfl,λc hc=>?_,by simp;omega⟩;rcases List.mem_cons.1 hc with rfl|e
    ·exact hb
    ·exact h1 c e
theorem WN {s:ByteArray} {l:List Int} (h:bytesOf s=l):s=strOfNums l:=by rw [<-h,Vv]
theorem V3 {s:ByteArray} {p:List Int} (h:∀ c∈p,c∈bytesOf s):bytesOf (strOfNums p)=p:=Da λc hc=>EN (h c hc)
theorem Wp {l:List (List Int)} {m:List ByteArray} (h:m.map bytesOf=l):m=l.map strOfNums:=by
 rw [<-h,List.map_map]
 conv=>lhs;rw [<-List.map_id m]
 exact List.map_congr_left λx _=>(Vv x).symm
def TQ (x:List Int):List Int:=if x.getLast?=some 13 then x.dropLast else x
def Wq:List (List Int)->List (List Int)
 |[]=>[]
 |[x]=>if x=[] then [] else [x]
 |x::y::r=>TQ x::Wq (y::r)
def Vh (l:List Int):List (List Int):=Wq (sepL 10 l)
theorem Vo {x:List Int} (h:∀ c∈x,c≠10):Vh x=if x=[] then [] else [x]:=by unfold Vh;rw [Vt h];rfl
theorem Vk {x r:List Int} (h:∀ c∈x,c≠10):Vh (x++10::r)=TQ x::Vh r:=by
 unfold Vh;rw [WH h];cases hs:sepL 10 r with
 |nil=>exact absurd hs (Vx 10 r)
 |cons y t=>rfl
theorem WA {x:List Int} {c:Int} (h:c∈TQ x):c∈x:=by
 unfold TQ at h;split at h
 ·exact (List.dropLast_sublist x).subset h
 ·exact h
theorem WY (x:List Int):(TQ x).length<=x.length:=by
 unfold TQ;split
 ·rw [List.length_dropLast];omega
 ·exact Nat.le_refl _
theorem Vm:∀ (n:Nat) (l:List Int),l.length<=n->((Vh l).length<=l.length)/\∀ p∈Vh l,p.length<=l.length/\∀ c∈p,c∈l/\c≠10:=by
 intro n;induction n with
 |zero=>
  intro l hl;obtain rfl:=List.eq_nil_of_length_eq_zero (Nat.le_zero.1 hl);exact ⟨Nat.le_refl _,λp hp=>by cases hp⟩
 |succ n ih=>
  intro l hl;rcases V9 10 l with h|⟨x,r,rfl,h1,h2⟩
  ·rw [Vo h];split
   ·exact ⟨Nat.zero_le _,λp hp=>by cases hp⟩
   ·rename_i hn;refine ⟨by have:=List.length_pos_iff.2 hn;simp;omega,λp hp=>?_⟩;obtain rfl:=List.mem_singleton.1 hp;exact ⟨Nat.le_refl _,λc hc=>⟨hc,h c hc⟩⟩
  ·rw [Vk h1];obtain ⟨i1,i2⟩:=ih r (by omega);simp only [List.length_append,List.length_cons] at*
   refine ⟨by omega,λp hp=>?_⟩;rcases List.mem_cons.1 hp with rfl|hp
   ·have:=WY x;exact ⟨by omega,λc hc=>⟨by simp [WA hc],h1 c (WA hc)⟩⟩
   ·obtain ⟨j1,j2⟩:=i2 p hp;exact ⟨by omega,λc hc=>⟨by simp [(j2 c hc).1],(j2 c hc).2⟩⟩
def Vi (s:ByteArray):List ByteArray:=(Vh (bytesOf s)).map strOfNums
theorem WI (s:ByteArray):(Vi s).map bytesOf=Vh (bytesOf s):=by
 unfold Vi;rw [List.map_map]
 conv=>rhs;rw [<-List.map_id (Vh (bytesOf s))]
 exact List.map_congr_left λp hp=>V3 λc hc=>(((Vm _ (bytesOf s) (Nat.le_refl _)).2 p hp).2 c hc).1
theorem V4 (s:ByteArray):(Vi s).length<=s.size:=by
 have:=(Vm _ (bytesOf s) (Nat.le_refl _)).1;rw [bytesOf_length] at this;unfold Vi;rw [List.length_map];exact this
theorem WO {s x:ByteArray} (h:x∈Vi s):x.size<=s.size/\∀ c∈bytesOf x,c≠10:=by
 have h1:bytesOf x∈Vh (bytesOf s):=by rw [<-WI];exact List.mem_map_of_mem h
 obtain ⟨j1,j2⟩:=(Vm _ (bytesOf s) (Nat.le_refl _)).2 _ h1;rw [bytesOf_length,bytesOf_length] at j1;exact ⟨j1,λc hc=>(j2 c hc).2⟩
theorem Ws {x r:List UInt8} (h:∀ c∈x,c≠10):Lib.index (x++10::r) [10]=x.length:=by
 rw [Lib.index_one];induction x with
 |nil=>simp [Lib.indexByte]
 |cons b x ih=>
  have hb:(b==10)=false:=beq_eq_false_iff_ne.2 (h b (.head _));have:=ih λc hc=>h c (.tail _ hc)
  simp only [List.cons_append,Lib.indexByte,hb,this,List.length_cons];rw [if_neg (by simp),if_neg (by first|(simp;done)|(simp;omega))];omega
theorem Wt {x:List UInt8} (h:∀ c∈x,c≠10):Lib.index x [10]= -1:=by
 rw [Lib.index_one];induction x with
 |nil=>rfl
 |cons b x ih=>
  have hb:(b==10)=false:=beq_eq_false_iff_ne.2 (h b (.head _));have:=ih λc hc=>h c (.tail _ hc)
  simp [Lib.indexByte,hb,this]
theorem Sa {x:List UInt8} {z:UInt8}:(∀ c∈x,c≠z)↔∀ c∈ints x,c≠(z.toNat:Int):=by
 constructor
 ·intro h c hc;obtain ⟨b,hb,rfl⟩:=List.mem_map.1 hc;intro e;exact h b hb (UInt8.toNat_inj.1 (by omega))
 ·intro h c hc e;exact h _ (List.mem_map_of_mem hc) (by rw [e])
theorem WZ (x:List UInt8):ints (Lib.trimSuffix x [13])=TQ (ints x):=by
 rcases List.eq_nil_or_concat x with rfl|⟨y,b,rfl⟩
 ·rfl
 ·unfold Lib.trimSuffix Lib.hasSuffix TQ ints;rw [List.concat_eq_append,List.map_append,List.map_cons,List.map_nil,List.getLast?_concat,List.dropLast_concat];have hs:[13].isSuffixOf (y++[b])=(b==13):=by
   rw [Bool.eq_iff_iff,List.isSuffixOf_iff_suffix,beq_iff_eq];constructor
   ·rintro ⟨t,ht⟩;exact (List.append_inj' ht rfl).2|>λe=>by simpa using e.symm
   ·rintro rfl;exact ⟨y,rfl⟩
  rw [hs];by_cases hb:b=13
  ·subst hb;rw [if_pos (by rfl),if_pos (by rfl),show (y++[(13:UInt8)]).length - [(13:UInt8)].length=y.length by simp,List.take_left]
  ·rw [if_neg (by simpa using hb),if_neg (λe=>hb (UInt8.toNat_inj.1 (by have:=Option.some.inj e;simp;omega))),List.map_append];rfl
theorem WK:∀ (n:Nat) (l:List UInt8),l.length<=n->(Print.Bq l).map ints=Vh (ints l):=by
 intro n;induction n with
 |zero=>
  intro l hl;obtain rfl:=List.eq_nil_of_length_eq_zero (Nat.le_zero.1 hl);rfl
 |succ n ih=>
  intro l hl;by_cases hne:l=[]
  ·subst hne;rfl
  rw [Print.MJ hne,List.map_cons];have hlt:=LF hne;rw [ih (G8 l) (by omega)];rcases V9 10 (ints l) with h|⟨x,r,e,h1,h2⟩
  ·rw [Vo h,if_neg (by simpa [ints] using hne)];have hi:=Wt (x:=l) (Sa.2 h);unfold MI G8 Lib.cut;rw [hi];rfl
  ·obtain ⟨x',r',rfl,rfl,hr⟩:∃ x' r',l=x'++10::r'/\x=ints x'/\r=ints r':=by
    obtain ⟨x',y',rfl,e1,e2⟩:=List.map_eq_append_iff.1 e;obtain ⟨b,r',rfl,e3,e4⟩:=List.map_eq_cons_iff.1 e2;exact ⟨x',r',by rw [show b=10 from UInt8.toNat_inj.1 (by simp;omega)],e1.symm,e4.symm⟩
   subst hr;rw [show ints (x'++10::r')=ints x'++10::ints r' by simp [ints],Vk h1, <-WZ];have hi:=Ws (x:=x') (r:=r') (Sa.2 h1);unfold MI G8 Lib.cut;rw [hi,if_pos (show (0:Int)<=(x'.length:Int) by omega)];simp only [Int.toNat_natCast,List.take_left,if_true,List.length_cons,List.length_nil];rw [List.drop_append,List.drop_eq_nil_of_le (by omega),show x'.length+(0+1) - x'.length=1 by omega];rfl
theorem Wu {s:ByteArray} (h:s.size<=1000000000):EX.f s=some (Vi s):=by
 unfold EX.f;rw [if_pos h];congr 1;refine Wp ?_;rw [List.map_map];exact WK _ _ (Nat.le_refl _)
theorem WL {s:ByteArray} {a k:Nat} {z:Int} (hak:a<=k) (h2:(bytesOf s).drop k=z::(bytesOf s).drop (k+1)):(bytesOf s).drop a=((bytesOf s).drop a).take (k - a)++z::(bytesOf s).drop (k+1):=by
 conv=>lhs;rw [<-List.take_append_drop (k - a) ((bytesOf s).drop a)]
 rw [List.drop_drop,show a+(k - a)=k by omega,h2]
theorem Vp {s:ByteArray} {a b:Nat}:s.extract a b=strOfNums (((bytesOf s).drop a).take (b - a)):=WN (E9 s a b)
theorem WQ (s:ByteArray) (hs:s.size<=4294967296) (d:Nat):∀ (a k:Nat) (acc:List ByteArray),k+d=s.size->a<=k->acc.length<=a->(∀ c∈((bytesOf s).drop a).take (k - a),c≠10)->Ev (λn=>Vb.l0 n s acc a k) (acc++(Vh ((bytesOf s).drop a)).map strOfNums):=by
 have hl:=bytesOf_length s;induction d with
 |zero=>
  intro a k acc hk hak hacc hno;apply BB;simp only [Vb.l0];rw [List.take_of_length_le (by rw [List.length_drop];omega)] at hno;refine Ah (by omega) ?_;by_cases ha:(a:Int)<(s.size:Int)
  ·refine AU ha (AU (by omega) (AU (by omega) (AU (by omega) (BG (Am _) ?_))));have hne:(bytesOf s).drop a≠[]:=λe=>by have:=congrArg List.length e;simp at this;omega
   rw [Vo hno,if_neg hne];simp only [List.map_cons,List.map_nil,Int.toNat_natCast];rw [Vp,List.take_of_length_le (by rw [List.length_drop];omega)]
  ·refine Ah ha (BG (Am _) ?_);rw [List.drop_eq_nil_of_le (by omega)];simp [Vh,sepL,Wq]
 |succ d ih=>
  intro a k acc hk hak hacc hno;apply BB;simp only [Vb.l0];refine AU (by omega) (AU (by omega) ?_);have hw:wrap64 ((k:Int)+1)=((k+1:Nat):Int):=by rw [KD (by omega) (by omega)];omega
  rw [hw];rcases DJ s (i:=k) (by omega) with ⟨h1,_⟩|⟨h1,h2⟩
  ·omega
  ·by_cases hc:bt s k=10
   ·refine AU hc ?_;rw [hc] at h2;have e:=WL hak h2;have nx:=ih (k+1) (k+1);by_cases hka:(k:Int)>(a:Int)
    ·refine AU hka ?_;have hw1:wrap64 ((k:Int) - 1)=((k - 1:Nat):Int):=by rw [KD (by omega) (by omega)];omega
     rw [hw1];refine AU (by omega) (AU (by omega) ?_);rcases DJ s (i:=k - 1) (by omega) with ⟨g1,_⟩|⟨g1,g2⟩
     ·omega
     rw [show k - 1+1=k by omega] at g2;have hx:=PT (l:=bytesOf s) (a:=a) (k:=k - 1) (by omega) g2;rw [show k - 1+1 - a=k - a by omega] at hx;by_cases h13:bt s ((k - 1:Nat):Int)=13
     ·refine AU h13 (AU (by omega) (AU (by omega) (AU (by omega) (AU (by omega) ?_))));refine BG (nx _ (by omega) (by omega) (by simp;omega) (by simp)) ?_;rw [e,Vk hno,List.map_cons,List.append_assoc,List.singleton_append,hx,h13];unfold TQ;rw [List.getLast?_concat,if_pos rfl,List.dropLast_concat,Int.toNat_natCast,Int.toNat_natCast, <-Vp]
     ·refine Ah h13 (AU (by omega) (AU (by omega) (AU (by omega) (AU (by omega) ?_))));refine BG (nx _ (by omega) (by omega) (by simp;omega) (by simp)) ?_;have ht:TQ (((bytesOf s).drop a).take (k - a))=((bytesOf s).drop a).take (k - a):=by
       unfold TQ;rw [hx,List.getLast?_concat,if_neg (λe=>h13 (Option.some.inj e))]
      rw [e,Vk hno,List.map_cons,List.append_assoc,List.singleton_append,ht,Int.toNat_natCast,Int.toNat_natCast, <-Vp]
    ·refine Ah hka (AU (by omega) (AU (by omega) (AU (by omega) (AU (by omega) ?_))));refine BG (nx _ (by omega) (by omega) (by simp;omega) (by simp)) ?_;have ha:a=k:=by omega
     subst ha;rw [e,Vk hno,List.map_cons,List.append_assoc,List.singleton_append,Int.toNat_natCast,Vp];simp [TQ]
   ·refine Ah hc (ih a (k+1) acc (by omega) (by omega) hacc ?_);rw [PT hak h2];intro c hcm;rcases List.mem_append.mp hcm with e|e
    ·exact hno c e
    ·simp only [List.mem_singleton] at e;rw [e];exact hc
theorem WJ {s:ByteArray} (hs:s.size<=4294967296):Ev (λn=>Vb.f n s) (Vi s):=by
 simp only [Vb.f];have:=WQ s hs s.size 0 0 [] (by omega) (Nat.le_refl _) (Nat.le_refl _) (by simp);simpa [Vi] using this
end Go.Proofs.YtikggnalmidlhaaGreatDoor.Y
end
section
namespace Go.Proofs.YtikggnalmidlhaaGreatDoor.Y
set_option linter.unusedVariables false
set_option linter.unusedSimpArgs false
open RowKit Print AR Aa Ad
def KU (x:List Int):Bool:=x.any (λc=>decide (c=10))||decide (x.getLast?=some 13)
def Qu (b:ByteArray) (l:List ByteArray):ByteArray:=l.foldl (λb x=>(b++x)++⟨#[10]⟩) b
def UQ (l:List ByteArray):ByteArray:=Qu ⟨#[]⟩ l
theorem Ky (b x:ByteArray) (l:List ByteArray):Qu b (x::l)=Qu ((b++x)++⟨#[10]⟩) l:=rfl
theorem Xw:bytesOf (⟨#[10]⟩:ByteArray)=[10]:=rfl
theorem Xc:∀ (l:List ByteArray) (b:ByteArray),bytesOf (Qu b l)=bytesOf b++l.flatMap λx=>bytesOf x++[10]
 |[],b=>by simp [Qu]
 |x::l,b=>by rw [Ky,Xc l,Dw,Dw,Xw];simp
theorem Xm (l:List ByteArray):bytesOf (UQ l)=l.flatMap λx=>bytesOf x++[10]:=by unfold UQ;rw [Xc];rfl
theorem Xf:∀ (l:List ByteArray) (b:ByteArray),(∀ x∈l,x.size<=2000)->(Qu b l).size<=b.size+2001*l.length
 |[],b,_=>by simp [Qu]
 |x::l,b,h=>by
  have h1:=Xf l ((b++x)++⟨#[10]⟩) λy hy=>h y (.tail _ hy)
  have h2:=h x (.head _);have h3:(⟨#[10]⟩:ByteArray).size=1:=rfl;rw [Ky,List.length_cons];simp only [ByteArray.size_append,h3] at h1;omega
theorem Xg:∀ (l:List (List Int)),(∀ x∈l,∀ c∈x,c≠10)->Vh (l.flatMap λx=>x++[10])=l.map TQ
 |[],_=>rfl
 |x::l,h=>by
  have e:(x::l).flatMap (λx=>x++[10])=x++10::l.flatMap λx=>x++[10]:=by simp
  rw [e,Vk (h x (.head _)),Xg l λy hy=>h y (.tail _ hy)];rfl
theorem Sb {x:List Int} (h:KU x=false):(∀ c∈x,c≠10)/\TQ x=x:=by
 unfold KU at h;rw [Bool.or_eq_false_iff,List.any_eq_false] at h;refine ⟨λc hc e=>h.1 c hc (decide_eq_true e),?_⟩;unfold TQ;rw [if_neg (of_decide_eq_false h.2)]
theorem Xn {l:List ByteArray} (h:∀ x∈l,KU (bytesOf x)=false):Vi (UQ l)=l:=by
 apply KS;rw [WI,Xm];have h1:=Xg (l.map bytesOf) λy hy=>by obtain ⟨x,hx,rfl⟩:=List.mem_map.1 hy;exact (Sb (h x hx)).1
 rw [List.flatMap_map] at h1;rw [h1,List.map_map];exact List.map_congr_left λx hx=>(Sb (h x hx)).2
theorem Ll {z:UInt8} {x:List UInt8} (h:∀ c∈x,c≠z):Lib.indexByte x z= -1:=by
 induction x with
 |nil=>rfl
 |cons b x ih=>
  have hb:(b==z)=false:=beq_eq_false_iff_ne.2 (h b (.head _));have:=ih λc hc=>h c (.tail _ hc)
  simp [Lib.indexByte,hb,this]
theorem JU {s:ByteArray} {z:UInt8} (h:∀ c∈bytesOf s,c≠(z.toNat:Int)):∀ c∈s.data.toList,c≠z:=Sa.2 h
def ED (x:List Int):Prop:=∀ c∈x,c≠9/\c≠10/\c≠13
theorem Qv {s:ByteArray} (h:KU (bytesOf s)=false):Hw s=false:=by
 unfold Hw;have h1:=(Sb h).1;rw [Ll (z:=10) (JU h1)];have h2:Lib.hasSuffix s.data.toList [13]=false:=by
  rcases List.eq_nil_or_concat s.data.toList with e|⟨y,b,e⟩
  ·rw [e];rfl
  ·unfold Lib.hasSuffix;rw [e,List.concat_eq_append,Bool.eq_false_iff];intro hs;obtain ⟨t,ht⟩:=List.isSuffixOf_iff_suffix.1 hs;have hb:b=13:=(List.append_inj' ht rfl).2|>λe=>by simpa using e.symm
   unfold KU at h;rw [Bool.or_eq_false_iff] at h;refine of_decide_eq_false h.2 ?_;show (s.data.toList.map λb=>(b.toNat:Int)).getLast?=_;rw [e,List.concat_eq_append,List.map_append,List.map_cons,List.map_nil,List.getLast?_concat,hb];rfl
 rw [h2];rfl
theorem JB:∀ (l:List ByteArray) (out:ByteArray),(∀ x∈l,x.size<=2000/\KU (bytesOf x)=false)->out.size+2001*l.length<=1000000000->FR l out=some (Qu out l,true)
 |[],out,_,_=>rfl
 |x::l,out,h,hs=>by
  have h1:=h x (.head _);have h3:(⟨#[10]⟩:ByteArray).size=1:=rfl;rw [List.length_cons] at hs;unfold FR;rw [if_pos (by omega),if_neg (by rw [Qv h1.2];decide),JB l _ (λy hy=>h y (.tail _ hy)) (by simp only [ByteArray.size_append,h3];omega)];rfl
theorem UR {l:List ByteArray} (h:∀ x∈l,x.size<=2000/\KU (bytesOf x)=false) (hl:l.length<=10000):ER.f l=some (UQ l,true):=by
 unfold ER.f;rw [if_pos (by omega),JB l _ h (by show 0+_<=_;omega)];rfl
theorem YT (s:ByteArray) (z:Int) (hs:s.size<=4294967296):∀ d i:Nat,i+d=s.size->Ev (λk=>YE.l0 k s z i) (((bytesOf s).drop i).any λc=>decide (c=z)):=by
 intro d;induction d with
 |zero=>
  intro i hi;apply BB;unfold YE.l0;refine Ah (by omega) (BG (Am _) ?_);rw [List.drop_eq_nil_of_le (by rw [bytesOf_length];omega)];rfl
 |succ d ih=>
  intro i hi;apply BB;unfold YE.l0;have hw:wrap64 ((i:Int)+1)=((i+1:Nat):Int):=by rw [KD (by omega) (by omega)];omega
  refine AU (by omega) (AU (by omega) ?_);rw [hw];rcases DJ s (i:=i) (by omega) with ⟨h1,_⟩|⟨h1,h2⟩
  ·omega
  ·rw [h2,List.any_cons];by_cases hc:bt s i=z
   ·exact AU hc (BG (Am _) (by rw [decide_eq_true hc];rfl))
   ·exact Ah hc (BG (ih (i+1) (by omega)) (by rw [decide_eq_false hc];rfl))
theorem YR (l:List ByteArray) (hl:l.length<=10000) (hm:∀ x∈l,x.size<=2000):∀ d j (out:ByteArray),j+d=l.length->out.size<=2001*j->
 Ev (λk=>YF.l0 k l out (j:Int)) (if (l.drop j).any (λx=>KU (bytesOf x))=true then (⟨#[]⟩,false) else (Qu out (l.drop j),true)):=by
 intro d;induction d with
 |zero=>
  intro j out hj ho;rw [List.drop_eq_nil_of_le (by omega)];apply BB;unfold YF.l0;exact Ah (by omega) (Am _)
 |succ d ih=>
  intro j out hj ho;have hlt:j<l.length:=by omega
  have hmm:l[j]∈l:=List.getElem_mem hlt;have hx:=hm _ hmm;have hrd:Cf ByteArray.empty l (j:Int)=l[j]:=Gx (List.drop_eq_getElem_cons hlt);have hw:wrap64 ((j:Int)+1)=((j+1:Nat):Int):=by rw [KD (by omega) (by omega)];omega
  have h3:(⟨#[10]⟩:ByteArray).size=1:=rfl;have hh:=YT l[j] 10 (by omega) l[j].size 0 (by omega);rw [List.drop_zero] at hh;have nx:=ih (j+1) ((out++l[j])++⟨#[10]⟩) (by omega) (by simp only [ByteArray.size_append,h3];omega);apply BB;unfold YF.l0;rw [hrd,hw,List.drop_eq_getElem_cons hlt,List.any_cons,Ky];refine AU (by omega) (AU (by omega) (BL (by unfold YE.f;exact hh) ?_));by_cases h10:(bytesOf l[j]).any (λc=>decide (c=10))=true
  ·refine AU h10 (BG (Am _) ?_);have:KU (bytesOf l[j])=true:=by unfold KU;rw [h10];rfl
   rw [this];rfl
  ·refine Ah h10 ?_;have h10f:(bytesOf l[j]).any (λc=>decide (c=10))=false:=Bool.eq_false_iff.2 h10;have good:(KU (bytesOf l[j])=false)->Ev (λk=>if out.size+l[j].size<=9223372036854775807 then (if (out++l[j]).size+1<=9223372036854775807 then YF.l0 k l ((out++l[j])++⟨#[10]⟩) ((j+1:Nat):Int) else none) else none) (if (KU (bytesOf l[j])||(l.drop (j+1)).any (λx=>KU (bytesOf x)))=true then (⟨#[]⟩,false) else (Qu ((out++l[j])++⟨#[10]⟩) (l.drop (j+1)),true)):=by
    intro hb;rw [hb,Bool.false_or];exact AU (by omega) (AU (by simp only [ByteArray.size_append];omega) nx)
   by_cases h0:(l[j].size:Int)>0
   ·refine AU h0 ?_;have hw1:wrap64 ((l[j].size:Int) - 1)=((l[j].size - 1:Nat):Int):=by rw [KD (by omega) (by omega)];omega
    rw [hw1];refine AU (by omega) (AU (by omega) ?_);have hlast:(bytesOf l[j]).getLast?=some (bt l[j] ((l[j].size - 1:Nat):Int)):=by
     rcases DJ l[j] (i:=l[j].size - 1) (by omega) with ⟨g1,_⟩|⟨g1,g2⟩
     ·omega
     ·have g3:(bytesOf l[j]).drop (l[j].size - 1+1)=[]:=List.drop_eq_nil_of_le (by rw [bytesOf_length];omega);rw [g3] at g2
      conv=>lhs;rw [<-List.take_append_drop (l[j].size - 1) (bytesOf l[j]),g2]
      rw [List.getLast?_concat]
    by_cases h13:bt l[j] ((l[j].size - 1:Nat):Int)=13
    ·refine AU h13 (BG (Am _) ?_);have:KU (bytesOf l[j])=true:=by unfold KU;rw [h10f,hlast,h13];rfl
     rw [this];rfl
    ·refine Ah h13 (good ?_);unfold KU;rw [h10f,hlast,decide_eq_false (λe=>h13 (Option.some.inj e))];rfl
   ·refine Ah h0 (good ?_);have:bytesOf l[j]=[]:=GX.2 (by omega);rw [this];rfl
theorem YP {l:List ByteArray} (hl:l.length<=10000) (hm:∀ x∈l,x.size<=2000):Ev (λk=>YF.f k l) (if l.any (λx=>KU (bytesOf x))=true then (⟨#[]⟩,false) else (UQ l,true)):=by
 have:=YR l hl hm l.length 0 ⟨#[]⟩ (by omega) (Nat.le_refl _);exact this
theorem Wd (z:UInt8) (n:Nat):∀ l:List UInt8,l.length<=n->(Lib.splitK [z] 0 (Lib.count l [z]) l).map ints=sepL z.toNat (ints l):=by
 induction n with
 |zero=>
  intro l hl;have:l=[]:=List.length_eq_zero_iff.mp (by omega);subst this;rfl
 |succ n ih=>
  intro l hl;by_cases hm:Lib.index l [z]= -1
  ·have hb:=hm;rw [Lib.index_one] at hb;rw [Lib.count_miss hm];rw [Vt]
   ·rfl
   ·refine Sa.1 λc hc e=>?_
    obtain ⟨k,hk,hk2⟩:=List.getElem_of_mem hc;exact Lib.indexByte_none hb k (by rw [List.getElem?_eq_getElem hk,hk2,e])
  ·have hge:=Lib.index_ge l [z];obtain ⟨i,hi⟩:∃ i:Nat,Lib.index l [z]=i:=⟨(Lib.index l [z]).toNat,by omega⟩;have hb:=hi;rw [Lib.index_one] at hb;obtain ⟨h1,h2⟩:=Lib.indexByte_some hb;have hlt:i<l.length:=by
    rcases Nat.lt_or_ge i l.length with h|h
    ·exact h
    ·rw [List.getElem?_eq_none h] at h1;cases h1
   rw [Lib.count_hit (by simp) hi,Nat.add_comm 1];have hs:ints l=ints (l.take i)++(z.toNat:Int)::ints (l.drop (i+1)):=by
    conv=>lhs;rw [<-List.take_append_drop i l,List.drop_eq_getElem_cons hlt]
    unfold ints;rw [List.map_append,List.map_cons];rw [List.getElem?_eq_getElem hlt] at h1;rw [Option.some.inj h1]
   rw [hs,WH,Lib.splitK,if_neg (by simpa using hm),hi]
   ·simp only [List.map_cons,Int.toNat_natCast,Nat.add_zero,List.length_cons,List.length_nil,Nat.zero_add];rw [ih _ (by rw [List.length_drop];omega)]
   ·refine Sa.1 λc hc e=>?_
    obtain ⟨k,hk,hk2⟩:=List.getElem_of_mem hc;rw [List.length_take] at hk;refine h2 k (by omega) ?_;rw [List.getElem_take] at hk2;rw [List.getElem?_eq_getElem (by omega),hk2,e]
def Vn (s:ByteArray):List ByteArray:=(sepL 9 (bytesOf s)).map strOfNums
theorem Vw (s:ByteArray):(Vn s).map bytesOf=sepL 9 (bytesOf s):=by
 unfold Vn;rw [List.map_map]
 conv=>rhs;rw [<-List.map_id (sepL 9 (bytesOf s))]
 exact List.map_congr_left λp hp=>V3 λc hc=>(Wn p hp c hc).1
theorem Wv {l:List Nat} {x:Nat} (h:x∈l):x<=l.sum:=SE h
theorem V5 {s x:ByteArray} (h:x∈Vn s):x.size<=s.size:=by
 have h1:bytesOf x∈sepL 9 (bytesOf s):=by rw [<-Vw];exact List.mem_map_of_mem h
 have h2:=Wo 9 (bytesOf s);have h3:=Wv (List.mem_map_of_mem (f:=List.length) h1);rw [bytesOf_length] at h2 h3;have h4:1<=(sepL 9 (bytesOf s)).length:=List.length_pos_iff.2 (Vx _ _);omega
theorem WR (s:ByteArray):JW s (⟨#[9]⟩:ByteArray)=Vn s:=by
 apply KS;rw [Vw];have h:=Lib.splitB_data (⟨#[9]⟩:ByteArray) 0 (Lib.countB s ⟨#[9]⟩) s;have h2:=Wd 9 s.data.toList.length s.data.toList (Nat.le_refl _);unfold JW;have e:bytesOf=ints∘λx:ByteArray=>x.data.toList:=rfl
 rw [e, <-List.map_map,h];exact h2
theorem XP {s:ByteArray} (hs:s.size<4294967281):ES.f s=some (Vn s):=by
 unfold ES.f strings_Split.f;rw [if_pos ⟨hs,by decide⟩,WR];rfl
theorem XJ (s:ByteArray) (hs:s.size<=4294967296) (d:Nat):∀ (a k:Nat) (acc:List ByteArray),k+d=s.size->a<=k->acc.length<=a->(∀ c∈((bytesOf s).drop a).take (k - a),c≠9)->Ev (λn=>Va.l0 n s acc a k) (acc++(sepL 9 ((bytesOf s).drop a)).map strOfNums):=by
 have hl:=bytesOf_length s;induction d with
 |zero=>
  intro a k acc hk hak hacc hno;apply BB;simp only [Va.l0];refine Ah (by omega) (AU (by omega) (AU (by omega) (AU (by omega) (BG (Am _) ?_))));rw [List.take_of_length_le (by rw [List.length_drop];omega)] at hno;rw [Vt hno];simp only [List.map_cons,List.map_nil,Int.toNat_natCast];rw [Vp,List.take_of_length_le (by rw [List.length_drop];omega)]
 |succ d ih=>
  intro a k acc hk hak hacc hno;apply BB;simp only [Va.l0];refine AU (by omega) (AU (by omega) ?_);have hw:wrap64 ((k:Int)+1)=((k+1:Nat):Int):=by rw [KD (by omega) (by omega)];omega
  rw [hw];rcases DJ s (i:=k) (by omega) with ⟨h1,_⟩|⟨h1,h2⟩
  ·omega
  ·by_cases hc:bt s k=9
   ·refine AU hc (AU (by omega) (AU (by omega) (AU (by omega) (AU (by omega) ?_))));refine BG (ih (k+1) (k+1) _ (by omega) (by omega) (by simp;omega) (by simp)) ?_;rw [hc] at h2;rw [WL hak h2,WH hno,List.map_cons,List.append_assoc,List.singleton_append,Int.toNat_natCast,Int.toNat_natCast,Vp]
   ·refine Ah hc (ih a (k+1) acc (by omega) (by omega) hacc ?_);rw [PT hak h2];intro c hcm;rcases List.mem_append.mp hcm with e|e
    ·exact hno c e
    ·simp only [List.mem_singleton] at e;rw [e];exact hc
theorem Ww {s:ByteArray} (hs:s.size<=4294967296):Ev (λn=>Va.f n s) (Vn s):=by
 simp only [Va.f];have:=XJ s hs s.size 0 0 [] (by omega) (Nat.le_refl _) (Nat.le_refl _) (by simp);simpa [Vn] using this
theorem Pg {s:ByteArray} (h:ED (bytesOf s)):LG s=false:=by
 unfold LG;rw [Ll (z:=9) (JU λc hc=>(h c hc).1),Ll (z:=10) (JU λc hc=>(h c hc).2.1),Ll (z:=13) (JU λc hc=>(h c hc).2.2)];rfl
theorem Fj (f0 f1 f2 f3 f4 f5 f6:ByteArray):bytesOf (GI [f0,f1,f2,f3,f4,f5,f6])=bytesOf f0++9::(bytesOf f1++9::(bytesOf f2++9::(bytesOf f3++9::(bytesOf f4++9::(bytesOf f5++9::bytesOf f6))))):=by
 show ints (Lib.join _ [9])=_;simp only [Lib.join_cons,Lib.joinTail,List.map_cons,List.map_nil,List.flatten_cons,List.flatten_nil,List.append_nil];simp only [ints,List.map_append,List.map_cons,List.map_nil,List.singleton_append,List.cons_append,List.append_assoc,List.nil_append];rfl
theorem Nl (f0 f1 f2 f3 f4 f5 f6:ByteArray):(GI [f0,f1,f2,f3,f4,f5,f6]).size=f0.size+f1.size+f2.size+f3.size+f4.size+f5.size+f6.size+6:=by
 have:=congrArg List.length (Fj f0 f1 f2 f3 f4 f5 f6);simp only [List.length_append,List.length_cons,bytesOf_length] at this;omega
theorem Qw {f0 f1 f2 f3 f4 f5 f6:ByteArray} (h:∀ x∈[f0,f1,f2,f3,f4,f5,f6],ED (bytesOf x)) (hs:(GI [f0,f1,f2,f3,f4,f5,f6]).size<=140737488355328):DY.f [f0,f1,f2,f3,f4,f5,f6]=some (GI [f0,f1,f2,f3,f4,f5,f6],true):=by
 unfold DY.f;rw [if_pos (by simp),if_neg ?_,if_neg (by simp),if_pos ?_]
 ·have:(GI [f0,f1,f2,f3,f4,f5,f6]).size=(Lib.join ([f0,f1,f2,f3,f4,f5,f6].map (·.data.toList)) [9]).length:=by
   show (Lib.join _ [9]).toArray.size=_;rw [List.size_toArray]
  rw [<-this];exact hs
 ·rw [Bool.not_eq_true,List.any_eq_false];intro x hx;rw [Pg (h x hx)];decide
theorem Xo {f0 f1 f2 f3 f4 f5 f6:ByteArray} (h:∀ x∈[f0,f1,f2,f3,f4,f5,f6],ED (bytesOf x)):Vn (GI [f0,f1,f2,f3,f4,f5,f6])=[f0,f1,f2,f3,f4,f5,f6]:=by
 have hn:∀ x∈[f0,f1,f2,f3,f4,f5,f6],∀ c∈bytesOf x,c≠9:=λx hx c hc=>(h x hx c hc).1
 simp only [List.mem_cons,List.not_mem_nil,or_false,forall_eq_or_imp,forall_eq] at hn;obtain ⟨n0,n1,n2,n3,n4,n5,n6⟩:=hn;apply KS;rw [Vw,Fj,WH n0,WH n1,WH n2,WH n3,WH n4,WH n5,Vt n6];rfl
end Go.Proofs.YtikggnalmidlhaaGreatDoor.Y
end
section
namespace Go.Proofs.YtikggnalmidlhaaGreatDoor.Y
set_option linter.unusedVariables false
set_option linter.unusedSimpArgs false
structure RJ (κ:Type) where
 lt:κ->κ->Prop
 dec:∀ a b,Decidable (lt a b)
 irr:∀ a,¬lt a a
 tr:∀ {a b c},lt a b->lt b c->lt a c
 tot:∀ a b,lt a b\/a=b\/lt b a
instance {κ:Type} (O:RJ κ) (a b:κ):Decidable (O.lt a b):=O.dec a b
section
variable {κ ρ:Type} (O:RJ κ) (key:ρ->κ)
theorem RJ.U2 {a b:κ} (h:O.lt a b) (h':O.lt b a):False:=O.irr a (O.tr h h')
def Di (l:List ρ):Prop:=l.Pairwise λx y=>O.lt (key x) (key y)
def Dn (k:κ) (l:List ρ):List ρ:=l.filter λx=>decide (O.lt (key x) k)
def En (k:κ) (l:List ρ):List ρ:=l.filter λx=>decide (O.lt k (key x))
def atR (k:κ) (l:List ρ):List ρ:=l.filter λx=> !decide (O.lt (key x) k)&& !decide (O.lt k (key x))
def Lx (k:κ) (l:List ρ):List ρ:=Dn O key k l++En O key k l
def GR (k:κ) (y:ρ) (l:List ρ):List ρ:=Dn O key k l++y::En O key k l
variable {O key}
theorem RJ.U3 {a b:κ} (h:¬O.lt a b) (h':¬O.lt b a):a=b:=by
 rcases O.tot a b with h1|h1|h1
 ·exact absurd h1 h
 ·exact h1
 ·exact absurd h1 h'
theorem G5 {k:κ} {l:List ρ} {x:ρ}:x∈Dn O key k l↔x∈l/\O.lt (key x) k:=by simp [Dn]
theorem FN {k:κ} {l:List ρ} {x:ρ}:x∈En O key k l↔x∈l/\O.lt k (key x):=by simp [En]
theorem Sn {k:κ} {l:List ρ} {x:ρ}:x∈atR O key k l↔x∈l/\key x=k:=by
 simp only [atR,List.mem_filter,Bool.and_eq_true,Bool.not_eq_true',decide_eq_false_iff_not];refine and_congr_right λ_=>⟨λh=>O.U3 h.1 h.2,?_⟩
 rintro rfl;exact ⟨O.irr _,O.irr _⟩
theorem Gr {k:κ} {l:List ρ} {x:ρ}:x∈Lx O key k l↔x∈l/\key x≠k:=by
 rw [Lx,List.mem_append,G5,FN];constructor
 ·rintro (⟨h,h1⟩|⟨h,h1⟩)
  ·exact ⟨h,λe=>O.irr _ (e▸h1)⟩
  ·exact ⟨h,λe=>O.irr _ (e▸h1)⟩
 ·rintro ⟨h,h1⟩;rcases O.tot (key x) k with h2|h2|h2
  ·exact .inl ⟨h,h2⟩
  ·exact absurd h2 h1
  ·exact .inr ⟨h,h2⟩
theorem J9 {k:κ} {y x:ρ} {l:List ρ}:x∈GR O key k y l↔x=y\/(x∈l/\key x≠k):=by
 rw [<-Gr (O:=O),Lx,GR];simp only [List.mem_append,List.mem_cons];constructor
 ·rintro (h|h|h)
  ·exact .inr (.inl h)
  ·exact .inl h
  ·exact .inr (.inr h)
 ·rintro (h|h|h)
  ·exact .inr (.inl h)
  ·exact .inl h
  ·exact .inr (.inr h)
theorem Em {l:List ρ} (h:Di O key l) (p:ρ->Bool):Di O key (l.filter p):=List.Pairwise.filter p h
theorem FO {k:κ} {y:ρ} {l:List ρ} (h:Di O key l) (hy:key y=k):Di O key (GR O key k y l):=by
 subst hy;refine List.pairwise_append.2 ⟨Em h _,List.pairwise_cons.2 ⟨λx hx=>(FN.1 hx).2,Em h _⟩,λa ha b hb=>?_⟩;have h1:=(G5.1 ha).2;rcases List.mem_cons.1 hb with rfl|hb
 ·exact h1
 ·exact O.tr h1 (FN.1 hb).2
theorem K7 {k:κ} {l:List ρ} (h:Di O key l):Di O key (Lx O key k l):=
 List.pairwise_append.2 ⟨Em h _,Em h _,λa ha b hb=>O.tr (G5.1 ha).2 (FN.1 hb).2⟩
theorem KA {k:κ} {l:List ρ} (h:∀ x∈l,O.lt k (key x)):Dn O key k l=[]:=List.filter_eq_nil_iff.2 λx hx hd=>O.U2 (of_decide_eq_true hd) (h x hx)
theorem KC {k:κ} {l:List ρ} (h:∀ x∈l,O.lt k (key x)):En O key k l=l:=List.filter_eq_self.2 λx hx=>decide_eq_true (h x hx)
theorem RL {k:κ} {l:List ρ} (h:∀ x∈l,O.lt k (key x)):atR O key k l=[]:=List.filter_eq_nil_iff.2 λx hx hd=>by
 simp only [Bool.and_eq_true,Bool.not_eq_true',decide_eq_false_iff_not] at hd;exact hd.2 (h x hx)
theorem IP {k:κ} {x:ρ} {l:List ρ} (h:O.lt (key x) k):Dn O key k (x::l)=x::Dn O key k l:=List.filter_cons_of_pos (p:=λx=>decide (O.lt (key x) k)) (decide_eq_true h)
theorem KW {k:κ} {x:ρ} {l:List ρ} (h:¬O.lt (key x) k):Dn O key k (x::l)=Dn O key k l:=by unfold Dn;rw [List.filter_cons_of_neg (by simpa using h)]
theorem Fs {k:κ} {x:ρ} {l:List ρ} (h:¬O.lt k (key x)):En O key k (x::l)=En O key k l:=by unfold En;rw [List.filter_cons_of_neg (by simpa using h)]
theorem NB {k:κ} {x:ρ} {l:List ρ} (h:O.lt (key x) k\/O.lt k (key x)):atR O key k (x::l)=atR O key k l:=by
 unfold atR;rw [List.filter_cons_of_neg];rcases h with h|h<;>simp [h]
theorem Sq {k:κ} {x:ρ} {l:List ρ} (h:key x=k):atR O key k (x::l)=x::atR O key k l:=by
 unfold atR;rw [List.filter_cons_of_pos];subst h;simp [O.irr]
theorem Fp {l:List ρ} (k:κ) (h:Di O key l):l=Dn O key k l++(atR O key k l++En O key k l)/\(atR O key k l=[]\/∃ x,atR O key k l=[x]/\key x=k):=by
 induction l with
 |nil=>exact ⟨rfl, .inl rfl⟩
 |cons x l ih=>
  obtain ⟨hx,hl⟩:=List.pairwise_cons.1 h;obtain ⟨ih1,ih2⟩:=ih hl;rcases O.tot (key x) k with h1|h1|h1
  ·rw [IP h1,NB (.inl h1),Fs (λh2=>O.U2 h1 h2)];exact ⟨by rw [List.cons_append, <-ih1],ih2⟩
  ·have ha:∀ y∈l,O.lt k (key y):=λy hy=>h1▸hx y hy
   rw [KW (by rw [h1];exact O.irr k),Sq h1,Fs (by rw [h1];exact O.irr k),KA ha,RL ha,KC ha];exact ⟨rfl, .inr ⟨x,rfl,h1⟩⟩
  ·have ha:∀ y∈x::l,O.lt k (key y):=λy hy=>by
    rcases List.mem_cons.1 hy with rfl|hy
    ·exact h1
    ·exact O.tr h1 (hx y hy)
   rw [KA ha,RL ha,KC ha];exact ⟨rfl, .inl rfl⟩
theorem Ox {l:List ρ} (k:κ) (h:Di O key l):(Lx O key k l).length<=l.length:=by
 have:=congrArg List.length (Fp k h).1;simp only [List.length_append] at this;unfold Lx;rw [List.length_append];omega
theorem Oy {l:List ρ} (k:κ) (y:ρ) (h:Di O key l):(GR O key k y l).length<=l.length+1:=by
 have:=Ox k h;unfold Lx at this;rw [List.length_append] at this;unfold GR;rw [List.length_append,List.length_cons];omega
theorem K8 {l:List ρ}:∀ {m:List ρ},Di O key l->Di O key m->(∀ x,x∈l↔x∈m)->l=m:=by
 induction l with
 |nil=>
  intro m _ _ h;cases m with
  |nil=>rfl
  |cons y m=>exact absurd ((h y).2 (List.mem_cons_self ..)) (by simp)
 |cons x l ih=>
  intro m hl hm h;cases m with
  |nil=>exact absurd ((h x).1 (List.mem_cons_self ..)) (by simp)
  |cons y m=>
   obtain ⟨hx,hl'⟩:=List.pairwise_cons.1 hl;obtain ⟨hy,hm'⟩:=List.pairwise_cons.1 hm;have hxy:x=y:=by
    rcases List.mem_cons.1 ((h x).1 (List.mem_cons_self ..)) with h1|h1
    ·exact h1
    ·rcases List.mem_cons.1 ((h y).2 (List.mem_cons_self ..)) with h2|h2
     ·exact h2.symm
     ·exact (O.U2 (hx y h2) (hy x h1)).elim
   subst hxy;rw [ih hl' hm' λz=>⟨λhz=>?_,λhz=>?_⟩]
   ·rcases List.mem_cons.1 ((h z).1 (List.mem_cons_of_mem _ hz)) with rfl|h1
    ·exact (O.irr _ (hx z hz)).elim
    ·exact h1
   ·rcases List.mem_cons.1 ((h z).2 (List.mem_cons_of_mem _ hz)) with rfl|h1
    ·exact (O.irr _ (hy z hz)).elim
    ·exact h1
variable (O key)
variable {O key}
variable {pick:ρ->ρ->ρ}
variable [DecidableEq κ]
variable (key)
variable {key}
end
end Go.Proofs.YtikggnalmidlhaaGreatDoor.Y
end
