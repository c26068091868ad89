/- Several parts of the claim's proof in one text, said short by a program of this session. No condition. -/
import Derived.Test.YtikggnalmidlhaaGreatDoorM28
import Derived.Test.YtikggnalmidlhaaGreatDoorM30
import Derived.Test.YtikggnalmidlhaaGreatDoorPrint12
section
namespace Go.Proofs.YtikggnalmidlhaaGreatDoor.Y
set_option linter.unusedVariables false
set_option linter.unusedSimpArgs false
open RowKit Print AR Aa Ad
def KU (x:List Int):Bool:=x.any (λc=>decide (c=10))||decide (x.getLast?=some 13)
def Qu (b:ByteArray) (l:List ByteArray):ByteArray:=l.foldl (λb x=>(b++x)++⟨#[10]⟩) b
def UQ (l:List ByteArray):ByteArray:=Qu ⟨#[]⟩ l
theorem Ky (b x:ByteArray) (l:List ByteArray):Qu b (x::l)=Qu ((b++x)++⟨#[10]⟩) l:=rfl
theorem Xw:bytesOf (⟨#[10]⟩:ByteArray)=[10]:=rfl
theorem Xc:∀ (l:List ByteArray) (b:ByteArray),bytesOf (Qu b l)=bytesOf b++l.flatMap λx=>bytesOf x++[10]
 |[],b=>by simp [Qu]
 |x::l,b=>by rw [Ky,Xc l,Dw,Dw,Xw];simp
theorem Xm (l:List ByteArray):bytesOf (UQ l)=l.flatMap λx=>bytesOf x++[10]:=by unfold UQ;rw [Xc];rfl
theorem Xf:∀ (l:List ByteArray) (b:ByteArray),(∀ x∈l,x.size<=2000)->(Qu b l).size<=b.size+2001*l.length
 |[],b,_=>by simp [Qu]
 |x::l,b,h=>by
  have h1:=Xf l ((b++x)++⟨#[10]⟩) λy hy=>h y (.tail _ hy)
  have h2:=h x (.head _);have h3:(⟨#[10]⟩:ByteArray).size=1:=rfl;rw [Ky,List.length_cons];simp only [ByteArray.size_append,h3] at h1;omega
theorem Xg:∀ (l:List (List Int)),(∀ x∈l,∀ c∈x,c≠10)->Vh (l.flatMap λx=>x++[10])=l.map TQ
 |[],_=>rfl
 |x::l,h=>by
  have e:(x::l).flatMap (λx=>x++[10])=x++10::l.flatMap λx=>x++[10]:=by simp
  rw [e,Vk (h x (.head _)),Xg l λy hy=>h y (.tail _ hy)];rfl
theorem Sb {x:List Int} (h:KU x=false):(∀ c∈x,c≠10)/\TQ x=x:=by
 unfold KU at h;rw [Bool.or_eq_false_iff,List.any_eq_false] at h;refine ⟨λc hc e=>h.1 c hc (decide_eq_true e),?_⟩;unfold TQ;rw [if_neg (of_decide_eq_false h.2)]
theorem Xn {l:List ByteArray} (h:∀ x∈l,KU (bytesOf x)=false):Vi (UQ l)=l:=by
 apply KS;rw [WI,Xm];have h1:=Xg (l.map bytesOf) λy hy=>by obtain ⟨x,hx,rfl⟩:=List.mem_map.1 hy;exact (Sb (h x hx)).1
 rw [List.flatMap_map] at h1;rw [h1,List.map_map];exact List.map_congr_left λx hx=>(Sb (h x hx)).2
theorem Ll {z:UInt8} {x:List UInt8} (h:∀ c∈x,c≠z):Lib.indexByte x z= -1:=by
 induction x with
 |nil=>rfl
 |cons b x ih=>
  have hb:(b==z)=false:=beq_eq_false_iff_ne.2 (h b (.head _));have:=ih λc hc=>h c (.tail _ hc)
  simp [Lib.indexByte,hb,this]
theorem JU {s:ByteArray} {z:UInt8} (h:∀ c∈bytesOf s,c≠(z.toNat:Int)):∀ c∈s.data.toList,c≠z:=Sa.2 h
def ED (x:List Int):Prop:=∀ c∈x,c≠9/\c≠10/\c≠13
theorem Qv {s:ByteArray} (h:KU (bytesOf s)=false):Hw s=false:=by
 unfold Hw;have h1:=(Sb h).1;rw [Ll (z:=10) (JU h1)];have h2:Lib.hasSuffix s.data.toList [13]=false:=by
  rcases List.eq_nil_or_concat s.data.toList with e|⟨y,b,e⟩
  ·rw [e];rfl
  ·unfold Lib.hasSuffix;rw [e,List.concat_eq_append,Bool.eq_false_iff];intro hs;obtain ⟨t,ht⟩:=List.isSuffixOf_iff_suffix.1 hs;have hb:b=13:=(List.append_inj' ht rfl).2|>λe=>by simpa using e.symm
   unfold KU at h;rw [Bool.or_eq_false_iff] at h;refine of_decide_eq_false h.2 ?_;show (s.data.toList.map λb=>(b.toNat:Int)).getLast?=_;rw [e,List.concat_eq_append,List.map_append,List.map_cons,List.map_nil,List.getLast?_concat,hb];rfl
 rw [h2];rfl
theorem JB:∀ (l:List ByteArray) (out:ByteArray),(∀ x∈l,x.size<=2000/\KU (bytesOf x)=false)->out.size+2001*l.length<=1000000000->FR l out=some (Qu out l,true)
 |[],out,_,_=>rfl
 |x::l,out,h,hs=>by
  have h1:=h x (.head _);have h3:(⟨#[10]⟩:ByteArray).size=1:=rfl;rw [List.length_cons] at hs;unfold FR;rw [if_pos (by omega),if_neg (by rw [Qv h1.2];decide),JB l _ (λy hy=>h y (.tail _ hy)) (by simp only [ByteArray.size_append,h3];omega)];rfl
theorem UR {l:List ByteArray} (h:∀ x∈l,x.size<=2000/\KU (bytesOf x)=false) (hl:l.length<=10000):ER.f l=some (UQ l,true):=by
 unfold ER.f;rw [if_pos (by omega),JB l _ h (by show 0+_<=_;omega)];rfl
theorem YT (s:ByteArray) (z:Int) (hs:s.size<=4294967296):∀ d i:Nat,i+d=s.size->Ev (λk=>YE.l0 k s z i) (((bytesOf s).drop i).any λc=>decide (c=z)):=by
 intro d;induction d with
 |zero=>
  intro i hi;apply BB;unfold YE.l0;refine Ah (by omega) (BG (Am _) ?_);rw [List.drop_eq_nil_of_le (by rw [bytesOf_length];omega)];rfl
 |succ d ih=>
  intro i hi;apply BB;unfold YE.l0;have hw:wrap64 ((i:Int)+1)=((i+1:Nat):Int):=by rw [KD (by omega) (by omega)];omega
  refine AU (by omega) (AU (by omega) ?_);rw [hw];rcases DJ s (i:=i) (by omega) with ⟨h1,_⟩|⟨h1,h2⟩
  ·omega
  ·rw [h2,List.any_cons];by_cases hc:bt s i=z
   ·exact AU hc (BG (Am _) (by rw [decide_eq_true hc];rfl))
   ·exact Ah hc (BG (ih (i+1) (by omega)) (by rw [decide_eq_false hc];rfl))
theorem YR (l:List ByteArray) (hl:l.length<=10000) (hm:∀ x∈l,x.size<=2000):∀ d j (out:ByteArray),j+d=l.length->out.size<=2001*j->
 Ev (λk=>YF.l0 k l out (j:Int)) (if (l.drop j).any (λx=>KU (bytesOf x))=true then (⟨#[]⟩,false) else (Qu out (l.drop j),true)):=by
 intro d;induction d with
 |zero=>
  intro j out hj ho;rw [List.drop_eq_nil_of_le (by omega)];apply BB;unfold YF.l0;exact Ah (by omega) (Am _)
 |succ d ih=>
  intro j out hj ho;have hlt:j<l.length:=by omega
  have hmm:l[j]∈l:=List.getElem_mem hlt;have hx:=hm _ hmm;have hrd:Cf ByteArray.empty l (j:Int)=l[j]:=Gx (List.drop_eq_getElem_cons hlt);have hw:wrap64 ((j:Int)+1)=((j+1:Nat):Int):=by rw [KD (by omega) (by omega)];omega
  have h3:(⟨#[10]⟩:ByteArray).size=1:=rfl;have hh:=YT l[j] 10 (by omega) l[j].size 0 (by omega);rw [List.drop_zero] at hh;have nx:=ih (j+1) ((out++l[j])++⟨#[10]⟩) (by omega) (by simp only [ByteArray.size_append,h3];omega);apply BB;unfold YF.l0;rw [hrd,hw,List.drop_eq_getElem_cons hlt,List.any_cons,Ky];refine AU (by omega) (AU (by omega) (BL (by unfold YE.f;exact hh) ?_));by_cases h10:(bytesOf l[j]).any (λc=>decide (c=10))=true
  ·refine AU h10 (BG (Am _) ?_);have:KU (bytesOf l[j])=true:=by unfold KU;rw [h10];rfl
   rw [this];rfl
  ·refine Ah h10 ?_;have h10f:(bytesOf l[j]).any (λc=>decide (c=10))=false:=Bool.eq_false_iff.2 h10;have good:(KU (bytesOf l[j])=false)->Ev (λk=>if out.size+l[j].size<=9223372036854775807 then (if (out++l[j]).size+1<=9223372036854775807 then YF.l0 k l ((out++l[j])++⟨#[10]⟩) ((j+1:Nat):Int) else none) else none) (if (KU (bytesOf l[j])||(l.drop (j+1)).any (λx=>KU (bytesOf x)))=true then (⟨#[]⟩,false) else (Qu ((out++l[j])++⟨#[10]⟩) (l.drop (j+1)),true)):=by
    intro hb;rw [hb,Bool.false_or];exact AU (by omega) (AU (by simp only [ByteArray.size_append];omega) nx)
   by_cases h0:(l[j].size:Int)>0
   ·refine AU h0 ?_;have hw1:wrap64 ((l[j].size:Int) - 1)=((l[j].size - 1:Nat):Int):=by rw [KD (by omega) (by omega)];omega
    rw [hw1];refine AU (by omega) (AU (by omega) ?_);have hlast:(bytesOf l[j]).getLast?=some (bt l[j] ((l[j].size - 1:Nat):Int)):=by
     rcases DJ l[j] (i:=l[j].size - 1) (by omega) with ⟨g1,_⟩|⟨g1,g2⟩
     ·omega
     ·have g3:(bytesOf l[j]).drop (l[j].size - 1+1)=[]:=List.drop_eq_nil_of_le (by rw [bytesOf_length];omega);rw [g3] at g2
      conv=>lhs;rw [<-List.take_append_drop (l[j].size - 1) (bytesOf l[j]),g2]
      rw [List.getLast?_concat]
    by_cases h13:bt l[j] ((l[j].size - 1:Nat):Int)=13
    ·refine AU h13 (BG (Am _) ?_);have:KU (bytesOf l[j])=true:=by unfold KU;rw [h10f,hlast,h13];rfl
     rw [this];rfl
    ·refine Ah h13 (good ?_);unfold KU;rw [h10f,hlast,decide_eq_false (λe=>h13 (Option.some.inj e))];rfl
   ·refine Ah h0 (good ?_);have:bytesOf l[j]=[]:=GX.2 (by omega);rw [this];rfl
theorem YP {l:List ByteArray} (hl:l.length<=10000) (hm:∀ x∈l,x.size<=2000):Ev (λk=>YF.f k l) (if l.any (λx=>KU (bytesOf x))=true then (⟨#[]⟩,false) else (UQ l,true)):=by
 have:=YR l hl hm l.length 0 ⟨#[]⟩ (by omega) (Nat.le_refl _);exact this
theorem Wd (z:UInt8) (n:Nat):∀ l:List UInt8,l.length<=n->(Lib.splitK [z] 0 (Lib.count l [z]) l).map ints=sepL z.toNat (ints l):=by
 induction n with
 |zero=>
  intro l hl;have:l=[]:=List.length_eq_zero_iff.mp (by omega);subst this;rfl
 |succ n ih=>
  intro l hl;by_cases hm:Lib.index l [z]= -1
  ·have hb:=hm;rw [Lib.index_one] at hb;rw [Lib.count_miss hm];rw [Vt]
   ·rfl
   ·refine Sa.1 λc hc e=>?_
    obtain ⟨k,hk,hk2⟩:=List.getElem_of_mem hc;exact Lib.indexByte_none hb k (by rw [List.getElem?_eq_getElem hk,hk2,e])
  ·have hge:=Lib.index_ge l [z];obtain ⟨i,hi⟩:∃ i:Nat,Lib.index l [z]=i:=⟨(Lib.index l [z]).toNat,by omega⟩;have hb:=hi;rw [Lib.index_one] at hb;obtain ⟨h1,h2⟩:=Lib.indexByte_some hb;have hlt:i<l.length:=by
    rcases Nat.lt_or_ge i l.length with h|h
    ·exact h
    ·rw [List.getElem?_eq_none h] at h1;cases h1
   rw [Lib.count_hit (by simp) hi,Nat.add_comm 1];have hs:ints l=ints (l.take i)++(z.toNat:Int)::ints (l.drop (i+1)):=by
    conv=>lhs;rw [<-List.take_append_drop i l,List.drop_eq_getElem_cons hlt]
    unfold ints;rw [List.map_append,List.map_cons];rw [List.getElem?_eq_getElem hlt] at h1;rw [Option.some.inj h1]
   rw [hs,WH,Lib.splitK,if_neg (by simpa using hm),hi]
   ·simp only [List.map_cons,Int.toNat_natCast,Nat.add_zero,List.length_cons,List.length_nil,Nat.zero_add];rw [ih _ (by rw [List.length_drop];omega)]
   ·refine Sa.1 λc hc e=>?_
    obtain ⟨k,hk,hk2⟩:=List.getElem_of_mem hc;rw [List.length_take] at hk;refine h2 k (by omega) ?_;rw [List.getElem_take] at hk2;rw [List.getElem?_eq_getElem (by omega),hk2,e]
def Vn (s:ByteArray):List ByteArray:=(sepL 9 (bytesOf s)).map strOfNums
theorem Vw (s:ByteArray):(Vn s).map bytesOf=sepL 9 (bytesOf s):=by
 unfold Vn;rw [List.map_map]
 conv=>rhs;rw [<-List.map_id (sepL 9 (bytesOf s))]
 exact List.map_congr_left λp hp=>V3 λc hc=>(Wn p hp c hc).1
theorem Wv {l:List Nat} {x:Nat} (h:x∈l):x<=l.sum:=SE h
theorem V5 {s x:ByteArray} (h:x∈Vn s):x.size<=s.size:=by
 have h1:bytesOf x∈sepL 9 (bytesOf s):=by rw [<-Vw];exact List.mem_map_of_mem h
 have h2:=Wo 9 (bytesOf s);have h3:=Wv (List.mem_map_of_mem (f:=List.length) h1);rw [bytesOf_length] at h2 h3;have h4:1<=(sepL 9 (bytesOf s)).length:=List.length_pos_iff.2 (Vx _ _);omega
theorem WR (s:ByteArray):JW s (⟨#[9]⟩:ByteArray)=Vn s:=by
 apply KS;rw [Vw];have h:=Lib.splitB_data (⟨#[9]⟩:ByteArray) 0 (Lib.countB s ⟨#[9]⟩) s;have h2:=Wd 9 s.data.toList.length s.data.toList (Nat.le_refl _);unfold JW;have e:bytesOf=ints∘λx:ByteArray=>x.data.toList:=rfl
 rw [e, <-List.map_map,h];exact h2
theorem XP {s:ByteArray} (hs:s.size<4294967281):ES.f s=some (Vn s):=by
 unfold ES.f strings_Split.f;rw [if_pos ⟨hs,by decide⟩,WR];rfl
theorem XJ (s:ByteArray) (hs:s.size<=4294967296) (d:Nat):∀ (a k:Nat) (acc:List ByteArray),k+d=s.size->a<=k->acc.length<=a->(∀ c∈((bytesOf s).drop a).take (k - a),c≠9)->Ev (λn=>Va.l0 n s acc a k) (acc++(sepL 9 ((bytesOf s).drop a)).map strOfNums):=by
 have hl:=bytesOf_length s;induction d with
 |zero=>
  intro a k acc hk hak hacc hno;apply BB;simp only [Va.l0];refine Ah (by omega) (AU (by omega) (AU (by omega) (AU (by omega) (BG (Am _) ?_))));rw [List.take_of_length_le (by rw [List.length_drop];omega)] at hno;rw [Vt hno];simp only [List.map_cons,List.map_nil,Int.toNat_natCast];rw [Vp,List.take_of_length_le (by rw [List.length_drop];omega)]
 |succ d ih=>
  intro a k acc hk hak hacc hno;apply BB;simp only [Va.l0];refine AU (by omega) (AU (by omega) ?_);have hw:wrap64 ((k:Int)+1)=((k+1:Nat):Int):=by rw [KD (by omega) (by omega)];omega
  rw [hw];rcases DJ s (i:=k) (by omega) with ⟨h1,_⟩|⟨h1,h2⟩
  ·omega
  ·by_cases hc:bt s k=9
   ·refine AU hc (AU (by omega) (AU (by omega) (AU (by omega) (AU (by omega) ?_))));refine BG (ih (k+1) (k+1) _ (by omega) (by omega) (by simp;omega) (by simp)) ?_;rw [hc] at h2;rw [WL hak h2,WH hno,List.map_cons,List.append_assoc,List.singleton_append,Int.toNat_natCast,Int.toNat_natCast,Vp]
   ·refine Ah hc (ih a (k+1) acc (by omega) (by omega) hacc ?_);rw [PT hak h2];intro c hcm;rcases List.mem_append.mp hcm with e|e
    ·exact hno c e
    ·simp only [List.mem_singleton] at e;rw [e];exact hc
theorem Ww {s:ByteArray} (hs:s.size<=4294967296):Ev (λn=>Va.f n s) (Vn s):=by
 simp only [Va.f];have:=XJ s hs s.size 0 0 [] (by omega) (Nat.le_refl _) (Nat.le_refl _) (by simp);simpa [Vn] using this
theorem Pg {s:ByteArray} (h:ED (bytesOf s)):LG s=false:=by
 unfold LG;rw [Ll (z:=9) (JU λc hc=>(h c hc).1),Ll (z:=10) (JU λc hc=>(h c hc).2.1),Ll (z:=13) (JU λc hc=>(h c hc).2.2)];rfl
theorem Fj (f0 f1 f2 f3 f4 f5 f6:ByteArray):bytesOf (GI [f0,f1,f2,f3,f4,f5,f6])=bytesOf f0++9::(bytesOf f1++9::(bytesOf f2++9::(bytesOf f3++9::(bytesOf f4++9::(bytesOf f5++9::bytesOf f6))))):=by
 show ints (Lib.join _ [9])=_;simp only [Lib.join_cons,Lib.joinTail,List.map_cons,List.map_nil,List.flatten_cons,List.flatten_nil,List.append_nil];simp only [ints,List.map_append,List.map_cons,List.map_nil,List.singleton_append,List.cons_append,List.append_assoc,List.nil_append];rfl
theorem Nl (f0 f1 f2 f3 f4 f5 f6:ByteArray):(GI [f0,f1,f2,f3,f4,f5,f6]).size=f0.size+f1.size+f2.size+f3.size+f4.size+f5.size+f6.size+6:=by
 have:=congrArg List.length (Fj f0 f1 f2 f3 f4 f5 f6);simp only [List.length_append,List.length_cons,bytesOf_length] at this;omega
theorem Qw {f0 f1 f2 f3 f4 f5 f6:ByteArray} (h:∀ x∈[f0,f1,f2,f3,f4,f5,f6],ED (bytesOf x)) (hs:(GI [f0,f1,f2,f3,f4,f5,f6]).size<=140737488355328):DY.f [f0,f1,f2,f3,f4,f5,f6]=some (GI [f0,f1,f2,f3,f4,f5,f6],true):=by
 unfold DY.f;rw [if_pos (by simp),if_neg ?_,if_neg (by simp),if_pos ?_]
 ·have:(GI [f0,f1,f2,f3,f4,f5,f6]).size=(Lib.join ([f0,f1,f2,f3,f4,f5,f6].map (·.data.toList)) [9]).length:=by
   show (Lib.join _ [9]).toArray.size=_;rw [List.size_toArray]
  rw [<-this];exact hs
 ·rw [Bool.not_eq_true,List.any_eq_false];intro x hx;rw [Pg (h x hx)];decide
theorem Xo {f0 f1 f2 f3 f4 f5 f6:ByteArray} (h:∀ x∈[f0,f1,f2,f3,f4,f5,f6],ED (bytesOf x)):Vn (GI [f0,f1,f2,f3,f4,f5,f6])=[f0,f1,f2,f3,f4,f5,f6]:=by
 have hn:∀ x∈[f0,f1,f2,f3,f4,f5,f6],∀ c∈bytesOf x,c≠9:=λx hx c hc=>(h x hx c hc).1
 simp only [List.mem_cons,List.not_mem_nil,or_false,forall_eq_or_imp,forall_eq] at hn;obtain ⟨n0,n1,n2,n3,n4,n5,n6⟩:=hn;apply KS;rw [Vw,Fj,WH n0,WH n1,WH n2,WH n3,WH n4,WH n5,Vt n6];rfl
end Go.Proofs.YtikggnalmidlhaaGreatDoor.Y
end
section
namespace Go.Proofs.YtikggnalmidlhaaGreatDoor.Y
set_option linter.unusedVariables false
set_option linter.unusedSimpArgs false
open RowKit Print AR Aa Ad
theorem Nv (s:ByteArray) (i:Int):Cy.f (bt s i)=some (Ga (bt s i)):=JV (P:=λc=>Cy.f c=some (Ga c)) (by decide+kernel) (Fz s i).1 (Fz s i).2
theorem M9 (s:ByteArray) (i:Int):Cr.f (bt s i)=some (Gb (bt s i)):=JV (P:=λc=>Cr.f c=some (Gb c)) (by decide+kernel) (Fz s i).1 (Fz s i).2
theorem Lr (s:ByteArray) (hs:s.size<=4294967296) (d:Nat):∀ i:Nat,i+d=s.size->Ev (λk=>Aw.l0 k s i) (decide ((s.size:Int)>0)&&((bytesOf s).drop i).all Ga):=by
 induction d with
 |zero=>
  intro i hi;apply BB;simp only [Aw.l0];exact Ah (by omega) (BG (Am _) (by rw [List.drop_eq_nil_of_le (by rw [bytesOf_length];omega)];simp))
 |succ d ih=>
  intro i hi;apply BB;simp only [Aw.l0,Nv];have hw:wrap64 ((i:Int)+1)=((i+1:Nat):Int):=by rw [KD (by omega) (by omega)];omega
  rw [hw];refine AU (by omega) (AU (by omega) (BL (Am _) ?_));rcases DJ s (i:=i) (by omega) with ⟨h1,_⟩|⟨h1,h2⟩
  ·omega
  ·rw [h2,List.all_cons];by_cases hc:Ga (bt s i)=true
   ·exact AU hc (BG (ih (i+1) (by omega)) (by rw [hc];simp))
   ·exact Ah hc (BG (Am _) (by rw [Bool.not_eq_true] at hc;rw [hc];simp))
theorem Ls (s:ByteArray) (hs:s.size<=4294967296) (d:Nat):∀ i:Nat,i+d=s.size->Ev (λk=>BA.l0 k s i) (((bytesOf s).drop i).all Gb):=by
 induction d with
 |zero=>
  intro i hi;apply BB;simp only [BA.l0];exact Ah (by omega) (BG (Am _) (by rw [List.drop_eq_nil_of_le (by rw [bytesOf_length];omega)];simp))
 |succ d ih=>
  intro i hi;apply BB;simp only [BA.l0,M9];have hw:wrap64 ((i:Int)+1)=((i+1:Nat):Int):=by rw [KD (by omega) (by omega)];omega
  rw [hw];refine AU (by omega) (AU (by omega) (BL (Am _) ?_));rcases DJ s (i:=i) (by omega) with ⟨h1,_⟩|⟨h1,h2⟩
  ·omega
  ·rw [h2,List.all_cons];by_cases hc:Gb (bt s i)=true
   ·exact AU hc (BG (ih (i+1) (by omega)) (by rw [hc];simp))
   ·exact Ah hc (BG (Am _) (by rw [Bool.not_eq_true] at hc;rw [hc];simp))
theorem Nw (c:Int):FP c=decide (¬c<33/\¬c>126/\¬c=59):=by
 unfold FP;rw [Bool.eq_iff_iff];simp only [Bool.and_eq_true,Bool.not_eq_true',decide_eq_true_iff,decide_eq_false_iff_not];omega
theorem J8 (s:ByteArray) (hs:s.size<=4294967296) (d:Nat):∀ i:Nat,i+d=s.size->Ev (λk=>BR.l0 k s i) (((bytesOf s).drop i).all FP):=by
 induction d with
 |zero=>
  intro i hi;apply BB;simp only [BR.l0];exact Ah (by omega) (BG (Am _) (by rw [List.drop_eq_nil_of_le (by rw [bytesOf_length];omega)];simp))
 |succ d ih=>
  intro i hi;apply BB;simp only [BR.l0];have hw:wrap64 ((i:Int)+1)=((i+1:Nat):Int):=by rw [KD (by omega) (by omega)];omega
  rw [hw];refine AU (by omega) (AU (by omega) ?_);rcases DJ s (i:=i) (by omega) with ⟨h1,_⟩|⟨h1,h2⟩
  ·omega
  ·rw [h2,List.all_cons,Nw];by_cases h3:bt s i<33
   ·exact AU h3 (BG (Am _) (by rw [decide_eq_false (by omega)];rfl))
   ·refine Ah h3 ?_;by_cases h4:bt s i>126
    ·exact AU h4 (BG (Am _) (by rw [decide_eq_false (by omega)];rfl))
    ·refine Ah h4 ?_;by_cases h5:bt s i=59
     ·exact AU h5 (BG (Am _) (by rw [decide_eq_false (by omega)];rfl))
     ·exact Ah h5 (BG (ih (i+1) (by omega)) (by rw [decide_eq_true ⟨h3,h4,h5⟩];rfl))
theorem Ny {s:ByteArray} (hs:s.size<=3000):Ev (λk=>Aw.f k s) (Nt s):=by
 have h:=Lr s (by omega) s.size 0 (by omega);have e:decide ((s.size:Int)>0)= !decide (s.toList=([]:List UInt8)):=by
  rw [Bool.eq_iff_iff,Bool.not_eq_true',decide_eq_true_iff,decide_eq_false_iff_not];have hl:s.toList.length=s.size:=by rw [toList_data,Array.length_toList];rfl
  constructor
  ·intro h0 h1;rw [h1] at hl;simp at hl;omega
  ·intro h0;have:s.toList.length≠0:=λz=>h0 (List.eq_nil_of_length_eq_zero z)
   omega
 unfold Nt;rw [<-e];simpa [Aw.f] using h
theorem Nz {s:ByteArray} (hs:s.size<=3000):Ev (λk=>BA.f k s) (Nu s):=by
 have h:=Ls s (by omega) s.size 0 (by omega);simpa [BA.f,Nu] using h
theorem Lt {s:ByteArray} (hs:s.size<=3000):Ev (λk=>BR.f k s) (J7 s):=by
 have h:=J8 s (by omega) s.size 0 (by omega);simpa [BR.f,J7] using h
theorem Lu {p:ByteArray} (h:p.size<=3000):Ev (λk=>CL.f k p) (JE p):=by
 unfold CL.f JE;by_cases h1:(p.size:Int)>=1
 ·refine AU h1 ?_;by_cases h2:(p.size:Int)<=64
  ·refine AU h2 (AU (by omega) ?_);by_cases h3:bt p 0=47
   ·exact AU h3 (BL (Lt h) (BG (Am _) (by rw [decide_eq_true h1,decide_eq_true h2,decide_eq_true h3];rfl)))
   ·exact Ah h3 (BG (Am _) (by rw [decide_eq_false h3];simp))
  ·exact Ah h2 (BG (Am _) (by rw [decide_eq_false h2];simp))
 ·exact Ah h1 (BG (Am _) (by rw [decide_eq_false h1];simp))
theorem RB (c4 c5 c6 ss:Int):(Iq c4 c5 c6&&(decide (ss>=0)&&decide (ss<=3)))=decide (¬c4<0/\¬c4>253402300799/\¬c5<0/\¬c5>253402300799/\¬c6<0/\¬c6>253402300799/\ss>=0/\ss<=3):=by
 unfold Iq L6;rw [Bool.eq_iff_iff];simp only [Bool.and_eq_true,decide_eq_true_iff];omega
theorem Lv {d p n v:ByteArray} {c4 c5 c6:Int} {ho se ht:Bool} {ss:Int} (hd:d.size<=3000) (hp:p.size<=3000) (hn:n.size<=3000) (hv:v.size<=3000):Ev (λk=>AQ.f k d p n v c4 c5 c6 ho se ht ss) (Ir d p n v c4 c5 c6 ho ss):=by
 have j1:∀ x:Bool,Ev (λk=>AQ.j1 k x d p n v c4 c5 c6 ho se ht ss) (!x&&(Iq c4 c5 c6&&(decide (ss>=0)&&decide (ss<=3)))):=by
  intro x;apply BB;simp only [AQ.j1];cases x with
  |true=>exact AU rfl (Am _)
  |false=>
   refine Ah (by decide) ?_;rw [RB,Bool.not_false,Bool.true_and];by_cases h1:c4<0
   ·exact AU h1 (BG (Am _) (decide_eq_false (by omega)).symm)
   refine Ah h1 ?_;by_cases h2:c4>253402300799
   ·exact AU h2 (BG (Am _) (decide_eq_false (by omega)).symm)
   refine Ah h2 ?_;by_cases h3:c5<0
   ·exact AU h3 (BG (Am _) (decide_eq_false (by omega)).symm)
   refine Ah h3 ?_;by_cases h4:c5>253402300799
   ·exact AU h4 (BG (Am _) (decide_eq_false (by omega)).symm)
   refine Ah h4 ?_;by_cases h5:c6<0
   ·exact AU h5 (BG (Am _) (decide_eq_false (by omega)).symm)
   refine Ah h5 ?_;by_cases h6:c6>253402300799
   ·exact AU h6 (BG (Am _) (decide_eq_false (by omega)).symm)
   refine Ah h6 ?_;by_cases h7:ss>=0
   ·refine AU h7 (BG (Am _) ?_);rw [Bool.eq_iff_iff,decide_eq_true_iff,decide_eq_true_iff];omega
   ·exact Ah h7 (BG (Am _) (decide_eq_false (by omega)).symm)
 have j0:∀ x:Bool,Ev (λk=>AQ.j0 k x d p n v c4 c5 c6 ho se ht ss) (!x&&Pn p n v c4 c5 c6 ss):=by
  intro x;apply BB;simp only [AQ.j0];unfold Pn M8;cases x with
  |true=>exact AU rfl (Am _)
  |false=>
   refine Ah (by decide) (BL (Lu hp) ?_);by_cases h1:JE p=true
   ·refine AU h1 (BL (Ny hn) ?_);by_cases h2:Nt n=true
    ·refine AU h2 ?_;by_cases h3:(n.size:Int)>64
     ·exact AU h3 (BG (j1 true) (by rw [decide_eq_true h3];simp))
     ·refine Ah h3 (BL (Nz hv) ?_);by_cases h4:Nu v=true
      ·exact AU h4 (BG (j1 _) (by rw [h1,h2,h4,decide_eq_false h3];simp))
      ·exact Ah h4 (BG (j1 true) (by rw [Bool.not_eq_true] at h4;rw [h4];simp))
    ·exact Ah h2 (BG (j1 true) (by rw [Bool.not_eq_true] at h2;rw [h2];simp))
   ·exact Ah h1 (BG (j1 true) (by rw [Bool.not_eq_true] at h1;rw [h1];simp))
 unfold AQ.f Ir;refine BL (Li (by omega)) ?_;by_cases h1:(EK d).2=true
 ·refine AU h1 ?_;by_cases h2:(EK d).1.toList=d.toList
  ·have h3:=toList_inj.mp h2;refine AU h2 (BL (PW (by omega)) ?_);rw [h3,h1,decide_eq_true rfl];by_cases h4:Uu d=true
   ·exact AU h4 (BG (j0 _) (by rw [h4];simp))
   ·exact Ah h4 (BG (j0 _) (by rw [Bool.not_eq_true] at h4;rw [h4];simp))
  ·refine Ah h2 (BG (j0 true) ?_);rw [decide_eq_false (λe=>h2 (EC.mpr e))];simp
 ·refine Ah h1 (BG (j0 true) ?_);rw [Bool.not_eq_true] at h1;rw [h1];simp
end Go.Proofs.YtikggnalmidlhaaGreatDoor.Y
end
section
namespace Go.Proofs.YtikggnalmidlhaaGreatDoor.Print
open RowKit AR Aa Ad
attribute [local go_sem] BM BN Bo Bp BC BD BO BP
set_option linter.unusedVariables false
set_option linter.unusedSimpArgs false
def Bi.f (k:Nat):Option (Bool):=(Co.f k (([(⟨(⟨#[120,46,121]⟩:ByteArray),(⟨#[47]⟩:ByteArray),(⟨#[97]⟩:ByteArray),(⟨#[98]⟩:ByteArray),0,0,0,false,false,true,0⟩:CU)]:List (CU)))).bind λbt227=>((BQ.f k bt227.1).bind λt232=>((CV.f k t232 9).bind λbt233=>((CV.f k (⟨#[120]⟩:ByteArray) 9).bind λbt237=>((CV.f k (⟨#[35,32,78,101,116,115,99,97,112,101,32,72,84,84,80,32,67,111,111,107,105,101,32,70,105,108,101,10,97]⟩:ByteArray) 9).bind λbt241=>((CV.f k (⟨#[35,32,78,101,116,115,99,97,112,101,32,72,84,84,80,32,67,111,111,107,105,101,32,70,105,108,101,10,120,9,84,82,85,69,9,47,9,84,82,85,69,9,48,9,97,9,98]⟩:ByteArray) 9).bind λbt245=>(if t232.toList=([35,32,78,101,116,115,99,97,112,101,32,72,84,84,80,32,67,111,111,107,105,101,32,70,105,108,101,10,35,72,116,116,112,79,110,108,121,95,46,120,46,121,9,84,82,85,69,9,47,9,70,65,76,83,69,9,48,9,97,9,98,10]:List UInt8) then (if bt233.2=0 then (if (bt233.1.length:Int)=1 then (if 0<(bt233.1.length:Int) then (if ((AB bt233.1 0).f4)=9 then (if (AB bt233.1 0).f9=true then (if bt237.2=190 then (if bt241.2=191 then (some (bt245.2==192)) else (some false)) else (some false)) else (some false)) else (some false)) else (none)) else (some false)) else (some false)) else (some false)))))))
theorem Bi.mono:∀ k,Bz (Bi.f k) (Bi.f (k+1)):=by
 intro k;unfold Bi.f
 repeat' first|(with_reducible first|exact Co.mono _ _|exact CV.mono _ _ _|exact BQ.mono _ _|exact Bz.refl _|exact Bz.none _|refine Bz.ite ?_ ?_|refine Bz.bind ?_ (λ_=>?_))|exact Co.mono _ _|exact CV.mono _ _ _|exact BQ.mono _ _|exact Bz.none _|refine Bz.ite ?_ ?_|refine Bz.bind ?_ (λ_=>?_)
set_option maxHeartbeats 8000000 in
set_option maxRecDepth 100000 in
theorem Bi.calls (k:Nat) (r:Bool) (w:World) (hG:AA (Ck w)) (hT_:AA (r=true)) (h:Bi.f k=some r):
 Calls Tryz.prog 10 #[] w λe w'=>e= .returned (.bool r)/\Below w.heap.size w w':=by
 have hu53:=Tryz.underlying53;have hu29:=Tryz.underlying29;have HB:=AA.mk (Below.refl w.heap.size w);have H:((Co.f k (([(⟨(⟨#[120,46,121]⟩:ByteArray),(⟨#[47]⟩:ByteArray),(⟨#[97]⟩:ByteArray),(⟨#[98]⟩:ByteArray),0,0,0,false,false,true,0⟩:CU)]:List (CU)))).bind λbt227=>((BQ.f k bt227.1).bind λt232=>((CV.f k t232 9).bind λbt233=>((CV.f k (⟨#[120]⟩:ByteArray) 9).bind λbt237=>((CV.f k (⟨#[35,32,78,101,116,115,99,97,112,101,32,72,84,84,80,32,67,111,111,107,105,101,32,70,105,108,101,10,97]⟩:ByteArray) 9).bind λbt241=>((CV.f k (⟨#[35,32,78,101,116,115,99,97,112,101,32,72,84,84,80,32,67,111,111,107,105,101,32,70,105,108,101,10,120,9,84,82,85,69,9,47,9,84,82,85,69,9,48,9,97,9,98]⟩:ByteArray) 9).bind λbt245=>(if t232.toList=([35,32,78,101,116,115,99,97,112,101,32,72,84,84,80,32,67,111,111,107,105,101,32,70,105,108,101,10,35,72,116,116,112,79,110,108,121,95,46,120,46,121,9,84,82,85,69,9,47,9,70,65,76,83,69,9,48,9,97,9,98,10]:List UInt8) then (if bt233.2=0 then (if (bt233.1.length:Int)=1 then (if 0<(bt233.1.length:Int) then (if ((AB bt233.1 0).f4)=9 then (if (AB bt233.1 0).f9=true then (if bt237.2=190 then (if bt241.2=191 then (some (bt245.2==192)) else (some false)) else (some false)) else (some false)) else (some false)) else (none)) else (some false)) else (some false)) else (some false))))))))=some r:=h;clear h;obtain ⟨y224,hy224⟩:∃ y_:List (CU),y_=(([(⟨(⟨#[120,46,121]⟩:ByteArray),(⟨#[47]⟩:ByteArray),(⟨#[97]⟩:ByteArray),(⟨#[98]⟩:ByteArray),0,0,0,false,false,true,0⟩:CU)]:List (CU))):=⟨_,rfl⟩;replace H:((Co.f k y224).bind λbt227=>((BQ.f k bt227.1).bind λt232=>((CV.f k t232 9).bind λbt233=>((CV.f k (⟨#[120]⟩:ByteArray) 9).bind λbt237=>((CV.f k (⟨#[35,32,78,101,116,115,99,97,112,101,32,72,84,84,80,32,67,111,111,107,105,101,32,70,105,108,101,10,97]⟩:ByteArray) 9).bind λbt241=>((CV.f k (⟨#[35,32,78,101,116,115,99,97,112,101,32,72,84,84,80,32,67,111,111,107,105,101,32,70,105,108,101,10,120,9,84,82,85,69,9,47,9,84,82,85,69,9,48,9,97,9,98]⟩:ByteArray) 9).bind λbt245=>(if t232.toList=([35,32,78,101,116,115,99,97,112,101,32,72,84,84,80,32,67,111,111,107,105,101,32,70,105,108,101,10,35,72,116,116,112,79,110,108,121,95,46,120,46,121,9,84,82,85,69,9,47,9,70,65,76,83,69,9,48,9,97,9,98,10]:List UInt8) then (if bt233.2=0 then (if (bt233.1.length:Int)=1 then (if 0<(bt233.1.length:Int) then (if ((AB bt233.1 0).f4)=9 then (if (AB bt233.1 0).f9=true then (if bt237.2=190 then (if bt241.2=191 then (some (bt245.2==192)) else (some false)) else (some false)) else (some false)) else (some false)) else (none)) else (some false)) else (some false)) else (some false))))))))=some r:=by first|(rw [hy224];with_reducible exact H)|(have H2_:=(Option.bind_some _ _).symm.trans H;rw [hy224];with_reducible exact H2_)|(have H2_:=(Option.bind_some _ _).symm.trans H;with_reducible exact H2_)|with_reducible exact H|(rw [hy224];exact H)|exact H
 have Ny224:=AA.mk hy224;clear hy224;replace H:=Option.bind_eq_some_iff.mp H;obtain ⟨⟨t227,t230⟩,A10,H⟩:=H;try dsimp only at H
 have A1:=AA.mk A10;clear A10;replace H:=Option.bind_eq_some_iff.mp H;obtain ⟨t232,A20,H⟩:=H;try dsimp only at H
 have A2:=AA.mk A20;clear A20;replace H:=Option.bind_eq_some_iff.mp H;obtain ⟨⟨t233,t234⟩,A30,H⟩:=H;try dsimp only at H
 have A3:=AA.mk A30;clear A30;replace H:=Option.bind_eq_some_iff.mp H;obtain ⟨⟨t237,t238⟩,A40,H⟩:=H;try dsimp only at H
 have A4:=AA.mk A40;clear A40;replace H:=Option.bind_eq_some_iff.mp H;obtain ⟨⟨t241,t242⟩,A50,H⟩:=H;try dsimp only at H
 have A5:=AA.mk A50;clear A50;replace H:=Option.bind_eq_some_iff.mp H;obtain ⟨⟨t245,t246⟩,A60,H⟩:=H;try dsimp only at H
 have A6:=AA.mk A60;clear A60;by_cases c7:t232.toList=([35,32,78,101,116,115,99,97,112,101,32,72,84,84,80,32,67,111,111,107,105,101,32,70,105,108,101,10,35,72,116,116,112,79,110,108,121,95,46,120,46,121,9,84,82,85,69,9,47,9,70,65,76,83,69,9,48,9,97,9,98,10]:List UInt8)
 ·rw [if_pos c7] at H;have c7b0:(t232.toList==([35,32,78,101,116,115,99,97,112,101,32,72,84,84,80,32,67,111,111,107,105,101,32,70,105,108,101,10,35,72,116,116,112,79,110,108,121,95,46,120,46,121,9,84,82,85,69,9,47,9,70,65,76,83,69,9,48,9,97,9,98,10]:List UInt8))=true:=beq_iff_eq.mpr c7;have c7b1:(t232.toList != ([35,32,78,101,116,115,99,97,112,101,32,72,84,84,80,32,67,111,111,107,105,101,32,70,105,108,101,10,35,72,116,116,112,79,110,108,121,95,46,120,46,121,9,84,82,85,69,9,47,9,70,65,76,83,69,9,48,9,97,9,98,10]:List UInt8))=false:=bne_eq_false_iff_eq.mpr c7;clear c7;by_cases c8:t234=0
  ·rw [if_pos c8] at H;have c8b0:(t234==0)=true:=beq_iff_eq.mpr c8;have c8b1:(t234 != 0)=false:=bne_eq_false_iff_eq.mpr c8;clear c8;by_cases c9:(t233.length:Int)=1
   ·rw [if_pos c9] at H;have c9b0:((t233.length:Int)==1)=true:=beq_iff_eq.mpr c9;have c9b1:((t233.length:Int) != 1)=false:=bne_eq_false_iff_eq.mpr c9;clear c9;by_cases c10:0<(t233.length:Int)
    ·rw [if_pos c10] at H;have c10b0:decide (0<(t233.length:Int))=true:=decide_eq_true c10;have c10b1:decide (0<t233.length)=true:=decide_eq_true (by omega);clear c10;by_cases c11:((AB t233 0).f4)=9
     ·rw [if_pos c11] at H;have c11b0:(((AB t233 0).f4)==9)=true:=beq_iff_eq.mpr c11;have c11b1:(((AB t233 0).f4) != 9)=false:=bne_eq_false_iff_eq.mpr c11;clear c11;obtain ⟨bq12,hbq12⟩:∃ b_:Bool,b_=((AB t233 0).f9):=⟨_,rfl⟩;replace H:(if bq12=true then (if t238=190 then (if t242=191 then (some (t246==192)) else (some false)) else (some false)) else (some false))=some r:=by rw [<-hbq12] at H;exact H
      have Nbq12:=AA.mk hbq12;clear hbq12;by_cases c13:bq12=true
      ·subst c13;have H1:(if t238=190 then (if t242=191 then (some (t246==192)) else (some false)) else (some false))=some r:=by rw [if_pos rfl] at H;exact H
       clear H;have H:=H1;clear H1;by_cases c14:t238=190
       ·rw [if_pos c14] at H;have c14b0:(t238==190)=true:=beq_iff_eq.mpr c14;have c14b1:(t238 != 190)=false:=bne_eq_false_iff_eq.mpr c14;clear c14;by_cases c15:t242=191
        ·rw [if_pos c15] at H;have c15b0:(t242==191)=true:=beq_iff_eq.mpr c15;have c15b1:(t242 != 191)=false:=bne_eq_false_iff_eq.mpr c15;clear c15;obtain rfl:=Option.some.inj H;have S:=St.start w;go_enter Tryz.func10,Tryz.ntmps10;go_wp2_with (first|(refine NT (N:=1) Fa 53 (λb1_ W_ S_=>?_);replace S:=S_;clear S_)|((with_reducible refine C8 rfl ?_);refine Gg (λW_ S_=>?_);replace S:=S_;clear S_)|((with_reducible refine DD rfl ?_);refine Fw ?_)|((with_reducible refine F4 (N:=16) rfl ?_);(try (refine Hq (by rfl) ?_;dsimp only));refine Kd.OV Fu _ 53 ?hg (N:=16) ?hd (xs:=([(⟨(⟨#[120,46,121]⟩:ByteArray),(⟨#[47]⟩:ByteArray),(⟨#[97]⟩:ByteArray),(⟨#[98]⟩:ByteArray),0,0,0,false,false,true,0⟩:CU)]:List (CU))) (inner:=[.string (⟨#[120,46,121]⟩:ByteArray), .string (⟨#[47]⟩:ByteArray), .string (⟨#[97]⟩:ByteArray), .string (⟨#[98]⟩:ByteArray), .int .i64 0, .int .i64 0, .int .i64 0, .bool false, .bool false, .bool true, .int .i64 0]) (ok:=λ_=>True) (okp:=λ_=>True) ?hr ?hp (λ_ hk=>hk) trivial (Below.refl _ _) (Nat.le_refl _) (by simp) ?_;(case hd=>rfl);(case hg=>rfl);(case hr=>first|(go_simp;done)|(go_simp;rfl));(case hp=>exact (CG.front (show Kd.M Fu _ _ _ (⟨(⟨#[120,46,121]⟩:ByteArray),(⟨#[47]⟩:ByteArray),(⟨#[97]⟩:ByteArray),(⟨#[98]⟩:ByteArray),0,0,0,false,false,true,0⟩:CU) [.string (⟨#[120,46,121]⟩:ByteArray), .string (⟨#[47]⟩:ByteArray), .string (⟨#[97]⟩:ByteArray), .string (⟨#[98]⟩:ByteArray), .int .i64 0, .int .i64 0, .int .i64 0, .bool false, .bool false, .bool true, .int .i64 0] from (Er _ _ _ (⟨(⟨#[120,46,121]⟩:ByteArray),(⟨#[47]⟩:ByteArray),(⟨#[97]⟩:ByteArray),(⟨#[98]⟩:ByteArray),0,0,0,false,false,true,0⟩:CU))) rfl (CG.none _ _) rfl));intro v225 w18 ho19 hb hg_ hnew_;clear hg_ hnew_;(first|rw [<-Ny224.out] at ho19|(simp only [Int.reduceToNat] at ho19;rw [<-Ny224.out] at ho19));obtain ⟨Ao_,co_,eo_⟩:=Kd.CE ho19;subst eo_;replace S:=St.below S hb;clear hb;have HL_:=AA.mk ho19;clear ho19)|(go_at_call 22;refine (Co.calls k _ _ y224 t227 t230 _ (Kd.BH HL_.out).2.2 (Kd.BH HL_.out).2.1 (St.laid S hG) A1.out).mono ?_;rintro e w21_ ⟨v_,rfl,ho0,hb⟩;have hz_:=S.out.b.size;replace S:=St.below S hb;replace HB:=AA.mk S.out.b;have HO229:=AA.mk (Kd.Cm ho0 hz_);clear hb ho0 HL_ S hz_)|((with_reducible refine F4 (N:=2) rfl ?_);(try (refine Hq (by rfl) ?_;dsimp only));refine Dk (N:=2) (cs:=#[.slice none 0 0]) (t:=29) (λgb231 hg w22 hbox hb=>?_);replace HO229:=AA.mk (Kd.BX (xR HO229) hb);have BK231:=AA.mk (hbox);have GW231:AA (w.heap.size<=gb231):=Dp hg xb;have GE231:AA (w.heap.size<=gb231):=Dp hg xb;replace HB:=AA.mk (AP xb hb);clear hb hbox hg;obtain ⟨Ao23,co23,eo23⟩:=Kd.CE HO229.out;subst eo23;have hcz25_0:w22.cell? ⟨gb231,0,none⟩=some (.slice none 0 0):=(AL BK231.out 0).trans rfl;have hfz25_0:=AX BK231.out 0)|((with_reducible refine AO (f:=11) rfl ?_);refine Ak (some 21) rfl rfl Tryz.func11 (by kernel_rfl) rfl #[.agg #[.slice Ao23 t227.length co23]] rfl xg ?_;(with_reducible refine (BQ.calls k _ _ t227 t232 _ ?side1 ?side2 xl A2.out).mono ?_);(case side1=>refine (Kd.BH (e:=98) (base:=w.heap.size) (ok:=λk_=>True) (n:=t227.length) (c:=co23) ?_).2.2;exact (by (with_reducible repeat (first|apply Kd.Bd|apply Kd.Be|apply Kd.Bl));exact (Kd.CQ (Kd.CY (p:=⟨gb231,0,none⟩) (Kd.CS HO229.out BK231.out (by decide)) (λ_ hk=>hk.2) (.slice Ao23 t227.length co23)) (λ_ h_=>h_.1))));(case side2=>exact (Kd.BH HO229.out).2.1);rintro e w26 ⟨rfl,hb⟩;refine ⟨_,rfl,?_⟩;replace HB:=AA.mk (AP xb hb);clear hb HO229 BK231)|((with_reducible refine AO (f:=13) rfl ?_);refine Ak (some 24) rfl rfl Tryz.func13 (by kernel_rfl) rfl #[.string t232, .int .i64 9] rfl xg ?_;(with_reducible refine (CV.calls k t232 9 t233 t234 _ xl A3.out).mono ?_);rintro e w27 ⟨v235,rfl,ho0,hb⟩;refine ⟨_,rfl,?_⟩;replace HB:=AA.mk (AP xb hb);obtain ⟨Ao31,co31,eo31⟩:=Kd.CE ho0;subst eo31;have q_:0<(t233.length:Int):=xa;obtain ⟨ad_,e_,x0_,x1_,x2_,x3_,hx4_,x5_,x6_,x7_,x8_,hx9_,x10_⟩:=Ce (Kd.BH ho0).2.2 0 (by omega) q_;rw [<-Nbq12.out] at hx9_;cases e_;rw [show ((0:Int)).toNat=0 from rfl,show 0*11=0 from rfl] at hx4_ hx9_;(try rw [Addr.add_zero'] at hx4_);(try rw [Addr.add_zero'] at hx9_);have X4_:=AA.mk hx4_;have X9_:=AA.mk hx9_;clear x0_ x1_ x2_ x3_ hx4_ x5_ x6_ x7_ x8_ hx9_ x10_ q_ hb ho0)|((with_reducible refine AO (f:=13) rfl ?_);refine Ak (some 28) rfl rfl Tryz.func13 (by kernel_rfl) rfl #[.string (⟨#[120]⟩:ByteArray), .int .i64 9] rfl xg ?_;(with_reducible refine (CV.calls k (⟨#[120]⟩:ByteArray) 9 t237 t238 _ xl A4.out).mono ?_);rintro e w28 ⟨v239,rfl,ho0,hb⟩;refine ⟨_,rfl,?_⟩;replace HB:=AA.mk (AP xb hb);replace X4_:=AA.mk (cell_below X4_.out hb);replace X9_:=AA.mk (cell_below X9_.out hb);clear hb ho0)|((with_reducible refine AO (f:=13) rfl ?_);refine Ak (some 32) rfl rfl Tryz.func13 (by kernel_rfl) rfl #[.string (⟨#[35,32,78,101,116,115,99,97,112,101,32,72,84,84,80,32,67,111,111,107,105,101,32,70,105,108,101,10,97]⟩:ByteArray), .int .i64 9] rfl xg ?_;(with_reducible refine (CV.calls k (⟨#[35,32,78,101,116,115,99,97,112,101,32,72,84,84,80,32,67,111,111,107,105,101,32,70,105,108,101,10,97]⟩:ByteArray) 9 t241 t242 _ xl A5.out).mono ?_);rintro e w29 ⟨v243,rfl,ho0,hb⟩;refine ⟨_,rfl,?_⟩;replace HB:=AA.mk (AP xb hb);replace X4_:=AA.mk (cell_below X4_.out hb);replace X9_:=AA.mk (cell_below X9_.out hb);clear hb ho0)|((with_reducible refine AO (f:=13) rfl ?_);refine Ak (some 36) rfl rfl Tryz.func13 (by kernel_rfl) rfl #[.string (⟨#[35,32,78,101,116,115,99,97,112,101,32,72,84,84,80,32,67,111,111,107,105,101,32,70,105,108,101,10,120,9,84,82,85,69,9,47,9,84,82,85,69,9,48,9,97,9,98]⟩:ByteArray), .int .i64 9] rfl xg ?_;(with_reducible refine (CV.calls k (⟨#[35,32,78,101,116,115,99,97,112,101,32,72,84,84,80,32,67,111,111,107,105,101,32,70,105,108,101,10,120,9,84,82,85,69,9,47,9,84,82,85,69,9,48,9,97,9,98]⟩:ByteArray) 9 t245 t246 _ xl A6.out).mono ?_);rintro e w30 ⟨v247,rfl,ho0,hb⟩;refine ⟨_,rfl,?_⟩;replace HB:=AA.mk (AP xb hb);replace X4_:=AA.mk (cell_below X4_.out hb);replace X9_:=AA.mk (cell_below X9_.out hb);clear hb ho0;have hx4_:=X4_.out;have hx9_:=X9_.out;have p_:(0:Int)<=0:=(by omega);have q_:0<(t233.length:Int):=xa;have qi_:(0<t233.length)=True:=eq_true (by omega);replace p_:=eq_true p_;replace q_:=eq_true q_));go_ret;exact ⟨xe,xb⟩
        ·rw [if_neg c15] at H;have c15b0:(t242==191)=false:=beq_eq_false_iff_ne.mpr c15;have c15b1:(t242 != 191)=true:=bne_iff_ne.mpr c15;obtain rfl:=Option.some.inj H;exact absurd hT_.out (by decide)
       ·rw [if_neg c14] at H;have c14b0:(t238==190)=false:=beq_eq_false_iff_ne.mpr c14;have c14b1:(t238 != 190)=true:=bne_iff_ne.mpr c14;obtain rfl:=Option.some.inj H;exact absurd hT_.out (by decide)
      ·replace c13:=Bool.eq_false_iff.mpr c13;subst c13;have H1:(some false)=some r:=by rw [if_neg (show ¬(false=true) by decide)] at H;exact H
       clear H;have H:=H1;clear H1;obtain rfl:=Option.some.inj H;exact absurd hT_.out (by decide)
     ·rw [if_neg c11] at H;have c11b0:(((AB t233 0).f4)==9)=false:=beq_eq_false_iff_ne.mpr c11;have c11b1:(((AB t233 0).f4) != 9)=true:=bne_iff_ne.mpr c11;obtain rfl:=Option.some.inj H;exact absurd hT_.out (by decide)
    ·rw [if_neg c10] at H;exact absurd H (by simp)
   ·rw [if_neg c9] at H;have c9b0:((t233.length:Int)==1)=false:=beq_eq_false_iff_ne.mpr c9;have c9b1:((t233.length:Int) != 1)=true:=bne_iff_ne.mpr c9;obtain rfl:=Option.some.inj H;exact absurd hT_.out (by decide)
  ·rw [if_neg c8] at H;have c8b0:(t234==0)=false:=beq_eq_false_iff_ne.mpr c8;have c8b1:(t234 != 0)=true:=bne_iff_ne.mpr c8;obtain rfl:=Option.some.inj H;exact absurd hT_.out (by decide)
 ·rw [if_neg c7] at H;have c7b0:(t232.toList==([35,32,78,101,116,115,99,97,112,101,32,72,84,84,80,32,67,111,111,107,105,101,32,70,105,108,101,10,35,72,116,116,112,79,110,108,121,95,46,120,46,121,9,84,82,85,69,9,47,9,70,65,76,83,69,9,48,9,97,9,98,10]:List UInt8))=false:=beq_eq_false_iff_ne.mpr c7;have c7b1:(t232.toList != ([35,32,78,101,116,115,99,97,112,101,32,72,84,84,80,32,67,111,111,107,105,101,32,70,105,108,101,10,35,72,116,116,112,79,110,108,121,95,46,120,46,121,9,84,82,85,69,9,47,9,70,65,76,83,69,9,48,9,97,9,98,10]:List UInt8))=true:=bne_iff_ne.mpr c7;obtain rfl:=Option.some.inj H;exact absurd hT_.out (by decide)
end Go.Proofs.YtikggnalmidlhaaGreatDoor.Print
end
