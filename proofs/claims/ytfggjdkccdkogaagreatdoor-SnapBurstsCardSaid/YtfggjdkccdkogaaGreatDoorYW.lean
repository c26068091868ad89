/- SnapBursts on the plain side: what was written is read, and what was written with bits turned is not. No condition. -/
import Derived.Test.YtfggjdkccdkogaaGreatDoorGburst
import Derived.Test.YtfggjdkccdkogaaGreatDoorYV
section
namespace Go.Proofs.YtfggjdkccdkogaaGreatDoor.Ns
set_option linter.unusedVariables false
set_option linter.unusedSimpArgs false
theorem aj : ∀ (a b : List Nat) (s t : Nat), a.length = b.length → (List.zipWith (· ^^^ ·) a b).foldl bQ (s ^^^ t) = a.foldl bQ s ^^^ b.foldl bQ t := by
  intro a
  induction a with
  | nil => intro b s t h; obtain rfl : b = [] := List.eq_nil_of_length_eq_zero h.symm
           rfl
  | cons x a ih =>
    intro b s t h
    match b, h with
    | y :: b, h =>
      simp only [List.zipWith_cons_cons, List.foldl_cons]
      rw [← ih b _ _ (by simpa using h)]
      congr 1
      unfold bQ
      rw [← TE, TD]
theorem fold_zero:∀ (a:List Nat),(∀ x∈a,x=0)->a.foldl bQ 0=0:=by
 intro a;induction a with
 |nil=>exact λ_=>rfl
 |cons x a ih=>
  intro h;rw [List.foldl_cons,h x (.head _)];exact ih λy hy=>h y (.tail _ hy)
theorem aM:∀ (a:List Nat) (s:Nat),(∀ x∈a,x=0)->s<2^32->s≠0->a.foldl bQ s≠0:=by
 intro a;induction a with
 |nil=>exact λ_ _ _ h=>h
 |cons x a ih=>
  intro s h hs h0;rw [List.foldl_cons,h x (.head _)];have e:bQ s 0=step1 s:=by unfold bQ;rw [Nat.xor_zero]
  rw [e];exact ih _ (λy hy=>h y (.tail _ hy)) (Pq hs) (aN hs h0)
def numOf:List Nat->Nat
 |[]=>0
 |b::l=>b+2*numOf l
theorem bE:∀ l:List Nat,(∀ x∈l,x<=1)->numOf l<2^l.length:=by
 intro l;induction l with
 |nil=>exact λ_=>by decide
 |cons b l ih=>
  intro h;have:=ih λy hy=>h y (.tail _ hy)
  have:=h b (.head _);simp only [numOf,List.length_cons,Nat.pow_succ];omega
theorem ak:∀ l:List Nat,(∀ x∈l,x<=1)->bitsOf l.length (numOf l)=l:=by
 intro l;induction l with
 |nil=>exact λ_=>rfl
 |cons b l ih=>
  intro h;have h1:=h b (.head _);simp only [List.length_cons,bitsOf,numOf];rw [show (b+2*numOf l)%2=b by omega,show (b+2*numOf l)/2=numOf l by omega,ih λy hy=>h y (.tail _ hy)]
theorem au:∀ l:List Nat,numOf l=0->∀ x∈l,x=0:=by
 intro l;induction l with
 |nil=>intro _ x hx;cases hx
 |cons b l ih=>
  intro h x hx;simp only [numOf] at h;rcases List.mem_cons.1 hx with rfl|hx
  ·omega
  ·exact ih (by omega) x hx
theorem bJ (p m q:List Nat) (hp:∀ x∈p,x=0) (hq:∀ x∈q,x=0) (hm:∀ x∈m,x<=1) (hl:m.length<=32) (h1:∃ x∈m,x≠0):(p++m++q).foldl bQ 0≠0:=by
 rw [List.foldl_append,List.foldl_append,fold_zero p hp];have hn:numOf m≠0:=λe=>by obtain ⟨x,hx,h0⟩:=h1;exact h0 (au m e x hx)
 have hlt:=bE m hm;have hs:m.foldl bQ 0=steps m.length (numOf m):=by
  have:=Z9 m.length 0 (numOf m) hlt;rw [Nat.zero_xor,ak m hm] at this;exact this.symm
 have hlt2:numOf m<2^32:=Nat.lt_of_lt_of_le hlt (Nat.pow_le_pow_right (by decide) hl);rw [hs];exact aM q _ hq (Ps _ hlt2) (ai _ hlt2 hn)
theorem aX (k:Nat):∀ m,bitsOf k m=(List.range k).map λj=>(m.testBit j).toNat:=by
 induction k with
 |zero=>intro m;rfl
 |succ k ih=>
  intro m;rw [bitsOf,ih,List.range_succ_eq_map,List.map_cons,List.map_map];congr 1
  ·rw [Nat.testBit_zero];rcases Nat.mod_two_eq_zero_or_one m with h|h<;>rw [h]<;>rfl
  ·apply List.map_congr_left;intro j _;show ((m/2).testBit j).toNat=(m.testBit (j+1)).toNat;rw [Nat.testBit_succ]
def aA:List Nat->List Nat
 |[]=>[]
 |b::l=>bitsOf 8 b++aA l
def bP (l:List Nat) (i:Nat):Bool:=(l.getD (i/8) 0).testBit (i%8)
theorem Z8:∀ l:List Nat,aA l=(List.range (8*l.length)).map λi=>(bP l i).toNat:=by
 intro l;induction l with
 |nil=>rfl
 |cons b l ih=>
  rw [aA,ih,aX,List.length_cons,show 8*(l.length+1)=8+8*l.length by omega,List.range_add,List.map_append,List.map_map];refine congr (congrArg HAppend.hAppend ?_) ?_
  ·apply List.map_congr_left;intro j hj;have:=List.mem_range.1 hj;unfold bP;rw [show j/8=0 by omega,show j%8=j by omega];rfl
  ·apply List.map_congr_left;intro j _;show (bP l j).toNat=(bP (b::l) (8+j)).toNat;unfold bP;rw [show (8+j)/8=j/8+1 by omega,show (8+j)%8=j%8 by omega];rfl
theorem aI:∀ (l:List Nat) (s:Nat),(∀ x∈l,x<256)->l.foldl upd s=(aA l).foldl bQ s:=by
 intro l;induction l with
 |nil=>exact λ_ _=>rfl
 |cons b l ih=>
  intro s h;rw [List.foldl_cons,aA,List.foldl_append,ih _ (λy hy=>h y (.tail _ hy)),TG,Z9 8 s b (h b (.head _))]
def aK (v:Nat):List Nat:=[v%256,v/256%256,v/65536%256,v/16777216]
theorem ae (v:Nat) (h:v<4294967296):aA (aK v)=bitsOf 32 v:=by
 simp only [aK,aA,bitsOf,List.cons_append,List.nil_append];repeat (first|rfl|(congr 1;omega)|(refine congr (congrArg List.cons ?_) ?_;omega))
theorem av {c:Nat} (h:c<4294967296):c ^^^ (4294967295 - c)=4294967295:=by
 apply Nat.eq_of_testBit_eq;intro i;have e:4294967295 - c=2^32 - (c+1):=by omega
 rw [Nat.testBit_xor,e,Nat.testBit_two_pow_sub_succ (by omega),show (4294967295:Nat)=2^32 - (0+1) by decide,Nat.testBit_two_pow_sub_succ (by decide)];by_cases hi:i<32
 ·simp [hi]
 ·have:c.testBit i=false:=Nat.testBit_lt_two_pow (Nat.lt_of_lt_of_le h (Nat.pow_le_pow_right (n:=2) (i:=32) (by decide) (by omega)));simp [hi,this]
def aD (l:List Nat):Nat:=l.foldl upd 4294967295
theorem RQ:∀ (l:List Nat) (s:Nat),s<4294967296->(∀ x∈l,x<256)->l.foldl upd s<4294967296:=by
 intro l;induction l with
 |nil=>exact λ_ h _=>h
 |cons b l ih=>
  intro s hs h;rw [List.foldl_cons];refine ih _ ?_ (λy hy=>h y (.tail _ hy));rw [TG];exact Ps 8 (Nat.xor_lt_two_pow (show s<2^32 from hs) (Nat.lt_of_lt_of_le (h b (.head _)) (by decide)))
theorem aQ (l:List Nat) (h:∀ x∈l,x<256):aD (l++aK (4294967295 - aD l))=steps 32 4294967295:=by
 have hl:aD l<4294967296:=RQ l _ (by decide) h;unfold aD at hl⊢
 rw [List.foldl_append];generalize l.foldl upd 4294967295=c at hl⊢
 have ht:∀ x∈aK (4294967295 - c),x<256:=by
  intro x hx;simp only [aK,List.mem_cons,List.not_mem_nil,or_false] at hx;omega
 rw [aI _ _ ht,ae _ (by omega), <-Z9 32 c (4294967295 - c) (by omega),av hl]
theorem ax (b:Bool):b.toNat<=1:=by cases b<;>decide
theorem toNat_xor (a b:Bool):a.toNat ^^^ b.toNat=(a^^b).toNat:=by cases a<;>cases b<;>rfl
theorem aT (l m:List Nat) (hl:∀ x∈l,x<256) (hm:∀ x∈m,x<256) (hn:l.length=m.length) (at_:Nat) (d:Nat->Bool) (hd:∀ i,i<8*l.length->(bP l i^^bP m i)=d i) (ho:∀ i,d i=true->at_<=i/\i<at_+32)
 (h1:∃ i,i<8*l.length/\d i=true):aD l≠aD m:=by
 intro e;unfold aD at e;rw [aI l _ hl,aI m _ hm] at e;have hx:=aj (aA l) (aA m) 4294967295 4294967295 (by rw [Z8,Z8,List.length_map,List.length_map,hn]);rw [e,Nat.xor_self,Nat.xor_self,Z8 l,Z8 m,hn,List.zipWith_map, <-hn] at hx;have hz:List.zipWith (λi j=>(bP l i).toNat ^^^ (bP m j).toNat) (List.range (8*l.length)) (List.range (8*l.length))=(List.range (8*l.length)).map λi=>(d i).toNat:=by
  rw [List.zipWith_self];apply List.map_congr_left;intro i hi;show (bP l i).toNat ^^^ (bP m i).toNat=(d i).toNat;rw [toNat_xor,hd i (List.mem_range.1 hi)]
 rw [hz] at hx;obtain ⟨i,hi,hdi⟩:=h1;have hai:=ho i hdi;obtain ⟨b,hb⟩:∃ b,8*l.length=at_+(min 32 (8*l.length - at_)+b):=⟨8*l.length - at_ - min 32 (8*l.length - at_),by omega⟩;rw [hb,List.range_add,List.map_append,List.map_map,List.range_add,List.map_append,List.map_map, <-List.append_assoc] at hx;refine bJ _ _ _ ?_ ?_ ?_ ?_ ?_ hx
 ·intro x hx;obtain ⟨j,hj,rfl⟩:=List.mem_map.1 hx;have:=List.mem_range.1 hj;cases hdj:d j
  ·rfl
  ·have:=ho j hdj;omega
 ·intro x hx;obtain ⟨j,hj,rfl⟩:=List.mem_map.1 hx;have hj:=List.mem_range.1 hj;simp only [Function.comp];cases hdj:d (at_+(min 32 (8*l.length - at_)+j))
  ·rfl
  ·have:=ho _ hdj;omega
 ·intro x hx;obtain ⟨j,hj,rfl⟩:=List.mem_map.1 hx;exact ax _
 ·rw [List.length_map,List.length_range];omega
 ·refine ⟨1,List.mem_map.2 ⟨i - at_,List.mem_range.2 (by omega),?_⟩,by decide⟩;simp only [Function.comp];rw [show at_+(i - at_)=i by omega,hdi];rfl
theorem ay (l:List Nat) (j i:Nat) (hj:j<8*l.length):bP (l.set (j/8) (l.getD (j/8) 0 ^^^ 2^(j%8))) i=(bP l i^^decide (i=j)):=by
 unfold bP;by_cases hb:j/8=i/8
 ·rw [<-hb,List.getD_eq_getElem?_getD,List.getElem?_set_self (by omega),Option.getD_some,Nat.testBit_xor,Nat.testBit_two_pow];congr 1;rw [Bool.eq_iff_iff,decide_eq_true_iff,decide_eq_true_iff];omega
 ·rw [List.getD_eq_getElem?_getD,List.getElem?_set_ne hb, <-List.getD_eq_getElem?_getD,decide_eq_false (by omega:¬i=j),Bool.xor_false]
end Go.Proofs.YtfggjdkccdkogaaGreatDoor.Ns
end
section
namespace Go.Proofs.YtfggjdkccdkogaaGreatDoor.Y
set_option linter.unusedVariables false
set_option linter.unusedSimpArgs false
open RowKit Print Ac Aq Aw
def bR (l:List UInt8):List Nat:=l.map (·.toNat)
theorem af (z m:Nat) (l:List UInt8):∀ k i,Ns.bP (bR (bM z m l k).1) i=(Ns.bP (bR l) i^^decide (z<=i/\i<z+k/\m/2^(i - z)%2=1/\i<8*l.length)):=by
 intro k;induction k with
 |zero=>
  intro i;rw [decide_eq_false (by omega),Bool.xor_false];rfl
 |succ k ih=>
  intro i;have hlen:=bT z m l k;unfold bM;by_cases h:m/2^k%2=1/\z+k<8*l.length
  ·rw [if_pos h];have e:bR (bS z k (bM z m l k).1)=(bR (bM z m l k).1).set ((z+k)/8) ((bR (bM z m l k).1).getD ((z+k)/8) 0 ^^^ 2^((z+k)%8)):=by
    unfold bR bS;rw [List.map_set];congr 1;have hg:(List.map (λx:UInt8=>x.toNat) (bM z m l k).1).getD ((z+k)/8) 0=((bM z m l k).1.getD ((z+k)/8) 0).toNat:=by
     rw [List.getD_eq_getElem?_getD,List.getD_eq_getElem?_getD,List.getElem?_map];cases (bM z m l k).1[(z+k)/8]? <;>rfl
    rw [hg];have h1:((bM z m l k).1.getD ((z+k)/8) 0).toNat<2^8:=UInt8.toNat_lt _;have h2:2^((z+k)%8)<2^8:=Nat.pow_lt_pow_right (by decide) (Nat.mod_lt _ (by decide));rw [UInt8.toNat_ofNat'];exact Nat.mod_eq_of_lt (Nat.xor_lt_two_pow h1 h2)
   show Ns.bP (bR (bS z k (bM z m l k).1)) i=_;rw [e,Ns.ay _ _ _ (by unfold bR;rw [List.length_map,hlen];exact h.2),ih];by_cases hi:i=z+k
   ·subst hi;rw [decide_eq_false (by omega),decide_eq_true (show z+k=z+k from rfl),decide_eq_true ⟨by omega,by omega,by rw [Nat.add_sub_cancel_left];exact h.1,h.2⟩,Bool.xor_false]
   ·rw [decide_eq_false hi,Bool.xor_false];congr 1;rw [Bool.eq_iff_iff,decide_eq_true_iff,decide_eq_true_iff];constructor
    ·rintro ⟨a,b,c,d⟩;exact ⟨a,by omega,c,d⟩
    ·rintro ⟨a,b,c,d⟩;exact ⟨a,by omega,c,d⟩
  ·rw [if_neg h,ih];congr 1;rw [Bool.eq_iff_iff,decide_eq_true_iff,decide_eq_true_iff];constructor
   ·rintro ⟨a,b,c,d⟩;exact ⟨a,by omega,c,d⟩
   ·rintro ⟨a,b,c,d⟩;refine ⟨a,?_,c,d⟩;rcases Nat.lt_or_ge i (z+k) with h2|h2
    ·exact h2
    ·obtain rfl:i=z+k:=by omega
     rw [Nat.add_sub_cancel_left] at c;exact absurd ⟨c,d⟩ h
theorem bA (z m:Nat) (l:List UInt8):∀ k,(bM z m l k).2=false->(bM z m l k).1=l:=by
 intro k;induction k with
 |zero=>exact λ_=>rfl
 |succ k ih=>
  unfold bM;split
  ·intro h;cases h
  ·exact ih
theorem bC (z m:Nat) (l:List UInt8):∀ k,(bM z m l k).2=true->∃ j,j<k/\m/2^j%2=1/\z+j<8*l.length:=by
 intro k;induction k with
 |zero=>intro h;cases h
 |succ k ih=>
  unfold bM;split
  ·rename_i h;exact λ_=>⟨k,by omega,h.1,h.2⟩
  ·intro h;obtain ⟨j,a,b,c⟩:=ih h;exact ⟨j,by omega,b,c⟩
theorem bB {a b:List Nat} (h:(a.map λ(n:Nat)=>(n:Int))=b.map λ(n:Nat)=>(n:Int)):a=b:=by
 refine (List.map_inj_right λx y e=>?_).1 h;exact Int.ofNat.inj e
theorem aH {s:ByteArray} (h:IY s=true):Ns.aD (IW s)=Ns.steps 32 4294967295:=by
 unfold IY at h;rw [Bool.and_eq_true,decide_eq_true_iff,decide_eq_true_iff] at h;obtain ⟨h4,h⟩:=h;have e1:IW s=IW (s.extract 0 (s.size - 4))++IW (s.extract (s.size - 4) s.size):=by
  unfold IW;rw [<-List.map_append];congr 1;have:s.data=(s.extract 0 (s.size - 4)).data++(s.extract (s.size - 4) s.size).data:=by
   rw [ByteArray.data_extract,ByteArray.data_extract,Array.extract_append_extract];have e:s.size=s.data.size:=rfl;rw [show min 0 (s.size - 4)=0 by omega,show max (s.size - 4) s.size=s.data.size by omega,Array.extract_size]
  rw [<-Array.toList_append, <-this]
 have e2:IW (s.extract (s.size - 4) s.size)=Ns.aK (4294967295 - PI (s.extract 0 (s.size - 4))):=by
  refine bB ?_;rw [<-Kn,h,aJ];rfl
 rw [e1,e2];exact Ns.aQ _ λx hx=>KQ hx
theorem aU {s:ByteArray} {z m:Nat} (hr:IY s=true) (ht:(bM z m s.data.toList 32).2=true):IY ⟨(bM z m s.data.toList 32).1.toArray⟩=false:=by
 rw [Bool.eq_false_iff];intro hx;have a:=aH hr;have b:=aH hx;have e:IW ⟨(bM z m s.data.toList 32).1.toArray⟩=bR (bM z m s.data.toList 32).1:=rfl;have e0:IW s=bR s.data.toList:=rfl;have hlen:=bT z m s.data.toList 32;obtain ⟨j,hj,hm,hz⟩:=bC z m _ _ ht;have hn:(bR s.data.toList).length=s.data.toList.length:=by unfold bR;rw [List.length_map]
 refine Ns.aT (IW s) (bR (bM z m s.data.toList 32).1) (λx hx=>KQ hx) (λx hx=>by rw [<-e] at hx;exact KQ hx) ?_ z (λi=>decide (z<=i/\i<z+32/\m/2^(i - z)%2=1/\i<8*s.data.toList.length)) ?_ ?_ ?_ (by rw [<-e,a,b])
 ·rw [e0];unfold bR;rw [List.length_map,List.length_map,hlen]
 ·intro i hi;rw [af,e0];cases Ns.bP (bR s.data.toList) i<;>simp
 ·intro i hi;have:=of_decide_eq_true hi;exact ⟨this.1,this.2.1⟩
 ·refine ⟨z+j,?_,decide_eq_true ⟨by omega,by omega,by rw [Nat.add_sub_cancel_left];exact hm,hz⟩⟩;rw [e0,hn];exact hz
theorem aZ {s:ByteArray} (hs:s.size<=1000000000) (hr:IY s=false):∃ r,Ev (λk=>Ck.f k s) r/\r.2.1=[]/\r.2.2≠0:=by
 unfold Ck.f;by_cases h8:s.size<8
 ·exact ⟨_,Ab (by omega) (AU h8 (Ad _)),rfl,by decide⟩
 by_cases hc:(s.extract 0 2).toList=([67,74]:List UInt8)
 ·by_cases hv:bt s 2<1\/3<bt s 2
  ·exact ⟨_,Ab (by omega) (Ab h8 (AU hc (AU hv (Ad _)))),rfl,by decide⟩
  ·refine ⟨(0,[],223),Ab (by omega) (Ab h8 (AU hc (Ab hv ?_))),rfl,by decide⟩;rw [MR hs,hr];exact BJ (Ad _) rfl
 ·exact ⟨_,Ab (by omega) (Ab h8 (Ab hc (Ad _))),rfl,by decide⟩
end Go.Proofs.YtfggjdkccdkogaaGreatDoor.Y
end
section
namespace Go.Proofs.YtfggjdkccdkogaaGreatDoor.Y
set_option linter.unusedVariables false
set_option linter.unusedSimpArgs false
open RowKit Print Ac Aq Aw
theorem aY (B:ByteArray):IY (B++F5 B)=true:=by
 have hsz:(B++F5 B).size=B.size+4:=by rw [ByteArray.size_append,IX]
 have hBl:=bytesOf_length B;have hfront:(B++F5 B).extract 0 ((B++F5 B).size - 4)=B:=by
  apply EP;rw [Dj,Dm,hsz,List.drop_zero,Nat.sub_zero,Nat.add_sub_cancel];exact List.take_left' hBl
 unfold IY;rw [hfront,decide_eq_true (by omega),Bool.true_and];refine decide_eq_true ?_;rw [JD,Dm,hsz,Nat.add_sub_cancel];exact List.drop_left' hBl
theorem aG {v:Int} {l:List SC} (hv:1<=v/\v<=3) (hs:∀ c∈l,Fb c) (hj:PU l):(Lm v l).size<=1000000000:=by
 obtain ⟨k,h⟩:=Rn hv hs hj;have h2:Ck.f k (Lm v l)=some _:=h k (Nat.le_refl _);unfold Ck.f at h2;by_cases hb:1000000000<(Lm v l).size
 ·rw [if_pos hb] at h2;cases h2
 ·omega
theorem az (s:ByteArray):(⟨s.data.toList.toArray⟩:ByteArray)=s:=by
 apply ByteArray.ext;simp
theorem bF (z0 z1:Int) (l:List SC) (m:Int):∃ k,ah k z0 z1 m l:=by
 obtain ⟨ka,ha⟩:=Ez;by_cases hb:(Hf l).2=true
 ·obtain ⟨e1,hl,hj,hs⟩:=OY hb;obtain ⟨kj,hJ⟩:=Qq l;rw [e1,hb] at hJ;obtain ⟨kw,hW⟩:=K8 (v:=z0) hl hs;unfold Lp at hW;by_cases hv:1<=z0/\z0<=3
  ·rw [if_pos hv] at hW;have hsm:=aG hv hs hj;by_cases hst:z1<0\/8*((Lm z0 l).size:Int)<=z1
   ·refine ⟨ka+kj+kw,_,true,true,Lm z0 l,hJ _ (by omega),hW _ (by omega),ha _ (by omega),hsm, .inl ?_⟩;rcases Int.lt_or_le z1 0 with h|h
    ·exact .inr (.inr (.inl ⟨rfl,rfl,h⟩))
    ·exact .inr (.inr (.inr ⟨rfl,rfl,h,by omega⟩))
   ·have hrd:∃ r:Int×List SC×Int,Ev (λk=>Ck.f k ⟨(bM z1.toNat m.toNat (Lm z0 l).data.toList 32).1.toArray⟩) r/\(r.2.2==0)= !(bM z1.toNat m.toNat (Lm z0 l).data.toList 32).2/\((bM z1.toNat m.toNat (Lm z0 l).data.toList 32).2=true->r.2.1=[]):=by
     cases ht:(bM z1.toNat m.toNat (Lm z0 l).data.toList 32).2
     ·rw [bA _ _ _ _ ht,az];exact ⟨_,Rn hv hs hj,rfl,λh=>by cases h⟩
     ·have hw:=aU (aY (Ic z0 l (headW z0 l.length))) ht;obtain ⟨r,h1,h2,h3⟩:=aZ (s:=⟨(bM z1.toNat m.toNat (Lm z0 l).data.toList 32).1.toArray⟩) (by
       show (bM z1.toNat m.toNat (Lm z0 l).data.toList 32).1.toArray.size<=_
       rw [List.size_toArray,bT,Array.length_toList]
       exact hsm) hw
      exact ⟨r,h1,by rw [beq_eq_false_iff_ne.2 h3];rfl,λ_=>h2⟩
    obtain ⟨⟨v,ms,e⟩,⟨kr,hR⟩,hE,hM⟩:=hrd;exact ⟨ka+kj+kw+kr,_,true,true,Lm z0 l,hJ _ (by omega),hW _ (by omega),ha _ (by omega),hsm, .inr ⟨rfl,rfl,by omega,by omega,v,ms,e,hR _ (by omega),hE,hM⟩⟩
  ·rw [if_neg hv] at hW;exact ⟨ka+kj+kw,_,true,false,⟨#[]⟩,hJ _ (by omega),hW _ (by omega),ha _ (by omega),by decide, .inl (.inr (.inl ⟨rfl,rfl⟩))⟩
 ·have hbf:(Hf l).2=false:=by simpa using hb
  have h0:(Hf l).1=[]:=by
   unfold Hf at hb⊢
   split at hb
   ·exact absurd rfl hb
   ·rename_i hh;rw [if_neg hh]
  obtain ⟨kj,hJ⟩:=Qq l;rw [hbf,h0] at hJ;obtain ⟨kw,hW⟩:=K8 (v:=z0) (l:=[]) (Nat.zero_le _) (λc hc=>by cases hc);refine ⟨ka+kj+kw,_,false,(Lp z0 []).2,(Lp z0 []).1,hJ _ (by omega),hW _ (by omega),ha _ (by omega),?_, .inl (.inl rfl)⟩;unfold Lp;split
  ·rename_i hv;exact aG hv (λc hc=>by cases hc) ⟨by first|exact List.Pairwise.nil|(unfold Eh;simp),λc hc=>(by cases hc),by first|rfl|decide|(unfold IZ;simp)⟩
  ·exact Nat.zero_le _
end Go.Proofs.YtfggjdkccdkogaaGreatDoor.Y
end
