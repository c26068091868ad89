/- What a format keeps of a jar, by the document; the laws' jar. -/
import Derived.Test.YtikggnalmidlhaaGreatDoorM27
import Derived.Test.YtikggnalmidlhaaGreatDoorM32
import Derived.Test.YtikggnalmidlhaaGreatDoorM40
import Derived.Test.YtikggnalmidlhaaGreatDoorM41
section
namespace Go.Proofs.YtikggnalmidlhaaGreatDoor.Y
open RowKit Print AR Aa Ad
set_option linter.unusedVariables false
set_option linter.unusedSimpArgs false
abbrev GN (c:SC):Bool:=Ir c.f0 c.f1 c.f2 c.f3 c.f4 c.f5 c.f6 c.f7 c.f10
abbrev EO (c:SC):Prop:=c.f0.size<=300/\c.f1.size<=300/\c.f2.size<=300/\c.f3.size<=300
theorem EO.sm {c:SC} (h:EO c):TN c:=⟨by have:=h.1;omega,by have:=h.2.1;omega,by have:=h.2.2.1;omega,by have:=h.2.2.2;omega⟩
def PY (l:List SC):Bool:=decide (l.length<=100)&&l.all λc=>decide (EO c)
theorem Oo {l:List SC}:PY l=true↔l.length<=100/\∀ c∈l,EO c:=by simp [PY]
theorem Uw (l:List SC) (hl:l.length<=100):∀ n j,l.length - j=n->j<=l.length->Ev (λk=>Ba.l0 k l (j:Int)) ((l.drop j).all λc=>decide (EO c)):=by
 intro n;induction n with
 |zero=>
  intro j hn hj;obtain rfl:j=l.length:=by omega
  rw [List.drop_length];refine BB ?_;simp only [Ba.l0];exact Ah (by omega) (Am _)
 |succ n ih=>
  intro j hn hj;have hlt:j<l.length:=by omega
  rw [List.drop_eq_getElem_cons hlt,List.all_cons];refine BB ?_;simp only [Ba.l0];rw [Pq hlt,GY (by omega)];refine AU (by omega) (AU (by omega) ?_);by_cases h0:l[j].f0.size<=300
  ·refine Ah (by omega) ?_;by_cases h1:l[j].f1.size<=300
   ·refine Ah (by omega) ?_;by_cases h2:l[j].f2.size<=300
    ·refine Ah (by omega) ?_;by_cases h3:l[j].f3.size<=300
     ·refine Ah (by omega) (BG (ih (j+1) (by omega) (by omega)) ?_);rw [decide_eq_true (show EO l[j] from ⟨h0,h1,h2,h3⟩),Bool.true_and]
     ·exact AU (by omega) (BG (Am _) (by rw [decide_eq_false (show ¬EO l[j] from λh=>h3 h.2.2.2)];rfl))
    ·exact AU (by omega) (BG (Am _) (by rw [decide_eq_false (show ¬EO l[j] from λh=>h2 h.2.2.1)];rfl))
   ·exact AU (by omega) (BG (Am _) (by rw [decide_eq_false (show ¬EO l[j] from λh=>h1 h.2.1)];rfl))
  ·exact AU (by omega) (BG (Am _) (by rw [decide_eq_false (show ¬EO l[j] from λh=>h0 h.1)];rfl))
theorem UI (l:List SC):Ev (λk=>Ba.f k l) (PY l):=by
 unfold Ba.f PY;by_cases h:l.length<=100
 ·exact Ah (by omega) (BG (Uw l h _ 0 rfl (Nat.zero_le _)) (by rw [decide_eq_true h,Bool.true_and,List.drop_zero]))
 ·exact AU (by omega) (BG (Am _) (by rw [decide_eq_false h,Bool.false_and]))
noncomputable def Hl (l m:List SC):Bool:= @decide (l=m) (Classical.propDecidable _)
theorem same_iff {l m:List SC}:Hl l m=true↔l=m:=by unfold Hl;exact @decide_eq_true_iff _ (Classical.propDecidable _)
theorem Kw (l:List SC):Hl l l=true:=same_iff.2 rfl
theorem VN (x y:SC):(x.f0.toList==y.f0.toList&&(x.f1.toList==y.f1.toList&&(x.f2.toList==y.f2.toList&&(x.f3.toList==y.f3.toList&&(x.f4==y.f4&&(x.f5==y.f5&&(x.f6==y.f6&&(x.f7==y.f7&&(x.f8==y.f8&&(x.f9==y.f9&&(x.f10==y.f10)))))))))))=true↔x=y:=by
 obtain ⟨a0,a1,a2,a3,a4,a5,a6,a7,a8,a9,a10⟩:=x;obtain ⟨b0,b1,b2,b3,b4,b5,b6,b7,b8,b9,b10⟩:=y;simp only [Bool.and_eq_true,beq_iff_eq,toList_inj,CU.mk.injEq]
theorem Ux (x y:SC):(!(x.f0.toList==y.f0.toList)||(!(x.f1.toList==y.f1.toList)||(!(x.f2.toList==y.f2.toList)||(!(x.f3.toList==y.f3.toList)||(!(x.f4==y.f4)||(!(x.f5==y.f5)||(!(x.f6==y.f6)||(!(x.f7==y.f7)||(!(x.f8==y.f8)||(!(x.f9==y.f9)||(!(x.f10==y.f10))))))))))))=true↔x≠y:=by
 refine Iff.trans ?_ (not_congr (VN x y));simp only [<-Bool.not_and,Bool.not_eq_true',Bool.not_eq_true]
theorem PZ {x y:SC} {l m:List SC} (h:x=y):Hl (x::l) (y::m)=Hl l m:=by
 rw [Bool.eq_iff_iff,same_iff,same_iff,h];simp
theorem SH {x y:SC} {l m:List SC} (h:x≠y):Hl (x::l) (y::m)=false:=by
 rw [Bool.eq_false_iff];intro h2;exact h (List.cons.inj (same_iff.1 h2)).1
theorem SI (l m:List SC) (e:l.length=m.length) (hl:l.length<=10000):∀ n j,l.length - j=n->j<=l.length->Ev (λk=>Bf.l0 k l m (j:Int)) (Hl (l.drop j) (m.drop j)):=by
 intro n;induction n with
 |zero=>
  intro j hn hj;obtain rfl:j=l.length:=by omega
  rw [List.drop_length,e,List.drop_length];refine BB ?_;simp only [Bf.l0];exact Ah (by omega) (BG (Am _) (Kw _).symm)
 |succ n ih=>
  intro j hn hj;have hlt:j<l.length:=by omega
  have hlt2:j<m.length:=by omega
  rw [List.drop_eq_getElem_cons hlt,List.drop_eq_getElem_cons hlt2];refine BB ?_;simp only [Bf.l0];rw [Pq hlt,Pq hlt2,GY (by omega)];refine AU (by omega) (AU (by omega) (AU (by omega) ?_));by_cases h:l[j]=m[j]
  ·exact Ah (λh1=>(Ux _ _).1 h1 h) (BG (ih (j+1) (by omega) (by omega)) (PZ h).symm)
  ·exact AU ((Ux _ _).2 h) (BG (Am _) (SH h).symm)
theorem UJ {l m:List SC} (e:l.length≠m.length):Hl l m=false:=by
 rw [Bool.eq_false_iff];intro h;exact e (congrArg List.length (same_iff.1 h))
theorem Qn (l m:List SC) (hl:l.length<=10000):Ev (λk=>Bf.f k l m) (Hl l m):=by
 unfold Bf.f;by_cases e:l.length=m.length
 ·exact AU (by omega) (SI l m e hl _ 0 rfl (Nat.zero_le _))
 ·exact Ah (by omega) (BG (Am _) (UJ e).symm)
abbrev JL (c:SC) (m:List SC):List SC:=GR Cq kC (kC c) c m
theorem Qo (a:GD) (l:List SC):Dn Cq kK a (l.map FC)=(Dn Cq kC a l).map FC:=by unfold Dn;rw [List.filter_map];rfl
theorem Qp (a:GD) (l:List SC):En Cq kK a (l.map FC)=(En Cq kC a l).map FC:=by unfold En;rw [List.filter_map];rfl
theorem SL (c:SC) (l:List SC):GR Cq kK (kC c) ⟨kC c,c⟩ (l.map FC)=(JL c l).map FC:=by unfold JL GR;rw [List.map_append,List.map_cons,Qo,Qp];rfl
theorem Pb {l:List SC} (h:Di Cq kC l):Di Cq kK (l.map FC):=List.pairwise_map.2 h
theorem SN {m:List SC} (c:SC) (h:Di Cq kC m) (hb:m.length<=1000):Ev (λk=>BI.f k (m.map FC) c.f0 c.f1 c.f2 c.f0 c.f1 c.f2 c.f3 c.f4 c.f5 c.f6 c.f7 c.f8 c.f9 c.f10) ((JL c m).map FC):=
 BG (UW (kC c) c (Pb h) (by rw [List.length_map];exact hb)) (SL c m)
theorem UK {m:List SC} (hb:m.length<=10000):Ed.f (m.map FC)=some m:=by
 unfold Ed.f;rw [if_pos (by rw [List.length_map];omega),List.map_map];congr 1;exact List.map_id _
theorem Lj {m:List SC} (c:SC) (h:Di Cq kC m):(JL c m).length<=m.length+1:=Oy (kC c) c h
theorem Oq {c x:SC} {m:List SC} (h:x∈JL c m):x=c\/x∈m:=(J9.1 h).imp id λh=>h.1
theorem SQ {c:SC} {m:List SC} (h:∀ x∈m,Cq.lt (kC x) (kC c)):JL c m=m++[c]:=by
 unfold JL GR;rw [show Dn Cq kC (kC c) m=m from List.filter_eq_self.2 λx hx=>decide_eq_true (h x hx),show En Cq kC (kC c) m=[] from List.filter_eq_nil_iff.2 λx hx h2=>Cq.U2 (h x hx) (of_decide_eq_true h2)]
def Dh (n:Nat):List SC->List SC->List SC×Int
 |[],m=>if m.length<n then ([],151) else if JA m=true then ([],152) else (m,0)
 |c::l,m=>if GN c=true then Dh n l (JL c m) else ([],150)
def Pd (l:List SC):List SC×Int:=Dh l.length l []
theorem Uy (l:List SC) (hl:l.length<=100) (hs:∀ c∈l,EO c):∀ n j (m:List SC),l.length - j=n->j<=l.length->Di Cq kC m->m.length<=j->
 Ev (λk=>Co.l0 k l l (l.length:Int) (j:Int) (m.map FC)) ((Dh l.length (l.drop j) m).1.map FC,(Dh l.length (l.drop j) m).2):=by
 intro n;induction n with
 |zero=>
  intro j m hn hj hr hm;obtain rfl:j=l.length:=by omega
  rw [List.drop_length];refine BB ?_;simp only [Co.l0,De.f,Option.bind_some,UH hr (show m.length<=1000 by omega),List.length_map];refine Ah (by omega) ?_;unfold Dh;by_cases h:m.length<l.length
  ·exact AU (by omega) (BG (Am _) (by rw [if_pos h];rfl))
  ·refine Ah (by omega) ?_;rw [if_neg h];by_cases h2:JA m=true
   ·exact AU h2 (BG (Am _) (by rw [if_pos h2];rfl))
   ·exact Ah h2 (BG (Am _) (by rw [if_neg h2]))
 |succ n ih=>
  intro j m hn hj hr hm;have hlt:j<l.length:=by omega
  have hf:=hs _ (List.getElem_mem hlt);rw [List.drop_eq_getElem_cons hlt];refine BB ?_;simp only [Co.l0,Ct.FL.f,Option.bind_some];rw [Pq hlt,GY (by omega)];refine AU (by omega) (AU (by omega) (AU (by omega) (BL (RA (by have:=hf.1;omega) (by have:=hf.2.1;omega) (by have:=hf.2.2.1;omega) (by have:=hf.2.2.2;omega)) ?_)));unfold Dh;by_cases h:GN l[j]=true
  ·rw [if_pos h];refine AU h (BL (SN l[j] hr (by omega)) ?_);exact ih (j+1) (JL l[j] m) (by omega) (by omega) (FO hr rfl) (by have:=Lj l[j] hr;omega)
  ·rw [if_neg h];exact Ah h (BG (Am _) rfl)
theorem UL {l:List SC} (hl:l.length<=100) (hs:∀ c∈l,EO c):Ev (λk=>Co.f k l) ((Pd l).1.map FC,(Pd l).2):=
 Uy l hl hs _ 0 [] rfl (Nat.zero_le _) List.Pairwise.nil (Nat.le_refl _)
theorem Uz (l:List SC) (hl:l.length<=100) (hs:∀ c∈l,EO c):∀ n j (m:List SC),l.length - j=n->j<=l.length->Di Cq kC m->m.length<=j->(∀ x∈m,TN x)->
 Ev (λk=>Bn.l0 k l m (j:Int)) (Dh l.length (l.drop j) m):=by
 intro n;induction n with
 |zero=>
  intro j m hn hj hr hm hq;obtain rfl:j=l.length:=by omega
  rw [List.drop_length];refine BB ?_;simp only [Bn.l0];refine Ah (by omega) ?_;unfold Dh;by_cases h:m.length<l.length
  ·exact AU (by omega) (BG (Am _) (by rw [if_pos h]))
  ·refine Ah (by omega) (BL (Qm (by omega)) ?_);rw [if_neg h];by_cases h2:JA m=true
   ·exact AU h2 (BG (Am _) (by rw [if_pos h2]))
   ·exact Ah h2 (BG (Am _) (by rw [if_neg h2]))
 |succ n ih=>
  intro j m hn hj hr hm hq;have hlt:j<l.length:=by omega
  have hf:=hs _ (List.getElem_mem hlt);rw [List.drop_eq_getElem_cons hlt];refine BB ?_;simp only [Bn.l0];rw [Pq hlt,GY (by omega)];refine AU (by omega) (AU (by omega) (BL (Lv (by have:=hf.1;omega) (by have:=hf.2.1;omega) (by have:=hf.2.2.1;omega) (by have:=hf.2.2.2;omega)) ?_));unfold Dh;by_cases h:GN l[j]=true
  ·rw [if_pos h];refine AU h (BL (SY l[j] hr (by omega) hf.sm hq) ?_);exact ih (j+1) (JL l[j] m) (by omega) (by omega) (FO hr rfl) (by have:=Lj l[j] hr;omega) (λx hx=>(Oq hx).elim (λe=>e▸hf.sm) (hq x))
  ·rw [if_neg h];exact Ah h (Am _)
theorem UM {l:List SC} (hl:l.length<=100) (hs:∀ c∈l,EO c):Ev (λk=>Bn.f k l) (Pd l):=
 Uz l hl hs _ 0 [] rfl (Nat.zero_le _) List.Pairwise.nil (Nat.le_refl _) (λ_ h=>absurd h List.not_mem_nil)
structure Pe (m:List SC):Prop where
 rises:Di Cq kC m
 right:∀ c∈m,GN c=true
 few:JA m=false
theorem Ot (n:Nat) (P:SC->Prop):∀ (l m:List SC),Di Cq kC m->(∀ c∈m,GN c=true/\P c)->(∀ c∈l,P c)->(Dh n l m).2=0->Pe (Dh n l m).1/\(∀ c∈(Dh n l m).1,P c)
 |[],m,hr,hm,hl,h=>by
  unfold Dh at h⊢
  by_cases h1:m.length<n
  ·rw [if_pos h1] at h;exact absurd h (by decide)
  ·rw [if_neg h1] at h⊢
   by_cases h2:JA m=true
   ·rw [if_pos h2] at h;exact absurd h (by decide)
   ·rw [if_neg h2] at h⊢
    exact ⟨⟨hr,λc hc=>(hm c hc).1,by simpa using h2⟩,λc hc=>(hm c hc).2⟩
 |c::l,m,hr,hm,hl,h=>by
  unfold Dh at h⊢
  by_cases h1:GN c=true
  ·rw [if_pos h1] at h⊢
   exact Ot n P l _ (FO hr rfl) (λx hx=>(Oq hx).elim (λe=>e▸⟨h1,hl c List.mem_cons_self⟩) (hm x)) (λx hx=>hl x (List.mem_cons_of_mem _ hx)) h
  ·rw [if_neg h1] at h;exact absurd h (by decide)
theorem Qq (n:Nat):∀ (l m:List SC),Di Cq kC m->(Dh n l m).1.length<=l.length+m.length
 |[],m,hr=>by
  unfold Dh;split
  ·simp
  ·split<;>simp
 |c::l,m,hr=>by
  unfold Dh;split
  ·have:=Qq n l (JL c m) (FO hr rfl);have:=Lj c hr;simp only [List.length_cons];omega
  ·simp
theorem SS (l:List SC):(Pd l).1.length<=l.length:=by have:=Qq l.length l [] List.Pairwise.nil;simpa [Pd] using this
theorem SV {l:List SC} (hs:∀ c∈l,EO c) (h:(Pd l).2=0):Pe (Pd l).1/\∀ c∈(Pd l).1,EO c:=
 Ot l.length EO l [] List.Pairwise.nil (λ_ h=>absurd h List.not_mem_nil) hs h
theorem Qr (n:Nat):∀ (l m:List SC),Di Cq kC (m++l)->(∀ c∈l,GN c=true)->Dh n l m=Dh n [] (m++l)
 |[],m,_,_=>by rw [List.append_nil]
 |c::l,m,hr,hl=>by
  have h1:∀ x∈m,Cq.lt (kC x) (kC c):=λx hx=>(List.pairwise_append.1 hr).2.2 x hx c List.mem_cons_self
  have e:Dh n (c::l) m=Dh n l (JL c m):=by
   conv=>lhs;unfold Dh
   rw [if_pos (hl c List.mem_cons_self)]
  rw [e,SQ h1];have e2:m++c::l=(m++[c])++l:=by simp
  rw [e2] at hr⊢
  exact Qr n l (m++[c]) hr (λx hx=>hl x (List.mem_cons_of_mem _ hx))
theorem M4 {m:List SC} (h:Pe m):Pd m=(m,0):=by
 unfold Pd;rw [Qr m.length m [] (by simpa using h.rises) h.right];unfold Dh;rw [List.nil_append,if_neg (Nat.lt_irrefl _),if_neg (by rw [h.few];decide)]
noncomputable def Im (l:List SC):Bool:=if (Pd l).2=0 then Hl (Pd l).1 l else false
theorem Jz {l:List SC} (hs:∀ c∈l,EO c):Im l=true↔Pe l:=by
 unfold Im;constructor
 ·intro h;split at h
  ·rename_i h0;have:=(SV hs h0).1;rwa [same_iff.1 h] at this
  ·exact absurd h (by decide)
 ·intro h;rw [M4 h,if_pos rfl];exact Kw _
theorem Pf {l:List SC} (hl:l.length<=100) (hs:∀ c∈l,EO c):Ev (λk=>Ch.f k l) (Im l):=by
 have hb:=SS l;unfold Ch.f Im;refine BL (UM hl hs) ?_;by_cases h:(Pd l).2=0
 ·rw [if_pos h];exact AU h (BL (Qn _ _ (by omega)) (Am _))
 ·rw [if_neg h];exact Ah h (Am _)
end Go.Proofs.YtikggnalmidlhaaGreatDoor.Y
end
section
namespace Go.Proofs.YtikggnalmidlhaaGreatDoor.Y
set_option linter.unusedVariables false
set_option linter.unusedSimpArgs false
open RowKit Print AR Aa Ad
theorem WB {α:Type} {f:Nat->Option α} {r:α} (h:∀ k,f k=some r):Ev f r:=⟨0,λ_ _=>h _⟩
theorem XR (a c:ByteArray):stringslite_HasPrefix.f a c=some (TT a c):=by
 have h:=Sr a c;unfold strings_HasPrefix.f at h;obtain ⟨x,h1,h2⟩:=Option.bind_eq_some_iff.1 h;rw [h1,h2]
def Vg (s p:ByteArray):ByteArray:=if TT s p=true then s.extract p.size s.size else s
theorem Wx (s p:ByteArray):strings_CutPrefix.f s p=some (Vg s p,TT s p):=by
 unfold strings_CutPrefix.f stringslite_CutPrefix.f Vg;rw [XR];cases h:TT s p with
 |false=>rfl
 |true=>
  have:=Vl h;rw [Option.bind_some,if_pos rfl,if_pos (by omega),if_pos (by omega),if_pos rfl,Int.toNat_natCast];rfl
theorem Vr (s p:ByteArray):(Vg s p).size<=s.size:=by
 unfold Vg;split
 ·rw [ByteArray.size_extract];omega
 ·exact Nat.le_refl _
def WM (only:Bool) (now:Int) (f0 f1 f2 f3 f4 f5 f6:ByteArray):SC×Int:=
 if Hz f1=true\/Hz f3=true\/TT f0 O4≠P6 f1\/(EK (Vg f0 O4)).2=false\/(EI f4).2=false then (Ug,192)
 else if Ir (EK (Vg f0 O4)).1 f2 f5 f6 now now (EI f4).1 (!P6 f1) 0=true then (⟨(EK (Vg f0 O4)).1,f2,f5,f6,now,now,(EI f4).1, !P6 f1,P6 f3,only,0⟩,0) else (Ug,192)
def XT (only:Bool) (now:Int):List ByteArray->SC×Int
 |[f0,f1,f2,f3,f4,f5,f6]=>WM only now f0 f1 f2 f3 f4 f5 f6
 |_=>(Ug,191)
theorem WC {only:Bool} {now:Int} {f:List ByteArray} (h:f.length≠7):XT only now f=(Ug,191):=by
 unfold XT;split
 ·exact absurd rfl h
 ·rfl
def V8 (now:Int) (s:ByteArray):SC×Int:=XT (TT s Fb) now (Vn (Vg s Fb))
theorem V6 (s:ByteArray):(EK s).1.size<=64:=by
 rcases h:EK s with ⟨t,b⟩
 cases b with
 |true=>
  obtain ⟨rfl,h1,_⟩:=PV h;rw [Ms];exact h1
 |false=>
  unfold EK at h;split at h
  ·simp at h
  ·simp only [Prod.mk.injEq] at h;rw [<-h.1];decide
theorem We {only:Bool} {now:Int} {f0 f1 f2 f3 f4 f5 f6:ByteArray} (h2:f2.size<=3000) (h5:f5.size<=3000) (h6:f6.size<=3000):Ev (λk=>LD k only now f0 f1 f2 f3 f4 f5 f6) (WM only now f0 f1 f2 f3 f4 f5 f6):=by
 unfold LD WM;rw [Wx];refine BL (Am _) ?_;dsimp only
 refine BL (Qk _) ?_;unfold EL.f;refine BL (Am _) ?_;by_cases hb:Hz f1=true\/Hz f3=true\/TT f0 O4≠P6 f1\/(EK (Vg f0 O4)).2=false\/(EI f4).2=false
 ·exact AU hb (BG (Am _) (if_pos hb).symm)
 ·rw [show (if Hz f1=true\/Hz f3=true\/TT f0 O4≠P6 f1\/(EK (Vg f0 O4)).2=false\/(EI f4).2=false then (Ug,(192:Int)) else if Ir (EK (Vg f0 O4)).1 f2 f5 f6 now now (EI f4).1 (!P6 f1) 0=true then ((⟨(EK (Vg f0 O4)).1,f2,f5,f6,now,now,(EI f4).1, !P6 f1,P6 f3,only,0⟩:SC),(0:Int)) else (Ug,192))=_ from if_neg hb];have:=V6 (Vg f0 O4);refine Ah hb (BL (RA (by omega) h2 h5 h6) ?_);by_cases hr:Ir (EK (Vg f0 O4)).1 f2 f5 f6 now now (EI f4).1 (!P6 f1) 0=true
  ·exact AU hr (BG (Am _) (if_pos hr).symm)
  ·exact Ah hr (BG (Am _) (if_neg hr).symm)
theorem Wh {f0 f1:ByteArray} (h:TT f0 O4=P6 f1):(if P6 f1=true then f0.extract 1 f0.size else f0)=Vg f0 O4:=by
 unfold Vg;rw [h];rfl
theorem Wi {only:Bool} {now:Int} {f0 f1 f2 f3 f4 f5 f6:ByteArray} (h0:f0.size<=3000) (h2:f2.size<=3000) (h4:f4.size<=3000) (h5:f5.size<=3000) (h6:f6.size<=3000):Ev (λk=>Vy k only now f0 f1 f2 f3 f4 f5 f6) (WM only now f0 f1 f2 f3 f4 f5 f6):=by
 unfold Vy WM;by_cases hb:Hz f1=true\/Hz f3=true\/TT f0 O4≠P6 f1
 ·exact AU hb (BG (Am _) (if_pos (hb.elim .inl λh=> .inr (h.elim .inl λh=> .inr (.inl h)))).symm)
 ·refine Ah hb ?_;have hd:TT f0 O4=P6 f1:=Classical.byContradiction λo=>hb (.inr (.inr o))
  have hF:VP f1= !P6 f1:=(Vs λo=>hb (.inl o)).2;rw [Wh hd,hF];have hz:=Vr f0 O4;refine BL (Li (by omega)) (BL (Mq (by omega)) ?_);by_cases hq:(EK (Vg f0 O4)).2=false\/(EI f4).2=false
  ·rw [if_pos (.inr (.inr (.inr hq)))];exact AU hq (Am _)
  ·rw [if_neg (λh=>h.elim (λh=>hb (.inl h)) λh=>h.elim (λh=>hb (.inr (.inl h))) λh=>h.elim (λh=>hb (.inr (.inr h))) hq)];have:=V6 (Vg f0 O4);refine Ah hq (BL (Lv (by omega) h2 h5 h6) ?_);by_cases hr:Ir (EK (Vg f0 O4)).1 f2 f5 f6 now now (EI f4).1 (!P6 f1) 0=true
   ·exact AU hr (BG (Am _) (if_pos hr).symm)
   ·exact Ah hr (BG (Am _) (if_neg hr).symm)
theorem Wy {s:ByteArray} (now:Int) (hs:s.size<=3000):Ev (λk=>Db.f k s now) (V8 now s):=by
 unfold Db.f V8;rw [Wx];have hz:=Vr s Fb;refine BL (Am _) ?_;dsimp only
 rw [XP (by omega)];refine BL (Am _) ?_;have hsz:∀ x∈Vn (Vg s Fb),x.size<=3000:=λx hx=>by have:=V5 hx;omega
 by_cases h7:(Vn (Vg s Fb)).length=7
 ·obtain ⟨f0,f1,f2,f3,f4,f5,f6,e⟩:=seven h7;rw [e] at hsz⊢
  exact We (hsz _ (by simp)) (hsz _ (by simp)) (hsz _ (by simp))
 ·rw [WC h7];exact BG (WB λk=>NL h7) rfl
theorem Wz {s:ByteArray} (now:Int) (hs:s.size<=3000):Ev (λk=>WV k s now) (V8 now s):=by
 unfold WV V8;have hz:=Vr s Fb;have e0:(if TT s Fb=true then s.extract 10 s.size else s)=Vg s Fb:=rfl;rw [e0];refine BL (Ww (by omega)) ?_;have hsz:∀ x∈Vn (Vg s Fb),x.size<=3000:=λx hx=>by have:=V5 hx;omega
 by_cases h7:(Vn (Vg s Fb)).length=7
 ·obtain ⟨f0,f1,f2,f3,f4,f5,f6,e⟩:=seven h7;rw [e] at hsz⊢
  exact Wi (hsz _ (by simp)) (hsz _ (by simp)) (hsz _ (by simp)) (hsz _ (by simp)) (hsz _ (by simp))
 ·rw [WC h7];exact BG (WB λk=>Vz h7) rfl
def Vq (now:Int):List ByteArray->List SC×Int
 |[]=>([],0)
 |s::l=>if (V8 now s).2=0 then ((V8 now s).1::(Vq now l).1,(Vq now l).2) else ([],(V8 now s).2)
theorem XA (now:Int):∀ (l:List ByteArray),(∀ x∈l,x.size<=3000)->Ev (λk=>KI k now l) (Vq now l)
 |[],_=>by unfold KI Vq;exact Am _
 |s::l,h=>by
  unfold KI Vq;refine BL (Wy now (h s (.head _))) ?_;by_cases hz:(V8 now s).2=0
  ·rw [if_pos hz];exact AU hz (BL (XA now l λx hx=>h x (.tail _ hx)) (Am _))
  ·rw [if_neg hz];exact Ah hz (Am _)
def WE (r:List SC×Int):List SC×Int:=(if r.2=0 then r.1 else [],r.2)
def WW (now:Int):List ByteArray->List SC×Int
 |[]=>([],190)
 |h::l=>if h=G7 then WE (Vq now (EE l)) else ([],190)
def Vu (now:Int) (l:List ByteArray):List SC×Int:=if now<0\/253402300799<now then ([],1) else WW now l
def V7 (s:ByteArray) (now:Int):List SC×Int:=Vu now (Vi s)
theorem Wj:GU G7=true:=by decide+kernel
theorem Wl (l:List ByteArray):EE (G7::l)=EE l:=by
 unfold EE;rw [List.filter_cons_of_neg (by rw [Wj];decide)]
theorem XB {l:List ByteArray} {x:ByteArray} (h:x∈EE l):x∈l:=(List.mem_filter.1 h).1
theorem XC {s:ByteArray} {now:Int} (hs:s.size<=1000000000) (hl:∀ x∈Vi s,x.size<=3000):Ev (λk=>CV.f k s now) (V7 s now):=by
 unfold CV.f V7 Vu;rw [Wu hs];refine BL (Am _) ?_;by_cases hn:now<0\/253402300799<now
 ·rw [if_pos hn];exact AU hn (Am _)
 ·rw [if_neg hn];refine Ah hn ?_;cases e:Vi s with
  |nil=>exact Am _
  |cons h l=>
   rw [e] at hl;rw [show WW now (h::l)=if h=G7 then WE (Vq now (EE l)) else ([],190) from rfl];change Ev (λk=>if h.toList=G7.toList then Sw k now (h::l) else some ([],190)) _;by_cases hh:h.toList=G7.toList
   ·have hh':h=G7:=toList_inj.1 hh;rw [if_pos hh'];subst hh';refine AU rfl ?_;unfold Sw;rw [Wl];exact BL (XA now _ λx hx=>hl x (.tail _ (XB hx))) (Am _)
   ·rw [if_neg (λq=>hh (by rw [q]))];exact Ah hh (Am _)
theorem XD {s:ByteArray} (now:Int) (hs:s.size<=3000):Ev (λk=>Ve.f k s now) ((V8 now s).1.f0,(V8 now s).1.f1,(V8 now s).1.f2,(V8 now s).1.f3,(V8 now s).1.f4,(V8 now s).1.f5,(V8 now s).1.f6,(V8 now s).1.f7,(V8 now s).1.f8,(V8 now s).1.f9,(V8 now s).1.f10,(V8 now s).2):=by
 unfold Ve.f;exact BL (Wz now hs) (Am _)
theorem XE {s:ByteArray} (h:0<s.size):bt s 0=(s[0].toNat:Int):=by
 unfold bt;rw [dif_pos (by simpa using h)];rfl
theorem WS {x:ByteArray} {l:List ByteArray} (h:GU x=true):EE (x::l)=EE l:=by
 unfold EE;rw [List.filter_cons_of_neg (by rw [h];decide)]
theorem WT {x:ByteArray} {l:List ByteArray} (h:GU x=false):EE (x::l)=x::EE l:=by
 unfold EE;rw [List.filter_cons_of_pos (by rw [h];decide)]
def XF (acc:List SC) (r:List SC×Int):List SC×Int:=if r.2=0 then (acc++r.1,0) else ([],r.2)
theorem XK (l:List ByteArray) (now:Int) (hl:l.length<=1000000) (hm:∀ x∈l,x.size<=3000):∀ d j (acc:List SC),j+d=l.length->acc.length<=j->
 Ev (λk=>Yf.l0 k now l acc (j:Int)) (XF acc (Vq now (EE (l.drop j)))):=by
 intro d;induction d with
 |zero=>
  intro j acc hj ha;rw [List.drop_eq_nil_of_le (by omega)];apply BB;unfold Yf.l0;exact Ah (by omega) (BG (Am _) (by show (acc,(0:Int))=(acc++[],0);rw [List.append_nil]))
 |succ d ih=>
  intro j acc hj ha;have hlt:j<l.length:=by omega
  have hx:=hm _ (List.getElem_mem hlt);have hrd:Cf ByteArray.empty l (j:Int)=l[j]:=Gx (List.drop_eq_getElem_cons hlt);have hw:wrap64 ((j:Int)+1)=((j+1:Nat):Int):=by rw [KD (by omega) (by omega)];omega
  have hj3:Ev (λk=>Yf.j3 k now l acc (j:Int) (GU l[j])) (XF acc (Vq now (EE (l.drop j)))):=by
   apply BB;unfold Yf.j3;rw [List.drop_eq_getElem_cons hlt,hrd,hw];by_cases hn:GU l[j]=true
   ·rw [WS hn];exact AU hn (ih (j+1) acc (by omega) (by omega))
   ·have hnf:GU l[j]=false:=by simpa using hn
    rw [WT hnf];refine Ah hn (AU (by omega) (AU (by omega) (BL (XD now hx) ?_)));dsimp only
    unfold Vq;by_cases hz:(V8 now l[j]).2=0
    ·rw [if_pos hz];refine AU hz (AU (by omega) (BG (ih (j+1) _ (by omega) (by simp;omega)) ?_));unfold XF;simp only [List.append_assoc,List.singleton_append]
    ·rw [if_neg hz];refine Ah hz (BG (Am _) ?_);unfold XF;rw [if_neg hz]
  apply BB;unfold Yf.l0;rw [hrd];refine AU (by omega) (AU (by omega) ?_);by_cases h0:(l[j]).toList=([]:List UInt8)
  ·have hn:GU l[j]=true:=by unfold GU;rw [h0];rfl
   rw [hn] at hj3;exact AU h0 hj3
  ·have g:((l[j]).toList==([]:List UInt8))=false:=beq_eq_false_iff_ne.2 h0;have hp:0<(l[j]).size:=by
    rcases Nat.eq_zero_or_pos (l[j]).size with e|e
    ·exact absurd (by rw [toList_data];exact List.eq_nil_of_length_eq_zero (by rw [Array.length_toList];exact e)) h0
    ·exact e
   refine Ah h0 (AU (by omega) ?_);rw [XE hp];by_cases h35:((l[j])[0].toNat:Int)=35
   ·refine AU h35 ?_;rw [Wm];refine BL (Am _) ?_;rw [NF hp g h35] at hj3;exact hj3
   ·rw [NG hp g h35] at hj3;exact Ah h35 hj3
theorem XG {s:ByteArray} {now:Int} (hs:s.size<=1000000) (hl:∀ x∈Vi s,x.size<=3000):Ev (λk=>Yf.f k s now) (V7 s now):=by
 have bad:∀ b:Bool,b=true->(now<0\/253402300799<now)->Ev (λk=>Yf.j0 k s now b) (V7 s now):=by
  rintro b rfl hn;apply BB;unfold Yf.j0 V7 Vu;rw [if_pos hn];exact AU rfl (Am _)
 unfold Yf.f;by_cases h1:now<0
 ·exact AU h1 (bad _ rfl (.inl h1))
 ·refine Ah h1 ?_;by_cases h2:now>253402300799
  ·exact bad _ (decide_eq_true h2) (.inr h2)
  ·rw [decide_eq_false h2];apply BB;unfold Yf.j0 V7 Vu;rw [if_neg (show ¬(now<0\/253402300799<now) by omega)];have hlen:=V4 s;refine Ah (by decide) (BL (WJ (by omega)) ?_);have no:∀ (l:List ByteArray) (b:Bool),b=true->Ev (λk=>Yf.j1 k now l b) (([]:List SC),(190:Int)):=by
    rintro l b rfl;apply BB;unfold Yf.j1;exact AU rfl (Am _)
   cases e:Vi s with
   |nil=>exact AU rfl (no _ _ rfl)
   |cons h l=>
    rw [e] at hl hlen;have hr0:Cf ByteArray.empty (h::l) 0=h:=rfl;refine Ah (by simp only [List.length_cons];omega) (AU (by simp only [List.length_cons];omega) ?_);rw [hr0,show ([35,32,78,101,116,115,99,97,112,101,32,72,84,84,80,32,67,111,111,107,105,101,32,70,105,108,101]:List UInt8)=G7.toList from JX.symm];rw [show WW now (h::l)=if h=G7 then WE (Vq now (EE l)) else ([],190) from rfl];by_cases hh:h=G7
    ·rw [if_pos hh];have e2:(h.toList != G7.toList)=false:=by rw [hh];simp
     rw [e2];apply BB;unfold Yf.j1;have:=XK (h::l) now (by omega) hl l.length 1 [] (by simp only [List.length_cons];omega) (Nat.zero_le _);refine Ah (by decide) (BG this ?_);unfold XF WE;rw [List.drop_succ_cons,List.drop_zero];split
     ·rename_i hz;rw [hz];rfl
     ·rfl
    ·rw [if_neg hh];exact no _ _ (bne_iff_ne.2 λq=>hh (toList_inj.1 q))
end Go.Proofs.YtikggnalmidlhaaGreatDoor.Y
end
section
namespace Go.Proofs.YtikggnalmidlhaaGreatDoor.Y
set_option linter.unusedVariables false
set_option linter.unusedSimpArgs false
open RowKit Print AR Aa Ad
abbrev YD:=ByteArray×ByteArray×ByteArray×ByteArray×Int×Int×Int×Bool×Bool×Bool×Int×Bool
def VO (f now:Int):Prop:=(1<=f/\f<=6)/\0<=now/\now<=253402300799
instance (f now:Int):Decidable (VO f now):=inferInstanceAs (Decidable (_/\_))
def Xz (f now:Int) (d p n v:ByteArray) (c4 c5 c6:Int) (b7 b8 b9:Bool) (ss:Int):YD:=
 (d,p,n,v,(if f<=3 then now else c4),(if f<=3 then now else if f=4 then c4 else c5),c6,(if f=2 then true else if f=4 then true else b7),b8,b9,(if f=1 then 0 else if f=4 then 0 else if f=5 then 0 else ss),true)
def Xr (f now:Int) (d p n v:ByteArray) (c4 c5 c6:Int) (b7 b8 b9:Bool) (ss:Int):YD:=
 if VO f now then Xz f now d p n v c4 c5 c6 b7 b8 b9 ss else (⟨#[]⟩,⟨#[]⟩,⟨#[]⟩,⟨#[]⟩,0,0,0,false,false,false,0,false)
theorem six {f:Int} (h:1<=f/\f<=6):f=1\/f=2\/f=3\/f=4\/f=5\/f=6:=by omega
section
variable {f now:Int} {d p n v:ByteArray} {c4 c5 c6:Int} {b7 b8 b9:Bool} {ss:Int}
theorem Xk (h:VO f now):Xr f now d p n v c4 c5 c6 b7 b8 b9 ss=Xz f now d p n v c4 c5 c6 b7 b8 b9 ss:=if_pos h
theorem X0 (h:¬VO f now):Xr f now d p n v c4 c5 c6 b7 b8 b9 ss=(⟨#[]⟩,⟨#[]⟩,⟨#[]⟩,⟨#[]⟩,0,0,0,false,false,false,0,false):=if_neg h
end
theorem Xt (f now:Int):XX.f f now=some (decide (VO f now)):=by
 by_cases h:VO f now
 ·obtain ⟨⟨h1,h2⟩,h3,h4⟩:=id h;rw [decide_eq_true h];unfold XX.f;rw [if_pos h1,if_pos h2,if_pos h3,decide_eq_true h4]
 ·rw [decide_eq_false h];unfold XX.f;by_cases h1:f>=1
  ·rw [if_pos h1];by_cases h2:f<=6
   ·rw [if_pos h2];by_cases h3:now>=0
    ·rw [if_pos h3,decide_eq_false (λh4=>h ⟨⟨h1,h2⟩,h3,h4⟩)]
    ·rw [if_neg h3]
   ·rw [if_neg h2]
  ·rw [if_neg h1]
theorem Xl {f now:Int} {d p n v:ByteArray} {c4 c5 c6:Int} {b7 b8 b9:Bool} {ss:Int}:Ev (λk=>XU.f k f now d p n v c4 c5 c6 b7 b8 b9 ss) (Xr f now d p n v c4 c5 c6 b7 b8 b9 ss):=by
 unfold XU.f;rw [Xt];refine BL (Am _) ?_;by_cases h:VO f now
 ·rw [decide_eq_true h,Xk h];refine AU rfl ⟨3,λk hk=>?_⟩;obtain ⟨k,rfl⟩:∃ m,k=m+3:=⟨k - 3,by omega⟩;rcases six h.1 with rfl|rfl|rfl|rfl|rfl|rfl<;>cases b7<;>simp [XU.j0,XU.j1,XU.j2,Xz]
 ·rw [decide_eq_false h,X0 h];exact Ah (by decide) (Am _)
theorem Xq {f now:Int} {d p n v:ByteArray} {c4 c5 c6:Int} {ho:Bool} {ss:Int} (h:VO f now) (hr:Ir d p n v c4 c5 c6 ho ss=true):
 Ir d p n v (if f<=3 then now else c4) (if f<=3 then now else if f=4 then c4 else c5) c6 (if f=2 then true else if f=4 then true else ho) (if f=1 then 0 else if f=4 then 0 else if f=5 then 0 else ss)=true:=by
 have hn:L6 253402300799 now=true:=by unfold L6;rw [Bool.and_eq_true];exact ⟨decide_eq_true h.2.1,decide_eq_true h.2.2⟩
 unfold Ir Pn M8 Iq at hr⊢
 simp only [Bool.and_eq_true,decide_eq_true_eq] at hr⊢
 obtain ⟨r1,r2,r3,r4,r5,r6,r7,r8,⟨r9,r10,r11⟩,r12,r13⟩:=hr;refine ⟨r1,r2,?_,r4,r5,r6,r7,r8,⟨?_,?_,r11⟩,?_,?_⟩
 ·by_cases e:f=2
  ·rw [if_pos e];simp
  ·rw [if_neg e];by_cases e4:f=4
   ·rw [if_pos e4];simp
   ·rw [if_neg e4];exact r3
 ·split
  ·exact hn
  ·exact r9
 ·split
  ·exact hn
  ·split
   ·exact r9
   ·exact r10
 ·repeat (first|omega|split)
 ·repeat (first|omega|split)
def Xa (f now:Int) (c:SC):SC:=⟨c.f0,c.f1,c.f2,c.f3,(if f<=3 then now else c.f4),(if f<=3 then now else if f=4 then c.f4 else c.f5),c.f6,(if f=2 then true else if f=4 then true else c.f7),c.f8,c.f9,(if f=1 then 0 else if f=4 then 0 else if f=5 then 0 else c.f10)⟩
abbrev YC (t:YD):SC:=⟨t.1,t.2.1,t.2.2.1,t.2.2.2.1,t.2.2.2.2.1,t.2.2.2.2.2.1,t.2.2.2.2.2.2.1,t.2.2.2.2.2.2.2.1,t.2.2.2.2.2.2.2.2.1,t.2.2.2.2.2.2.2.2.2.1,t.2.2.2.2.2.2.2.2.2.2.1⟩
abbrev X3 (f now:Int) (c:SC):YD:=Xr f now c.f0 c.f1 c.f2 c.f3 c.f4 c.f5 c.f6 c.f7 c.f8 c.f9 c.f10
theorem X4 {f now:Int} (h:VO f now) (c:SC):YC (X3 f now c)=Xa f now c:=by unfold X3;rw [Xk h];rfl
def X5 (f now:Int) (l:List SC):List SC×Bool:=if VO f now then (l.map (Xa f now),true) else ([],false)
theorem X9 (f now:Int) (l:List SC) (hl:l.length<=1000):∀ n j (acc:List SC),l.length - j=n->j<=l.length->acc.length<=j->
 Ev (λk=>XV.l0 k f now l acc (j:Int)) (if VO f now then (acc++(l.drop j).map (Xa f now),true) else ([],false)):=by
 intro n;induction n with
 |zero=>
  intro j acc hn hj ha;obtain rfl:j=l.length:=by omega
  refine BB ?_;simp only [XV.l0];refine Ah (by omega) ?_;rw [Xt];refine BL (Am _) ?_;by_cases h:VO f now
  ·rw [if_pos h,List.drop_length,List.map_nil,List.append_nil];exact AU (decide_eq_true h) (Am _)
  ·rw [if_neg h];exact Ah (by simpa using h) (Am _)
 |succ n ih=>
  intro j acc hn hj ha;have hlt:j<l.length:=by omega
  refine BB ?_;simp only [XV.l0];refine AU (by omega) (AU (by omega) (BL Xl (AU (by omega) ?_)));have hr:AB l (j:Int)=l[j]:=by unfold AB;rw [Int.toNat_natCast,List.getD_eq_getElem?_getD,List.getElem?_eq_getElem hlt];rfl
  rw [hr,GY (j:=j) (by omega)];have:=ih (j+1) (acc++[YC (X3 f now l[j])]) (by omega) (by omega) (by rw [List.length_append];simp;omega);refine BG this ?_;by_cases h:VO f now
  ·rw [if_pos h,if_pos h,X4 h,List.append_assoc,List.drop_eq_getElem_cons hlt];rfl
  ·rw [if_neg h,if_neg h]
theorem X6 (f now:Int) {l:List SC} (hl:l.length<=1000):Ev (λk=>XV.f k f now l) (X5 f now l):=by
 have:=X9 f now l hl _ 0 [] rfl (Nat.zero_le _) (Nat.le_refl _);simpa [XV.f,X5] using this
noncomputable def GQ (l:List SC):List SC×Bool:=if PY l=true/\Im l=true then (l,true) else ([],false)
theorem RF (l:List SC):Ev (λk=>Cu.f k l) ((GQ l).1.map FC,(GQ l).2):=by
 simp only [Cu.f];refine BL (UI l) ?_;by_cases hf:PY l=true
 ·obtain ⟨hl,hs⟩:=Oo.1 hf;refine AU hf (BL (Pf hl hs) ?_);by_cases hr:Im l=true
  ·have hj:=(Jz hs).1 hr;have ho:=UL hl hs;rw [M4 hj] at ho;refine AU hr (BL ho ?_);unfold GQ;rw [if_pos ⟨hf,hr⟩];exact Am _
  ·unfold GQ;rw [if_neg (λh=>hr h.2)];exact Ah hr (Am _)
 ·unfold GQ;rw [if_neg (λh=>hf h.1)];exact Ah hf (Am _)
theorem Po {l:List SC} (h:(GQ l).2=true):(GQ l).1=l/\l.length<=100/\Pe l/\∀ c∈l,EO c:=by
 unfold GQ at h⊢
 split at h
 ·rename_i hh;obtain ⟨hl,hs⟩:=Oo.1 hh.1;rw [if_pos hh];exact ⟨rfl,hl,(Jz hs).1 hh.2,hs⟩
 ·cases h
end Go.Proofs.YtikggnalmidlhaaGreatDoor.Y
end
