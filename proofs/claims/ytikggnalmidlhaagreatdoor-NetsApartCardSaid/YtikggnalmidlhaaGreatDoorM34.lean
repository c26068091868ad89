/- Several parts of the claim's proof in one text, said short by a program of this session. No condition. -/
import Derived.Test.YtikggnalmidlhaaGreatDoorM31
import Derived.Test.YtikggnalmidlhaaGreatDoorPrint45
section
namespace Go.Proofs.YtikggnalmidlhaaGreatDoor.Y
open RowKit Print AR Aa Ad
set_option linter.unusedVariables false
set_option linter.unusedSimpArgs false
abbrev GN (c:SC):Bool:=Ir c.f0 c.f1 c.f2 c.f3 c.f4 c.f5 c.f6 c.f7 c.f10
abbrev EO (c:SC):Prop:=c.f0.size<=300/\c.f1.size<=300/\c.f2.size<=300/\c.f3.size<=300
theorem EO.sm {c:SC} (h:EO c):TN c:=⟨by have:=h.1;omega,by have:=h.2.1;omega,by have:=h.2.2.1;omega,by have:=h.2.2.2;omega⟩
def PY (l:List SC):Bool:=decide (l.length<=100)&&l.all λc=>decide (EO c)
theorem Oo {l:List SC}:PY l=true↔l.length<=100/\∀ c∈l,EO c:=by simp [PY]
theorem Uw (l:List SC) (hl:l.length<=100):∀ n j,l.length - j=n->j<=l.length->Ev (λk=>Ba.l0 k l (j:Int)) ((l.drop j).all λc=>decide (EO c)):=by
 intro n;induction n with
 |zero=>
  intro j hn hj;obtain rfl:j=l.length:=by omega
  rw [List.drop_length];refine BB ?_;simp only [Ba.l0];exact Ah (by omega) (Am _)
 |succ n ih=>
  intro j hn hj;have hlt:j<l.length:=by omega
  rw [List.drop_eq_getElem_cons hlt,List.all_cons];refine BB ?_;simp only [Ba.l0];rw [Pq hlt,GY (by omega)];refine AU (by omega) (AU (by omega) ?_);by_cases h0:l[j].f0.size<=300
  ·refine Ah (by omega) ?_;by_cases h1:l[j].f1.size<=300
   ·refine Ah (by omega) ?_;by_cases h2:l[j].f2.size<=300
    ·refine Ah (by omega) ?_;by_cases h3:l[j].f3.size<=300
     ·refine Ah (by omega) (BG (ih (j+1) (by omega) (by omega)) ?_);rw [decide_eq_true (show EO l[j] from ⟨h0,h1,h2,h3⟩),Bool.true_and]
     ·exact AU (by omega) (BG (Am _) (by rw [decide_eq_false (show ¬EO l[j] from λh=>h3 h.2.2.2)];rfl))
    ·exact AU (by omega) (BG (Am _) (by rw [decide_eq_false (show ¬EO l[j] from λh=>h2 h.2.2.1)];rfl))
   ·exact AU (by omega) (BG (Am _) (by rw [decide_eq_false (show ¬EO l[j] from λh=>h1 h.2.1)];rfl))
  ·exact AU (by omega) (BG (Am _) (by rw [decide_eq_false (show ¬EO l[j] from λh=>h0 h.1)];rfl))
theorem UI (l:List SC):Ev (λk=>Ba.f k l) (PY l):=by
 unfold Ba.f PY;by_cases h:l.length<=100
 ·exact Ah (by omega) (BG (Uw l h _ 0 rfl (Nat.zero_le _)) (by rw [decide_eq_true h,Bool.true_and,List.drop_zero]))
 ·exact AU (by omega) (BG (Am _) (by rw [decide_eq_false h,Bool.false_and]))
noncomputable def Hl (l m:List SC):Bool:= @decide (l=m) (Classical.propDecidable _)
theorem same_iff {l m:List SC}:Hl l m=true↔l=m:=by unfold Hl;exact @decide_eq_true_iff _ (Classical.propDecidable _)
theorem Kw (l:List SC):Hl l l=true:=same_iff.2 rfl
theorem VN (x y:SC):(x.f0.toList==y.f0.toList&&(x.f1.toList==y.f1.toList&&(x.f2.toList==y.f2.toList&&(x.f3.toList==y.f3.toList&&(x.f4==y.f4&&(x.f5==y.f5&&(x.f6==y.f6&&(x.f7==y.f7&&(x.f8==y.f8&&(x.f9==y.f9&&(x.f10==y.f10)))))))))))=true↔x=y:=by
 obtain ⟨a0,a1,a2,a3,a4,a5,a6,a7,a8,a9,a10⟩:=x;obtain ⟨b0,b1,b2,b3,b4,b5,b6,b7,b8,b9,b10⟩:=y;simp only [Bool.and_eq_true,beq_iff_eq,toList_inj,CU.mk.injEq]
theorem Ux (x y:SC):(!(x.f0.toList==y.f0.toList)||(!(x.f1.toList==y.f1.toList)||(!(x.f2.toList==y.f2.toList)||(!(x.f3.toList==y.f3.toList)||(!(x.f4==y.f4)||(!(x.f5==y.f5)||(!(x.f6==y.f6)||(!(x.f7==y.f7)||(!(x.f8==y.f8)||(!(x.f9==y.f9)||(!(x.f10==y.f10))))))))))))=true↔x≠y:=by
 refine Iff.trans ?_ (not_congr (VN x y));simp only [<-Bool.not_and,Bool.not_eq_true',Bool.not_eq_true]
theorem PZ {x y:SC} {l m:List SC} (h:x=y):Hl (x::l) (y::m)=Hl l m:=by
 rw [Bool.eq_iff_iff,same_iff,same_iff,h];simp
theorem SH {x y:SC} {l m:List SC} (h:x≠y):Hl (x::l) (y::m)=false:=by
 rw [Bool.eq_false_iff];intro h2;exact h (List.cons.inj (same_iff.1 h2)).1
theorem SI (l m:List SC) (e:l.length=m.length) (hl:l.length<=10000):∀ n j,l.length - j=n->j<=l.length->Ev (λk=>Bf.l0 k l m (j:Int)) (Hl (l.drop j) (m.drop j)):=by
 intro n;induction n with
 |zero=>
  intro j hn hj;obtain rfl:j=l.length:=by omega
  rw [List.drop_length,e,List.drop_length];refine BB ?_;simp only [Bf.l0];exact Ah (by omega) (BG (Am _) (Kw _).symm)
 |succ n ih=>
  intro j hn hj;have hlt:j<l.length:=by omega
  have hlt2:j<m.length:=by omega
  rw [List.drop_eq_getElem_cons hlt,List.drop_eq_getElem_cons hlt2];refine BB ?_;simp only [Bf.l0];rw [Pq hlt,Pq hlt2,GY (by omega)];refine AU (by omega) (AU (by omega) (AU (by omega) ?_));by_cases h:l[j]=m[j]
  ·exact Ah (λh1=>(Ux _ _).1 h1 h) (BG (ih (j+1) (by omega) (by omega)) (PZ h).symm)
  ·exact AU ((Ux _ _).2 h) (BG (Am _) (SH h).symm)
theorem UJ {l m:List SC} (e:l.length≠m.length):Hl l m=false:=by
 rw [Bool.eq_false_iff];intro h;exact e (congrArg List.length (same_iff.1 h))
theorem Qn (l m:List SC) (hl:l.length<=10000):Ev (λk=>Bf.f k l m) (Hl l m):=by
 unfold Bf.f;by_cases e:l.length=m.length
 ·exact AU (by omega) (SI l m e hl _ 0 rfl (Nat.zero_le _))
 ·exact Ah (by omega) (BG (Am _) (UJ e).symm)
abbrev JL (c:SC) (m:List SC):List SC:=GR Cq kC (kC c) c m
theorem Qo (a:GD) (l:List SC):Dn Cq kK a (l.map FC)=(Dn Cq kC a l).map FC:=by unfold Dn;rw [List.filter_map];rfl
theorem Qp (a:GD) (l:List SC):En Cq kK a (l.map FC)=(En Cq kC a l).map FC:=by unfold En;rw [List.filter_map];rfl
theorem SL (c:SC) (l:List SC):GR Cq kK (kC c) ⟨kC c,c⟩ (l.map FC)=(JL c l).map FC:=by unfold JL GR;rw [List.map_append,List.map_cons,Qo,Qp];rfl
theorem Pb {l:List SC} (h:Di Cq kC l):Di Cq kK (l.map FC):=List.pairwise_map.2 h
theorem SN {m:List SC} (c:SC) (h:Di Cq kC m) (hb:m.length<=1000):Ev (λk=>BI.f k (m.map FC) c.f0 c.f1 c.f2 c.f0 c.f1 c.f2 c.f3 c.f4 c.f5 c.f6 c.f7 c.f8 c.f9 c.f10) ((JL c m).map FC):=
 BG (UW (kC c) c (Pb h) (by rw [List.length_map];exact hb)) (SL c m)
theorem UK {m:List SC} (hb:m.length<=10000):Ed.f (m.map FC)=some m:=by
 unfold Ed.f;rw [if_pos (by rw [List.length_map];omega),List.map_map];congr 1;exact List.map_id _
theorem Lj {m:List SC} (c:SC) (h:Di Cq kC m):(JL c m).length<=m.length+1:=Oy (kC c) c h
theorem Oq {c x:SC} {m:List SC} (h:x∈JL c m):x=c\/x∈m:=(J9.1 h).imp id λh=>h.1
theorem SQ {c:SC} {m:List SC} (h:∀ x∈m,Cq.lt (kC x) (kC c)):JL c m=m++[c]:=by
 unfold JL GR;rw [show Dn Cq kC (kC c) m=m from List.filter_eq_self.2 λx hx=>decide_eq_true (h x hx),show En Cq kC (kC c) m=[] from List.filter_eq_nil_iff.2 λx hx h2=>Cq.U2 (h x hx) (of_decide_eq_true h2)]
def Dh (n:Nat):List SC->List SC->List SC×Int
 |[],m=>if m.length<n then ([],151) else if JA m=true then ([],152) else (m,0)
 |c::l,m=>if GN c=true then Dh n l (JL c m) else ([],150)
def Pd (l:List SC):List SC×Int:=Dh l.length l []
theorem Uy (l:List SC) (hl:l.length<=100) (hs:∀ c∈l,EO c):∀ n j (m:List SC),l.length - j=n->j<=l.length->Di Cq kC m->m.length<=j->
 Ev (λk=>Co.l0 k l l (l.length:Int) (j:Int) (m.map FC)) ((Dh l.length (l.drop j) m).1.map FC,(Dh l.length (l.drop j) m).2):=by
 intro n;induction n with
 |zero=>
  intro j m hn hj hr hm;obtain rfl:j=l.length:=by omega
  rw [List.drop_length];refine BB ?_;simp only [Co.l0,De.f,Option.bind_some,UH hr (show m.length<=1000 by omega),List.length_map];refine Ah (by omega) ?_;unfold Dh;by_cases h:m.length<l.length
  ·exact AU (by omega) (BG (Am _) (by rw [if_pos h];rfl))
  ·refine Ah (by omega) ?_;rw [if_neg h];by_cases h2:JA m=true
   ·exact AU h2 (BG (Am _) (by rw [if_pos h2];rfl))
   ·exact Ah h2 (BG (Am _) (by rw [if_neg h2]))
 |succ n ih=>
  intro j m hn hj hr hm;have hlt:j<l.length:=by omega
  have hf:=hs _ (List.getElem_mem hlt);rw [List.drop_eq_getElem_cons hlt];refine BB ?_;simp only [Co.l0,Ct.FL.f,Option.bind_some];rw [Pq hlt,GY (by omega)];refine AU (by omega) (AU (by omega) (AU (by omega) (BL (RA (by have:=hf.1;omega) (by have:=hf.2.1;omega) (by have:=hf.2.2.1;omega) (by have:=hf.2.2.2;omega)) ?_)));unfold Dh;by_cases h:GN l[j]=true
  ·rw [if_pos h];refine AU h (BL (SN l[j] hr (by omega)) ?_);exact ih (j+1) (JL l[j] m) (by omega) (by omega) (FO hr rfl) (by have:=Lj l[j] hr;omega)
  ·rw [if_neg h];exact Ah h (BG (Am _) rfl)
theorem UL {l:List SC} (hl:l.length<=100) (hs:∀ c∈l,EO c):Ev (λk=>Co.f k l) ((Pd l).1.map FC,(Pd l).2):=
 Uy l hl hs _ 0 [] rfl (Nat.zero_le _) List.Pairwise.nil (Nat.le_refl _)
theorem Uz (l:List SC) (hl:l.length<=100) (hs:∀ c∈l,EO c):∀ n j (m:List SC),l.length - j=n->j<=l.length->Di Cq kC m->m.length<=j->(∀ x∈m,TN x)->
 Ev (λk=>Bn.l0 k l m (j:Int)) (Dh l.length (l.drop j) m):=by
 intro n;induction n with
 |zero=>
  intro j m hn hj hr hm hq;obtain rfl:j=l.length:=by omega
  rw [List.drop_length];refine BB ?_;simp only [Bn.l0];refine Ah (by omega) ?_;unfold Dh;by_cases h:m.length<l.length
  ·exact AU (by omega) (BG (Am _) (by rw [if_pos h]))
  ·refine Ah (by omega) (BL (Qm (by omega)) ?_);rw [if_neg h];by_cases h2:JA m=true
   ·exact AU h2 (BG (Am _) (by rw [if_pos h2]))
   ·exact Ah h2 (BG (Am _) (by rw [if_neg h2]))
 |succ n ih=>
  intro j m hn hj hr hm hq;have hlt:j<l.length:=by omega
  have hf:=hs _ (List.getElem_mem hlt);rw [List.drop_eq_getElem_cons hlt];refine BB ?_;simp only [Bn.l0];rw [Pq hlt,GY (by omega)];refine AU (by omega) (AU (by omega) (BL (Lv (by have:=hf.1;omega) (by have:=hf.2.1;omega) (by have:=hf.2.2.1;omega) (by have:=hf.2.2.2;omega)) ?_));unfold Dh;by_cases h:GN l[j]=true
  ·rw [if_pos h];refine AU h (BL (SY l[j] hr (by omega) hf.sm hq) ?_);exact ih (j+1) (JL l[j] m) (by omega) (by omega) (FO hr rfl) (by have:=Lj l[j] hr;omega) (λx hx=>(Oq hx).elim (λe=>e▸hf.sm) (hq x))
  ·rw [if_neg h];exact Ah h (Am _)
theorem UM {l:List SC} (hl:l.length<=100) (hs:∀ c∈l,EO c):Ev (λk=>Bn.f k l) (Pd l):=
 Uz l hl hs _ 0 [] rfl (Nat.zero_le _) List.Pairwise.nil (Nat.le_refl _) (λ_ h=>absurd h List.not_mem_nil)
structure Pe (m:List SC):Prop where
 rises:Di Cq kC m
 right:∀ c∈m,GN c=true
 few:JA m=false
theorem Ot (n:Nat) (P:SC->Prop):∀ (l m:List SC),Di Cq kC m->(∀ c∈m,GN c=true/\P c)->(∀ c∈l,P c)->(Dh n l m).2=0->Pe (Dh n l m).1/\(∀ c∈(Dh n l m).1,P c)
 |[],m,hr,hm,hl,h=>by
  unfold Dh at h⊢
  by_cases h1:m.length<n
  ·rw [if_pos h1] at h;exact absurd h (by decide)
  ·rw [if_neg h1] at h⊢
   by_cases h2:JA m=true
   ·rw [if_pos h2] at h;exact absurd h (by decide)
   ·rw [if_neg h2] at h⊢
    exact ⟨⟨hr,λc hc=>(hm c hc).1,by simpa using h2⟩,λc hc=>(hm c hc).2⟩
 |c::l,m,hr,hm,hl,h=>by
  unfold Dh at h⊢
  by_cases h1:GN c=true
  ·rw [if_pos h1] at h⊢
   exact Ot n P l _ (FO hr rfl) (λx hx=>(Oq hx).elim (λe=>e▸⟨h1,hl c List.mem_cons_self⟩) (hm x)) (λx hx=>hl x (List.mem_cons_of_mem _ hx)) h
  ·rw [if_neg h1] at h;exact absurd h (by decide)
theorem Qq (n:Nat):∀ (l m:List SC),Di Cq kC m->(Dh n l m).1.length<=l.length+m.length
 |[],m,hr=>by
  unfold Dh;split
  ·simp
  ·split<;>simp
 |c::l,m,hr=>by
  unfold Dh;split
  ·have:=Qq n l (JL c m) (FO hr rfl);have:=Lj c hr;simp only [List.length_cons];omega
  ·simp
theorem SS (l:List SC):(Pd l).1.length<=l.length:=by have:=Qq l.length l [] List.Pairwise.nil;simpa [Pd] using this
theorem SV {l:List SC} (hs:∀ c∈l,EO c) (h:(Pd l).2=0):Pe (Pd l).1/\∀ c∈(Pd l).1,EO c:=
 Ot l.length EO l [] List.Pairwise.nil (λ_ h=>absurd h List.not_mem_nil) hs h
theorem Qr (n:Nat):∀ (l m:List SC),Di Cq kC (m++l)->(∀ c∈l,GN c=true)->Dh n l m=Dh n [] (m++l)
 |[],m,_,_=>by rw [List.append_nil]
 |c::l,m,hr,hl=>by
  have h1:∀ x∈m,Cq.lt (kC x) (kC c):=λx hx=>(List.pairwise_append.1 hr).2.2 x hx c List.mem_cons_self
  have e:Dh n (c::l) m=Dh n l (JL c m):=by
   conv=>lhs;unfold Dh
   rw [if_pos (hl c List.mem_cons_self)]
  rw [e,SQ h1];have e2:m++c::l=(m++[c])++l:=by simp
  rw [e2] at hr⊢
  exact Qr n l (m++[c]) hr (λx hx=>hl x (List.mem_cons_of_mem _ hx))
theorem M4 {m:List SC} (h:Pe m):Pd m=(m,0):=by
 unfold Pd;rw [Qr m.length m [] (by simpa using h.rises) h.right];unfold Dh;rw [List.nil_append,if_neg (Nat.lt_irrefl _),if_neg (by rw [h.few];decide)]
noncomputable def Im (l:List SC):Bool:=if (Pd l).2=0 then Hl (Pd l).1 l else false
theorem Jz {l:List SC} (hs:∀ c∈l,EO c):Im l=true↔Pe l:=by
 unfold Im;constructor
 ·intro h;split at h
  ·rename_i h0;have:=(SV hs h0).1;rwa [same_iff.1 h] at this
  ·exact absurd h (by decide)
 ·intro h;rw [M4 h,if_pos rfl];exact Kw _
theorem Pf {l:List SC} (hl:l.length<=100) (hs:∀ c∈l,EO c):Ev (λk=>Ch.f k l) (Im l):=by
 have hb:=SS l;unfold Ch.f Im;refine BL (UM hl hs) ?_;by_cases h:(Pd l).2=0
 ·rw [if_pos h];exact AU h (BL (Qn _ _ (by omega)) (Am _))
 ·rw [if_neg h];exact Ah h (Am _)
end Go.Proofs.YtikggnalmidlhaaGreatDoor.Y
end
section
namespace Go.Proofs.YtikggnalmidlhaaGreatDoor.Print
open RowKit AR Aa Ad
attribute [local go_sem] BM BN Bo Bp BC BD BO BP
set_option linter.unusedVariables false
set_option linter.unusedSimpArgs false
def XV.l0:Nat->Int->Int->List (CU)->List (CU)->Int->Option ((List (CU))×Bool)
 |0,_,_,_,_,_=>none
 |k+1,x0,x1,x2,x8,x9=>if x9<(x2.length:Int) then (if 0<=x9 then ((XU.f k x0 x1 ((AB x2 x9).f0) ((AB x2 x9).f1) ((AB x2 x9).f2) ((AB x2 x9).f3) ((AB x2 x9).f4) ((AB x2 x9).f5) ((AB x2 x9).f6) ((AB x2 x9).f7) ((AB x2 x9).f8) ((AB x2 x9).f9) ((AB x2 x9).f10)).bind λbt368=>(if x8.length<1353245080339 then (XV.l0 k x0 x1 x2 (x8++[(⟨bt368.1,bt368.2.1,bt368.2.2.1,bt368.2.2.2.1,bt368.2.2.2.2.1,bt368.2.2.2.2.2.1,bt368.2.2.2.2.2.2.1,bt368.2.2.2.2.2.2.2.1,bt368.2.2.2.2.2.2.2.2.1,bt368.2.2.2.2.2.2.2.2.2.1,bt368.2.2.2.2.2.2.2.2.2.2.1⟩:CU)]) (wrap64 (x9+1))) else (none))) else (none)) else ((XX.f x0 x1).bind λt384=>(if t384=true then (some (x8,true)) else (some (([]:List (CU)),false))))
def XV.f (k:Nat) (a0:Int) (a1:Int) (l2:List (CU)):Option ((List (CU))×Bool):=XV.l0 k a0 a1 l2 ([]:List (CU)) 0
set_option maxHeartbeats 8000000 in
set_option maxRecDepth 100000 in
theorem XV.calls (k:Nat) (a0:Int) (a1:Int) (A2:Option Addr) (c2:Nat) (l2:List (CU)) (r1:List (CU)) (r2:Bool) (w:World) (hr2:Kd.C Fu w A2 l2.length l2) (hc2:l2.length<=c2) (h:XV.f k a0 a1 l2=some (r1,r2)):
 Calls Tryz.prog 16 #[.int .i64 a0, .int .i64 a1, .slice A2 l2.length c2] w λe w'=>∃ v0_:Value,e= .returned (.tuple #[v0_, .bool r2])/\Kd.R Fu 53 w' w.heap.size (λ_=>True) v0_ r1/\Below w.heap.size w w':=by
 have hu53:=Tryz.underlying53;have HR2:=AA.mk hr2;have HC2:=AA.mk hc2;clear hr2 hc2;have HB:=AA.mk (Below.refl w.heap.size w);have H:(XV.l0 k a0 a1 l2 ([]:List (CU)) 0)=some (r1,r2):=h;clear h;have H':=AA.mk H;clear H;go_enter Tryz.func16,Tryz.ntmps16;go_wp2;go_loopg [8,9] k (λkq v8 v9 w'=>∃ (x8_1:List (CU)) (x9_1:Int),v9= .int .i64 x9_1/\AA (XV.l0 kq a0 a1 l2 x8_1 x9_1=some (r1,r2))/\AA (kq<=k)/\AA (Kd.R Fu 53 w' w.heap.size (λ_=>True) v8 x8_1)/\AA (Below w.heap.size w w'));case atStart=>exact ⟨(([]:List (CU))),(0),xq,H',⟨Nat.le_refl _⟩,⟨by first|exact Kd.Eu _ _ _ _ _|exact Kd.F6 _ _ _ _ _|exact Kd.F7 _ _ _ _ _|exact Kd.F3 _ _ _ _ _|exact Kd.F5 _ _ _ _ _⟩,⟨xb⟩⟩
 case round=>
  clear H';try clear c1
  try clear c2
  try clear p2
  obtain ⟨x8_1,x9_1,rfl,HA,HK1,HO_8,HB⟩:=hrel;cases gk with
  |zero=>exact absurd HA.out (by simp [XV.l0])
  |succ k1=>
   have H:=HA.out;clear HA;simp only [XV.l0] at H;by_cases c4:x9_1<(l2.length:Int)
   ·rw [if_pos c4] at H;have c4b0:decide (x9_1<(l2.length:Int))=true:=decide_eq_true c4;clear c4;by_cases c5:0<=x9_1
    ·rw [if_pos c5] at H;have c5b0:decide (0<=x9_1)=true:=decide_eq_true c5;clear c5;replace H:=Option.bind_eq_some_iff.mp H;obtain ⟨⟨t368,t369,t370,t371,t372,t373,t374,t375,t376,t377,t378,t379⟩,A60,H⟩:=H;replace H:(if x8_1.length<1353245080339 then (XV.l0 k1 a0 a1 l2 (x8_1++[(⟨t368,t369,t370,t371,t372,t373,t374,t375,t376,t377,t378⟩:CU)]) (wrap64 (x9_1+1))) else (none))=some (r1,r2):=H;have A6:=AA.mk A60;clear A60;by_cases c7:x8_1.length<1353245080339
     ·rw [if_pos c7] at H;have LMc7:=AA.mk c7;clear c7;obtain ⟨y381,hy381⟩:∃ y_:List (CU),y_=(x8_1++[(⟨t368,t369,t370,t371,t372,t373,t374,t375,t376,t377,t378⟩:CU)]):=⟨_,rfl⟩;replace H:(XV.l0 k1 a0 a1 l2 y381 (wrap64 (x9_1+1)))=some (r1,r2):=by first|(rw [hy381];with_reducible exact H)|(have H2_:=(Option.bind_some _ _).symm.trans H;rw [hy381];with_reducible exact H2_)|(have H2_:=(Option.bind_some _ _).symm.trans H;with_reducible exact H2_)|with_reducible exact H|(rw [hy381];exact H)|exact H
      have Ny381:=AA.mk hy381;clear hy381;have H':=AA.mk H;clear H;have p367:0<=(x9_1:Int):=xa;have q367:x9_1<(l2.length:Int):=xa;obtain ⟨ad367,e367,hx367_0,hx367_1,hx367_2,hx367_3,hx367_4,hx367_5,hx367_6,hx367_7,hx367_8,hx367_9,hx367_10⟩:=Ce HR2.out x9_1 p367 q367;cases e367;replace hx367_0:=AJ HB.out hx367_0;replace hx367_1:=AJ HB.out hx367_1;replace hx367_2:=AJ HB.out hx367_2;replace hx367_3:=AJ HB.out hx367_3;replace hx367_4:=AJ HB.out hx367_4;replace hx367_5:=AJ HB.out hx367_5;replace hx367_6:=AJ HB.out hx367_6;replace hx367_7:=AJ HB.out hx367_7;replace hx367_8:=AJ HB.out hx367_8;replace hx367_9:=AJ HB.out hx367_9;replace hx367_10:=AJ HB.out hx367_10;replace p367:=eq_true p367;replace q367:=eq_true q367;go_wp2_with (first|((with_reducible refine AO (f:=31) rfl ?_);refine Ak (some 25) rfl rfl Tryz.func31 (by kernel_rfl) rfl #[.int .i64 a0, .int .i64 a1, .agg #[.string ((AB l2 x9_1).f0), .string ((AB l2 x9_1).f1), .string ((AB l2 x9_1).f2), .string ((AB l2 x9_1).f3), .int .i64 ((AB l2 x9_1).f4), .int .i64 ((AB l2 x9_1).f5), .int .i64 ((AB l2 x9_1).f6), .bool ((AB l2 x9_1).f7), .bool ((AB l2 x9_1).f8), .bool ((AB l2 x9_1).f9), .int .i64 ((AB l2 x9_1).f10)]] rfl xg ?_;(with_reducible refine (XU.calls k1 a0 a1 ((AB l2 x9_1).f0) ((AB l2 x9_1).f1) ((AB l2 x9_1).f2) ((AB l2 x9_1).f3) ((AB l2 x9_1).f4) ((AB l2 x9_1).f5) ((AB l2 x9_1).f6) ((AB l2 x9_1).f7) ((AB l2 x9_1).f8) ((AB l2 x9_1).f9) ((AB l2 x9_1).f10) t368 t369 t370 t371 t372 t373 t374 t375 t376 t377 t378 t379 _ A6.out).mono ?_);rintro e w8 ⟨rfl,hb⟩;refine ⟨_,rfl,?_⟩;replace HO_8:=AA.mk (Kd.BX (xR HO_8) hb);replace HB:=AA.mk (AP xb hb);(try clear hb))|(refine Dk (N:=10) (cs:=#[.string (⟨#[]⟩:ByteArray), .string (⟨#[]⟩:ByteArray), .string (⟨#[]⟩:ByteArray), .string (⟨#[]⟩:ByteArray), .int .i64 0, .int .i64 0, .int .i64 0, .bool false, .bool false, .bool false, .int .i64 0]) (t:=53) (λgb380 hg w9 hbox hb=>?_);replace HO_8:=AA.mk (Kd.BX (Kd.QW (xR HO_8) gb380 (Nat.le_of_eq hg.symm)) hb);have BK380:=AA.mk (hbox);have GW380:AA (w.heap.size<=gb380):=Dp hg xb;have GE380:AA (w.heap.size<=gb380):=Dp hg xb;replace HB:=AA.mk (AP xb hb);clear hb hbox hg;obtain ⟨hcz10_0,hcz10_1,hcz10_2,hcz10_3,hcz10_4,hcz10_5,hcz10_6,hcz10_7,hcz10_8,hcz10_9,hcz10_10⟩:=Bv BK380.out;have hfz10_0:=AX BK380.out)|((with_reducible refine DR (b:= .append) (xs:=#[.tmp 28, .tmp 30]) rfl ?_);at_builtin;refine Kd.Ej Fu (w0:=w) w.heap.size rfl (.tmp 28) (.tmp 30) 22 53 (.agg #[(.string ⟨#[]⟩),(.string ⟨#[]⟩),(.string ⟨#[]⟩),(.string ⟨#[]⟩),(.int .i64 0),(.int .i64 0),(.int .i64 0),(.bool false),(.bool false),(.bool false),(.int .i64 0)]) 104 rfl Tryz.underlying22 Ia rfl (by decide) (by omega) u8 x8_1 (⟨t368,t369,t370,t371,t372,t373,t374,t375,t376,t377,t378⟩:CU) [.string t368, .string t369, .string t370, .string t371, .int .i64 t372, .int .i64 t373, .int .i64 t374, .bool t375, .bool t376, .bool t377, .int .i64 t378] (λk_=>k_≠gb380) (λ_=>False) rfl (by first|(go_simp;done)|(go_simp;rfl)) ?aP (λ_ hk=>hk.elim) ?aF ?aO ?aB ?aS ?aL ?_;(case aP=>exact Er _ _ _ (⟨t368,t369,t370,t371,t372,t373,t374,t375,t376,t377,t378⟩:CU));(case aB=>exact xb);(case aF=>exact (λk_ hk=>Kd.Ep (g:=gb380) (o:= .cells #[.string t368, .string t369, .string t370, .string t371, .int .i64 t372, .int .i64 t373, .int .i64 t374, .bool t375, .bool t376, .bool t377, .int .i64 t378] 53 (0,0)) xk k_ hk));(case aO=>exact (by (with_reducible repeat (first|apply Kd.Bd|apply Kd.Be|apply Kd.Bl));exact Kd.CQ (Kd.CY (p:=⟨gb380,10,none⟩) (Kd.CY (p:=⟨gb380,9,none⟩) (Kd.CY (p:=⟨gb380,8,none⟩) (Kd.CY (p:=⟨gb380,7,none⟩) (Kd.CY (p:=⟨gb380,6,none⟩) (Kd.CY (p:=⟨gb380,5,none⟩) (Kd.CY (p:=⟨gb380,4,none⟩) (Kd.CY (p:=⟨gb380,3,none⟩) (Kd.CY (p:=⟨gb380,2,none⟩) (Kd.CY (p:=⟨gb380,1,none⟩) (Kd.CY (p:=⟨gb380,0,none⟩) (Kd.CQ HO_8.out (λk_ hk=>(⟨hk,hk.2⟩:_/\k_≠gb380))) (λ_ hk=>hk.2) (.string t368)) (λ_ hk=>hk.2) (.string t369)) (λ_ hk=>hk.2) (.string t370)) (λ_ hk=>hk.2) (.string t371)) (λ_ hk=>hk.2) (.int .i64 t372)) (λ_ hk=>hk.2) (.int .i64 t373)) (λ_ hk=>hk.2) (.int .i64 t374)) (λ_ hk=>hk.2) (.bool t375)) (λ_ hk=>hk.2) (.bool t376)) (λ_ hk=>hk.2) (.bool t377)) (λ_ hk=>hk.2) (.int .i64 t378)) (λ_ hk=>hk.1.2)));(case aS=>exact (BF xb));(case aL=>have:=LMc7.out;omega);intro v382 w11 ho hb hg hat;rw [<-Ny381.out] at ho;have n0_:=AA.mk (EY (g:=gb380) (o:= .cells #[.string t368, .string t369, .string t370, .string t371, .int .i64 t372, .int .i64 t373, .int .i64 t374, .bool t375, .bool t376, .bool t377, .int .i64 t378] 53 (0,0)) xk hg (Kd.Jk HO_8.out (λ_ hk=>hk.2)));have n1_:=AA.mk (hb);have n2_:=AA.mk (ho);clear BK380;clear HB;clear HO_8;have BK380:=n0_;have HB:=n1_;have HO383:=n2_;clear n0_ n1_ n2_;clear ho hb hg hat));go_roundg k1;case measure=>have:=HK1.out;omega
      case rel=>exact ⟨(y381),(wrap64 (x9_1+1)),xq,H',⟨by have:=HK1.out;omega⟩,⟨by (with_reducible repeat (first|apply Kd.Bd|apply Kd.Be|apply Kd.Bl));exact Kd.CQ HO383.out (λ_ hk=>trivial)⟩,⟨xb⟩⟩
     ·rw [if_neg c7] at H;exact absurd H (by simp)
    ·rw [if_neg c5] at H;exact absurd H (by simp)
   ·rw [if_neg c4] at H;have c4b0:decide (x9_1<(l2.length:Int))=false:=decide_eq_false c4;clear c4;replace H:=Option.bind_eq_some_iff.mp H;obtain ⟨t384,A120,H⟩:=H;replace H:(if t384=true then (some (x8_1,true)) else (some (([]:List (CU)),false)))=some (r1,r2):=H;have A12:=AA.mk A120;clear A120;by_cases c13:t384=true
    ·subst c13;rw [if_pos rfl] at H;simp only [Option.some.injEq,Prod.mk.injEq] at H;obtain ⟨rfl,rfl⟩:=H;go_wp2_with (first|((with_reducible refine AO (f:=32) rfl ?_);refine Ak (some 34) rfl rfl Tryz.func32 (by kernel_rfl) rfl #[.int .i64 a0, .int .i64 a1] rfl xg ?_;(with_reducible refine (XX.calls a0 a1 true _ A12.out).mono ?_);rintro e w' ⟨rfl,⟨nd,rfl⟩⟩;refine ⟨_,rfl,?_⟩));go_ret2;exact ⟨_,xe,by (with_reducible repeat (first|apply Kd.Bd|apply Kd.Be|apply Kd.Bl));exact HO_8.out,xb⟩
    ·replace c13:=Bool.eq_false_iff.mpr c13;subst c13;have H1:(some (([]:List (CU)),false))=some (r1,r2):=by rw [if_neg (show ¬(false=true) by decide)] at H;exact H
     clear H;have H:=H1;clear H1;simp only [Option.some.injEq,Prod.mk.injEq] at H;obtain ⟨rfl,rfl⟩:=H;go_wp2_with (first|((with_reducible refine AO (f:=32) rfl ?_);refine Ak (some 34) rfl rfl Tryz.func32 (by kernel_rfl) rfl #[.int .i64 a0, .int .i64 a1] rfl xg ?_;(with_reducible refine (XX.calls a0 a1 false _ A12.out).mono ?_);rintro e w' ⟨rfl,⟨nd,rfl⟩⟩;refine ⟨_,rfl,?_⟩));go_ret2;exact ⟨_,xe,by first|exact Kd.Eu _ _ _ _ _|exact Kd.F6 _ _ _ _ _|exact Kd.F7 _ _ _ _ _|exact Kd.F3 _ _ _ _ _|exact Kd.F5 _ _ _ _ _,xb⟩
end Go.Proofs.YtikggnalmidlhaaGreatDoor.Print
end
section
namespace Go.Proofs.YtikggnalmidlhaaGreatDoor.Print
open RowKit AR Aa Ad
attribute [local go_sem] BM BN Bo Bp BC BD BO BP
set_option linter.unusedVariables false
set_option linter.unusedSimpArgs false
def YU.l0:Nat->Int->ByteArray->Bool->ByteArray->List ByteArray->Int->Int->Option (Bool)
 |0,_,_,_,_,_,_,_=>none
 |k+1,x1,x6,x7,x8,x26,x27,x28=>if x28<x27 then (if 0<=x28 then (if x28<(x26.length:Int) then (if (Cf ByteArray.empty x26 x28).size+2<=9223372036854775807 then (if x8.size+((Cf ByteArray.empty x26 x28)++(⟨#[13,10]⟩:ByteArray)).size<=9223372036854775807 then (YU.l0 k x1 x6 x7 (x8++((Cf ByteArray.empty x26 x28)++(⟨#[13,10]⟩:ByteArray))) x26 x27 (wrap64 (x28+1))) else (none)) else (none)) else (none)) else (none)) else (if x7=true then ((CV.f k x6 x1).bind λbt500=>((CV.f k x8 x1).bind λbt504=>((Bi.f k).bind λt508=>(if t508=true then ((Bf.f k bt500.1 bt504.1).bind λt509=>(if t509=true then (some (bt500.2==bt504.2)) else (some false))) else (some false))))) else ((Bi.f k).bind λt499=>(some t499)))
def YU.f (k:Nat) (a0:ByteArray) (a1:Int):Option (Bool):=if (a0.size:Int)>1000 then ((Bi.f k).bind λt492=>(some t492)) else ((Vb.f k a0).bind λt493=>((YF.f k t493).bind λbt496=>(YU.l0 k a1 bt496.1 bt496.2 (⟨#[]⟩:ByteArray) t493 (t493.length:Int) 0)))
set_option maxHeartbeats 8000000 in
set_option maxRecDepth 100000 in
theorem YU.calls (k:Nat) (a0:ByteArray) (a1:Int) (r:Bool) (w:World) (hG:AA (Ck w)) (hT_:AA (r=true)) (h:YU.f k a0 a1=some r):
 Calls Tryz.prog 7 #[.string a0, .int .i64 a1] w λe w'=>e= .returned (.bool r)/\Below w.heap.size w w':=by
 have HB:=AA.mk (Below.refl w.heap.size w);have H:(if (a0.size:Int)>1000 then ((Bi.f k).bind λt492=>(some t492)) else ((Vb.f k a0).bind λt493=>((YF.f k t493).bind λbt496=>(YU.l0 k a1 bt496.1 bt496.2 (⟨#[]⟩:ByteArray) t493 (t493.length:Int) 0))))=some r:=h;clear h;by_cases c3:(a0.size:Int)>1000
 ·rw [if_pos c3] at H;have c3b0:decide (1000<(a0.size:Int))=true:=decide_eq_true c3;have c3b1:decide (1000<a0.size)=true:=decide_eq_true (by omega);clear c3;replace H:=Option.bind_eq_some_iff.mp H;obtain ⟨t492,A40,H⟩:=H;replace H:(some t492)=some r:=H;have A4:=AA.mk A40;clear A40;obtain rfl:=Option.some.inj H;go_enter Tryz.func7,Tryz.ntmps7;go_wp2_with (first|((with_reducible refine AO (f:=10) rfl ?_);refine Ak (some 18) rfl rfl Tryz.func10 (by kernel_rfl) rfl #[] rfl xg ?_;(with_reducible refine (Bi.calls k t492 _ xl ⟨by first|rfl|assumption|exact hT_.out⟩ A4.out).mono ?_);rintro e w5 ⟨rfl,hb⟩;refine ⟨_,rfl,?_⟩;replace HB:=AA.mk (AP xb hb);(try clear hb)));go_ret;exact ⟨xe,xb⟩
 ·rw [if_neg c3] at H;have c3b0:decide (1000<(a0.size:Int))=false:=decide_eq_false c3;have c3b1:decide (1000<a0.size)=false:=decide_eq_false (by omega);clear c3;replace H:=Option.bind_eq_some_iff.mp H;obtain ⟨t493,A60,H⟩:=H;replace H:((YF.f k t493).bind λbt496=>(YU.l0 k a1 bt496.1 bt496.2 (⟨#[]⟩:ByteArray) t493 (t493.length:Int) 0))=some r:=H;have A6:=AA.mk A60;clear A60;replace H:=Option.bind_eq_some_iff.mp H;obtain ⟨⟨t496,t497⟩,A70,H⟩:=H;try dsimp only at H
  have A7:=AA.mk A70;clear A70;have H':=AA.mk H;clear H;go_enter Tryz.func7,Tryz.ntmps7;go_wp2_with (first|((with_reducible refine AO (f:=18) rfl ?_);refine Ak (some 20) rfl rfl Tryz.func18 (by kernel_rfl) rfl #[.string a0] rfl xg ?_;(with_reducible refine (Vb.calls k a0 t493 _ A6.out).mono ?_);rintro e w8 ⟨v494,rfl,ho0,hb⟩;refine ⟨_,rfl,?_⟩;have HO495:=AA.mk (Kd.Cm ho0 (BF xb));replace HB:=AA.mk (AP xb hb);(try clear hb);(try clear ho0);obtain ⟨Ao9,co9,eo9⟩:=Kd.CE HO495.out;subst eo9)|((with_reducible refine AO (f:=19) rfl ?_);refine Ak (some 23) rfl rfl Tryz.func19 (by kernel_rfl) rfl #[.slice Ao9 t493.length co9] rfl xg ?_;(with_reducible refine (YF.calls k _ _ t493 t496 t497 _ ?side1 ?side2 A7.out).mono ?_);(case side1=>repeat (first|exact (Kd.BH HO495.out).2.2|(with_reducible refine Kd.CZ ?_ _)|(with_reducible refine Kd.Cb ?_ _)|(with_reducible refine Kd.Cs ?_)));(case side2=>exact (Kd.BH HO495.out).2.1);rintro e w' ⟨rfl,⟨nd,rfl⟩⟩;refine ⟨_,rfl,?_⟩));go_loopg [8,28] k (λkq v8 v28 w'=>∃ (x8_1:ByteArray) (x28_1:Int),v8= .string x8_1/\v28= .int .i64 x28_1/\AA (YU.l0 kq a1 t496 t497 x8_1 t493 (t493.length:Int) x28_1=some r)/\AA (kq<=k)/\AA (Kd.R Kd.string 9 w' w.heap.size (λ_=>True) (.slice Ao9 t493.length co9) t493)/\AA (Below w.heap.size w w'));case atStart=>exact ⟨((⟨#[]⟩:ByteArray)),(0),xq,xq,H',⟨Nat.le_refl _⟩,⟨by (with_reducible repeat (first|apply Kd.Bd|apply Kd.Be|apply Kd.Bl));exact HO495.out⟩,⟨xb⟩⟩
  case round=>
   clear H';try clear c1
   try clear p2
   try clear c3
   try clear c3b0
   try clear c3b1
   try clear p3
   try clear p6
   try clear c7
   obtain ⟨x8_1,x28_1,rfl,rfl,HA,HK1,HO_26,HB⟩:=hrel;cases gk with
   |zero=>exact absurd HA.out (by simp [YU.l0])
   |succ k1=>
    have H:=HA.out;clear HA;simp only [YU.l0] at H;by_cases c10:x28_1<(t493.length:Int)
    ·rw [if_pos c10] at H;have c10b0:decide (x28_1<(t493.length:Int))=true:=decide_eq_true c10;clear c10;by_cases c11:0<=x28_1
     ·rw [if_pos c11] at H;have c11b0:decide (0<=x28_1)=true:=decide_eq_true c11;clear c11;by_cases c12:x28_1<(t493.length:Int)
      ·rw [if_pos c12] at H;have c12b0:decide (x28_1<(t493.length:Int))=true:=decide_eq_true c12;clear c12;by_cases c13:(Cf ByteArray.empty t493 x28_1).size+2<=9223372036854775807
       ·rw [if_pos c13] at H;have c13b0:=eq_true c13;have c13b1:decide ((Cf ByteArray.empty t493 x28_1).size+2<=9223372036854775807)=true:=decide_eq_true c13;try have c13b2:(9223372036854775807<(Cf ByteArray.empty t493 x28_1).size+2)=False:=eq_false (Nat.not_lt.2 c13)
        by_cases c14:x8_1.size+((Cf ByteArray.empty t493 x28_1)++(⟨#[13,10]⟩:ByteArray)).size<=9223372036854775807
        ·rw [if_pos c14] at H;have c14b0:=eq_true c14;have c14b1:decide (x8_1.size+((Cf ByteArray.empty t493 x28_1)++(⟨#[13,10]⟩:ByteArray)).size<=9223372036854775807)=true:=decide_eq_true c14;try have c14b2:(9223372036854775807<x8_1.size+((Cf ByteArray.empty t493 x28_1)++(⟨#[13,10]⟩:ByteArray)).size)=False:=eq_false (Nat.not_lt.2 c14)
         try (have c14b3:=c14b2;simp only [ByteArray.size_append,JG,List.size_toArray,List.length_cons,List.length_nil,Nat.reduceAdd] at c14b3)
         have H':=AA.mk H;clear H;have p498:0<=(x28_1:Int):=xa;have q498:x28_1<(t493.length:Int):=xa;obtain ⟨ad498,e498,hx498_0⟩:=Kd.DF (Kd.BH HO_26.out).2.2 x28_1 p498 q498;cases e498;replace p498:=eq_true p498;replace q498:=eq_true q498;go_wp2;go_roundg k1;case measure=>have:=HK1.out;omega
         case rel=>exact ⟨(x8_1++((Cf ByteArray.empty t493 x28_1)++(⟨#[13,10]⟩:ByteArray))),(wrap64 (x28_1+1)),xq,xq,H',⟨by have:=HK1.out;omega⟩,⟨by (with_reducible repeat (first|apply Kd.Bd|apply Kd.Be|apply Kd.Bl));exact HO_26.out⟩,⟨xb⟩⟩
        ·rw [if_neg c14] at H;exact absurd H (by simp)
       ·rw [if_neg c13] at H;exact absurd H (by simp)
      ·rw [if_neg c12] at H;exact absurd H (by simp)
     ·rw [if_neg c11] at H;exact absurd H (by simp)
    ·rw [if_neg c10] at H;have c10b0:decide (x28_1<(t493.length:Int))=false:=decide_eq_false c10;clear c10;by_cases c15:t497=true
     ·subst c15;have H1:((CV.f k1 t496 a1).bind λbt500=>((CV.f k1 x8_1 a1).bind λbt504=>((Bi.f k1).bind λt508=>(if t508=true then ((Bf.f k1 bt500.1 bt504.1).bind λt509=>(if t509=true then (some (bt500.2==bt504.2)) else (some false))) else (some false)))))=some r:=by rw [if_pos rfl] at H;exact H
      clear H;have H:=H1;clear H1;replace H:=Option.bind_eq_some_iff.mp H;obtain ⟨⟨t500,t501⟩,A160,H⟩:=H;replace H:((CV.f k1 x8_1 a1).bind λbt504=>((Bi.f k1).bind λt508=>(if t508=true then ((Bf.f k1 t500 bt504.1).bind λt509=>(if t509=true then (some (t501==bt504.2)) else (some false))) else (some false))))=some r:=H;have A16:=AA.mk A160;clear A160;replace H:=Option.bind_eq_some_iff.mp H;obtain ⟨⟨t504,t505⟩,A170,H⟩:=H;try dsimp only at H
      have A17:=AA.mk A170;clear A170;replace H:=Option.bind_eq_some_iff.mp H;obtain ⟨t508,A180,H⟩:=H;try dsimp only at H
      have A18:=AA.mk A180;clear A180;by_cases c19:t508=true
      ·subst c19;rw [if_pos rfl] at H;replace H:=Option.bind_eq_some_iff.mp H;obtain ⟨t509,A200,H⟩:=H;try dsimp only at H
       have A20:=AA.mk A200;clear A200;by_cases c21:t509=true
       ·subst c21;rw [if_pos rfl] at H;obtain rfl:=Option.some.inj H;go_wp2_with (first|((with_reducible refine AO (f:=13) rfl ?_);refine Ak (some 43) rfl rfl Tryz.func13 (by kernel_rfl) rfl #[.string t496, .int .i64 a1] rfl xg ?_;(with_reducible refine (CV.calls k1 t496 a1 t500 t501 _ xl A16.out).mono ?_);rintro e w22 ⟨v502,rfl,ho0,hb⟩;refine ⟨_,rfl,?_⟩;replace HO_26:=AA.mk (Kd.BX (xR HO_26) hb);have HO503:=AA.mk (Kd.Cm ho0 (BF xb));replace HB:=AA.mk (AP xb hb);(try clear hb);(try clear ho0))|((with_reducible refine AO (f:=13) rfl ?_);refine Ak (some 49) rfl rfl Tryz.func13 (by kernel_rfl) rfl #[.string x8_1, .int .i64 a1] rfl xg ?_;(with_reducible refine (CV.calls k1 x8_1 a1 t504 t505 _ xl A17.out).mono ?_);rintro e w23 ⟨v506,rfl,ho0,hb⟩;refine ⟨_,rfl,?_⟩;replace HO_26:=AA.mk (Kd.BX (xR HO_26) hb);have HO507:=AA.mk (Kd.Cm (Kd.QV ho0 (Kd.MZ (xR HO503))) (BF xb));replace HO503:=AA.mk (Kd.Ma (xR HO503) (Kd.D6 ho0) hb);replace HB:=AA.mk (AP xb hb);(try clear hb);(try clear ho0))|((with_reducible refine AO (f:=10) rfl ?_);refine Ak (some 52) rfl rfl Tryz.func10 (by kernel_rfl) rfl #[] rfl xg ?_;(with_reducible refine (Bi.calls k1 true _ xl ⟨by first|rfl|assumption|exact hT_.out⟩ A18.out).mono ?_);rintro e w24 ⟨rfl,hb⟩;refine ⟨_,rfl,?_⟩;replace HO_26:=AA.mk (Kd.BX (xR HO_26) hb);replace HO503:=AA.mk (Kd.BX (xR HO503) hb);replace HO507:=AA.mk (Kd.BX (xR HO507) hb);replace HB:=AA.mk (AP xb hb);(try clear hb);obtain ⟨Ao25,co25,eo25⟩:=Kd.CE HO503.out;subst eo25;obtain ⟨Ao26,co26,eo26⟩:=Kd.CE HO507.out;subst eo26)|(go_at_call 15;(with_reducible refine (Bf.calls k1 _ _ t500 _ _ t504 true _ ?side1 ?side2 ?side3 ?side4 A20.out).mono ?_);(case side1=>repeat (first|exact (Kd.BH HO503.out).2.2|(with_reducible refine Kd.CZ ?_ _)|(with_reducible refine Kd.Cb ?_ _)|(with_reducible refine Kd.Cs ?_)));(case side2=>exact (Kd.BH HO503.out).2.1);(case side3=>repeat (first|exact (Kd.BH HO507.out).2.2|(with_reducible refine Kd.CZ ?_ _)|(with_reducible refine Kd.Cb ?_ _)|(with_reducible refine Kd.Cs ?_)));(case side4=>exact (Kd.BH HO507.out).2.1);rintro e w' ⟨rfl,⟨nd,rfl⟩⟩));go_ret;exact ⟨xe,xb⟩
       ·replace c21:=Bool.eq_false_iff.mpr c21;subst c21;have H1:(some false)=some r:=by rw [if_neg (show ¬(false=true) by decide)] at H;exact H
        clear H;have H:=H1;clear H1;obtain rfl:=Option.some.inj H;exact absurd hT_.out (by decide)
      ·replace c19:=Bool.eq_false_iff.mpr c19;subst c19;have H1:(some false)=some r:=by rw [if_neg (show ¬(false=true) by decide)] at H;exact H
       clear H;have H:=H1;clear H1;obtain rfl:=Option.some.inj H;exact absurd hT_.out (by decide)
     ·replace c15:=Bool.eq_false_iff.mpr c15;subst c15;have H1:((Bi.f k1).bind λt499=>(some t499))=some r:=by rw [if_neg (show ¬(false=true) by decide)] at H;exact H
      clear H;have H:=H1;clear H1;replace H:=Option.bind_eq_some_iff.mp H;obtain ⟨t499,A270,H⟩:=H;replace H:(some t499)=some r:=H;have A27:=AA.mk A270;clear A270;obtain rfl:=Option.some.inj H;go_wp2_with (first|((with_reducible refine AO (f:=10) rfl ?_);refine Ak (some 39) rfl rfl Tryz.func10 (by kernel_rfl) rfl #[] rfl xg ?_;(with_reducible refine (Bi.calls k1 t499 _ xl ⟨by first|rfl|assumption|exact hT_.out⟩ A27.out).mono ?_);rintro e w28 ⟨rfl,hb⟩;refine ⟨_,rfl,?_⟩;replace HO_26:=AA.mk (Kd.BX (xR HO_26) hb);replace HB:=AA.mk (AP xb hb);(try clear hb)));go_ret;exact ⟨xe,xb⟩
def YU.Pure:Prop:=∀ (a0:ByteArray) (a1:Int),a0.size<=140737488351232->(Lit.int .i64 a1).wf=true->∃ k,YU.f k a0 a1=some true
theorem YU.walk (P:YU.Pure) (a0:ByteArray) (a1:Int) (w:World) (w0:a0.size<=140737488351232) (w1:(Lit.int .i64 a1).wf=true) (hG:AA (Ck w)):
 Calls Tryz.prog 7 #[.string a0, .int .i64 a1] w λe w'=>e= .returned (.bool true)/\Below w.heap.size w w':=by
 obtain ⟨k,h⟩:=P a0 a1 w0 w1;refine (YU.calls k a0 a1 true w hG ⟨rfl⟩ h).mono ?_;rintro e w' ⟨rfl,hd⟩;exact ⟨rfl,hd⟩
end Go.Proofs.YtikggnalmidlhaaGreatDoor.Print
end
