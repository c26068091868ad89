/- How many there are of a domain, and whether too many: the program's count along rows that rise is the document's. -/
import Derived.Test.YtikggnalmidlhaaGreatDoorPrint40
import Derived.Test.YtikggnalmidlhaaGreatDoorYcookieR
import Derived.Test.YtikggnalmidlhaaGreatDoorYtabC
section
namespace Go.Proofs.YtikggnalmidlhaaGreatDoor.Y
open RowKit Print AR Aa Ad
set_option linter.unusedVariables false
set_option linter.unusedSimpArgs false
def kC (x:SC):GD:=⟨x.f0,x.f1,x.f2⟩
def TN (x:SC):Prop:=x.f0.size<=9223372036854775807/\x.f1.size<=9223372036854775807/\x.f2.size<=9223372036854775807/\x.f3.size<=9223372036854775807
theorem Pq {m:List SC} {j:Nat} (h:j<m.length):AB m (j:Int)=m[j]:=by
 unfold AB;rw [Int.toNat_natCast,List.getD_eq_getElem?_getD,List.getElem?_eq_getElem h];rfl
theorem GY {j:Nat} (h:j<=1000000):wrap64 ((j:Int)+1)=((j+1:Nat):Int):=by unfold wrap64;omega
theorem Qs {x y:SC} (hx:TN x) (hy:TN y):Ev (λk=>CO.f k x.f0 x.f1 x.f2 y.f0 y.f1 y.f2) (GG (kC x) (kC y)):=
 BG (Mk hx.1 hx.2.1 hx.2.2.1 hy.1 hy.2.1 hy.2.2.1) (J6 _ _ _ _ _ _).symm
theorem U0 (x:SC) (a:GD):(x.f0.toList==a.f0.toList&&(x.f1.toList==a.f1.toList&&(x.f2.toList==a.f2.toList)))=true↔kC x=a:=by
 obtain ⟨a0,a1,a2⟩:=a;simp only [Bool.and_eq_true,beq_iff_eq,toList_inj,kC,Ic.mk.injEq]
theorem TP (x:SC) (a:GD):(!(x.f0.toList==a.f0.toList)||(!(x.f1.toList==a.f1.toList)||(!(x.f2.toList==a.f2.toList))))=true↔kC x≠a:=by
 refine Iff.trans ?_ (not_congr (U0 x a));cases x.f0.toList==a.f0.toList<;>cases x.f1.toList==a.f1.toList<;>cases x.f2.toList==a.f2.toList<;>decide
theorem SX (m:List SC) (a:GD) (hb:m.length<=10000):∀ n j (acc:List SC),m.length - j=n->j<=m.length->acc.length<=j->
 Ev (λk=>BJ.l0 k m acc (j:Int) a.f0 a.f1 a.f2) (acc++(m.drop j).filter λx=>decide (kC x≠a)):=by
 intro n;induction n with
 |zero=>
  intro j acc hn hj ha;obtain rfl:j=m.length:=by omega
  rw [List.drop_length];refine BB ?_;simp only [BJ.l0];exact Ah (by omega) (BG (Am _) (by simp))
 |succ n ih=>
  intro j acc hn hj ha;have hlt:j<m.length:=by omega
  rw [List.drop_eq_getElem_cons hlt];refine BB ?_;simp only [BJ.l0,Bc.f,Option.bind_some];rw [Pq hlt,GY (by omega)];refine AU (by omega) (AU (by omega) ?_);by_cases h:kC m[j]=a
  ·rw [List.filter_cons_of_neg (by simpa using h)];exact Ah (λh1=>(TP _ _).1 h1 h) (ih (j+1) acc (by omega) (by omega) (by omega))
  ·rw [List.filter_cons_of_pos (by simpa using h)];refine AU ((TP _ _).2 h) (AU (by omega) ?_);exact BG (ih (j+1) (acc++[m[j]]) (by omega) (by omega) (by simp;omega)) (by simp)
theorem Qt {m:List SC} (a:GD) (h:Di Cq kC m) (hb:m.length<=1000):Ev (λk=>BJ.f k m a.f0 a.f1 a.f2) (Lx Cq kC a m):=by
 refine BG (SX m a (by omega) _ 0 [] rfl (Nat.zero_le _) (Nat.le_refl _)) ?_;rw [List.nil_append,List.drop_zero];refine K8 (Em h _) (K7 h) λx=>?_
 rw [Gr,List.mem_filter];simp
theorem UN (m:List SC) (c:SC) (hb:m.length<=10000):∀ n j (acc:List SC),m.length - j=n->j<=m.length->acc.length<=j+1->
 Ev (λk=>AY.l0 k m acc true (j:Int) c.f0 c.f1 c.f2 c.f3 c.f4 c.f5 c.f6 c.f7 c.f8 c.f9 c.f10) (acc++m.drop j):=by
 intro n;induction n with
 |zero=>
  intro j acc hn hj ha;obtain rfl:j=m.length:=by omega
  rw [List.drop_length];refine BB ?_;simp only [AY.l0];exact Ah (by omega) (AU trivial (BG (Am _) (by simp)))
 |succ n ih=>
  intro j acc hn hj ha;have hlt:j<m.length:=by omega
  rw [List.drop_eq_getElem_cons hlt];refine BB ?_;simp only [AY.l0];rw [Pq hlt,GY (by omega)];refine AU (by omega) (AU trivial (AU (by omega) (AU (by omega) ?_)));exact BG (ih (j+1) (acc++[m[j]]) (by omega) (by omega) (by simp;omega)) (by simp)
theorem UO (m:List SC) (c:SC) (hb:m.length<=10000) (hc:TN c) (hm:∀ x∈m,TN x) (hne:∀ x∈m,kC x≠kC c) (hr:Di Cq kC m):∀ n j (acc:List SC),m.length - j=n->j<=m.length->acc.length<=j->
 Ev (λk=>AY.l0 k m acc false (j:Int) c.f0 c.f1 c.f2 c.f3 c.f4 c.f5 c.f6 c.f7 c.f8 c.f9 c.f10) (acc++GR Cq kC (kC c) c (m.drop j)):=by
 intro n;induction n with
 |zero=>
  intro j acc hn hj ha;obtain rfl:j=m.length:=by omega
  rw [List.drop_length];refine BB ?_;simp only [AY.l0];exact Ah (by omega) (Ah (by decide) (AU (by omega) (BG (Am _) (by simp [GR,Dn,En]))))
 |succ n ih=>
  intro j acc hn hj ha;have hlt:j<m.length:=by omega
  have hd:Di Cq kC (m.drop j):=List.Pairwise.sublist (List.drop_sublist _ _) hr;rw [List.drop_eq_getElem_cons hlt] at hd⊢
  obtain ⟨hx,_⟩:=List.pairwise_cons.1 hd;refine BB ?_;simp only [AY.l0,Bc.f,Option.bind_some];rw [Pq hlt,GY (by omega)];refine AU (by omega) (Ah (by decide) (AU (by omega) ?_));refine BL (Qs (x:=c) (y:=m[j]) hc (hm _ (List.getElem_mem hlt))) ?_;by_cases h:GG (kC c) (kC m[j])<0
  ·refine AU h (AU (by omega) (AU (by simp;omega) ?_));have hall:∀ y∈m[j]::m.drop (j+1),Cq.lt (kC c) (kC y):=λy hy=>by
    rcases List.mem_cons.1 hy with rfl|hy
    ·exact h
    ·exact Cq.tr h (hx y hy)
   refine BG (UN m c hb _ (j+1) (acc++[c]++[m[j]]) rfl (by omega) (by simp;omega)) ?_;unfold GR;rw [KA hall,KC hall];simp
  ·refine Ah h (AU (by omega) ?_);have h2:Cq.lt (kC m[j]) (kC c):=by
    rcases Cq.tot (kC m[j]) (kC c) with h3|h3|h3
    ·exact h3
    ·exact absurd h3 (hne m[j] (List.getElem_mem hlt))
    ·exact absurd h3 h
   refine BG (ih (j+1) (acc++[m[j]]) (by omega) (by omega) (by simp;omega)) ?_;unfold GR;rw [IP h2,Fs (λh3=>h h3)];simp
theorem SY {m:List SC} (c:SC) (h:Di Cq kC m) (hb:m.length<=1000) (hc:TN c) (hm:∀ x∈m,TN x):Ev (λk=>AY.f k m c.f0 c.f1 c.f2 c.f3 c.f4 c.f5 c.f6 c.f7 c.f8 c.f9 c.f10) (GR Cq kC (kC c) c m):=by
 unfold AY.f;simp only [Bc.f,Option.bind_some];refine BL (Qt (kC c) h hb) ?_;have hl:=Ox (kC c) h;have hr:=K7 (k:=kC c) h;refine BG (UO (Lx Cq kC (kC c) m) c (by omega) hc (λx hx=>hm x (Gr.1 hx).1) (λx hx=>(Gr.1 hx).2) hr _ 0 [] rfl (Nat.zero_le _) (Nat.le_refl _)) ?_;rw [List.nil_append,List.drop_zero];refine K8 (FO hr rfl) (FO h rfl) λx=>?_
 rw [J9,J9,Gr];constructor
 ·rintro (h1|⟨⟨h1,_⟩,h2⟩)
  ·exact .inl h1
  ·exact .inr ⟨h1,h2⟩
 ·rintro (h1|⟨h1,h2⟩)
  ·exact .inl h1
  ·exact .inr ⟨⟨h1,h2⟩,h2⟩
end Go.Proofs.YtikggnalmidlhaaGreatDoor.Y
end
section
namespace Go.Proofs.YtikggnalmidlhaaGreatDoor.Y
open RowKit Print AR Aa Ad
set_option linter.unusedVariables false
set_option linter.unusedSimpArgs false
def Jy (d:ByteArray) (m:List SC):Nat:=(m.filter λx=>decide (x.f0=d)).length
def JA (m:List SC):Bool:=m.any (λx=>decide (12<Jy x.f0 m))||decide (60<m.length)
theorem Gp (d:ByteArray) (x:SC) (m:List SC):Jy d (x::m)=(if x.f0=d then 1 else 0)+Jy d m:=by
 unfold Jy;by_cases h:x.f0=d
 ·rw [List.filter_cons_of_pos (by simpa using h),if_pos h,List.length_cons];omega
 ·rw [List.filter_cons_of_neg (by simpa using h),if_neg h];omega
theorem Ql (m:List SC) (d:ByteArray) (hb:m.length<=10000):∀ n j (c:Nat),m.length - j=n->j<=m.length->c<=j->
 Ev (λk=>BU.l0 k m d (c:Int) (j:Int)) ((c+Jy d (m.drop j):Nat):Int):=by
 intro n;induction n with
 |zero=>
  intro j c hn hj hc;obtain rfl:j=m.length:=by omega
  rw [List.drop_length];refine BB ?_;simp only [BU.l0];exact Ah (by omega) (Am _)
 |succ n ih=>
  intro j c hn hj hc;have hlt:j<m.length:=by omega
  rw [List.drop_eq_getElem_cons hlt,Gp];refine BB ?_;simp only [BU.l0];rw [Pq hlt,GY (by omega),GY (by omega)];refine AU (by omega) (AU (by omega) ?_);by_cases h:m[j].f0=d
  ·rw [if_pos h];exact AU (toList_inj.2 h) (BG (ih (j+1) (c+1) (by omega) (by omega) (by omega)) (by omega))
  ·rw [if_neg h];exact Ah (λe=>h (toList_inj.1 e)) (BG (ih (j+1) c (by omega) (by omega) (by omega)) (by omega))
theorem PX {m:List SC} (d:ByteArray) (hb:m.length<=1000):Ev (λk=>BU.f k m d) (Jy d m:Int):=
 BG (Ql m d (by omega) _ 0 0 rfl (Nat.zero_le _) (Nat.le_refl _)) (by simp)
theorem SG (m:List SC) (hb:m.length<=1000):∀ n j,m.length - j=n->j<=m.length->
 Ev (λk=>Bg.l0 k m (j:Int)) ((m.drop j).any (λx=>decide (12<Jy x.f0 m))||decide (60<m.length)):=by
 intro n;induction n with
 |zero=>
  intro j hn hj;obtain rfl:j=m.length:=by omega
  rw [List.drop_length];refine BB ?_;simp only [Bg.l0];refine Ah (by omega) (BG (Am _) ?_);rw [List.any_nil,Bool.false_or];exact decide_eq_decide.2 (by omega)
 |succ n ih=>
  intro j hn hj;have hlt:j<m.length:=by omega
  rw [List.drop_eq_getElem_cons hlt,List.any_cons];refine BB ?_;simp only [Bg.l0];rw [Pq hlt,GY (by omega)];refine AU (by omega) (AU (by omega) (BL (PX _ hb) ?_));by_cases h:12<Jy m[j].f0 m
  ·exact AU (by omega) (BG (Am _) (by rw [decide_eq_true h];rfl))
  ·exact Ah (by omega) (BG (ih (j+1) (by omega) (by omega)) (by rw [decide_eq_false h,Bool.false_or]))
theorem Qm {m:List SC} (hb:m.length<=1000):Ev (λk=>Bg.f k m) (JA m):=
 SG m hb _ 0 rfl (Nat.zero_le _)
theorem Om:∀ (m:List SC) (o:Nat) (d:ByteArray),Di Cq kC m->(∀ x∈m,Fv d x.f0<=0)->o<=12->
 (Ey (m.map (·.f0)) (o:Int) d=true↔∃ x∈m,12<Jy x.f0 m+if x.f0=d then o else 0)
 |[],o,d,_,_,_=>by simp [Ey]
 |x::m,o,d,hr,hd,ho=>by
  obtain ⟨h1,h2⟩:=List.pairwise_cons.1 hr;have hx:∀ y∈m,Fv x.f0 y.f0<=0:=λy hy=>by
   have h3:GG (kC x) (kC y)<0:=h1 y hy;unfold GG at h3;rw [J6] at h3;unfold Ns KV at h3;by_cases h4:Fv x.f0 y.f0=0
   ·omega
   ·have h5:¬Fv (kC x).f0 (kC y).f0=0:=h4;rw [if_neg h5] at h3;have h6:Fv x.f0 y.f0<0:=h3;omega
  have hdx:=hd x List.mem_cons_self;obtain ⟨o',ho',hgo⟩:∃ o':Nat,o'=(if x.f0=d then o else 0)+1/\Ey ((x::m).map (·.f0)) (o:Int) d=(decide (12<o')||Ey (m.map (·.f0)) (o':Int) x.f0):=by
   refine ⟨_,rfl,?_⟩;rw [List.map_cons];show (if 12<(if x.f0=d then (o:Int) else 0)+1 then true else Ey _ ((if x.f0=d then (o:Int) else 0)+1) x.f0)=_;have hc:(if x.f0=d then (o:Int) else 0)+1=(((if x.f0=d then o else 0)+1:Nat):Int):=by split<;>omega
   rw [hc];generalize (if x.f0=d then o else 0)+1=q;by_cases h3:12<q
   ·rw [if_pos (by omega),decide_eq_true h3,Bool.true_or]
   ·rw [if_neg (by omega),decide_eq_false h3,Bool.false_or]
  rw [hgo,Bool.or_eq_true,decide_eq_true_iff];by_cases hbig:12<o'
  ·refine ⟨λ_=>⟨x,List.mem_cons_self,?_⟩,λ_=> .inl hbig⟩;rw [Gp,if_pos rfl];omega
  ·rw [Om m o' x.f0 h2 hx (by omega)];constructor
   ·rintro (h|⟨y,hy,h⟩)
    ·exact absurd h hbig
    ·by_cases e:y.f0=x.f0
     ·refine ⟨x,List.mem_cons_self,?_⟩;rw [Gp,if_pos rfl];rw [if_pos e,e] at h;omega
     ·refine ⟨y,List.mem_cons_of_mem _ hy,?_⟩;rw [if_neg e] at h;rw [Gp];omega
   ·rintro ⟨y,hy,h⟩;rw [Gp] at h;by_cases e:x.f0=y.f0
    ·rw [if_pos e] at h;rw [<-e] at h;refine .inr ?_;by_cases hm:∃ z∈m,z.f0=x.f0
     ·obtain ⟨z,hz,hz2⟩:=hm;refine ⟨z,hz,?_⟩;rw [if_pos hz2,hz2];omega
     ·have h0:Jy x.f0 m=0:=by
       unfold Jy;rw [List.length_eq_zero_iff,List.filter_eq_nil_iff];intro z hz hz2;exact hm ⟨z,hz,of_decide_eq_true hz2⟩
      omega
    ·rw [if_neg e] at h;have hy2:y∈m:=(List.mem_cons.1 hy).resolve_left λe2=>e (by rw [e2])
     have hyd:¬y.f0=d:=λe2=>by
      have h3:=hx y hy2;rw [e2] at h3;have h4:=GA.anti x.f0 d;exact e ((GA.same _ _).1 (by rw [e2];omega))
     rw [if_neg hyd] at h;exact .inr ⟨y,hy2,by omega⟩
def FC (c:SC):SK:=⟨kC c,c⟩
theorem UH {m:List SC} (h:Di Cq kC m) (hb:m.length<=1000):Ee.f (m.map FC)=some (JA m):=by
 unfold Ee.f;rw [if_pos (by rw [List.length_map];omega),List.length_map,List.map_map];congr 1;unfold JA;congr 1;have hg:=Om m 0 ⟨#[]⟩ h (λx _=>?_) (by omega)
 ·rw [Bool.eq_iff_iff,List.any_eq_true];refine hg.trans (exists_congr λx=>and_congr_right λ_=>?_);rw [decide_eq_true_iff];split<;>omega
 ·rw [Ip];rw [show bytesOf ⟨#[]⟩=[] from rfl];cases bytesOf x.f0 with
  |nil=>exact Int.le_refl 0
  |cons a l=>exact (by decide:(-1:Int)<=0)
end Go.Proofs.YtikggnalmidlhaaGreatDoor.Y
end
