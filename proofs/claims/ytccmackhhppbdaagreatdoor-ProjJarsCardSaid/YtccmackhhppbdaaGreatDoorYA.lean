/- Rows that rise by their keys: putting, dropping, merging, looking up; two such with the same members are the same. No program in sight. -/
import Derived.Test.YtccmackhhppbdaaGreatDoorWMore
import Derived.Laws.Strings
section
namespace Go.Proofs.YtccmackhhppbdaaGreatDoor.Y
set_option linter.unusedVariables false
set_option linter.unusedSimpArgs false
open RowKit Af BI BM
section
variable {α β:Type} {f g:Nat->Option α} {r:α} {c:Prop} [Decidable c]
theorem AU (hc:c) (h:Ev f r):Ev (λk=>if c then f k else g k) r:=by simpa only [if_pos hc] using h
theorem Ah (hc:¬c) (h:Ev g r):Ev (λk=>if c then f k else g k) r:=by simpa only [if_neg hc] using h
theorem Ao (r:α):Ev (λ_=>some r) r:=⟨0,λ_ _=>rfl⟩
theorem BH (h:Ev (λk=>g (k+1)) r):Ev g r:=by
 obtain ⟨K,h⟩:=h;refine ⟨K+1,λk hk=>?_⟩;obtain ⟨j,rfl⟩:∃ j,k=j+1:=⟨k - 1,by omega⟩;exact h j (by omega)
theorem BN {h:Nat->α->Option β} {q:β} (hg:Ev g r) (k:Ev (λn=>h n r) q):Ev (λn=>(g n).bind λx=>h n x) q:=Ev.bind hg k
theorem NC {r':α} (h:Ev g r) (h':Ev g r'):r=r':=by
 obtain ⟨K,h⟩:=h;obtain ⟨K',h'⟩:=h';have a:=h (K+K') (by omega);have b:=h' (K+K') (by omega);rw [a] at b;exact Option.some.inj b
theorem BL {r':α} (h:Ev g r) (e:r=r'):Ev g r':=e▸h
end
theorem FR (s:ByteArray):bytesOf s=s.data.toList.map λb=>(b.toNat:Int):=rfl
theorem EK {s:ByteArray} {c:Int} (h:c∈bytesOf s):0<=c/\c<256:=by
 rw [FR] at h;obtain ⟨b,_,rfl⟩:=List.mem_map.mp h;have:=b.toNat_lt;omega
theorem Kq {a b:List UInt8} (h:(a.map λx=>(x.toNat:Int))=b.map λx=>(x.toNat:Int)):a=b:=by
 induction a generalizing b with
 |nil=>cases b with
  |nil=>rfl
  |cons _ _=>simp at h
 |cons x a ih=>cases b with
  |nil=>simp at h
  |cons y b=>
   simp only [List.map_cons,List.cons.injEq] at h;have:x=y:=UInt8.toNat_inj.mp (by omega);rw [this,ih h.2]
theorem Dj {a b:ByteArray} (h:bytesOf a=bytesOf b):a=b:=by
 have h':=Kq (show a.data.toList.map _=b.data.toList.map _ from h);cases a;cases b;simp only at h';rw [ByteArray.mk.injEq];exact Array.toList_inj.mp h'
theorem toList_data (s:ByteArray):s.toList=s.data.toList:=ByteArray.toList_eq s
theorem toList_inj {a b:ByteArray}:a.toList=b.toList↔a=b:=by
 constructor
 ·intro h;rw [toList_data,toList_data] at h;cases a;cases b;rw [ByteArray.mk.injEq];exact Array.toList_inj.mp h
 ·rintro rfl;rfl
theorem D6 {a b:ByteArray}:a.toList=b.toList↔bytesOf a=bytesOf b:=⟨λh=>by rw [toList_inj.mp h],λh=>by rw [Dj h]⟩
theorem FT (a b:ByteArray):bytesOf (a++b)=bytesOf a++bytesOf b:=by
 simp [FR,ByteArray.data_append]
theorem DY {xs:List Int} (h:∀ x∈xs,0<=x/\x<256):bytesOf (strOfNums xs)=xs:=by
 rw [FR,strOfNums_data,List.map_map]
 conv=>rhs;rw [<-List.map_id xs]
 apply List.map_congr_left;intro x hx;have:=h x hx;simp only [Function.comp,id,UInt8.toNat_ofNat'];omega
theorem Ex (s:ByteArray) (a b:Nat):bytesOf (s.extract a b)=((bytesOf s).drop a).take (b - a):=by
 rw [FR,FR,ByteArray.data_extract,Array.toList_extract,List.extract_eq_take_drop,List.map_take,List.map_drop]
theorem JS:bytesOf (⟨#[]⟩:ByteArray)=[]:=rfl
theorem IU {s:ByteArray}:bytesOf s=[]↔s.size=0:=by
 rw [<-List.length_eq_zero_iff,bytesOf_length]
theorem QP (s:ByteArray) (i:Int):bt s i=(bytesOf s).getD i.toNat 0:=by rw [<-Io];rfl
theorem Fh (s:ByteArray) (i:Int):0<=bt s i/\bt s i<256:=by
 unfold bt;split
 ·have:=(s[i.toNat]'(by assumption)).toNat_lt;omega
 ·omega
theorem DK (s:ByteArray) {i:Nat} (h:i<=s.size):(i=s.size/\(bytesOf s).drop i=[])\/(i<s.size/\(bytesOf s).drop i=bt s i::(bytesOf s).drop (i+1)):=by
 have hl:=bytesOf_length s;rcases Nat.lt_or_ge i s.size with h1|h1
 ·right;refine ⟨h1,?_⟩;rw [List.drop_eq_getElem_cons (by omega)];congr 1;rw [QP,List.getD_eq_getElem?_getD,Int.toNat_natCast,List.getElem?_eq_getElem (by omega)];rfl
 ·left;exact ⟨by omega,List.drop_eq_nil_of_le (by omega)⟩
theorem JM {n:Int} (h: -9223372036854775808<=n) (h':n<=9223372036854775807):wrap64 n=n:=by unfold wrap64;omega
theorem wu64 (n:Int):IntKind.u64.wrap n=n%18446744073709551616:=by simp [IntKind.wrap,IntKind.bits,IntKind.signed]
theorem FU {n:Int} (h:0<=n) (h':n<=18446744073709551615):IntKind.u64.wrap n=n:=by rw [wu64];omega
end Go.Proofs.YtccmackhhppbdaaGreatDoor.Y
end
section
namespace Go.Proofs.YtccmackhhppbdaaGreatDoor.Y
set_option linter.unusedVariables false
set_option linter.unusedSimpArgs false
structure O6 (κ:Type) where
 lt:κ->κ->Prop
 dec:∀ a b,Decidable (lt a b)
 irr:∀ a,¬lt a a
 tr:∀ {a b c},lt a b->lt b c->lt a c
 tot:∀ a b,lt a b\/a=b\/lt b a
instance {κ:Type} (O:O6 κ) (a b:κ):Decidable (O.lt a b):=O.dec a b
section
variable {κ ρ:Type} (O:O6 κ) (key:ρ->κ)
theorem O6.Rf {a b:κ} (h:O.lt a b) (h':O.lt b a):False:=O.irr a (O.tr h h')
def Df (l:List ρ):Prop:=l.Pairwise λx y=>O.lt (key x) (key y)
def Dk (k:κ) (l:List ρ):List ρ:=l.filter λx=>decide (O.lt (key x) k)
def Ef (k:κ) (l:List ρ):List ρ:=l.filter λx=>decide (O.lt k (key x))
def atR (k:κ) (l:List ρ):List ρ:=l.filter λx=> !decide (O.lt (key x) k)&& !decide (O.lt k (key x))
def KU (k:κ) (l:List ρ):List ρ:=Dk O key k l++Ef O key k l
def F6 (k:κ) (y:ρ) (l:List ρ):List ρ:=Dk O key k l++y::Ef O key k l
variable {O key}
theorem O6.Rh {a b:κ} (h:¬O.lt a b) (h':¬O.lt b a):a=b:=by
 rcases O.tot a b with h1|h1|h1
 ·exact absurd h1 h
 ·exact h1
 ·exact absurd h1 h'
theorem Gj {k:κ} {l:List ρ} {x:ρ}:x∈Dk O key k l↔x∈l/\O.lt (key x) k:=by simp [Dk]
theorem FI {k:κ} {l:List ρ} {x:ρ}:x∈Ef O key k l↔x∈l/\O.lt k (key x):=by simp [Ef]
theorem QB {k:κ} {l:List ρ} {x:ρ}:x∈atR O key k l↔x∈l/\key x=k:=by
 simp only [atR,List.mem_filter,Bool.and_eq_true,Bool.not_eq_true',decide_eq_false_iff_not];refine and_congr_right λ_=>⟨λh=>O.Rh h.1 h.2,?_⟩
 rintro rfl;exact ⟨O.irr _,O.irr _⟩
theorem GY {k:κ} {l:List ρ} {x:ρ}:x∈KU O key k l↔x∈l/\key x≠k:=by
 rw [KU,List.mem_append,Gj,FI];constructor
 ·rintro (⟨h,h1⟩|⟨h,h1⟩)
  ·exact ⟨h,λe=>O.irr _ (e▸h1)⟩
  ·exact ⟨h,λe=>O.irr _ (e▸h1)⟩
 ·rintro ⟨h,h1⟩;rcases O.tot (key x) k with h2|h2|h2
  ·exact .inl ⟨h,h2⟩
  ·exact absurd h2 h1
  ·exact .inr ⟨h,h2⟩
theorem JJ {k:κ} {y x:ρ} {l:List ρ}:x∈F6 O key k y l↔x=y\/(x∈l/\key x≠k):=by
 rw [<-GY (O:=O),KU,F6];simp only [List.mem_append,List.mem_cons];constructor
 ·rintro (h|h|h)
  ·exact .inr (.inl h)
  ·exact .inl h
  ·exact .inr (.inr h)
 ·rintro (h|h|h)
  ·exact .inr (.inl h)
  ·exact .inl h
  ·exact .inr (.inr h)
theorem Eb {l:List ρ} (h:Df O key l) (p:ρ->Bool):Df O key (l.filter p):=List.Pairwise.filter p h
theorem FJ {k:κ} {y:ρ} {l:List ρ} (h:Df O key l) (hy:key y=k):Df O key (F6 O key k y l):=by
 subst hy;refine List.pairwise_append.2 ⟨Eb h _,List.pairwise_cons.2 ⟨λx hx=>(FI.1 hx).2,Eb h _⟩,λa ha b hb=>?_⟩;have h1:=(Gj.1 ha).2;rcases List.mem_cons.1 hb with rfl|hb
 ·exact h1
 ·exact O.tr h1 (FI.1 hb).2
theorem Jn {k:κ} {l:List ρ} (h:Df O key l):Df O key (KU O key k l):=
 List.pairwise_append.2 ⟨Eb h _,Eb h _,λa ha b hb=>O.tr (Gj.1 ha).2 (FI.1 hb).2⟩
theorem JK {k:κ} {l:List ρ} (h:∀ x∈l,O.lt k (key x)):Dk O key k l=[]:=List.filter_eq_nil_iff.2 λx hx hd=>O.Rf (of_decide_eq_true hd) (h x hx)
theorem JL {k:κ} {l:List ρ} (h:∀ x∈l,O.lt k (key x)):Ef O key k l=l:=List.filter_eq_self.2 λx hx=>decide_eq_true (h x hx)
theorem O7 {k:κ} {l:List ρ} (h:∀ x∈l,O.lt k (key x)):atR O key k l=[]:=List.filter_eq_nil_iff.2 λx hx hd=>by
 simp only [Bool.and_eq_true,Bool.not_eq_true',decide_eq_false_iff_not] at hd;exact hd.2 (h x hx)
theorem Hm {k:κ} {x:ρ} {l:List ρ} (h:O.lt (key x) k):Dk O key k (x::l)=x::Dk O key k l:=List.filter_cons_of_pos (p:=λx=>decide (O.lt (key x) k)) (decide_eq_true h)
theorem JX {k:κ} {x:ρ} {l:List ρ} (h:¬O.lt (key x) k):Dk O key k (x::l)=Dk O key k l:=by unfold Dk;rw [List.filter_cons_of_neg (by simpa using h)]
theorem Ff {k:κ} {x:ρ} {l:List ρ} (h:¬O.lt k (key x)):Ef O key k (x::l)=Ef O key k l:=by unfold Ef;rw [List.filter_cons_of_neg (by simpa using h)]
theorem LK {k:κ} {x:ρ} {l:List ρ} (h:O.lt (key x) k\/O.lt k (key x)):atR O key k (x::l)=atR O key k l:=by
 unfold atR;rw [List.filter_cons_of_neg];rcases h with h|h<;>simp [h]
theorem QC {k:κ} {x:ρ} {l:List ρ} (h:key x=k):atR O key k (x::l)=x::atR O key k l:=by
 unfold atR;rw [List.filter_cons_of_pos];subst h;simp [O.irr]
theorem FZ {l:List ρ} (k:κ) (h:Df O key l):l=Dk O key k l++(atR O key k l++Ef O key k l)/\(atR O key k l=[]\/∃ x,atR O key k l=[x]/\key x=k):=by
 induction l with
 |nil=>exact ⟨rfl, .inl rfl⟩
 |cons x l ih=>
  obtain ⟨hx,hl⟩:=List.pairwise_cons.1 h;obtain ⟨ih1,ih2⟩:=ih hl;rcases O.tot (key x) k with h1|h1|h1
  ·rw [Hm h1,LK (.inl h1),Ff (λh2=>O.Rf h1 h2)];exact ⟨by rw [List.cons_append, <-ih1],ih2⟩
  ·have ha:∀ y∈l,O.lt k (key y):=λy hy=>h1▸hx y hy
   rw [JX (by rw [h1];exact O.irr k),QC h1,Ff (by rw [h1];exact O.irr k),JK ha,O7 ha,JL ha];exact ⟨rfl, .inr ⟨x,rfl,h1⟩⟩
  ·have ha:∀ y∈x::l,O.lt k (key y):=λy hy=>by
    rcases List.mem_cons.1 hy with rfl|hy
    ·exact h1
    ·exact O.tr h1 (hx y hy)
   rw [JK ha,O7 ha,JL ha];exact ⟨rfl, .inl rfl⟩
theorem Mq {l:List ρ} (k:κ) (h:Df O key l):(KU O key k l).length<=l.length:=by
 have:=congrArg List.length (FZ k h).1;simp only [List.length_append] at this;unfold KU;rw [List.length_append];omega
theorem Mr {l:List ρ} (k:κ) (y:ρ) (h:Df O key l):(F6 O key k y l).length<=l.length+1:=by
 have:=Mq k h;unfold KU at this;rw [List.length_append] at this;unfold F6;rw [List.length_append,List.length_cons];omega
theorem Jo {l:List ρ}:∀ {m:List ρ},Df O key l->Df O key m->(∀ x,x∈l↔x∈m)->l=m:=by
 induction l with
 |nil=>
  intro m _ _ h;cases m with
  |nil=>rfl
  |cons y m=>exact absurd ((h y).2 (List.mem_cons_self ..)) (by simp)
 |cons x l ih=>
  intro m hl hm h;cases m with
  |nil=>exact absurd ((h x).1 (List.mem_cons_self ..)) (by simp)
  |cons y m=>
   obtain ⟨hx,hl'⟩:=List.pairwise_cons.1 hl;obtain ⟨hy,hm'⟩:=List.pairwise_cons.1 hm;have hxy:x=y:=by
    rcases List.mem_cons.1 ((h x).1 (List.mem_cons_self ..)) with h1|h1
    ·exact h1
    ·rcases List.mem_cons.1 ((h y).2 (List.mem_cons_self ..)) with h2|h2
     ·exact h2.symm
     ·exact (O.Rf (hx y h2) (hy x h1)).elim
   subst hxy;rw [ih hl' hm' λz=>⟨λhz=>?_,λhz=>?_⟩]
   ·rcases List.mem_cons.1 ((h z).1 (List.mem_cons_of_mem _ hz)) with rfl|h1
    ·exact (O.irr _ (hx z hz)).elim
    ·exact h1
   ·rcases List.mem_cons.1 ((h z).2 (List.mem_cons_of_mem _ hz)) with rfl|h1
    ·exact (O.irr _ (hy z hz)).elim
    ·exact h1
variable (O key)
variable {O key}
variable {pick:ρ->ρ->ρ}
variable [DecidableEq κ]
variable (key)
variable {key}
end
end Go.Proofs.YtccmackhhppbdaaGreatDoor.Y
end
