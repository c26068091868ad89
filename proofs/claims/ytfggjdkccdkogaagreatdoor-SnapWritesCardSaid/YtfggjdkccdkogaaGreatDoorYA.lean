/- Rows that rise by their keys: putting, dropping, merging, looking up; two such with the same members are the same. No program in sight. -/
import Derived.Test.YtfggjdkccdkogaaGreatDoorWMore
import Derived.Laws.Strings
section
namespace Go.Proofs.YtfggjdkccdkogaaGreatDoor.Y
set_option linter.unusedVariables false
set_option linter.unusedSimpArgs false
open RowKit Ac Aq Aw
section
variable {α β:Type} {f g:Nat->Option α} {r:α} {c:Prop} [Decidable c]
theorem AU (hc:c) (h:Ev f r):Ev (λk=>if c then f k else g k) r:=by simpa only [if_pos hc] using h
theorem Ab (hc:¬c) (h:Ev g r):Ev (λk=>if c then f k else g k) r:=by simpa only [if_neg hc] using h
theorem Ad (r:α):Ev (λ_=>some r) r:=⟨0,λ_ _=>rfl⟩
theorem Az (h:Ev (λk=>g (k+1)) r):Ev g r:=by
 obtain ⟨K,h⟩:=h;refine ⟨K+1,λk hk=>?_⟩;obtain ⟨j,rfl⟩:∃ j,k=j+1:=⟨k - 1,by omega⟩;exact h j (by omega)
theorem AY {h:Nat->α->Option β} {q:β} (hg:Ev g r) (k:Ev (λn=>h n r) q):Ev (λn=>(g n).bind λx=>h n x) q:=Ev.bind hg k
theorem Tj {r':α} (h:Ev g r) (h':Ev g r'):r=r':=by
 obtain ⟨K,h⟩:=h;obtain ⟨K',h'⟩:=h';have a:=h (K+K') (by omega);have b:=h' (K+K') (by omega);rw [a] at b;exact Option.some.inj b
theorem BJ {r':α} (h:Ev g r) (e:r=r'):Ev g r':=e▸h
end
theorem Gj (s:ByteArray):bytesOf s=s.data.toList.map λb=>(b.toNat:Int):=rfl
theorem FZ {s:ByteArray} {c:Int} (h:c∈bytesOf s):0<=c/\c<256:=by
 rw [Gj] at h;obtain ⟨b,_,rfl⟩:=List.mem_map.mp h;have:=b.toNat_lt;omega
theorem QR {a b:List UInt8} (h:(a.map λx=>(x.toNat:Int))=b.map λx=>(x.toNat:Int)):a=b:=by
 induction a generalizing b with
 |nil=>cases b with
  |nil=>rfl
  |cons _ _=>simp at h
 |cons x a ih=>cases b with
  |nil=>simp at h
  |cons y b=>
   simp only [List.map_cons,List.cons.injEq] at h;have:x=y:=UInt8.toNat_inj.mp (by omega);rw [this,ih h.2]
theorem EP {a b:ByteArray} (h:bytesOf a=bytesOf b):a=b:=by
 have h':=QR (show a.data.toList.map _=b.data.toList.map _ from h);cases a;cases b;simp only at h';rw [ByteArray.mk.injEq];exact Array.toList_inj.mp h'
theorem toList_data (s:ByteArray):s.toList=s.data.toList:=ByteArray.toList_eq s
theorem toList_inj {a b:ByteArray}:a.toList=b.toList↔a=b:=by
 constructor
 ·intro h;rw [toList_data,toList_data] at h;cases a;cases b;rw [ByteArray.mk.injEq];exact Array.toList_inj.mp h
 ·rintro rfl;rfl
theorem Fa {a b:ByteArray}:a.toList=b.toList↔bytesOf a=bytesOf b:=⟨λh=>by rw [toList_inj.mp h],λh=>by rw [EP h]⟩
theorem Dm (a b:ByteArray):bytesOf (a++b)=bytesOf a++bytesOf b:=by
 simp [Gj,ByteArray.data_append]
theorem Ec {xs:List Int} (h:∀ x∈xs,0<=x/\x<256):bytesOf (strOfNums xs)=xs:=by
 rw [Gj,strOfNums_data,List.map_map]
 conv=>rhs;rw [<-List.map_id xs]
 apply List.map_congr_left;intro x hx;have:=h x hx;simp only [Function.comp,id,UInt8.toNat_ofNat'];omega
theorem Dj (s:ByteArray) (a b:Nat):bytesOf (s.extract a b)=((bytesOf s).drop a).take (b - a):=by
 rw [Gj,Gj,ByteArray.data_extract,Array.toList_extract,List.extract_eq_take_drop,List.map_take,List.map_drop]
theorem Nh:bytesOf (⟨#[]⟩:ByteArray)=[]:=rfl
theorem H7 {s:ByteArray}:bytesOf s=[]↔s.size=0:=by
 rw [<-List.length_eq_zero_iff,bytesOf_length]
theorem OD (s:ByteArray) (i:Int):bt s i=(bytesOf s).getD i.toNat 0:=by rw [<-KJ];rfl
theorem GH (s:ByteArray) (i:Int):0<=bt s i/\bt s i<256:=by
 unfold bt;split
 ·have:=(s[i.toNat]'(by assumption)).toNat_lt;omega
 ·omega
theorem Ea (s:ByteArray) {i:Nat} (h:i<=s.size):(i=s.size/\(bytesOf s).drop i=[])\/(i<s.size/\(bytesOf s).drop i=bt s i::(bytesOf s).drop (i+1)):=by
 have hl:=bytesOf_length s;rcases Nat.lt_or_ge i s.size with h1|h1
 ·right;refine ⟨h1,?_⟩;rw [List.drop_eq_getElem_cons (by omega)];congr 1;rw [OD,List.getD_eq_getElem?_getD,Int.toNat_natCast,List.getElem?_eq_getElem (by omega)];rfl
 ·left;exact ⟨by omega,List.drop_eq_nil_of_le (by omega)⟩
theorem JV {n:Int} (h: -9223372036854775808<=n) (h':n<=9223372036854775807):wrap64 n=n:=by unfold wrap64;omega
theorem wu64 (n:Int):IntKind.u64.wrap n=n%18446744073709551616:=by simp [IntKind.wrap,IntKind.bits,IntKind.signed]
theorem EU {n:Int} (h:0<=n) (h':n<=18446744073709551615):IntKind.u64.wrap n=n:=by rw [wu64];omega
end Go.Proofs.YtfggjdkccdkogaaGreatDoor.Y
end
section
namespace Go.Proofs.YtfggjdkccdkogaaGreatDoor.Y
set_option linter.unusedVariables false
set_option linter.unusedSimpArgs false
structure Vy (κ:Type) where
 lt:κ->κ->Prop
 dec:∀ a b,Decidable (lt a b)
 irr:∀ a,¬lt a a
 tr:∀ {a b c},lt a b->lt b c->lt a c
 tot:∀ a b,lt a b\/a=b\/lt b a
instance {κ:Type} (O:Vy κ) (a b:κ):Decidable (O.lt a b):=O.dec a b
section
variable {κ ρ:Type} (O:Vy κ) (key:ρ->κ)
theorem Vy.ZH {a b:κ} (h:O.lt a b) (h':O.lt b a):False:=O.irr a (O.tr h h')
def Eh (l:List ρ):Prop:=l.Pairwise λx y=>O.lt (key x) (key y)
def FW (k:κ) (l:List ρ):List ρ:=l.filter λx=>decide (O.lt (key x) k)
def G9 (k:κ) (l:List ρ):List ρ:=l.filter λx=>decide (O.lt k (key x))
def atR (k:κ) (l:List ρ):List ρ:=l.filter λx=> !decide (O.lt (key x) k)&& !decide (O.lt k (key x))
def Ph (k:κ) (l:List ρ):List ρ:=FW O key k l++G9 O key k l
def JP (k:κ) (y:ρ) (l:List ρ):List ρ:=FW O key k l++y::G9 O key k l
variable {O key}
theorem Vy.ZI {a b:κ} (h:¬O.lt a b) (h':¬O.lt b a):a=b:=by
 rcases O.tot a b with h1|h1|h1
 ·exact absurd h1 h
 ·exact h1
 ·exact absurd h1 h'
theorem J6 {k:κ} {l:List ρ} {x:ρ}:x∈FW O key k l↔x∈l/\O.lt (key x) k:=by simp [FW]
theorem IG {k:κ} {l:List ρ} {x:ρ}:x∈G9 O key k l↔x∈l/\O.lt k (key x):=by simp [G9]
theorem XW {k:κ} {l:List ρ} {x:ρ}:x∈atR O key k l↔x∈l/\key x=k:=by
 simp only [atR,List.mem_filter,Bool.and_eq_true,Bool.not_eq_true',decide_eq_false_iff_not];refine and_congr_right λ_=>⟨λh=>O.ZI h.1 h.2,?_⟩
 rintro rfl;exact ⟨O.irr _,O.irr _⟩
theorem Jo {k:κ} {l:List ρ} {x:ρ}:x∈Ph O key k l↔x∈l/\key x≠k:=by
 rw [Ph,List.mem_append,J6,IG];constructor
 ·rintro (⟨h,h1⟩|⟨h,h1⟩)
  ·exact ⟨h,λe=>O.irr _ (e▸h1)⟩
  ·exact ⟨h,λe=>O.irr _ (e▸h1)⟩
 ·rintro ⟨h,h1⟩;rcases O.tot (key x) k with h2|h2|h2
  ·exact .inl ⟨h,h2⟩
  ·exact absurd h2 h1
  ·exact .inr ⟨h,h2⟩
theorem NQ {k:κ} {y x:ρ} {l:List ρ}:x∈JP O key k y l↔x=y\/(x∈l/\key x≠k):=by
 rw [<-Jo (O:=O),Ph,JP];simp only [List.mem_append,List.mem_cons];constructor
 ·rintro (h|h|h)
  ·exact .inr (.inl h)
  ·exact .inl h
  ·exact .inr (.inr h)
 ·rintro (h|h|h)
  ·exact .inr (.inl h)
  ·exact .inl h
  ·exact .inr (.inr h)
theorem Gz {l:List ρ} (h:Eh O key l) (p:ρ->Bool):Eh O key (l.filter p):=List.Pairwise.filter p h
theorem II {k:κ} {y:ρ} {l:List ρ} (h:Eh O key l) (hy:key y=k):Eh O key (JP O key k y l):=by
 subst hy;refine List.pairwise_append.2 ⟨Gz h _,List.pairwise_cons.2 ⟨λx hx=>(IG.1 hx).2,Gz h _⟩,λa ha b hb=>?_⟩;have h1:=(J6.1 ha).2;rcases List.mem_cons.1 hb with rfl|hb
 ·exact h1
 ·exact O.tr h1 (IG.1 hb).2
theorem Ob {k:κ} {l:List ρ} (h:Eh O key l):Eh O key (Ph O key k l):=
 List.pairwise_append.2 ⟨Gz h _,Gz h _,λa ha b hb=>O.tr (J6.1 ha).2 (IG.1 hb).2⟩
theorem NR {k:κ} {l:List ρ} (h:∀ x∈l,O.lt k (key x)):FW O key k l=[]:=List.filter_eq_nil_iff.2 λx hx hd=>O.ZH (of_decide_eq_true hd) (h x hx)
theorem NS {k:κ} {l:List ρ} (h:∀ x∈l,O.lt k (key x)):G9 O key k l=l:=List.filter_eq_self.2 λx hx=>decide_eq_true (h x hx)
theorem Vz {k:κ} {l:List ρ} (h:∀ x∈l,O.lt k (key x)):atR O key k l=[]:=List.filter_eq_nil_iff.2 λx hx hd=>by
 simp only [Bool.and_eq_true,Bool.not_eq_true',decide_eq_false_iff_not] at hd;exact hd.2 (h x hx)
theorem K9 {k:κ} {x:ρ} {l:List ρ} (h:O.lt (key x) k):FW O key k (x::l)=x::FW O key k l:=List.filter_cons_of_pos (p:=λx=>decide (O.lt (key x) k)) (decide_eq_true h)
theorem Nq {k:κ} {x:ρ} {l:List ρ} (h:¬O.lt (key x) k):FW O key k (x::l)=FW O key k l:=by unfold FW;rw [List.filter_cons_of_neg (by simpa using h)]
theorem Iy {k:κ} {x:ρ} {l:List ρ} (h:¬O.lt k (key x)):G9 O key k (x::l)=G9 O key k l:=by unfold G9;rw [List.filter_cons_of_neg (by simpa using h)]
theorem Qt {k:κ} {x:ρ} {l:List ρ} (h:O.lt (key x) k\/O.lt k (key x)):atR O key k (x::l)=atR O key k l:=by
 unfold atR;rw [List.filter_cons_of_neg];rcases h with h|h<;>simp [h]
theorem XX {k:κ} {x:ρ} {l:List ρ} (h:key x=k):atR O key k (x::l)=x::atR O key k l:=by
 unfold atR;rw [List.filter_cons_of_pos];subst h;simp [O.irr]
theorem Iq {l:List ρ} (k:κ) (h:Eh O key l):l=FW O key k l++(atR O key k l++G9 O key k l)/\(atR O key k l=[]\/∃ x,atR O key k l=[x]/\key x=k):=by
 induction l with
 |nil=>exact ⟨rfl, .inl rfl⟩
 |cons x l ih=>
  obtain ⟨hx,hl⟩:=List.pairwise_cons.1 h;obtain ⟨ih1,ih2⟩:=ih hl;rcases O.tot (key x) k with h1|h1|h1
  ·rw [K9 h1,Qt (.inl h1),Iy (λh2=>O.ZH h1 h2)];exact ⟨by rw [List.cons_append, <-ih1],ih2⟩
  ·have ha:∀ y∈l,O.lt k (key y):=λy hy=>h1▸hx y hy
   rw [Nq (by rw [h1];exact O.irr k),XX h1,Iy (by rw [h1];exact O.irr k),NR ha,Vz ha,NS ha];exact ⟨rfl, .inr ⟨x,rfl,h1⟩⟩
  ·have ha:∀ y∈x::l,O.lt k (key y):=λy hy=>by
    rcases List.mem_cons.1 hy with rfl|hy
    ·exact h1
    ·exact O.tr h1 (hx y hy)
   rw [NR ha,Vz ha,NS ha];exact ⟨rfl, .inl rfl⟩
theorem Sv {l:List ρ} (k:κ) (h:Eh O key l):(Ph O key k l).length<=l.length:=by
 have:=congrArg List.length (Iq k h).1;simp only [List.length_append] at this;unfold Ph;rw [List.length_append];omega
theorem Sw {l:List ρ} (k:κ) (y:ρ) (h:Eh O key l):(JP O key k y l).length<=l.length+1:=by
 have:=Sv k h;unfold Ph at this;rw [List.length_append] at this;unfold JP;rw [List.length_append,List.length_cons];omega
theorem Oc {l:List ρ}:∀ {m:List ρ},Eh O key l->Eh O key m->(∀ x,x∈l↔x∈m)->l=m:=by
 induction l with
 |nil=>
  intro m _ _ h;cases m with
  |nil=>rfl
  |cons y m=>exact absurd ((h y).2 (List.mem_cons_self ..)) (by simp)
 |cons x l ih=>
  intro m hl hm h;cases m with
  |nil=>exact absurd ((h x).1 (List.mem_cons_self ..)) (by simp)
  |cons y m=>
   obtain ⟨hx,hl'⟩:=List.pairwise_cons.1 hl;obtain ⟨hy,hm'⟩:=List.pairwise_cons.1 hm;have hxy:x=y:=by
    rcases List.mem_cons.1 ((h x).1 (List.mem_cons_self ..)) with h1|h1
    ·exact h1
    ·rcases List.mem_cons.1 ((h y).2 (List.mem_cons_self ..)) with h2|h2
     ·exact h2.symm
     ·exact (O.ZH (hx y h2) (hy x h1)).elim
   subst hxy;rw [ih hl' hm' λz=>⟨λhz=>?_,λhz=>?_⟩]
   ·rcases List.mem_cons.1 ((h z).1 (List.mem_cons_of_mem _ hz)) with rfl|h1
    ·exact (O.irr _ (hx z hz)).elim
    ·exact h1
   ·rcases List.mem_cons.1 ((h z).2 (List.mem_cons_of_mem _ hz)) with rfl|h1
    ·exact (O.irr _ (hy z hz)).elim
    ·exact h1
variable (O key)
variable {O key}
variable {pick:ρ->ρ->ρ}
variable [DecidableEq κ]
variable (key)
variable {key}
end
end Go.Proofs.YtfggjdkccdkogaaGreatDoor.Y
end
