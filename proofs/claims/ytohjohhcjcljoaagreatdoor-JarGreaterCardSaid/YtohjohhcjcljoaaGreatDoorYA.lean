/- Rows that rise by their keys: putting, dropping, merging, looking up; two such with the same members are the same. No program in sight. -/
import Derived.Test.YtohjohhcjcljoaaGreatDoorWMore
import Derived.Laws.Strings
section
namespace Go.Proofs.YtohjohhcjcljoaaGreatDoor.Y
set_option linter.unusedVariables false
set_option linter.unusedSimpArgs false
open RowKit Ak BR BS
section
variable {α β:Type} {f g:Nat->Option α} {r:α} {c:Prop} [Decidable c]
theorem AZ (hc:c) (h:Ev f r):Ev (λk=>if c then f k else g k) r:=by simpa only [if_pos hc] using h
theorem Aq (hc:¬c) (h:Ev g r):Ev (λk=>if c then f k else g k) r:=by simpa only [if_neg hc] using h
theorem Ay (r:α):Ev (λ_=>some r) r:=⟨0,λ_ _=>rfl⟩
theorem BQ (h:Ev (λk=>g (k+1)) r):Ev g r:=by
 obtain ⟨K,h⟩:=h;refine ⟨K+1,λk hk=>?_⟩;obtain ⟨j,rfl⟩:∃ j,k=j+1:=⟨k - 1,by omega⟩;exact h j (by omega)
theorem Az {h:Nat->α->Option β} {q:β} (hg:Ev g r) (k:Ev (λn=>h n r) q):Ev (λn=>(g n).bind λx=>h n x) q:=Ev.bind hg k
theorem QO {r':α} (h:Ev g r) (h':Ev g r'):r=r':=by
 obtain ⟨K,h⟩:=h;obtain ⟨K',h'⟩:=h';have a:=h (K+K') (by omega);have b:=h' (K+K') (by omega);rw [a] at b;exact Option.some.inj b
theorem Ba {r':α} (h:Ev g r) (e:r=r'):Ev g r':=e▸h
end
theorem G6 (s:ByteArray):bytesOf s=s.data.toList.map λb=>(b.toNat:Int):=rfl
theorem FZ {s:ByteArray} {c:Int} (h:c∈bytesOf s):0<=c/\c<256:=by
 rw [G6] at h;obtain ⟨b,_,rfl⟩:=List.mem_map.mp h;have:=b.toNat_lt;omega
theorem Nf {a b:List UInt8} (h:(a.map λx=>(x.toNat:Int))=b.map λx=>(x.toNat:Int)):a=b:=by
 induction a generalizing b with
 |nil=>cases b with
  |nil=>rfl
  |cons _ _=>simp at h
 |cons x a ih=>cases b with
  |nil=>simp at h
  |cons y b=>
   simp only [List.map_cons,List.cons.injEq] at h;have:x=y:=UInt8.toNat_inj.mp (by omega);rw [this,ih h.2]
theorem Es {a b:ByteArray} (h:bytesOf a=bytesOf b):a=b:=by
 have h':=Nf (show a.data.toList.map _=b.data.toList.map _ from h);cases a;cases b;simp only at h';rw [ByteArray.mk.injEq];exact Array.toList_inj.mp h'
theorem toList_data (s:ByteArray):s.toList=s.data.toList:=ByteArray.toList_eq s
theorem toList_inj {a b:ByteArray}:a.toList=b.toList↔a=b:=by
 constructor
 ·intro h;rw [toList_data,toList_data] at h;cases a;cases b;rw [ByteArray.mk.injEq];exact Array.toList_inj.mp h
 ·rintro rfl;rfl
theorem FP {a b:ByteArray}:a.toList=b.toList↔bytesOf a=bytesOf b:=⟨λh=>by rw [toList_inj.mp h],λh=>by rw [Es h]⟩
theorem G7 (a b:ByteArray):bytesOf (a++b)=bytesOf a++bytesOf b:=by
 simp [G6,ByteArray.data_append]
theorem Ed {xs:List Int} (h:∀ x∈xs,0<=x/\x<256):bytesOf (strOfNums xs)=xs:=by
 rw [G6,strOfNums_data,List.map_map]
 conv=>rhs;rw [<-List.map_id xs]
 apply List.map_congr_left;intro x hx;have:=h x hx;simp only [Function.comp,id,UInt8.toNat_ofNat'];omega
theorem Gd (s:ByteArray) (a b:Nat):bytesOf (s.extract a b)=((bytesOf s).drop a).take (b - a):=by
 rw [G6,G6,ByteArray.data_extract,Array.toList_extract,List.extract_eq_take_drop,List.map_take,List.map_drop]
theorem Lj:bytesOf (⟨#[]⟩:ByteArray)=[]:=rfl
theorem Kb {s:ByteArray}:bytesOf s=[]↔s.size=0:=by
 rw [<-List.length_eq_zero_iff,bytesOf_length]
theorem Tt (s:ByteArray) (i:Int):bt s i=(bytesOf s).getD i.toNat 0:=by rw [<-K8];rfl
theorem Hw (s:ByteArray) (i:Int):0<=bt s i/\bt s i<256:=by
 unfold bt;split
 ·have:=(s[i.toNat]'(by assumption)).toNat_lt;omega
 ·omega
theorem EI (s:ByteArray) {i:Nat} (h:i<=s.size):(i=s.size/\(bytesOf s).drop i=[])\/(i<s.size/\(bytesOf s).drop i=bt s i::(bytesOf s).drop (i+1)):=by
 have hl:=bytesOf_length s;rcases Nat.lt_or_ge i s.size with h1|h1
 ·right;refine ⟨h1,?_⟩;rw [List.drop_eq_getElem_cons (by omega)];congr 1;rw [Tt,List.getD_eq_getElem?_getD,Int.toNat_natCast,List.getElem?_eq_getElem (by omega)];rfl
 ·left;exact ⟨by omega,List.drop_eq_nil_of_le (by omega)⟩
theorem Kn {n:Int} (h: -9223372036854775808<=n) (h':n<=9223372036854775807):wrap64 n=n:=by unfold wrap64;omega
theorem wu64 (n:Int):IntKind.u64.wrap n=n%18446744073709551616:=by simp [IntKind.wrap,IntKind.bits,IntKind.signed]
theorem G8 {n:Int} (h:0<=n) (h':n<=18446744073709551615):IntKind.u64.wrap n=n:=by rw [wu64];omega
end Go.Proofs.YtohjohhcjcljoaaGreatDoor.Y
end
section
namespace Go.Proofs.YtohjohhcjcljoaaGreatDoor.Y
set_option linter.unusedVariables false
set_option linter.unusedSimpArgs false
structure R8 (κ:Type) where
 lt:κ->κ->Prop
 dec:∀ a b,Decidable (lt a b)
 irr:∀ a,¬lt a a
 tr:∀ {a b c},lt a b->lt b c->lt a c
 tot:∀ a b,lt a b\/a=b\/lt b a
instance {κ:Type} (O:R8 κ) (a b:κ):Decidable (O.lt a b):=O.dec a b
section
variable {κ ρ:Type} (O:R8 κ) (key:ρ->κ)
theorem R8.VN {a b:κ} (h:O.lt a b) (h':O.lt b a):False:=O.irr a (O.tr h h')
def Ct (l:List ρ):Prop:=l.Pairwise λx y=>O.lt (key x) (key y)
def Ee (k:κ) (l:List ρ):List ρ:=l.filter λx=>decide (O.lt (key x) k)
def GK (k:κ) (l:List ρ):List ρ:=l.filter λx=>decide (O.lt k (key x))
def atR (k:κ) (l:List ρ):List ρ:=l.filter λx=> !decide (O.lt (key x) k)&& !decide (O.lt k (key x))
def IG (k:κ) (l:List ρ):List ρ:=Ee O key k l++GK O key k l
def GN (k:κ) (y:ρ) (l:List ρ):List ρ:=Ee O key k l++y::GK O key k l
variable {O key}
theorem R8.R9 {a b:κ} (h:¬O.lt a b) (h':¬O.lt b a):a=b:=by
 rcases O.tot a b with h1|h1|h1
 ·exact absurd h1 h
 ·exact h1
 ·exact absurd h1 h'
theorem Iy {k:κ} {l:List ρ} {x:ρ}:x∈Ee O key k l↔x∈l/\O.lt (key x) k:=by simp [Ee]
theorem Gu {k:κ} {l:List ρ} {x:ρ}:x∈GK O key k l↔x∈l/\O.lt k (key x):=by simp [GK]
theorem Iz {k:κ} {l:List ρ} {x:ρ}:x∈atR O key k l↔x∈l/\key x=k:=by
 simp only [atR,List.mem_filter,Bool.and_eq_true,Bool.not_eq_true',decide_eq_false_iff_not];refine and_congr_right λ_=>⟨λh=>O.R9 h.1 h.2,?_⟩
 rintro rfl;exact ⟨O.irr _,O.irr _⟩
theorem Ii {k:κ} {l:List ρ} {x:ρ}:x∈IG O key k l↔x∈l/\key x≠k:=by
 rw [IG,List.mem_append,Iy,Gu];constructor
 ·rintro (⟨h,h1⟩|⟨h,h1⟩)
  ·exact ⟨h,λe=>O.irr _ (e▸h1)⟩
  ·exact ⟨h,λe=>O.irr _ (e▸h1)⟩
 ·rintro ⟨h,h1⟩;rcases O.tot (key x) k with h2|h2|h2
  ·exact .inl ⟨h,h2⟩
  ·exact absurd h2 h1
  ·exact .inr ⟨h,h2⟩
theorem HZ {k:κ} {y x:ρ} {l:List ρ}:x∈GN O key k y l↔x=y\/(x∈l/\key x≠k):=by
 rw [<-Ii (O:=O),IG,GN];simp only [List.mem_append,List.mem_cons];constructor
 ·rintro (h|h|h)
  ·exact .inr (.inl h)
  ·exact .inl h
  ·exact .inr (.inr h)
 ·rintro (h|h|h)
  ·exact .inr (.inl h)
  ·exact .inl h
  ·exact .inr (.inr h)
theorem GD {l:List ρ} (h:Ct O key l) (p:ρ->Bool):Ct O key (l.filter p):=List.Pairwise.filter p h
theorem E5 {k:κ} {y:ρ} {l:List ρ} (h:Ct O key l) (hy:key y=k):Ct O key (GN O key k y l):=by
 subst hy;refine List.pairwise_append.2 ⟨GD h _,List.pairwise_cons.2 ⟨λx hx=>(Gu.1 hx).2,GD h _⟩,λa ha b hb=>?_⟩;have h1:=(Iy.1 ha).2;rcases List.mem_cons.1 hb with rfl|hb
 ·exact h1
 ·exact O.tr h1 (Gu.1 hb).2
theorem MI {k:κ} {l:List ρ} (h:Ct O key l):Ct O key (IG O key k l):=
 List.pairwise_append.2 ⟨GD h _,GD h _,λa ha b hb=>O.tr (Iy.1 ha).2 (Gu.1 hb).2⟩
theorem Lc {k:κ} {l:List ρ} (h:∀ x∈l,O.lt k (key x)):Ee O key k l=[]:=List.filter_eq_nil_iff.2 λx hx hd=>O.VN (of_decide_eq_true hd) (h x hx)
theorem Ld {k:κ} {l:List ρ} (h:∀ x∈l,O.lt k (key x)):GK O key k l=l:=List.filter_eq_self.2 λx hx=>decide_eq_true (h x hx)
theorem SA {k:κ} {l:List ρ} (h:∀ x∈l,O.lt k (key x)):atR O key k l=[]:=List.filter_eq_nil_iff.2 λx hx hd=>by
 simp only [Bool.and_eq_true,Bool.not_eq_true',decide_eq_false_iff_not] at hd;exact hd.2 (h x hx)
theorem Jn {k:κ} {x:ρ} {l:List ρ} (h:O.lt (key x) k):Ee O key k (x::l)=x::Ee O key k l:=List.filter_cons_of_pos (p:=λx=>decide (O.lt (key x) k)) (decide_eq_true h)
theorem Lp {k:κ} {x:ρ} {l:List ρ} (h:¬O.lt (key x) k):Ee O key k (x::l)=Ee O key k l:=by unfold Ee;rw [List.filter_cons_of_neg (by simpa using h)]
theorem Hu {k:κ} {x:ρ} {l:List ρ} (h:¬O.lt k (key x)):GK O key k (x::l)=GK O key k l:=by unfold GK;rw [List.filter_cons_of_neg (by simpa using h)]
theorem OQ {k:κ} {x:ρ} {l:List ρ} (h:O.lt (key x) k\/O.lt k (key x)):atR O key k (x::l)=atR O key k l:=by
 unfold atR;rw [List.filter_cons_of_neg];rcases h with h|h<;>simp [h]
theorem TW {k:κ} {x:ρ} {l:List ρ} (h:key x=k):atR O key k (x::l)=x::atR O key k l:=by
 unfold atR;rw [List.filter_cons_of_pos];subst h;simp [O.irr]
theorem FD {l:List ρ} (k:κ) (h:Ct O key l):l=Ee O key k l++(atR O key k l++GK O key k l)/\(atR O key k l=[]\/∃ x,atR O key k l=[x]/\key x=k):=by
 induction l with
 |nil=>exact ⟨rfl, .inl rfl⟩
 |cons x l ih=>
  obtain ⟨hx,hl⟩:=List.pairwise_cons.1 h;obtain ⟨ih1,ih2⟩:=ih hl;rcases O.tot (key x) k with h1|h1|h1
  ·rw [Jn h1,OQ (.inl h1),Hu (λh2=>O.VN h1 h2)];exact ⟨by rw [List.cons_append, <-ih1],ih2⟩
  ·have ha:∀ y∈l,O.lt k (key y):=λy hy=>h1▸hx y hy
   rw [Lp (by rw [h1];exact O.irr k),TW h1,Hu (by rw [h1];exact O.irr k),Lc ha,SA ha,Ld ha];exact ⟨rfl, .inr ⟨x,rfl,h1⟩⟩
  ·have ha:∀ y∈x::l,O.lt k (key y):=λy hy=>by
    rcases List.mem_cons.1 hy with rfl|hy
    ·exact h1
    ·exact O.tr h1 (hx y hy)
   rw [Lc ha,SA ha,Ld ha];exact ⟨rfl, .inl rfl⟩
theorem Ko {l:List ρ} (k:κ) (h:Ct O key l):(IG O key k l).length<=l.length:=by
 have:=congrArg List.length (FD k h).1;simp only [List.length_append] at this;unfold IG;rw [List.length_append];omega
theorem NC {l:List ρ} (k:κ) (y:ρ) (h:Ct O key l):(GN O key k y l).length<=l.length+1:=by
 have:=Ko k h;unfold IG at this;rw [List.length_append] at this;unfold GN;rw [List.length_append,List.length_cons];omega
theorem KI {l:List ρ}:∀ {m:List ρ},Ct O key l->Ct O key m->(∀ x,x∈l↔x∈m)->l=m:=by
 induction l with
 |nil=>
  intro m _ _ h;cases m with
  |nil=>rfl
  |cons y m=>exact absurd ((h y).2 (List.mem_cons_self ..)) (by simp)
 |cons x l ih=>
  intro m hl hm h;cases m with
  |nil=>exact absurd ((h x).1 (List.mem_cons_self ..)) (by simp)
  |cons y m=>
   obtain ⟨hx,hl'⟩:=List.pairwise_cons.1 hl;obtain ⟨hy,hm'⟩:=List.pairwise_cons.1 hm;have hxy:x=y:=by
    rcases List.mem_cons.1 ((h x).1 (List.mem_cons_self ..)) with h1|h1
    ·exact h1
    ·rcases List.mem_cons.1 ((h y).2 (List.mem_cons_self ..)) with h2|h2
     ·exact h2.symm
     ·exact (O.VN (hx y h2) (hy x h1)).elim
   subst hxy;rw [ih hl' hm' λz=>⟨λhz=>?_,λhz=>?_⟩]
   ·rcases List.mem_cons.1 ((h z).1 (List.mem_cons_of_mem _ hz)) with rfl|h1
    ·exact (O.irr _ (hx z hz)).elim
    ·exact h1
   ·rcases List.mem_cons.1 ((h z).2 (List.mem_cons_of_mem _ hz)) with rfl|h1
    ·exact (O.irr _ (hy z hz)).elim
    ·exact h1
theorem mem_unique {l:List ρ} (h:Ct O key l) {x y:ρ} (hx:x∈l) (hy:y∈l) (e:key x=key y):x=y:=by
 induction l with
 |nil=>simp at hx
 |cons z l ih=>
  obtain ⟨hz,hl⟩:=List.pairwise_cons.1 h;rcases List.mem_cons.1 hx with h1|h1<;>rcases List.mem_cons.1 hy with h2|h2
  ·rw [h1,h2]
  ·exact (O.irr _ (e▸(h1▸hz y h2:O.lt (key x) (key y)))).elim
  ·exact (O.irr _ (e▸(h2▸hz x h1:O.lt (key y) (key x)))).elim
  ·exact ih hl h1 h2
variable (O key)
def EG (pick:ρ->ρ->ρ):List ρ->List ρ->List ρ
 |[],b=>b
 |x::a,[]=>x::a
 |x::a,y::b=>if O.lt (key x) (key y) then x::EG pick a (y::b) else if O.lt (key y) (key x) then y::EG pick (x::a) b else pick x y::EG pick a b
termination_by a b=>a.length+b.length
variable {O key}
variable {pick:ρ->ρ->ρ}
theorem JM (l:List ρ):EG O key pick l []=l:=by cases l<;>simp [EG]
theorem KW (hp:∀ x y,key x=key y->key (pick x y)=key x):∀ (n:Nat) (a b:List ρ),a.length+b.length<=n->Ct O key a->Ct O key b->
 Ct O key (EG O key pick a b)/\∀ z,z∈EG O key pick a b↔(z∈a/\∀ y∈b,key y≠key z)\/(z∈b/\∀ x∈a,key x≠key z)\/∃ x∈a,∃ y∈b,key x=key y/\z=pick x y:=by
 intro n;induction n with
 |zero=>
  intro a b hn ha hb;obtain rfl:a=[]:=List.length_eq_zero_iff.1 (by omega);obtain rfl:b=[]:=List.length_eq_zero_iff.1 (by omega);exact ⟨by simp [EG,Ct],by simp [EG]⟩
 |succ n ih=>
  intro a b hn ha hb
  match a,b,hn,ha,hb with
  |[],b,_,_,hb=>exact ⟨by simpa [EG] using hb,λz=>by simp [EG]⟩
  |x::a,[],_,ha,_=>exact ⟨by rw [JM];exact ha,λz=>by rw [JM];simp⟩
  |x::a,y::b,hn,ha,hb=>
   obtain ⟨hx,ha'⟩:=List.pairwise_cons.1 ha;obtain ⟨hy,hb'⟩:=List.pairwise_cons.1 hb;simp only [List.length_cons] at hn;unfold EG;split
   ·rename_i h1;obtain ⟨hr,hm⟩:=ih a (y::b) (by simp only [List.length_cons];omega) ha' hb;have hyb:∀ u∈y::b,O.lt (key x) (key u):=λu hu=>by
     rcases List.mem_cons.1 hu with rfl|hu
     ·exact h1
     ·exact O.tr h1 (hy u hu)
    refine ⟨List.pairwise_cons.2 ⟨λz hz=>?_,hr⟩,λz=>?_⟩
    ·rcases (hm z).1 hz with ⟨h2,_⟩|⟨h2,_⟩|⟨u,hu,v,hv,e,rfl⟩
     ·exact hx z h2
     ·exact hyb z h2
     ·rw [hp u v e];exact hx u hu
    ·rw [List.mem_cons,hm z];constructor
     ·rintro (rfl|⟨h2,h3⟩|⟨h2,h3⟩|⟨u,hu,v,hv,e,h3⟩)
      ·exact .inl ⟨List.mem_cons_self ..,λu hu e=>O.irr _ (e▸hyb u hu)⟩
      ·exact .inl ⟨List.mem_cons_of_mem _ h2,h3⟩
      ·refine .inr (.inl ⟨h2,λu hu e=>?_⟩);rcases List.mem_cons.1 hu with rfl|hu
       ·exact O.irr _ (e▸hyb z h2)
       ·exact h3 u hu e
      ·exact .inr (.inr ⟨u,List.mem_cons_of_mem _ hu,v,hv,e,h3⟩)
     ·rintro (⟨h2,h3⟩|⟨h2,h3⟩|⟨u,hu,v,hv,e,h3⟩)
      ·rcases List.mem_cons.1 h2 with rfl|h2
       ·exact .inl rfl
       ·exact .inr (.inl ⟨h2,h3⟩)
      ·exact .inr (.inr (.inl ⟨h2,λu hu=>h3 u (List.mem_cons_of_mem _ hu)⟩))
      ·rcases List.mem_cons.1 hu with rfl|hu
       ·exact (O.irr _ (e▸hyb v hv)).elim
       ·exact .inr (.inr (.inr ⟨u,hu,v,hv,e,h3⟩))
   ·rename_i h1;split
    ·rename_i h2;obtain ⟨hr,hm⟩:=ih (x::a) b (by simp only [List.length_cons];omega) ha hb';have hxa:∀ u∈x::a,O.lt (key y) (key u):=λu hu=>by
      rcases List.mem_cons.1 hu with rfl|hu
      ·exact h2
      ·exact O.tr h2 (hx u hu)
     refine ⟨List.pairwise_cons.2 ⟨λz hz=>?_,hr⟩,λz=>?_⟩
     ·rcases (hm z).1 hz with ⟨h3,_⟩|⟨h3,_⟩|⟨u,hu,v,hv,e,rfl⟩
      ·exact hxa z h3
      ·exact hy z h3
      ·rw [hp u v e];exact hxa u hu
     ·rw [List.mem_cons,hm z];constructor
      ·rintro (rfl|⟨h3,h4⟩|⟨h3,h4⟩|⟨u,hu,v,hv,e,h4⟩)
       ·exact .inr (.inl ⟨List.mem_cons_self ..,λu hu e=>O.irr _ (e▸hxa u hu)⟩)
       ·refine .inl ⟨h3,λu hu e=>?_⟩;rcases List.mem_cons.1 hu with rfl|hu
        ·exact O.irr _ (e▸hxa z h3)
        ·exact h4 u hu e
       ·exact .inr (.inl ⟨List.mem_cons_of_mem _ h3,h4⟩)
       ·exact .inr (.inr ⟨u,hu,v,List.mem_cons_of_mem _ hv,e,h4⟩)
      ·rintro (⟨h3,h4⟩|⟨h3,h4⟩|⟨u,hu,v,hv,e,h4⟩)
       ·exact .inr (.inl ⟨h3,λu hu=>h4 u (List.mem_cons_of_mem _ hu)⟩)
       ·rcases List.mem_cons.1 h3 with rfl|h3
        ·exact .inl rfl
        ·exact .inr (.inr (.inl ⟨h3,h4⟩))
       ·rcases List.mem_cons.1 hv with rfl|hv
        ·exact (O.irr _ (e▸hxa u hu)).elim
        ·exact .inr (.inr (.inr ⟨u,hu,v,hv,e,h4⟩))
    ·rename_i h2;have e0:key x=key y:=O.R9 h1 h2;obtain ⟨hr,hm⟩:=ih a b (by omega) ha' hb';have hxb:∀ u∈b,O.lt (key x) (key u):=λu hu=>e0▸hy u hu
     have hya:∀ u∈a,O.lt (key y) (key u):=λu hu=>e0▸hx u hu
     refine ⟨List.pairwise_cons.2 ⟨λz hz=>?_,hr⟩,λz=>?_⟩
     ·rw [hp x y e0];rcases (hm z).1 hz with ⟨h3,_⟩|⟨h3,_⟩|⟨u,hu,v,hv,e,rfl⟩
      ·exact hx z h3
      ·exact hxb z h3
      ·rw [hp u v e];exact hx u hu
     ·rw [List.mem_cons,hm z];constructor
      ·rintro (rfl|⟨h3,h4⟩|⟨h3,h4⟩|⟨u,hu,v,hv,e,h4⟩)
       ·exact .inr (.inr ⟨x,List.mem_cons_self ..,y,List.mem_cons_self ..,e0,rfl⟩)
       ·refine .inl ⟨List.mem_cons_of_mem _ h3,λu hu e=>?_⟩;rcases List.mem_cons.1 hu with rfl|hu
        ·exact O.irr _ (e▸hya z h3)
        ·exact h4 u hu e
       ·refine .inr (.inl ⟨List.mem_cons_of_mem _ h3,λu hu e=>?_⟩);rcases List.mem_cons.1 hu with rfl|hu
        ·exact O.irr _ (e▸hxb z h3)
        ·exact h4 u hu e
       ·exact .inr (.inr ⟨u,List.mem_cons_of_mem _ hu,v,List.mem_cons_of_mem _ hv,e,h4⟩)
      ·rintro (⟨h3,h4⟩|⟨h3,h4⟩|⟨u,hu,v,hv,e,h4⟩)
       ·rcases List.mem_cons.1 h3 with rfl|h3
        ·exact absurd e0.symm (h4 y (List.mem_cons_self ..))
        ·exact .inr (.inl ⟨h3,λu hu=>h4 u (List.mem_cons_of_mem _ hu)⟩)
       ·rcases List.mem_cons.1 h3 with rfl|h3
        ·exact absurd e0 (h4 x (List.mem_cons_self ..))
        ·exact .inr (.inr (.inl ⟨h3,λu hu=>h4 u (List.mem_cons_of_mem _ hu)⟩))
       ·rcases List.mem_cons.1 hu with h5|hu<;>rcases List.mem_cons.1 hv with h6|hv
        ·subst h5;subst h6;exact .inl h4
        ·subst h5;exact (O.irr _ (e▸hxb v hv)).elim
        ·subst h6;exact (O.irr _ (e▸hya u hu)).elim
        ·exact .inr (.inr (.inr ⟨u,hu,v,hv,e,h4⟩))
theorem Fx (hp:∀ x y,key x=key y->key (pick x y)=key x) {a b:List ρ} (ha:Ct O key a) (hb:Ct O key b):Ct O key (EG O key pick a b):=(KW hp _ a b (Nat.le_refl _) ha hb).1
theorem mem_merge (hp:∀ x y,key x=key y->key (pick x y)=key x) {a b:List ρ} (ha:Ct O key a) (hb:Ct O key b) {z:ρ}:
 z∈EG O key pick a b↔(z∈a/\∀ y∈b,key y≠key z)\/(z∈b/\∀ x∈a,key x≠key z)\/∃ x∈a,∃ y∈b,key x=key y/\z=pick x y:=(KW hp _ a b (Nat.le_refl _) ha hb).2 z
theorem Qj:∀ (n:Nat) (a b:List ρ),a.length+b.length<=n->(EG O key pick a b).length<=a.length+b.length:=by
 intro n;induction n with
 |zero=>
  intro a b hn;obtain rfl:a=[]:=List.length_eq_zero_iff.1 (by omega);simp [EG]
 |succ n ih=>
  intro a b hn
  match a,b,hn with
  |[],b,_=>simp [EG]
  |x::a,[],_=>rw [JM];simp
  |x::a,y::b,hn=>
   simp only [List.length_cons] at hn;unfold EG;split
   ·have:=ih a (y::b) (by simp only [List.length_cons];omega);simp only [List.length_cons] at this⊢;omega
   ·split
    ·have:=ih (x::a) b (by simp only [List.length_cons];omega);simp only [List.length_cons] at this⊢;omega
    ·have:=ih a b (by omega);simp only [List.length_cons];omega
variable [DecidableEq κ]
variable (key)
def look (l:List ρ) (k:κ):Option ρ:=l.find? λx=>decide (key x=k)
variable {key}
theorem EJ {l:List ρ} (h:Ct O key l) {k:κ} {x:ρ}:look key l k=some x↔x∈l/\key x=k:=by
 constructor
 ·intro e;exact ⟨List.mem_of_find?_eq_some e,by simpa using List.find?_some e⟩
 ·rintro ⟨hx,rfl⟩;cases e:look key l (key x) with
  |none=>exact absurd (List.find?_eq_none.1 e x hx) (by simp)
  |some y=>rw [mem_unique h (List.mem_of_find?_eq_some e) hx (by simpa using List.find?_some e)]
theorem Ej {l:List ρ} {k:κ}:look key l k=none↔∀ x∈l,key x≠k:=by
 unfold look;rw [List.find?_eq_none];simp
theorem Le {l m:List ρ} (hl:Ct O key l) (hm:Ct O key m) (h:∀ k,look key l k=look key m k):l=m:=
 KI hl hm λx=>by
  have h1:=EJ hl (k:=key x) (x:=x);have h2:=EJ hm (k:=key x) (x:=x);rw [h] at h1;simp only [and_true] at h1 h2;exact h1.symm.trans h2
theorem Jo {l:List ρ} (h:Ct O key l) {k:κ} {y:ρ} (hy:key y=k) (j:κ):look key (GN O key k y l) j=if j=k then some y else look key l j:=by
 have hp:=E5 (k:=k) h hy;split
 ·rename_i e;exact (EJ hp).2 ⟨HZ.2 (.inl rfl),by rw [hy,e]⟩
 ·rename_i e;cases e1:look key l j with
  |some x=>
   obtain ⟨h1,h2⟩:=(EJ h).1 e1;exact (EJ hp).2 ⟨HZ.2 (.inr ⟨h1,by rw [h2];exact e⟩),h2⟩
  |none=>
   refine Ej.2 λx hx e2=>?_
   rcases HZ.1 hx with rfl|⟨h1,_⟩
   ·exact e (by rw [<-e2,hy])
   ·exact Ej.1 e1 x h1 e2
def comb (pick:ρ->ρ->ρ):Option ρ->Option ρ->Option ρ
 |some x,some y=>some (pick x y)
 |some x,none=>some x
 |none,r=>r
theorem II (hp:∀ x y,key x=key y->key (pick x y)=key x) {a b:List ρ} (ha:Ct O key a) (hb:Ct O key b) (k:κ):look key (EG O key pick a b) k=comb pick (look key a k) (look key b k):=by
 have hr:=Fx hp ha hb;cases ea:look key a k with
 |none=>
  cases eb:look key b k with
  |none=>
   refine Ej.2 λz hz e=>?_
   rcases (mem_merge hp ha hb).1 hz with ⟨h1,_⟩|⟨h1,_⟩|⟨u,hu,v,hv,e1,rfl⟩
   ·exact Ej.1 ea z h1 e
   ·exact Ej.1 eb z h1 e
   ·exact Ej.1 ea u hu (by rw [<-e,hp u v e1])
  |some y=>
   obtain ⟨h1,h2⟩:=(EJ hb).1 eb;exact (EJ hr).2 ⟨(mem_merge hp ha hb).2 (.inr (.inl ⟨h1,λx hx=>by rw [h2];exact Ej.1 ea x hx⟩)),h2⟩
 |some x=>
  obtain ⟨h1,h2⟩:=(EJ ha).1 ea;cases eb:look key b k with
  |none=>exact (EJ hr).2 ⟨(mem_merge hp ha hb).2 (.inl ⟨h1,λy hy=>by rw [h2];exact Ej.1 eb y hy⟩),h2⟩
  |some y=>
   obtain ⟨h3,h4⟩:=(EJ hb).1 eb;exact (EJ hr).2 ⟨(mem_merge hp ha hb).2 (.inr (.inr ⟨x,h1,y,h3,by rw [h2,h4],rfl⟩)),by rw [hp x y (by rw [h2,h4]),h2]⟩
theorem MJ (new:ρ->ρ) (hn:∀ y,key (new y)=key y):∀ (b out:List ρ),Ct O key b->Ct O key out->
 Ct O key (b.foldl (λo y=>GN O key (key y) (new y) o) out)/\∀ k,look key (b.foldl (λo y=>GN O key (key y) (new y) o) out) k=match look key b k with|some y=>some (new y)|none=>look key out k
 |[],out,_,ho=>⟨ho,λk=>rfl⟩
 |y::b,out,hb,ho=>by
  obtain ⟨hy,hb'⟩:=List.pairwise_cons.1 hb;obtain ⟨h1,h2⟩:=MJ new hn b (GN O key (key y) (new y) out) hb' (E5 ho (hn y));refine ⟨h1,λk=>?_⟩;rw [List.foldl_cons,h2 k];have e0:look key (y::b) k=if key y=k then some y else look key b k:=by
   unfold look;rw [List.find?_cons];by_cases e:key y=k<;>simp [e]
  rw [e0];by_cases e:key y=k
  ·have eb:look key b k=none:=Ej.2 λx hx e2=>O.irr k (by have:=hy x hx;rw [e,e2] at this;exact this)
   rw [eb,if_pos e];simp only
   rw [Jo ho (hn y),if_pos e.symm]
  ·rw [if_neg e];cases look key b k with
   |some z=>rfl
   |none=>simp only;rw [Jo ho (hn y),if_neg (λh=>e h.symm)]
theorem PI (new:ρ->ρ) (hn:∀ y,key (new y)=key y) (hp:∀ x y,key x=key y->key (pick x y)=key x) {a b:List ρ} (ha:Ct O key a) (hb:Ct O key b)
 (h:∀ y∈b,some (new y)=comb pick (look key a (key y)) (some y)):b.foldl (λo y=>GN O key (key y) (new y) o) a=EG O key pick a b:=by
 obtain ⟨h1,h2⟩:=MJ new hn b a hb ha;refine Le h1 (Fx hp ha hb) λk=>?_
 rw [h2 k,II hp ha hb k];cases eb:look key b k with
 |none=>cases look key a k<;>rfl
 |some y=>
  obtain ⟨hy,rfl⟩:=(EJ hb).1 eb;exact h y hy
theorem PK (hp:∀ x y,key x=key y->key (pick x y)=key x) (hc:∀ x y,key x=key y->pick x y=pick y x) {a b:List ρ} (ha:Ct O key a) (hb:Ct O key b):EG O key pick a b=EG O key pick b a:=
 Le (Fx hp ha hb) (Fx hp hb ha) λk=>by
  rw [II hp ha hb,II hp hb ha];cases ea:look key a k with
  |none=>cases look key b k<;>rfl
  |some x=>
   cases eb:look key b k with
   |none=>rfl
   |some y=>exact congrArg some (hc x y (by rw [((EJ ha).1 ea).2,((EJ hb).1 eb).2]))
theorem PL (hp:∀ x y,key x=key y->key (pick x y)=key x) (hs:∀ x,pick x x=x) {a:List ρ} (ha:Ct O key a):EG O key pick a a=a:=
 Le (Fx hp ha ha) ha λk=>by
  rw [II hp ha ha];cases look key a k with
  |none=>rfl
  |some x=>exact congrArg some (hs x)
theorem WY (hp:∀ x y,key x=key y->key (pick x y)=key x) (hc:∀ x y z,key x=key y->key y=key z->pick (pick x y) z=pick x (pick y z)) {a b c:List ρ} (ha:Ct O key a) (hb:Ct O key b) (hcc:Ct O key c):
 EG O key pick (EG O key pick a b) c=EG O key pick a (EG O key pick b c):=
 Le (Fx hp (Fx hp ha hb) hcc) (Fx hp ha (Fx hp hb hcc)) λk=>by
  rw [II hp (Fx hp ha hb) hcc,II hp ha hb,II hp ha (Fx hp hb hcc),II hp hb hcc];cases ea:look key a k with
  |none=>cases look key b k<;>cases look key c k<;>rfl
  |some x=>
   cases eb:look key b k with
   |none=>cases look key c k<;>rfl
   |some y=>
    cases ec:look key c k with
    |none=>rfl
    |some z=>exact congrArg some (hc x y z (by rw [((EJ ha).1 ea).2,((EJ hb).1 eb).2]) (by rw [((EJ hb).1 eb).2,((EJ hcc).1 ec).2]))
end
end Go.Proofs.YtohjohhcjcljoaaGreatDoor.Y
end
