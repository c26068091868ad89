/- Plain words used by all laws of this seat: "eventually" (enough rounds), bytes as whole numbers. No condition. -/
import Derived.Test.YtikggnalmidlhaaGreatDoorWMore
import Derived.Laws.Strings
namespace Go.Proofs.YtikggnalmidlhaaGreatDoor.Y
set_option linter.unusedVariables false
set_option linter.unusedSimpArgs false
open RowKit AR Aa Ad
section
variable {α β:Type} {f g:Nat->Option α} {r:α} {c:Prop} [Decidable c]
theorem AU (hc:c) (h:Ev f r):Ev (λk=>if c then f k else g k) r:=by simpa only [if_pos hc] using h
theorem Ah (hc:¬c) (h:Ev g r):Ev (λk=>if c then f k else g k) r:=by simpa only [if_neg hc] using h
theorem Am (r:α):Ev (λ_=>some r) r:=⟨0,λ_ _=>rfl⟩
theorem BB (h:Ev (λk=>g (k+1)) r):Ev g r:=by
 obtain ⟨K,h⟩:=h;refine ⟨K+1,λk hk=>?_⟩;obtain ⟨j,rfl⟩:∃ j,k=j+1:=⟨k - 1,by omega⟩;exact h j (by omega)
theorem BL {h:Nat->α->Option β} {q:β} (hg:Ev g r) (k:Ev (λn=>h n r) q):Ev (λn=>(g n).bind λx=>h n x) q:=Ev.bind hg k
theorem PL {r':α} (h:Ev g r) (h':Ev g r'):r=r':=by
 obtain ⟨K,h⟩:=h;obtain ⟨K',h'⟩:=h';have a:=h (K+K') (by omega);have b:=h' (K+K') (by omega);rw [a] at b;exact Option.some.inj b
theorem BG {r':α} (h:Ev g r) (e:r=r'):Ev g r':=e▸h
end
theorem FX (s:ByteArray):bytesOf s=s.data.toList.map λb=>(b.toNat:Int):=rfl
theorem EN {s:ByteArray} {c:Int} (h:c∈bytesOf s):0<=c/\c<256:=by
 rw [FX] at h;obtain ⟨b,_,rfl⟩:=List.mem_map.mp h;have:=b.toNat_lt;omega
theorem Mj {a b:List UInt8} (h:(a.map λx=>(x.toNat:Int))=b.map λx=>(x.toNat:Int)):a=b:=by
 induction a generalizing b with
 |nil=>cases b with
  |nil=>rfl
  |cons _ _=>simp at h
 |cons x a ih=>cases b with
  |nil=>simp at h
  |cons y b=>
   simp only [List.map_cons,List.cons.injEq] at h;have:x=y:=UInt8.toNat_inj.mp (by omega);rw [this,ih h.2]
theorem DI {a b:ByteArray} (h:bytesOf a=bytesOf b):a=b:=by
 have h':=Mj (show a.data.toList.map _=b.data.toList.map _ from h);cases a;cases b;simp only at h';rw [ByteArray.mk.injEq];exact Array.toList_inj.mp h'
theorem toList_data (s:ByteArray):s.toList=s.data.toList:=ByteArray.toList_eq s
theorem toList_inj {a b:ByteArray}:a.toList=b.toList↔a=b:=by
 constructor
 ·intro h;rw [toList_data,toList_data] at h;cases a;cases b;rw [ByteArray.mk.injEq];exact Array.toList_inj.mp h
 ·rintro rfl;rfl
theorem EC {a b:ByteArray}:a.toList=b.toList↔bytesOf a=bytesOf b:=⟨λh=>by rw [toList_inj.mp h],λh=>by rw [DI h]⟩
theorem Dw (a b:ByteArray):bytesOf (a++b)=bytesOf a++bytesOf b:=by
 simp [FX,ByteArray.data_append]
theorem Da {xs:List Int} (h:∀ x∈xs,0<=x/\x<256):bytesOf (strOfNums xs)=xs:=by
 rw [FX,strOfNums_data,List.map_map]
 conv=>rhs;rw [<-List.map_id xs]
 apply List.map_congr_left;intro x hx;have:=h x hx;simp only [Function.comp,id,UInt8.toNat_ofNat'];omega
theorem Vv (s:ByteArray):strOfNums (bytesOf s)=s:=DI (Da λ_ h=>EN h)
theorem E9 (s:ByteArray) (a b:Nat):bytesOf (s.extract a b)=((bytesOf s).drop a).take (b - a):=by
 rw [FX,FX,ByteArray.data_extract,Array.toList_extract,List.extract_eq_take_drop,List.map_take,List.map_drop]
theorem KQ:bytesOf (⟨#[]⟩:ByteArray)=[]:=rfl
theorem GX {s:ByteArray}:bytesOf s=[]↔s.size=0:=by
 rw [<-List.length_eq_zero_iff,bytesOf_length]
theorem TM (s:ByteArray) (i:Int):bt s i=(bytesOf s).getD i.toNat 0:=by rw [<-Jh];rfl
theorem X7 {s:ByteArray} {i:Nat} {c:Int} {l:List Int} (h:(bytesOf s).drop i=c::l):bt s i=c:=by
 rw [TM,List.getD_eq_getElem?_getD];have:(bytesOf s)[i]? =some c:=by
  have:=congrArg (λx=>x[0]?) h;simpa [List.getElem?_drop] using this
 simp [this]
theorem Fz (s:ByteArray) (i:Int):0<=bt s i/\bt s i<256:=by
 unfold bt;split
 ·have:=(s[i.toNat]'(by assumption)).toNat_lt;omega
 ·omega
theorem DJ (s:ByteArray) {i:Nat} (h:i<=s.size):(i=s.size/\(bytesOf s).drop i=[])\/(i<s.size/\(bytesOf s).drop i=bt s i::(bytesOf s).drop (i+1)):=by
 have hl:=bytesOf_length s;rcases Nat.lt_or_ge i s.size with h1|h1
 ·right;refine ⟨h1,?_⟩;rw [List.drop_eq_getElem_cons (by omega)];congr 1;rw [TM,List.getD_eq_getElem?_getD,Int.toNat_natCast,List.getElem?_eq_getElem (by omega)];rfl
 ·left;exact ⟨by omega,List.drop_eq_nil_of_le (by omega)⟩
theorem KD {n:Int} (h: -9223372036854775808<=n) (h':n<=9223372036854775807):wrap64 n=n:=by unfold wrap64;omega
theorem wu64 (n:Int):IntKind.u64.wrap n=n%18446744073709551616:=by simp [IntKind.wrap,IntKind.bits,IntKind.signed]
theorem FY {n:Int} (h:0<=n) (h':n<=18446744073709551615):IntKind.u64.wrap n=n:=by rw [wu64];omega
end Go.Proofs.YtikggnalmidlhaaGreatDoor.Y
