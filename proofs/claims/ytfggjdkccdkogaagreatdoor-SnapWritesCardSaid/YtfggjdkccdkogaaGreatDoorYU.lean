/- What a format keeps of a jar, by the document; the laws' jar. -/
import Derived.Test.YtfggjdkccdkogaaGreatDoorPrint29
import Derived.Test.YtfggjdkccdkogaaGreatDoorYT
section
namespace Go.Proofs.YtfggjdkccdkogaaGreatDoor.Y
set_option linter.unusedVariables false
set_option linter.unusedSimpArgs false
open RowKit Print Ac Aq Aw
theorem J5 {α:Type} {o:Option α} {r:α} (h:o=some r):Ev (λ_=>o) r:=⟨0,λ_ _=>h⟩
def Lj (n:Int):ByteArray:=put (IntKind.u64.wrap n).toNat
theorem KU (n:Int):0<=IntKind.u64.wrap n/\IntKind.u64.wrap n<18446744073709551616:=by rw [wu64];omega
theorem Fq (n:Int):(Lj n).size<=10:=by
 have:=KU n;unfold Lj;rw [Qu];exact IJ (by omega)
theorem MX (n:Int):Ev (λk=>DK.f k (IntKind.u64.wrap n)) (Lj n):=by
 have h:=KU n;have:=Xa (n:=(IntKind.u64.wrap n).toNat) (by omega);rw [Int.toNat_of_nonneg h.1] at this;exact this
theorem Ip (n:Int):Ev (λk=>Ae.f k n) (Lj n):=by
 have h:=KU n;have:=NT (n:=(IntKind.u64.wrap n).toNat) (by omega);rw [Int.toNat_of_nonneg h.1] at this;unfold Ae.f;exact AY this (Ad _)
def KV (v:Int) (c:SC):ByteArray:=
 Hl v c.f10 (Jr c.f0++Jr c.f1++Jr c.f2++Jr c.f3++(strOfNums [GV v c.f8 c.f9 c.f7]++Lj c.f6++Lj c.f4)++(if 1<v then Lj c.f5 else ⟨#[]⟩))
theorem FB {t:ByteArray} (h:t.size<=500):(Jr t).size<=510:=by
 rw [Og];have:=IJ (n:=t.size) (by omega);omega
theorem Qr (v n:Int):(if 1<v then Lj n else (⟨#[]⟩:ByteArray)).size<=10:=by
 split
 ·exact Fq n
 ·exact Nat.zero_le _
theorem Ll {c:SC} (h:Fb c) (v:Int):(KV v c).size<=2100:=by
 have h0:=FB (t:=c.f0) (by have:=h.1;omega);have h1:=FB (t:=c.f1) (by have:=h.2.1;omega);have h2:=FB (t:=c.f2) (by have:=h.2.2.1;omega);have h3:=FB (t:=c.f3) (by have:=h.2.2.2;omega);have h4:=Fq c.f4;have h6:=Fq c.f6;have h5:=Qr v c.f5;have h7:(if 2<v then strOfNums [c.f10%256] else (⟨#[]⟩:ByteArray)).size<=1:=by
  split
  ·rw [strOfNums_size];exact Nat.le_refl _
  ·exact Nat.zero_le _
 unfold KV Hl;simp only [ByteArray.size_append,strOfNums_size,List.length_cons,List.length_nil] at*
 omega
theorem Vt {c:SC} (h:Fb c) (v:Int):Ev (λk=>P8 k v c) (KV v c):=by
 have h0:=FB (t:=c.f0) (by have:=h.1;omega);have h1:=FB (t:=c.f1) (by have:=h.2.1;omega);have h2:=FB (t:=c.f2) (by have:=h.2.2.1;omega);have h3:=FB (t:=c.f3) (by have:=h.2.2.2;omega);have h4:=Fq c.f4;have h6:=Fq c.f6;have h5:=Qr v c.f5;have hz:Ev (λk=>if 1<v then DK.f k (IntKind.u64.wrap c.f5) else some ⟨#[]⟩) (if 1<v then Lj c.f5 else ⟨#[]⟩):=by
  by_cases hv:1<v
  ·rw [if_pos hv];exact AU hv (MX _)
  ·rw [if_neg hv];exact Ab hv (Ad _)
 unfold P8;exact AY (JS (by have:=h.1;omega)) (AY (JS (by have:=h.2.1;omega)) (AY (JS (by have:=h.2.2.1;omega)) (AY (JS (by have:=h.2.2.2;omega)) (AY (J5 (MV _ _ _ _ _ _ _ _ _ _ _)) (AY (MX _) (AY (MX _) (AY hz (AU (by omega) (Ad _)))))))))
theorem XQ {c:SC} (h:Fb c) (v:Int):Ev (λk=>Ei.f k v c.f0 c.f1 c.f2 c.f3 c.f4 c.f5 c.f6 c.f7 c.f8 c.f9 c.f10) (KV v c):=Vt h v
theorem Ro {c:SC} (h:Fb c) {v:Int} (hv:1<=v/\v<=3):Ev (λk=>BC.f k v c.f0 c.f1 c.f2 c.f3 c.f4 c.f5 c.f6 c.f7 c.f8 c.f9 c.f10) (KV v c):=by
 have h0:=FB (t:=c.f0) (by have:=h.1;omega);have h1:=FB (t:=c.f1) (by have:=h.2.1;omega);have h2:=FB (t:=c.f2) (by have:=h.2.2.1;omega);have h3:=FB (t:=c.f3) (by have:=h.2.2.2;omega);have h4:=Fq c.f4;have h6:=Fq c.f6;have h5:=Fq c.f5;have hs:∀ x:Int,(strOfNums [x]).size=1:=λx=>strOfNums_size _
 have fl:=K4 v c.f0 c.f1 c.f2 c.f3 c.f4 c.f5 c.f6 c.f7 c.f8 c.f9 c.f10;unfold BC.f;refine AY (G5 (by have:=h.1;omega)) (AY (G5 (by have:=h.2.1;omega)) (AU (by omega) ?_));refine AY (G5 (by have:=h.2.2.1;omega)) (AU (by simp only [ByteArray.size_append];omega) ?_);refine AY (G5 (by have:=h.2.2.2;omega)) (AU (by simp only [ByteArray.size_append];omega) ?_);refine AY fl (AY (Ad _) (AU (by simp only [ByteArray.size_append,hs];omega) ?_));refine AY (Ip _) (AU (by simp only [ByteArray.size_append,hs];omega) ?_);refine AY (Ip _) (AU (by simp only [ByteArray.size_append,hs];omega) ?_);unfold KV Hl;by_cases h2:v>=2
 ·refine AU h2 (AY (Ip _) (AU (by simp only [ByteArray.size_append,hs];omega) ?_));rw [if_pos (show 1<v by omega)];by_cases h3:v=3
  ·rw [if_pos (show 2<v by omega)];exact AU h3 (AY (Ad _) (AU (by simp only [ByteArray.size_append,hs];omega) (BJ (Ad _) (by simp only [ByteArray.append_assoc]))))
  ·rw [if_neg (show ¬2<v by omega),Kg];exact Ab h3 (BJ (Ad _) (by simp only [ByteArray.append_assoc]))
 ·rw [if_neg (show ¬1<v by omega),if_neg (show ¬2<v by omega),Kg,Kg];exact Ab h2 (Ab (by omega) (BJ (Ad _) (by simp only [ByteArray.append_assoc])))
def Ic (v:Int) (l:List SC) (b:ByteArray):ByteArray:=l.foldl (λb c=>b++KV v c) b
def headW (v:Int) (n:Nat):ByteArray:=((⟨#[67,74]⟩:ByteArray)++strOfNums [v%256])++Lj n
def Lm (v:Int) (l:List SC):ByteArray:=Ic v l (headW v l.length)++F5 (Ic v l (headW v l.length))
def Lp (v:Int) (l:List SC):ByteArray×Bool:=if 1<=v/\v<=3 then (Lm v l,true) else (⟨#[]⟩,false)
theorem JO (v:Int) (l:List SC) (c:SC) (b:ByteArray):Ic v (c::l) b=Ic v l (b++KV v c):=rfl
theorem KW (v:Int) (n:Nat):(headW v n).size<=13:=by
 have:=Fq n;unfold headW;rw [ByteArray.size_append,ByteArray.size_append,strOfNums_size];show 2+1+_<=_;omega
theorem XR {v:Int} (hv:1<=v/\v<=3) (l:List SC) (hl:l.length<=100) (hs:∀ c∈l,Fb c):∀ d j (b:ByteArray),j+d=l.length->b.size<=13+2100*j->
 Ev (λk=>Av.l0 k v b l (l.length:Int) (j:Int)) (Ic v (l.drop j) b++F5 (Ic v (l.drop j) b),true):=by
 intro d;induction d with
 |zero=>
  intro j b hj hb;rw [List.drop_eq_nil_of_le (by omega)];apply Az;unfold Av.l0;refine Ab (by omega) (AY (J5 (VN (by omega))) (AU ?_ (Ad _)));rw [IX];omega
 |succ d ih=>
  intro j b hj hb;have hlt:j<l.length:=by omega
  have hm:l[j]∈l:=List.getElem_mem hlt;have hz:=Ll (hs _ hm) v;apply Az;unfold Av.l0;refine AU (by omega) (AU (by omega) (AU (by omega) ?_));rw [Hg hlt,JB (by omega)];refine AY (XQ (hs _ hm) v) (AU (by omega) ?_);rw [List.drop_eq_getElem_cons hlt,JO];exact ih (j+1) _ (by omega) (by rw [ByteArray.size_append];omega)
theorem Vu {v:Int} (hv:1<=v/\v<=3) (l:List SC) (hl:l.length<=100) (hs:∀ c∈l,Fb c):∀ d j (b:ByteArray),j+d=l.length->b.size<=13+2100*j->
 Ev (λk=>Am.l0 k v l b (j:Int)) (Ic v (l.drop j) b++F5 (Ic v (l.drop j) b),true):=by
 intro d;induction d with
 |zero=>
  intro j b hj hb;rw [List.drop_eq_nil_of_le (by omega)];apply Az;unfold Am.l0;refine Ab (by omega) (AY (Il (by show b.size<=_;omega)) (AU ?_ (Ad _)));rw [IX];omega
 |succ d ih=>
  intro j b hj hb;have hlt:j<l.length:=by omega
  have hm:l[j]∈l:=List.getElem_mem hlt;have hz:=Ll (hs _ hm) v;apply Az;unfold Am.l0;refine AU (by omega) (AU (by omega) ?_);rw [Hg hlt,JB (by omega)];refine AY (Ro (hs _ hm) hv) (AU (by omega) ?_);rw [List.drop_eq_getElem_cons hlt,JO];exact ih (j+1) _ (by omega) (by rw [ByteArray.size_append];omega)
theorem Pg {v:Int} {l:List SC} (hl:l.length<=100) (hs:∀ c∈l,Fb c):Ev (λk=>Am.f k v l) (Lp v l):=by
 unfold Am.f Lp;have bad:∀ b,b=true->Ev (λk=>Am.j0 k v l b) (⟨#[]⟩,false):=by
  rintro b rfl;apply Az;unfold Am.j0;exact AU rfl (Ad _)
 by_cases hv:1<=v/\v<=3
 ·rw [if_pos hv];refine Ab (by omega) ?_;rw [decide_eq_false (by omega)];apply Az;unfold Am.j0;have hn:=Fq l.length;refine Ab (by decide) (AY (Ad _) (AU (by rw [strOfNums_size];simp) (AY (Ip _) (AU ?_ ?_))))
  ·rw [ByteArray.size_append,strOfNums_size];show 2+1+_<=_;omega
  ·have:=Vu hv l hl hs l.length 0 (headW v l.length) (by omega) (KW _ _);exact this
 ·rw [if_neg hv];by_cases h1:v<1
  ·exact AU h1 (bad _ rfl)
  ·exact Ab h1 (bad _ (decide_eq_true (by omega)))
theorem K8 {v:Int} {l:List SC} (hl:l.length<=100) (hs:∀ c∈l,Fb c):Ev (λk=>Av.f k v (l.map G8)) (Lp v l):=by
 unfold Av.f Lp;have bad:∀ b,b=true->Ev (λk=>Av.j0 k v b (l.map G8)) (⟨#[]⟩,false):=by
  rintro b rfl;apply Az;unfold Av.j0;exact AU rfl (Ad _)
 by_cases hv:1<=v/\v<=3
 ·rw [if_pos hv];refine Ab (by omega) ?_;rw [decide_eq_false (by omega)];apply Az;unfold Av.j0;have hn:=Fq l.length;have hlen:FE.f (l.map G8)=some (l.length:Int):=by
   unfold FE.f EN.f;simp
  refine Ab (by decide) (AY (Ad _) (AU (by rw [strOfNums_size];simp) (AY (J5 hlen) (AY (MX _) (AU ?_ (AY (J5 (YO (by omega))) ?_))))))
  ·rw [ByteArray.size_append,strOfNums_size];show 2+1+_<=_;omega
  ·have:=XR hv l hl hs l.length 0 (headW v l.length) (by omega) (KW _ _);exact this
 ·rw [if_neg hv];by_cases h1:v<1
  ·exact AU h1 (bad _ rfl)
  ·exact Ab h1 (bad _ (decide_eq_true (by omega)))
end Go.Proofs.YtfggjdkccdkogaaGreatDoor.Y
end
section
namespace Go.Proofs.YtfggjdkccdkogaaGreatDoor.Y
set_option linter.unusedVariables false
set_option linter.unusedSimpArgs false
open RowKit Print Ac Aq Aw
def KA (f now:Int):Prop:=(1<=f/\f<=6)/\0<=now/\now<=253402300799
instance (f now:Int):Decidable (KA f now):=inferInstanceAs (Decidable (_/\_))
section
variable {f now:Int} {d p n v:ByteArray} {c4 c5 c6:Int} {b7 b8 b9:Bool} {ss:Int}
end
noncomputable def Hf (l:List SC):List SC×Bool:=if T9 l=true/\Lc l=true then (l,true) else ([],false)
theorem Qq (l:List SC):Ev (λk=>Dv.f k l) ((Hf l).1.map G8,(Hf l).2):=by
 simp only [Dv.f];refine AY (YM l) ?_;by_cases hf:T9 l=true
 ·obtain ⟨hl,hs⟩:=Sg.1 hf;refine AU hf (AY (UC hl hs) ?_);by_cases hr:Lc l=true
  ·have hj:=(NH hs).1 hr;have ho:=NG hl hs;rw [Kv hj] at ho;refine AU hr (AY ho ?_);unfold Hf;rw [if_pos ⟨hf,hr⟩];exact Ad _
  ·unfold Hf;rw [if_neg (λh=>hr h.2)];exact Ab hr (Ad _)
 ·unfold Hf;rw [if_neg (λh=>hf h.1)];exact Ab hf (Ad _)
theorem OY {l:List SC} (h:(Hf l).2=true):(Hf l).1=l/\l.length<=100/\PU l/\∀ c∈l,Fb c:=by
 unfold Hf at h⊢
 split at h
 ·rename_i hh;obtain ⟨hl,hs⟩:=Sg.1 hh.1;rw [if_pos hh];exact ⟨rfl,hl,(NH hs).1 hh.2,hs⟩
 ·cases h
end Go.Proofs.YtfggjdkccdkogaaGreatDoor.Y
end
