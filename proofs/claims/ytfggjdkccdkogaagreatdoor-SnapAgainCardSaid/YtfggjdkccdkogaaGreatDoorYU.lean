/- What a format keeps of a jar, by the document; the laws' jar. -/
import Derived.Test.YtfggjdkccdkogaaGreatDoorPrint29
import Derived.Test.YtfggjdkccdkogaaGreatDoorYT
section
namespace Go.Proofs.YtfggjdkccdkogaaGreatDoor.Y
set_option linter.unusedVariables false
set_option linter.unusedSimpArgs false
open RowKit Print Ac Aq Aw
theorem J5 {α:Type} {o:Option α} {r:α} (h:o=some r):Ev (λ_=>o) r:=⟨0,λ_ _=>h⟩
def Lj (n:Int):ByteArray:=put (IntKind.u64.wrap n).toNat
theorem KU (n:Int):0<=IntKind.u64.wrap n/\IntKind.u64.wrap n<18446744073709551616:=by rw [wu64];omega
theorem Fq (n:Int):(Lj n).size<=10:=by
 have:=KU n;unfold Lj;rw [Qu];exact IJ (by omega)
theorem MX (n:Int):Ev (λk=>DK.f k (IntKind.u64.wrap n)) (Lj n):=by
 have h:=KU n;have:=Xa (n:=(IntKind.u64.wrap n).toNat) (by omega);rw [Int.toNat_of_nonneg h.1] at this;exact this
def KV (v:Int) (c:SC):ByteArray:=
 Hl v c.f10 (Jr c.f0++Jr c.f1++Jr c.f2++Jr c.f3++(strOfNums [GV v c.f8 c.f9 c.f7]++Lj c.f6++Lj c.f4)++(if 1<v then Lj c.f5 else ⟨#[]⟩))
theorem FB {t:ByteArray} (h:t.size<=500):(Jr t).size<=510:=by
 rw [Og];have:=IJ (n:=t.size) (by omega);omega
theorem Qr (v n:Int):(if 1<v then Lj n else (⟨#[]⟩:ByteArray)).size<=10:=by
 split
 ·exact Fq n
 ·exact Nat.zero_le _
theorem Ll {c:SC} (h:Fb c) (v:Int):(KV v c).size<=2100:=by
 have h0:=FB (t:=c.f0) (by have:=h.1;omega);have h1:=FB (t:=c.f1) (by have:=h.2.1;omega);have h2:=FB (t:=c.f2) (by have:=h.2.2.1;omega);have h3:=FB (t:=c.f3) (by have:=h.2.2.2;omega);have h4:=Fq c.f4;have h6:=Fq c.f6;have h5:=Qr v c.f5;have h7:(if 2<v then strOfNums [c.f10%256] else (⟨#[]⟩:ByteArray)).size<=1:=by
  split
  ·rw [strOfNums_size];exact Nat.le_refl _
  ·exact Nat.zero_le _
 unfold KV Hl;simp only [ByteArray.size_append,strOfNums_size,List.length_cons,List.length_nil] at*
 omega
theorem Vt {c:SC} (h:Fb c) (v:Int):Ev (λk=>P8 k v c) (KV v c):=by
 have h0:=FB (t:=c.f0) (by have:=h.1;omega);have h1:=FB (t:=c.f1) (by have:=h.2.1;omega);have h2:=FB (t:=c.f2) (by have:=h.2.2.1;omega);have h3:=FB (t:=c.f3) (by have:=h.2.2.2;omega);have h4:=Fq c.f4;have h6:=Fq c.f6;have h5:=Qr v c.f5;have hz:Ev (λk=>if 1<v then DK.f k (IntKind.u64.wrap c.f5) else some ⟨#[]⟩) (if 1<v then Lj c.f5 else ⟨#[]⟩):=by
  by_cases hv:1<v
  ·rw [if_pos hv];exact AU hv (MX _)
  ·rw [if_neg hv];exact Ab hv (Ad _)
 unfold P8;exact AY (JS (by have:=h.1;omega)) (AY (JS (by have:=h.2.1;omega)) (AY (JS (by have:=h.2.2.1;omega)) (AY (JS (by have:=h.2.2.2;omega)) (AY (J5 (MV _ _ _ _ _ _ _ _ _ _ _)) (AY (MX _) (AY (MX _) (AY hz (AU (by omega) (Ad _)))))))))
theorem XQ {c:SC} (h:Fb c) (v:Int):Ev (λk=>Ei.f k v c.f0 c.f1 c.f2 c.f3 c.f4 c.f5 c.f6 c.f7 c.f8 c.f9 c.f10) (KV v c):=Vt h v
def Ic (v:Int) (l:List SC) (b:ByteArray):ByteArray:=l.foldl (λb c=>b++KV v c) b
def headW (v:Int) (n:Nat):ByteArray:=((⟨#[67,74]⟩:ByteArray)++strOfNums [v%256])++Lj n
def Lm (v:Int) (l:List SC):ByteArray:=Ic v l (headW v l.length)++F5 (Ic v l (headW v l.length))
def Lp (v:Int) (l:List SC):ByteArray×Bool:=if 1<=v/\v<=3 then (Lm v l,true) else (⟨#[]⟩,false)
theorem JO (v:Int) (l:List SC) (c:SC) (b:ByteArray):Ic v (c::l) b=Ic v l (b++KV v c):=rfl
theorem NP (v:Int):∀ (l:List SC) (b:ByteArray),(∀ c∈l,Fb c)->(Ic v l b).size<=b.size+2100*l.length
 |[],b,_=>by simp [Ic]
 |c::l,b,h=>by
  have:=NP v l (b++KV v c) λx hx=>h x (.tail _ hx)
  have h2:=Ll (h c (.head _)) v;rw [JO,List.length_cons];rw [ByteArray.size_append] at this;omega
theorem KW (v:Int) (n:Nat):(headW v n).size<=13:=by
 have:=Fq n;unfold headW;rw [ByteArray.size_append,ByteArray.size_append,strOfNums_size];show 2+1+_<=_;omega
theorem XR {v:Int} (hv:1<=v/\v<=3) (l:List SC) (hl:l.length<=100) (hs:∀ c∈l,Fb c):∀ d j (b:ByteArray),j+d=l.length->b.size<=13+2100*j->
 Ev (λk=>Av.l0 k v b l (l.length:Int) (j:Int)) (Ic v (l.drop j) b++F5 (Ic v (l.drop j) b),true):=by
 intro d;induction d with
 |zero=>
  intro j b hj hb;rw [List.drop_eq_nil_of_le (by omega)];apply Az;unfold Av.l0;refine Ab (by omega) (AY (J5 (VN (by omega))) (AU ?_ (Ad _)));rw [IX];omega
 |succ d ih=>
  intro j b hj hb;have hlt:j<l.length:=by omega
  have hm:l[j]∈l:=List.getElem_mem hlt;have hz:=Ll (hs _ hm) v;apply Az;unfold Av.l0;refine AU (by omega) (AU (by omega) (AU (by omega) ?_));rw [Hg hlt,JB (by omega)];refine AY (XQ (hs _ hm) v) (AU (by omega) ?_);rw [List.drop_eq_getElem_cons hlt,JO];exact ih (j+1) _ (by omega) (by rw [ByteArray.size_append];omega)
theorem K8 {v:Int} {l:List SC} (hl:l.length<=100) (hs:∀ c∈l,Fb c):Ev (λk=>Av.f k v (l.map G8)) (Lp v l):=by
 unfold Av.f Lp;have bad:∀ b,b=true->Ev (λk=>Av.j0 k v b (l.map G8)) (⟨#[]⟩,false):=by
  rintro b rfl;apply Az;unfold Av.j0;exact AU rfl (Ad _)
 by_cases hv:1<=v/\v<=3
 ·rw [if_pos hv];refine Ab (by omega) ?_;rw [decide_eq_false (by omega)];apply Az;unfold Av.j0;have hn:=Fq l.length;have hlen:FE.f (l.map G8)=some (l.length:Int):=by
   unfold FE.f EN.f;simp
  refine Ab (by decide) (AY (Ad _) (AU (by rw [strOfNums_size];simp) (AY (J5 hlen) (AY (MX _) (AU ?_ (AY (J5 (YO (by omega))) ?_))))))
  ·rw [ByteArray.size_append,strOfNums_size];show 2+1+_<=_;omega
  ·have:=XR hv l hl hs l.length 0 (headW v l.length) (by omega) (KW _ _);exact this
 ·rw [if_neg hv];by_cases h1:v<1
  ·exact AU h1 (bad _ rfl)
  ·exact Ab h1 (bad _ (decide_eq_true (by omega)))
end Go.Proofs.YtfggjdkccdkogaaGreatDoor.Y
end
section
namespace Go.Proofs.YtfggjdkccdkogaaGreatDoor.Y
set_option linter.unusedVariables false
set_option linter.unusedSimpArgs false
open RowKit Print Ac Aq Aw
abbrev ZR:=ByteArray×ByteArray×ByteArray×ByteArray×Int×Int×Int×Bool×Bool×Bool×Int×Bool
def KA (f now:Int):Prop:=(1<=f/\f<=6)/\0<=now/\now<=253402300799
instance (f now:Int):Decidable (KA f now):=inferInstanceAs (Decidable (_/\_))
def Vk (f now:Int) (d p n v:ByteArray) (c4 c5 c6:Int) (b7 b8 b9:Bool) (ss:Int):ZR:=
 (d,p,n,v,(if f<=3 then now else c4),(if f<=3 then now else if f=4 then c4 else c5),c6,(if f=2 then true else if f=4 then true else b7),b8,b9,(if f=1 then 0 else if f=4 then 0 else if f=5 then 0 else ss),true)
def Sn (f now:Int) (d p n v:ByteArray) (c4 c5 c6:Int) (b7 b8 b9:Bool) (ss:Int):ZR:=
 if KA f now then Vk f now d p n v c4 c5 c6 b7 b8 b9 ss else (⟨#[]⟩,⟨#[]⟩,⟨#[]⟩,⟨#[]⟩,0,0,0,false,false,false,0,false)
theorem six {f:Int} (h:1<=f/\f<=6):f=1\/f=2\/f=3\/f=4\/f=5\/f=6:=by omega
section
variable {f now:Int} {d p n v:ByteArray} {c4 c5 c6:Int} {b7 b8 b9:Bool} {ss:Int}
theorem Qo (h:KA f now):Sn f now d p n v c4 c5 c6 b7 b8 b9 ss=Vk f now d p n v c4 c5 c6 b7 b8 b9 ss:=if_pos h
theorem Vl (h:¬KA f now):Sn f now d p n v c4 c5 c6 b7 b8 b9 ss=(⟨#[]⟩,⟨#[]⟩,⟨#[]⟩,⟨#[]⟩,0,0,0,false,false,false,0,false):=if_neg h
end
theorem Sq (f now:Int):Di.f f now=some (decide (KA f now)):=by
 by_cases h:KA f now
 ·obtain ⟨⟨h1,h2⟩,h3,h4⟩:=id h;rw [decide_eq_true h];unfold Di.f;rw [if_pos h1,if_pos h2,if_pos h3,decide_eq_true h4]
 ·rw [decide_eq_false h];unfold Di.f;by_cases h1:f>=1
  ·rw [if_pos h1];by_cases h2:f<=6
   ·rw [if_pos h2];by_cases h3:now>=0
    ·rw [if_pos h3,decide_eq_false (λh4=>h ⟨⟨h1,h2⟩,h3,h4⟩)]
    ·rw [if_neg h3]
   ·rw [if_neg h2]
  ·rw [if_neg h1]
theorem Qp {f now:Int} {d p n v:ByteArray} {c4 c5 c6:Int} {b7 b8 b9:Bool} {ss:Int}:Ev (λk=>BD.f k f now d p n v c4 c5 c6 b7 b8 b9 ss) (Sn f now d p n v c4 c5 c6 b7 b8 b9 ss):=by
 unfold BD.f;rw [Sq];refine AY (Ad _) ?_;by_cases h:KA f now
 ·rw [decide_eq_true h,Qo h];refine AU rfl ⟨3,λk hk=>?_⟩;obtain ⟨k,rfl⟩:∃ m,k=m+3:=⟨k - 3,by omega⟩;rcases six h.1 with rfl|rfl|rfl|rfl|rfl|rfl<;>cases b7<;>simp [BD.j0,BD.j1,BD.j2,Vk]
 ·rw [decide_eq_false h,Vl h];exact Ab (by decide) (Ad _)
theorem NN {f now:Int} {d p n v:ByteArray} {c4 c5 c6:Int} {ho:Bool} {ss:Int} (h:KA f now) (hr:Gw d p n v c4 c5 c6 ho ss=true):
 Gw d p n v (if f<=3 then now else c4) (if f<=3 then now else if f=4 then c4 else c5) c6 (if f=2 then true else if f=4 then true else ho) (if f=1 then 0 else if f=4 then 0 else if f=5 then 0 else ss)=true:=by
 have hn:Nu 253402300799 now=true:=by unfold Nu;rw [Bool.and_eq_true];exact ⟨decide_eq_true h.2.1,decide_eq_true h.2.2⟩
 unfold Gw Rb OJ KS at hr⊢
 simp only [Bool.and_eq_true,decide_eq_true_eq] at hr⊢
 obtain ⟨r1,r2,r3,r4,r5,r6,r7,r8,⟨r9,r10,r11⟩,r12,r13⟩:=hr;refine ⟨r1,r2,?_,r4,r5,r6,r7,r8,⟨?_,?_,r11⟩,?_,?_⟩
 ·by_cases e:f=2
  ·rw [if_pos e];simp
  ·rw [if_neg e];by_cases e4:f=4
   ·rw [if_pos e4];simp
   ·rw [if_neg e4];exact r3
 ·split
  ·exact hn
  ·exact r9
 ·split
  ·exact hn
  ·split
   ·exact r9
   ·exact r10
 ·repeat (first|omega|split)
 ·repeat (first|omega|split)
def GK (f now:Int) (c:SC):SC:=⟨c.f0,c.f1,c.f2,c.f3,(if f<=3 then now else c.f4),(if f<=3 then now else if f=4 then c.f4 else c.f5),c.f6,(if f=2 then true else if f=4 then true else c.f7),c.f8,c.f9,(if f=1 then 0 else if f=4 then 0 else if f=5 then 0 else c.f10)⟩
abbrev ZG (t:ZR):SC:=⟨t.1,t.2.1,t.2.2.1,t.2.2.2.1,t.2.2.2.2.1,t.2.2.2.2.2.1,t.2.2.2.2.2.2.1,t.2.2.2.2.2.2.2.1,t.2.2.2.2.2.2.2.2.1,t.2.2.2.2.2.2.2.2.2.1,t.2.2.2.2.2.2.2.2.2.2.1⟩
abbrev Vm (f now:Int) (c:SC):ZR:=Sn f now c.f0 c.f1 c.f2 c.f3 c.f4 c.f5 c.f6 c.f7 c.f8 c.f9 c.f10
theorem Vn {f now:Int} (h:KA f now) (c:SC):ZG (Vm f now c)=GK f now c:=by unfold Vm;rw [Qo h];rfl
def Vo (f now:Int) (l:List SC):List SC×Bool:=if KA f now then (l.map (GK f now),true) else ([],false)
theorem Vp (f now:Int) (d:ByteArray) (l:List SC):KR d (l.map (GK f now))=KR d l:=by
 unfold KR;rw [List.filter_map,List.length_map];rfl
theorem UJ (f now:Int) (l:List SC):IZ (l.map (GK f now))=IZ l:=by
 unfold IZ;rw [List.length_map,List.any_map];congr 1;congr 1;funext x;show decide (12<KR (GK f now x).f0 (l.map (GK f now)))=_;rw [Vp];rfl
theorem Vq {f now:Int} {l:List SC} (hm:KA f now) (h:PU l):PU (l.map (GK f now)):=by
 refine ⟨List.pairwise_map.2 h.rises,λc hc=>?_,by rw [UJ];exact h.few⟩;obtain ⟨x,hx,rfl⟩:=List.mem_map.1 hc;exact NN hm (h.right x hx)
theorem XP (f now:Int) (l:List SC) (hl:l.length<=1000):∀ n j (acc:List SC),l.length - j=n->j<=l.length->acc.length<=j->
 Ev (λk=>CQ.l0 k f now l acc (j:Int)) (if KA f now then (acc++(l.drop j).map (GK f now),true) else ([],false)):=by
 intro n;induction n with
 |zero=>
  intro j acc hn hj ha;obtain rfl:j=l.length:=by omega
  refine Az ?_;simp only [CQ.l0];refine Ab (by omega) ?_;rw [Sq];refine AY (Ad _) ?_;by_cases h:KA f now
  ·rw [if_pos h,List.drop_length,List.map_nil,List.append_nil];exact AU (decide_eq_true h) (Ad _)
  ·rw [if_neg h];exact Ab (by simpa using h) (Ad _)
 |succ n ih=>
  intro j acc hn hj ha;have hlt:j<l.length:=by omega
  refine Az ?_;simp only [CQ.l0];refine AU (by omega) (AU (by omega) (AY Qp (AU (by omega) ?_)));have hr:AB l (j:Int)=l[j]:=by unfold AB;rw [Int.toNat_natCast,List.getD_eq_getElem?_getD,List.getElem?_eq_getElem hlt];rfl
  rw [hr,JB (j:=j) (by omega)];have:=ih (j+1) (acc++[ZG (Vm f now l[j])]) (by omega) (by omega) (by rw [List.length_append];simp;omega);refine BJ this ?_;by_cases h:KA f now
  ·rw [if_pos h,if_pos h,Vn h,List.append_assoc,List.drop_eq_getElem_cons hlt];rfl
  ·rw [if_neg h,if_neg h]
theorem Vr (f now:Int) {l:List SC} (hl:l.length<=1000):Ev (λk=>CQ.f k f now l) (Vo f now l):=by
 have:=XP f now l hl _ 0 [] rfl (Nat.zero_le _) (Nat.le_refl _);simpa [CQ.f,Vo] using this
noncomputable def Hf (l:List SC):List SC×Bool:=if T9 l=true/\Lc l=true then (l,true) else ([],false)
theorem Qq (l:List SC):Ev (λk=>Dv.f k l) ((Hf l).1.map G8,(Hf l).2):=by
 simp only [Dv.f];refine AY (YM l) ?_;by_cases hf:T9 l=true
 ·obtain ⟨hl,hs⟩:=Sg.1 hf;refine AU hf (AY (UC hl hs) ?_);by_cases hr:Lc l=true
  ·have hj:=(NH hs).1 hr;have ho:=NG hl hs;rw [Kv hj] at ho;refine AU hr (AY ho ?_);unfold Hf;rw [if_pos ⟨hf,hr⟩];exact Ad _
  ·unfold Hf;rw [if_neg (λh=>hr h.2)];exact Ab hr (Ad _)
 ·unfold Hf;rw [if_neg (λh=>hf h.1)];exact Ab hf (Ad _)
theorem OY {l:List SC} (h:(Hf l).2=true):(Hf l).1=l/\l.length<=100/\PU l/\∀ c∈l,Fb c:=by
 unfold Hf at h⊢
 split at h
 ·rename_i hh;obtain ⟨hl,hs⟩:=Sg.1 hh.1;rw [if_pos hh];exact ⟨rfl,hl,(NH hs).1 hh.2,hs⟩
 ·cases h
end Go.Proofs.YtfggjdkccdkogaaGreatDoor.Y
end
