/- How two keys compare: (cookie.Key).Cmp at the printed text. -/
import Derived.Test.YtikggnalmidlhaaGreatDoorM3
section
namespace Go.Proofs.YtikggnalmidlhaaGreatDoor.Y
set_option linter.unusedVariables false
set_option linter.unusedSimpArgs false
structure RJ (κ:Type) where
 lt:κ->κ->Prop
 dec:∀ a b,Decidable (lt a b)
 irr:∀ a,¬lt a a
 tr:∀ {a b c},lt a b->lt b c->lt a c
 tot:∀ a b,lt a b\/a=b\/lt b a
instance {κ:Type} (O:RJ κ) (a b:κ):Decidable (O.lt a b):=O.dec a b
section
variable {κ ρ:Type} (O:RJ κ) (key:ρ->κ)
theorem RJ.U2 {a b:κ} (h:O.lt a b) (h':O.lt b a):False:=O.irr a (O.tr h h')
def Di (l:List ρ):Prop:=l.Pairwise λx y=>O.lt (key x) (key y)
def Dn (k:κ) (l:List ρ):List ρ:=l.filter λx=>decide (O.lt (key x) k)
def En (k:κ) (l:List ρ):List ρ:=l.filter λx=>decide (O.lt k (key x))
def atR (k:κ) (l:List ρ):List ρ:=l.filter λx=> !decide (O.lt (key x) k)&& !decide (O.lt k (key x))
def Lx (k:κ) (l:List ρ):List ρ:=Dn O key k l++En O key k l
def GR (k:κ) (y:ρ) (l:List ρ):List ρ:=Dn O key k l++y::En O key k l
variable {O key}
theorem RJ.U3 {a b:κ} (h:¬O.lt a b) (h':¬O.lt b a):a=b:=by
 rcases O.tot a b with h1|h1|h1
 ·exact absurd h1 h
 ·exact h1
 ·exact absurd h1 h'
theorem G5 {k:κ} {l:List ρ} {x:ρ}:x∈Dn O key k l↔x∈l/\O.lt (key x) k:=by simp [Dn]
theorem FN {k:κ} {l:List ρ} {x:ρ}:x∈En O key k l↔x∈l/\O.lt k (key x):=by simp [En]
theorem Sn {k:κ} {l:List ρ} {x:ρ}:x∈atR O key k l↔x∈l/\key x=k:=by
 simp only [atR,List.mem_filter,Bool.and_eq_true,Bool.not_eq_true',decide_eq_false_iff_not];refine and_congr_right λ_=>⟨λh=>O.U3 h.1 h.2,?_⟩
 rintro rfl;exact ⟨O.irr _,O.irr _⟩
theorem Gr {k:κ} {l:List ρ} {x:ρ}:x∈Lx O key k l↔x∈l/\key x≠k:=by
 rw [Lx,List.mem_append,G5,FN];constructor
 ·rintro (⟨h,h1⟩|⟨h,h1⟩)
  ·exact ⟨h,λe=>O.irr _ (e▸h1)⟩
  ·exact ⟨h,λe=>O.irr _ (e▸h1)⟩
 ·rintro ⟨h,h1⟩;rcases O.tot (key x) k with h2|h2|h2
  ·exact .inl ⟨h,h2⟩
  ·exact absurd h2 h1
  ·exact .inr ⟨h,h2⟩
theorem J9 {k:κ} {y x:ρ} {l:List ρ}:x∈GR O key k y l↔x=y\/(x∈l/\key x≠k):=by
 rw [<-Gr (O:=O),Lx,GR];simp only [List.mem_append,List.mem_cons];constructor
 ·rintro (h|h|h)
  ·exact .inr (.inl h)
  ·exact .inl h
  ·exact .inr (.inr h)
 ·rintro (h|h|h)
  ·exact .inr (.inl h)
  ·exact .inl h
  ·exact .inr (.inr h)
theorem Em {l:List ρ} (h:Di O key l) (p:ρ->Bool):Di O key (l.filter p):=List.Pairwise.filter p h
theorem FO {k:κ} {y:ρ} {l:List ρ} (h:Di O key l) (hy:key y=k):Di O key (GR O key k y l):=by
 subst hy;refine List.pairwise_append.2 ⟨Em h _,List.pairwise_cons.2 ⟨λx hx=>(FN.1 hx).2,Em h _⟩,λa ha b hb=>?_⟩;have h1:=(G5.1 ha).2;rcases List.mem_cons.1 hb with rfl|hb
 ·exact h1
 ·exact O.tr h1 (FN.1 hb).2
theorem K7 {k:κ} {l:List ρ} (h:Di O key l):Di O key (Lx O key k l):=
 List.pairwise_append.2 ⟨Em h _,Em h _,λa ha b hb=>O.tr (G5.1 ha).2 (FN.1 hb).2⟩
theorem KA {k:κ} {l:List ρ} (h:∀ x∈l,O.lt k (key x)):Dn O key k l=[]:=List.filter_eq_nil_iff.2 λx hx hd=>O.U2 (of_decide_eq_true hd) (h x hx)
theorem KC {k:κ} {l:List ρ} (h:∀ x∈l,O.lt k (key x)):En O key k l=l:=List.filter_eq_self.2 λx hx=>decide_eq_true (h x hx)
theorem RL {k:κ} {l:List ρ} (h:∀ x∈l,O.lt k (key x)):atR O key k l=[]:=List.filter_eq_nil_iff.2 λx hx hd=>by
 simp only [Bool.and_eq_true,Bool.not_eq_true',decide_eq_false_iff_not] at hd;exact hd.2 (h x hx)
theorem IP {k:κ} {x:ρ} {l:List ρ} (h:O.lt (key x) k):Dn O key k (x::l)=x::Dn O key k l:=List.filter_cons_of_pos (p:=λx=>decide (O.lt (key x) k)) (decide_eq_true h)
theorem KW {k:κ} {x:ρ} {l:List ρ} (h:¬O.lt (key x) k):Dn O key k (x::l)=Dn O key k l:=by unfold Dn;rw [List.filter_cons_of_neg (by simpa using h)]
theorem Fs {k:κ} {x:ρ} {l:List ρ} (h:¬O.lt k (key x)):En O key k (x::l)=En O key k l:=by unfold En;rw [List.filter_cons_of_neg (by simpa using h)]
theorem NB {k:κ} {x:ρ} {l:List ρ} (h:O.lt (key x) k\/O.lt k (key x)):atR O key k (x::l)=atR O key k l:=by
 unfold atR;rw [List.filter_cons_of_neg];rcases h with h|h<;>simp [h]
theorem Sq {k:κ} {x:ρ} {l:List ρ} (h:key x=k):atR O key k (x::l)=x::atR O key k l:=by
 unfold atR;rw [List.filter_cons_of_pos];subst h;simp [O.irr]
theorem Fp {l:List ρ} (k:κ) (h:Di O key l):l=Dn O key k l++(atR O key k l++En O key k l)/\(atR O key k l=[]\/∃ x,atR O key k l=[x]/\key x=k):=by
 induction l with
 |nil=>exact ⟨rfl, .inl rfl⟩
 |cons x l ih=>
  obtain ⟨hx,hl⟩:=List.pairwise_cons.1 h;obtain ⟨ih1,ih2⟩:=ih hl;rcases O.tot (key x) k with h1|h1|h1
  ·rw [IP h1,NB (.inl h1),Fs (λh2=>O.U2 h1 h2)];exact ⟨by rw [List.cons_append, <-ih1],ih2⟩
  ·have ha:∀ y∈l,O.lt k (key y):=λy hy=>h1▸hx y hy
   rw [KW (by rw [h1];exact O.irr k),Sq h1,Fs (by rw [h1];exact O.irr k),KA ha,RL ha,KC ha];exact ⟨rfl, .inr ⟨x,rfl,h1⟩⟩
  ·have ha:∀ y∈x::l,O.lt k (key y):=λy hy=>by
    rcases List.mem_cons.1 hy with rfl|hy
    ·exact h1
    ·exact O.tr h1 (hx y hy)
   rw [KA ha,RL ha,KC ha];exact ⟨rfl, .inl rfl⟩
theorem Ox {l:List ρ} (k:κ) (h:Di O key l):(Lx O key k l).length<=l.length:=by
 have:=congrArg List.length (Fp k h).1;simp only [List.length_append] at this;unfold Lx;rw [List.length_append];omega
theorem Oy {l:List ρ} (k:κ) (y:ρ) (h:Di O key l):(GR O key k y l).length<=l.length+1:=by
 have:=Ox k h;unfold Lx at this;rw [List.length_append] at this;unfold GR;rw [List.length_append,List.length_cons];omega
theorem K8 {l:List ρ}:∀ {m:List ρ},Di O key l->Di O key m->(∀ x,x∈l↔x∈m)->l=m:=by
 induction l with
 |nil=>
  intro m _ _ h;cases m with
  |nil=>rfl
  |cons y m=>exact absurd ((h y).2 (List.mem_cons_self ..)) (by simp)
 |cons x l ih=>
  intro m hl hm h;cases m with
  |nil=>exact absurd ((h x).1 (List.mem_cons_self ..)) (by simp)
  |cons y m=>
   obtain ⟨hx,hl'⟩:=List.pairwise_cons.1 hl;obtain ⟨hy,hm'⟩:=List.pairwise_cons.1 hm;have hxy:x=y:=by
    rcases List.mem_cons.1 ((h x).1 (List.mem_cons_self ..)) with h1|h1
    ·exact h1
    ·rcases List.mem_cons.1 ((h y).2 (List.mem_cons_self ..)) with h2|h2
     ·exact h2.symm
     ·exact (O.U2 (hx y h2) (hy x h1)).elim
   subst hxy;rw [ih hl' hm' λz=>⟨λhz=>?_,λhz=>?_⟩]
   ·rcases List.mem_cons.1 ((h z).1 (List.mem_cons_of_mem _ hz)) with rfl|h1
    ·exact (O.irr _ (hx z hz)).elim
    ·exact h1
   ·rcases List.mem_cons.1 ((h z).2 (List.mem_cons_of_mem _ hz)) with rfl|h1
    ·exact (O.irr _ (hy z hz)).elim
    ·exact h1
variable (O key)
variable {O key}
variable {pick:ρ->ρ->ρ}
variable [DecidableEq κ]
variable (key)
variable {key}
end
end Go.Proofs.YtikggnalmidlhaaGreatDoor.Y
end
section
namespace Go.Proofs.YtikggnalmidlhaaGreatDoor.Print
open RowKit AR Aa Ad
set_option linter.unusedVariables false
set_option linter.unusedSimpArgs false
def Cg.f (a0:ByteArray):Option ByteArray:=if a0.size<=9223372036854775806 then some (FQ a0) else none
set_option maxHeartbeats 4000000 in
set_option maxRecDepth 100000 in
theorem Cg.calls (a0:ByteArray) (r:ByteArray) (w:World) (h:Cg.f a0=some r):
 Calls Tryz.prog 89 #[.string a0] w λe w'=>e= .returned (.string r)/\Below w.heap.size w w':=by
 unfold Cg.f at h;by_cases hs:a0.size<=9223372036854775806
 ·rw [if_pos hs] at h;obtain rfl:=Option.some.inj h;clear h;obtain ⟨wB,g,cap,hconv,HR⟩:∃ wB g cap,(convert 9 76 (.string a0)).run Tryz.prog w= .ok (.slice (some ⟨g,0,none⟩) a0.size cap) wB/\AA (Et w wB g a0.size (λj=>(bytesOf a0).getD j 0)):=
   ⟨_,_,_,Lib.run_convert_string_bytes w _ _ _ a0 Tryz.underlying9 Tryz.underlying76 Tryz.underlying5,⟨MB w _ a0⟩⟩
  go_enter Tryz.func89,Tryz.ntmps89;go_wp2;go_loopw [4] (λv4 wr=>∃ k:Nat,k<=a0.size/\v4= .int .i64 k/\AA (Et w wr g a0.size (λj=>if j<k then Gc ((bytesOf a0).getD j 0) else (bytesOf a0).getD j 0))) (λv4 _=>a0.size - (intOf v4).toNat);case atStart=>exact ⟨0,Nat.zero_le _,rfl,⟨HR.out.congr λj _=>by simp⟩⟩
  case round=>
   obtain ⟨k,hk,rfl,HK⟩:=hrel;by_cases hlt:k<a0.size
   ·obtain ⟨c,hc⟩:∃ c:Int,c=(bytesOf a0).getD k 0:=⟨_,rfl⟩;have hcell:wr.cell? ⟨g,k,none⟩=some (.int .u8 c):=by rw [HK.out.cell k hlt,if_neg (Nat.lt_irrefl _),hc]
    have hfr:=HK.out.frz k hlt;have HC:=AA.mk hc;clear hc;by_cases h0:65<=c
    ·by_cases h1:c<=90
     ·go_wp2;go_roundw;case rel=>exact ⟨k+1,by omega,by go_num,⟨MC HK.out hlt HC.out (by assumption) (by assumption) (by omega)⟩⟩
      case measure=>simp [intOf];omega
     ·go_wp2;go_roundw;case rel=>exact ⟨k+1,by omega,by go_num,⟨Hu HK.out hlt HC.out (by omega)⟩⟩
      case measure=>simp [intOf];omega
    ·go_wp2;go_roundw;case rel=>exact ⟨k+1,by omega,by go_num,⟨Hu HK.out hlt HC.out (by omega)⟩⟩
     case measure=>simp [intOf];omega
   ·have hback:=ME (cap:=cap) hs HK.out (by omega);go_wp2;go_ret;exact ⟨rfl,HK.out.below⟩
 ·rw [if_neg hs] at h;exact absurd h (by simp)
end Go.Proofs.YtikggnalmidlhaaGreatDoor.Print
end
section
namespace Go.Proofs.YtikggnalmidlhaaGreatDoor.Ct
open RowKit AR Aa Ad
attribute [local go_sem] BM BN Bo Bp BC BD BO BP
set_option linter.unusedVariables false
set_option linter.unusedSimpArgs false
end Go.Proofs.YtikggnalmidlhaaGreatDoor.Ct
end
section
namespace Go.Proofs.YtikggnalmidlhaaGreatDoor.Print
open RowKit AR Aa Ad
set_option linter.unusedVariables false
set_option linter.unusedSimpArgs false
def Ga (c:Int):Bool:=decide (97<=c/\c<=122)||decide (65<=c/\c<=90)||decide (48<=c/\c<=57)||decide (c=33)||decide (35<=c/\c<=39)||decide (c=42)||decide (c=43)||decide (c=45)||decide (c=46)||decide (94<=c/\c<=96)||decide (c=124)||decide (c=126)
def Gb (c:Int):Bool:=decide (33<=c/\c<=126)&& !(decide (c=34)||decide (c=44)||decide (c=59)||decide (c=92))
def FP (c:Int):Bool:=decide (33<=c/\c<=126)&& !decide (c=59)
theorem JV {P:Int->Prop} (h:∀ n:Fin 256,P (n.val:Int)) {c:Int} (h0:0<=c) (h1:c<256):P c:=by
 have:=h ⟨c.toNat,by omega⟩;rwa [show ((⟨c.toNat,by omega⟩:Fin 256).val:Int)=c by simp;omega] at this
theorem UY {c:Int} (h0:0<=c) (h1:c<256):Ct.Bh.f 3 c=some (Ga c):=JV (P:=λc=>Ct.Bh.f 3 c=some (Ga c)) (by decide+kernel) h0 h1
theorem UZ {c:Int} (h0:0<=c) (h1:c<256):Ct.Du.f c=some (Gb c):=JV (P:=λc=>Ct.Du.f c=some (Gb c)) (by decide+kernel) h0 h1
theorem RO {c:Int} (h0:0<=c) (h1:c<256):Ct.EB.f c=some (FP c):=JV (P:=λc=>Ct.EB.f c=some (FP c)) (by decide+kernel) h0 h1
theorem K9 (s:ByteArray) (i:Int):0<=bt s i/\bt s i<256:=by
 unfold bt;split
 ·have:=(s[i.toNat]'(by assumption)).toNat_lt;omega
 ·omega
theorem N9 {s:ByteArray} {k:Nat} (h:k<s.size):(bytesOf s).take (k+1)=(bytesOf s).take k++[bt s k]:=by
 have hl:k<(bytesOf s).length:=by rw [bytesOf_length];exact h
 rw [List.take_add_one,List.getElem?_eq_getElem hl];congr 1;rw [<-Jh];unfold rd;rw [Int.toNat_natCast,List.getD_eq_getElem?_getD,List.getElem?_eq_getElem hl];rfl
theorem LA {s:ByteArray} {k:Nat} {g:Int->Bool} (h:k<s.size) (ha:((bytesOf s).take k).all g=true) (hc:g (bt s k)=true):((bytesOf s).take (k+1)).all g=true:=by
 rw [N9 h,List.all_append,ha,List.all_cons,hc];rfl
theorem ND {s:ByteArray} {k:Nat} {g:Int->Bool} (h:k<s.size) (hc:g (bt s k)=false):(bytesOf s).all g=false:=by
 have e:=N9 h;rw [<-List.take_append_drop (k+1) (bytesOf s),List.all_append,e,List.all_append,List.all_cons,hc];simp
theorem LB {s:ByteArray} {k:Nat} {g:Int->Bool} (h:s.size<=k) (ha:((bytesOf s).take k).all g=true):(bytesOf s).all g=true:=by
 rwa [List.take_of_length_le (by rw [bytesOf_length];exact h)] at ha
set_option maxHeartbeats 4000000 in
set_option maxRecDepth 100000 in
theorem Oz (a0:ByteArray) (w:World) (hs:a0.size<=9223372036854775806):
 Calls Tryz.prog 102 #[.string a0, .func (.func 124) #[] #[]] w λe w'=>e= .returned (.bool ((bytesOf a0).all FP))/\Ap w w':=by
 go_enter Tryz.func102,Tryz.ntmps102;go_wp2;go_loopw [8] (λv8 wr=>∃ k:Nat,k<=a0.size/\v8= .int .i64 k/\AA (((bytesOf a0).take k).all FP=true)/\Ap w wr) (λv8 _=>a0.size - (intOf v8).toNat);case atStart=>exact ⟨0,Nat.zero_le _,rfl,⟨rfl⟩,by repeat (first|exact Ap.refl _|apply Ap.step)⟩
 case round=>
  obtain ⟨k,hk,rfl,HA,⟨m1,rfl⟩⟩:=hrel;by_cases hlt:k<a0.size
  ·have hb:=K9 a0 k;have p1:=eq_true (show 0<=(k:Int) by omega);have q1:=eq_true (show (k:Int)<(a0.size:Int) by omega);have ec:bt a0 (k:Int)=((a0[k]'hlt).toNat:Int):=by simp [bt,hlt]
   have HF:=AA.mk (RO hb.1 hb.2);clear hb;cases hg:FP (bt a0 k) with
   |true=>
    rw [hg,ec] at HF;have HY:=AA.mk (LA hlt HA.out hg);clear hg;go_wp2_with (go_at_call 124;refine (Ct.EB.calls (((a0[k]'hlt).toNat:Int)) true _ HF.out).mono ?_;rintro e w2 ⟨rfl,⟨nd,rfl⟩⟩);go_roundw;case rel=>exact ⟨k+1,by omega,by go_num,HY,by repeat (first|exact Ap.refl _|apply Ap.step)⟩
    case measure=>simp [intOf];omega
   |false=>
    rw [hg,ec] at HF;have HY:=AA.mk (ND hlt hg);clear hg;go_wp2_with (go_at_call 124;refine (Ct.EB.calls (((a0[k]'hlt).toNat:Int)) false _ HF.out).mono ?_;rintro e w2 ⟨rfl,⟨nd,rfl⟩⟩);go_ret;exact ⟨by rw [HY.out];rfl,by repeat (first|exact Ap.refl _|apply Ap.step)⟩
  ·have HY:=AA.mk (LB (by omega) HA.out);have hl2:decide ((k:Int)<(a0.size:Int))=false:=decide_eq_false (by omega);have hl3:decide (k<a0.size)=false:=decide_eq_false (by omega);go_wp2;go_ret;exact ⟨by rw [HY.out];rfl,by repeat (first|exact Ap.refl _|apply Ap.step)⟩
def Dx.f (a0:ByteArray):Option Bool:=if a0.size<=9223372036854775806 then some ((bytesOf a0).all FP) else none
theorem Dx.calls (a0:ByteArray) (r:Bool) (w:World) (h:Dx.f a0=some r):
 Calls Tryz.prog 101 #[.string a0] w λe w'=>e= .returned (.bool r)/\Ap w w':=by
 unfold Dx.f at h;by_cases hs:a0.size<=9223372036854775806
 ·rw [if_pos hs] at h;obtain rfl:=Option.some.inj h;clear h;have HS:=AA.mk hs;clear hs;go_enter Tryz.func101,Tryz.ntmps101;go_wp2_with (go_at_call 102;refine (Oz a0 _ HS.out).mono ?_;rintro e w2 ⟨rfl,⟨nd,rfl⟩⟩);go_ret;exact ⟨rfl,by repeat (first|exact Ap.refl _|apply Ap.step)⟩
 ·rw [if_neg hs] at h;exact absurd h (by simp)
set_option maxHeartbeats 4000000 in
set_option maxRecDepth 100000 in
theorem RP (a0:ByteArray) (w:World) (hs:a0.size<=9223372036854775806):
 Calls Tryz.prog 102 #[.string a0, .func (.func 105) #[] #[]] w λe w'=>e= .returned (.bool ((bytesOf a0).all Gb))/\Ap w w':=by
 go_enter Tryz.func102,Tryz.ntmps102;go_wp2;go_loopw [8] (λv8 wr=>∃ k:Nat,k<=a0.size/\v8= .int .i64 k/\AA (((bytesOf a0).take k).all Gb=true)/\Ap w wr) (λv8 _=>a0.size - (intOf v8).toNat);case atStart=>exact ⟨0,Nat.zero_le _,rfl,⟨rfl⟩,by repeat (first|exact Ap.refl _|apply Ap.step)⟩
 case round=>
  obtain ⟨k,hk,rfl,HA,⟨m1,rfl⟩⟩:=hrel;by_cases hlt:k<a0.size
  ·have hb:=K9 a0 k;have p1:=eq_true (show 0<=(k:Int) by omega);have q1:=eq_true (show (k:Int)<(a0.size:Int) by omega);have ec:bt a0 (k:Int)=((a0[k]'hlt).toNat:Int):=by simp [bt,hlt]
   have HF:=AA.mk (UZ hb.1 hb.2);clear hb;cases hg:Gb (bt a0 k) with
   |true=>
    rw [hg,ec] at HF;have HY:=AA.mk (LA hlt HA.out hg);clear hg;go_wp2_with (go_at_call 105;refine (Ct.Du.calls (((a0[k]'hlt).toNat:Int)) true _ HF.out).mono ?_;rintro e w2 ⟨rfl,⟨nd,rfl⟩⟩);go_roundw;case rel=>exact ⟨k+1,by omega,by go_num,HY,by repeat (first|exact Ap.refl _|apply Ap.step)⟩
    case measure=>simp [intOf];omega
   |false=>
    rw [hg,ec] at HF;have HY:=AA.mk (ND hlt hg);clear hg;go_wp2_with (go_at_call 105;refine (Ct.Du.calls (((a0[k]'hlt).toNat:Int)) false _ HF.out).mono ?_;rintro e w2 ⟨rfl,⟨nd,rfl⟩⟩);go_ret;exact ⟨by rw [HY.out];rfl,by repeat (first|exact Ap.refl _|apply Ap.step)⟩
  ·have HY:=AA.mk (LB (by omega) HA.out);have hl2:decide ((k:Int)<(a0.size:Int))=false:=decide_eq_false (by omega);have hl3:decide (k<a0.size)=false:=decide_eq_false (by omega);go_wp2;go_ret;exact ⟨by rw [HY.out];rfl,by repeat (first|exact Ap.refl _|apply Ap.step)⟩
def Cw.f (a0:ByteArray):Option Bool:=if a0.size<=9223372036854775806 then some ((bytesOf a0).all Gb) else none
theorem Cw.calls (a0:ByteArray) (r:Bool) (w:World) (h:Cw.f a0=some r):
 Calls Tryz.prog 68 #[.string a0] w λe w'=>e= .returned (.bool r)/\Ap w w':=by
 unfold Cw.f at h;by_cases hs:a0.size<=9223372036854775806
 ·rw [if_pos hs] at h;obtain rfl:=Option.some.inj h;clear h;have HS:=AA.mk hs;clear hs;go_enter Tryz.func68,Tryz.ntmps68;go_wp2_with (go_at_call 102;refine (RP a0 _ HS.out).mono ?_;rintro e w2 ⟨rfl,⟨nd,rfl⟩⟩);go_ret;exact ⟨rfl,by repeat (first|exact Ap.refl _|apply Ap.step)⟩
 ·rw [if_neg hs] at h;exact absurd h (by simp)
set_option maxHeartbeats 4000000 in
set_option maxRecDepth 100000 in
theorem RQ (a0:ByteArray) (w:World) (hs:a0.size<=9223372036854775806):
 Calls Tryz.prog 102 #[.string a0, .func (.func 103) #[] #[]] w λe w'=>e= .returned (.bool ((bytesOf a0).all Ga))/\Ap w w':=by
 go_enter Tryz.func102,Tryz.ntmps102;go_wp2;go_loopw [8] (λv8 wr=>∃ k:Nat,k<=a0.size/\v8= .int .i64 k/\AA (((bytesOf a0).take k).all Ga=true)/\Ap w wr) (λv8 _=>a0.size - (intOf v8).toNat);case atStart=>exact ⟨0,Nat.zero_le _,rfl,⟨rfl⟩,by repeat (first|exact Ap.refl _|apply Ap.step)⟩
 case round=>
  obtain ⟨k,hk,rfl,HA,⟨m1,rfl⟩⟩:=hrel;by_cases hlt:k<a0.size
  ·have hb:=K9 a0 k;have p1:=eq_true (show 0<=(k:Int) by omega);have q1:=eq_true (show (k:Int)<(a0.size:Int) by omega);have ec:bt a0 (k:Int)=((a0[k]'hlt).toNat:Int):=by simp [bt,hlt]
   have HF:=AA.mk (UY hb.1 hb.2);clear hb;cases hg:Ga (bt a0 k) with
   |true=>
    rw [hg,ec] at HF;have HY:=AA.mk (LA hlt HA.out hg);clear hg;go_wp2_with (go_at_call 103;refine (Ct.Bh.calls 3 (((a0[k]'hlt).toNat:Int)) true _ HF.out).mono ?_;rintro e w2 ⟨rfl,⟨nd,rfl⟩⟩);go_roundw;case rel=>exact ⟨k+1,by omega,by go_num,HY,by repeat (first|exact Ap.refl _|apply Ap.step)⟩
    case measure=>simp [intOf];omega
   |false=>
    rw [hg,ec] at HF;have HY:=AA.mk (ND hlt hg);clear hg;go_wp2_with (go_at_call 103;refine (Ct.Bh.calls 3 (((a0[k]'hlt).toNat:Int)) false _ HF.out).mono ?_;rintro e w2 ⟨rfl,⟨nd,rfl⟩⟩);go_ret;exact ⟨by rw [HY.out];rfl,by repeat (first|exact Ap.refl _|apply Ap.step)⟩
  ·have HY:=AA.mk (LB (by omega) HA.out);have hl2:decide ((k:Int)<(a0.size:Int))=false:=decide_eq_false (by omega);have hl3:decide (k<a0.size)=false:=decide_eq_false (by omega);go_wp2;go_ret;exact ⟨by rw [HY.out];rfl,by repeat (first|exact Ap.refl _|apply Ap.step)⟩
def DT.f (a0:ByteArray):Option Bool:=if a0.size<=9223372036854775806 then some (!decide (a0.toList=([]:List UInt8))&&(bytesOf a0).all Ga) else none
theorem DT.calls (a0:ByteArray) (r:Bool) (w:World) (h:DT.f a0=some r):
 Calls Tryz.prog 67 #[.string a0] w λe w'=>e= .returned (.bool r)/\Ap w w':=by
 unfold DT.f at h;by_cases hs:a0.size<=9223372036854775806
 ·rw [if_pos hs] at h;obtain rfl:=Option.some.inj h;clear h;have HS:=AA.mk hs;clear hs;by_cases hz:a0.toList=([]:List UInt8)
  ·have h1:(a0.toList != ([]:List UInt8))=false:=by rw [hz];rfl
   go_enter Tryz.func67,Tryz.ntmps67;go_wp2;go_ret;exact ⟨by rw [decide_eq_true hz];rfl,by repeat (first|exact Ap.refl _|apply Ap.step)⟩
  ·have h1:(a0.toList != ([]:List UInt8))=true:=by simpa using hz
   have h2:a0.toList.isEmpty=false:=by simpa using hz
   go_enter Tryz.func67,Tryz.ntmps67;go_wp2_with (go_at_call 102;refine (RQ a0 _ HS.out).mono ?_;rintro e w2 ⟨rfl,⟨nd,rfl⟩⟩);go_ret;exact ⟨by rw [decide_eq_false hz];simp [h2],by repeat (first|exact Ap.refl _|apply Ap.step)⟩
 ·rw [if_neg hs] at h;exact absurd h (by simp)
def L6 (m x:Int):Bool:=decide (0<=x)&&decide (x<=m)
theorem LC {m x:Int} (h:0<=x/\x<=m):L6 m x=true:=by unfold L6;rw [decide_eq_true h.1,decide_eq_true h.2];rfl
theorem TR {m x:Int} (h:¬(0<=x/\x<=m)):L6 m x=false:=by
 unfold L6;by_cases a:0<=x
 ·rw [decide_eq_false (p:=x<=m) (λb=>h ⟨a,b⟩)];simp
 ·rw [decide_eq_false a];rfl
theorem Gs {m x a b c:Int} (hx:x=a\/x=b\/x=c) (h:¬(0<=x/\x<=m)):(L6 m a&&(L6 m b&&L6 m c))=false:=by
 have:=TR h;rcases hx with rfl|rfl|rfl<;>rw [this]<;>simp
def DN.f (m a b c:Int):Option Bool:=some (L6 m a&&(L6 m b&&L6 m c))
set_option maxHeartbeats 4000000 in
set_option maxRecDepth 100000 in
theorem DN.calls (m a b c:Int) (r:Bool) (w:World) (h:DN.f m a b c=some r):
 Calls Tryz.prog 69 #[.int .i64 m, .agg #[.int .i64 a, .int .i64 b, .int .i64 c]] w λe w'=>e= .returned (.bool r)/\Below w.heap.size w w':=by
 obtain rfl:=Option.some.inj h;clear h;have hu:=Tryz.underlying94;have hi0:∀ W:World,(Instr.index 94 (.agg #[.int .i64 a, .int .i64 b, .int .i64 c]) (.int .i64 0)).run Tryz.prog W= .ok (.int .i64 a) W:=λW=>by rfl
 have hi1:∀ W:World,(Instr.index 94 (.agg #[.int .i64 a, .int .i64 b, .int .i64 c]) (.int .i64 1)).run Tryz.prog W= .ok (.int .i64 b) W:=λW=>by rfl
 have hi2:∀ W:World,(Instr.index 94 (.agg #[.int .i64 a, .int .i64 b, .int .i64 c]) (.int .i64 2)).run Tryz.prog W= .ok (.int .i64 c) W:=λW=>by rfl
 go_enter Tryz.func69,Tryz.ntmps69;go_wp2;go_loopw [8] (λv8 wr=>∃ k:Nat,v8= .int .i64 k/\AA (k<=3)/\AA ((0<k->0<=a/\a<=m)/\(1<k->0<=b/\b<=m)/\(2<k->0<=c/\c<=m))/\wr=w.alloc (.cells #[.int .i64 a, .int .i64 b, .int .i64 c] 94)) (λv8 _=>3 - (intOf v8).toNat);case atStart=>exact ⟨0,rfl,⟨by omega⟩,⟨by omega⟩,rfl⟩
 case round=>
  obtain ⟨k,rfl,HK,HA,rfl⟩:=hrel;have hk:=HK.out
  match k,hk,HK,HA with
  |0,_,HK,HA=>
   by_cases h0:a<0
   ·have d0:decide (a<0)=true:=decide_eq_true h0;have HY:=AA.mk (Gs (m:=m) (x:=a) (a:=a) (b:=b) (c:=c) (by exact .inl rfl) (by omega));clear h0;go_wp2;go_ret;exact ⟨by rw [HY.out];rfl,Bj (Below.refl _ _) _⟩
   ·by_cases h1:m<a
    ·have d0:decide (a<0)=false:=decide_eq_false h0;have d1:decide (m<a)=true:=decide_eq_true h1;have HY:=AA.mk (Gs (m:=m) (x:=a) (a:=a) (b:=b) (c:=c) (by exact .inl rfl) (by omega));clear h0 h1;go_wp2;go_ret;exact ⟨by rw [HY.out];rfl,Bj (Below.refl _ _) _⟩
    ·have d0:decide (a<0)=false:=decide_eq_false h0;have d1:decide (m<a)=false:=decide_eq_false h1;have HY:=AA.mk (show 0<=a/\a<=m by omega);clear h0 h1;go_wp2;go_roundw;case rel=>exact ⟨1,rfl,⟨by omega⟩,⟨⟨λ_=>HY.out,by omega,by omega⟩⟩,by first|rfl|trivial⟩
     case measure=>simp [intOf]
  |1,_,HK,HA=>
   by_cases h0:b<0
   ·have d0:decide (b<0)=true:=decide_eq_true h0;have HY:=AA.mk (Gs (m:=m) (x:=b) (a:=a) (b:=b) (c:=c) (by exact .inr (.inl rfl)) (by omega));clear h0;go_wp2;go_ret;exact ⟨by rw [HY.out];rfl,Bj (Below.refl _ _) _⟩
   ·by_cases h1:m<b
    ·have d0:decide (b<0)=false:=decide_eq_false h0;have d1:decide (m<b)=true:=decide_eq_true h1;have HY:=AA.mk (Gs (m:=m) (x:=b) (a:=a) (b:=b) (c:=c) (by exact .inr (.inl rfl)) (by omega));clear h0 h1;go_wp2;go_ret;exact ⟨by rw [HY.out];rfl,Bj (Below.refl _ _) _⟩
    ·have d0:decide (b<0)=false:=decide_eq_false h0;have d1:decide (m<b)=false:=decide_eq_false h1;have HY:=AA.mk (show 0<=b/\b<=m by omega);clear h0 h1;go_wp2;go_roundw;case rel=>exact ⟨2,rfl,⟨by omega⟩,⟨⟨λ_=>HA.out.1 (by omega),λ_=>HY.out,by omega⟩⟩,by first|rfl|trivial⟩
     case measure=>simp [intOf]
  |2,_,HK,HA=>
   by_cases h0:c<0
   ·have d0:decide (c<0)=true:=decide_eq_true h0;have HY:=AA.mk (Gs (m:=m) (x:=c) (a:=a) (b:=b) (c:=c) (by exact .inr (.inr rfl)) (by omega));clear h0;go_wp2;go_ret;exact ⟨by rw [HY.out];rfl,Bj (Below.refl _ _) _⟩
   ·by_cases h1:m<c
    ·have d0:decide (c<0)=false:=decide_eq_false h0;have d1:decide (m<c)=true:=decide_eq_true h1;have HY:=AA.mk (Gs (m:=m) (x:=c) (a:=a) (b:=b) (c:=c) (by exact .inr (.inr rfl)) (by omega));clear h0 h1;go_wp2;go_ret;exact ⟨by rw [HY.out];rfl,Bj (Below.refl _ _) _⟩
    ·have d0:decide (c<0)=false:=decide_eq_false h0;have d1:decide (m<c)=false:=decide_eq_false h1;have HY:=AA.mk (show 0<=c/\c<=m by omega);clear h0 h1;go_wp2;go_roundw;case rel=>exact ⟨3,rfl,⟨by omega⟩,⟨⟨λ_=>HA.out.1 (by omega),λ_=>HA.out.2.1 (by omega),λ_=>HY.out⟩⟩,by first|rfl|trivial⟩
     case measure=>simp [intOf]
  |3,_,HK,HA=>
   have HY:=AA.mk (show (L6 m a&&(L6 m b&&L6 m c))=true by rw [LC (HA.out.1 (by omega)),LC (HA.out.2.1 (by omega)),LC (HA.out.2.2 (by omega))];rfl);go_wp2;go_ret;exact ⟨by rw [HY.out];rfl,Bj (Below.refl _ _) _⟩
end Go.Proofs.YtikggnalmidlhaaGreatDoor.Print
end
section
namespace Go.Proofs.YtikggnalmidlhaaGreatDoor.Print
open RowKit Y AR Aa Ad
set_option linter.unusedVariables false
set_option linter.unusedSimpArgs false
def Fv (a b:ByteArray):Int:=if Op.bytesLess a.toList b.toList=true then -1 else if Op.bytesLess b.toList a.toList=true then 1 else 0
def UX:List Int->Int
 |[]=>0
 |x::l=>if x=0 then UX l else x
def JF (a0 a1 a2 b0 b1 b2:ByteArray):Int:=UX [Fv a0 b0,Fv a1 b1,Fv a2 b2]
theorem TU (a b:ByteArray):Ct.CB.f a b=some (Fv a b):=by
 unfold Ct.CB.f Ct.cmp_isNaN_string.f Fv;simp only [bne_self_eq_false,Option.bind_some,if_neg (show ¬(false=true) by decide)];split
 ·rfl
 ·split<;>rfl
theorem RU {l:List Int} {i:Nat} {c:Int} {r:List Int} (h:l.drop i=c::r):rd l (i:Int)=c:=by
 unfold rd;have:=congrArg (λx=>x[0]?) h;simp only [List.getElem?_drop,Nat.add_zero,List.getElem?_cons_zero] at this;rw [Int.toNat_natCast,List.getD_eq_getElem?_getD,this];rfl
theorem MF (l:List Int) {i:Nat} (h:i<=l.length):(i=l.length/\l.drop i=[])\/(∃ c,i<l.length/\l.drop i=c::l.drop (i+1)):=by
 rcases Nat.lt_or_ge i l.length with h1|h1
 ·exact .inr ⟨l[i],h1,List.drop_eq_getElem_cons h1⟩
 ·exact .inl ⟨by omega,List.drop_eq_nil_of_le h1⟩
theorem RV (l:List Int) (hl:l.length<=4294967296) (d:Nat):∀ i:Nat,i+d=l.length->Ev (λk=>Ct.Ci.l0 k 0 l (l.length:Int) i) (UX (l.drop i)):=by
 induction d with
 |zero=>
  intro i hi;apply BB;simp only [Ct.Ci.l0];exact Ah (by omega) (BG (Am _) (by rw [List.drop_eq_nil_of_le (by omega)];rfl))
 |succ d ih=>
  intro i hi;apply BB;simp only [Ct.Ci.l0];have hw:wrap64 ((i:Int)+1)=((i+1:Nat):Int):=by rw [KD (by omega) (by omega)];omega
  rw [hw];refine AU (by omega) (AU (by omega) (AU (by omega) ?_));rcases MF l (i:=i) (by omega) with ⟨h1,_⟩|⟨c,h1,h2⟩
  ·omega
  ·rw [RU h2,h2,UX];by_cases hc:c=0
   ·rw [if_pos hc];exact AU hc (ih (i+1) (by omega))
   ·rw [if_neg hc];exact Ah hc (Am _)
theorem Ud {l:List Int} (hl:l.length<=4294967296):Ev (λk=>Ct.Ci.f k l) (UX l):=by
 have:=RV l hl l.length 0 (by omega);simpa [Ct.Ci.f] using this
theorem TV (a0 a1 a2 b0 b1 b2:ByteArray):Ev (λk=>Ct.CP.f k a0 a1 a2 b0 b1 b2) (JF a0 a1 a2 b0 b1 b2):=by
 simp only [Ct.CP.f,TU,Option.bind_some];exact BL (Ud (by simp)) (Am _)
theorem TW (a0 a1 a2 b0 b1 b2:ByteArray):∃ k,Ct.CP.f k a0 a1 a2 b0 b1 b2=some (JF a0 a1 a2 b0 b1 b2):=(TV a0 a1 a2 b0 b1 b2).rounds
end Go.Proofs.YtikggnalmidlhaaGreatDoor.Print
end
