/- How the reference of layer 13 compares, as plain functions. Texts are no longer than a row may be. -/
import Derived.Test.YtikggnalmidlhaaGreatDoorM16
import Derived.Test.YtikggnalmidlhaaGreatDoorYrank
namespace Go.Proofs.YtikggnalmidlhaaGreatDoor.Y
set_option linter.unusedVariables false
set_option linter.unusedSimpArgs false
open RowKit Print AR Aa Ad
theorem Qg (a b:Int):CW.f a b=some (FZ a b):=by
 unfold CW.f FZ;split
 ·rfl
 ·split<;>rfl
theorem Qh (l m:List Int) (h:l=[]\/m=[]):cmpL l m=FZ (l.length:Int) (m.length:Int):=by
 rcases h with rfl|rfl
 ·cases m with
  |nil=>rfl
  |cons _ _=>simp only [cmpL,FZ,List.length_cons,List.length_nil];rw [if_pos (by omega)]
 ·cases l with
  |nil=>rfl
  |cons _ _=>simp only [cmpL,FZ,List.length_cons,List.length_nil];rw [if_neg (by omega),if_pos (by omega)]
theorem Ng (a b:Int) (n:Nat) (x y:Nat) (hx:a=(x:Int)+n) (hy:b=(y:Int)+n):FZ a b=FZ x y:=by
 subst hx hy;unfold FZ;repeat (first|omega|split)
theorem KR (a b:ByteArray) (ha:a.size<=9223372036854775807) (hb:b.size<=9223372036854775807) (d:Nat):∀ i:Nat,i+d=a.size->i<=b.size->Ev (λk=>Ae.l0 k a b i) (cmpL ((bytesOf a).drop i) ((bytesOf b).drop i)):=by
 have last:∀ (i:Nat),i<=a.size->i<=b.size->(i=a.size\/i=b.size)->Ev (λk=>Ae.j1 k a b i false) (cmpL ((bytesOf a).drop i) ((bytesOf b).drop i)):=by
  intro i h1 h2 h3;apply BB;simp only [Ae.j1];refine Ah (by decide) ?_;rw [Qg];refine BL (Am _) (BG (Am _) ?_);have la:=bytesOf_length a;have lb:=bytesOf_length b;rw [Qh]
  ·exact Ng _ _ i _ _ (by rw [List.length_drop];omega) (by rw [List.length_drop];omega)
  ·rcases h3 with h3|h3
   ·exact .inl (List.drop_eq_nil_of_le (by omega))
   ·exact .inr (List.drop_eq_nil_of_le (by omega))
 induction d with
 |zero=>
  intro i hi hb';apply BB;simp only [Ae.l0];exact Ah (by omega) (last i (by omega) hb' (.inl (by omega)))
 |succ d ih=>
  intro i hi hb';apply BB;simp only [Ae.l0];refine AU (by omega) ?_;by_cases h:i=b.size
  ·have:decide ((i:Int)<(b.size:Int))=false:=by simp;omega
   rw [this];exact last i (by omega) hb' (.inr h)
  ·have:decide ((i:Int)<(b.size:Int))=true:=by simp;omega
   rw [this];apply BB;simp only [Ae.j1];have hw:wrap64 ((i:Int)+1)=((i+1:Nat):Int):=by rw [KD (by omega) (by omega)];omega
   rw [hw];rcases DJ a (i:=i) (by omega) with ⟨h1,_⟩|⟨h1,h2⟩
   ·omega
   ·rcases DJ b (i:=i) (by omega) with ⟨h3,_⟩|⟨h3,h4⟩
    ·omega
    ·rw [h2,h4];refine AU (by trivial) (AU (by omega) (AU (by omega) (AU (by omega) ?_)));simp only [cmpL,FZ];by_cases h5:bt a i<bt b i
     ·exact AU h5 (BG (Am _) (by simp [h5]))
     ·refine Ah h5 ?_;by_cases h6:bt a i>bt b i
      ·exact AU h6 (BG (Am _) (by simp [h5,h6]))
      ·refine Ah h6 (BG (ih (i+1) (by omega) (by omega)) ?_);simp [h5,h6]
theorem Gl {a b:ByteArray} (ha:a.size<=9223372036854775807) (hb:b.size<=9223372036854775807):Ev (λk=>Ae.f k a b) (Fv a b):=by
 have:=KR a b ha hb a.size 0 (by omega) (by omega);rw [Ip];simpa [Ae.f] using this
theorem Mk {a0 a1 a2 b0 b1 b2:ByteArray} (ha0:a0.size<=9223372036854775807) (ha1:a1.size<=9223372036854775807) (ha2:a2.size<=9223372036854775807) (hb0:b0.size<=9223372036854775807) (hb1:b1.size<=9223372036854775807) (hb2:b2.size<=9223372036854775807):Ev (λk=>CO.f k a0 a1 a2 b0 b1 b2) (Ns (a0,a1,a2) (b0,b1,b2)):=by
 unfold CO.f Ns KV;refine BL (Gl ha0 hb0) ?_;by_cases h0:Fv a0 b0=0
 ·simp only [if_pos h0];refine BL (Gl ha1 hb1) ?_;by_cases h1:Fv a1 b1=0
  ·simp only [if_pos h1];exact BL (Gl ha2 hb2) (Am _)
  ·simp only [if_neg h1];exact Am _
 ·simp only [if_neg h0];exact Am _
end Go.Proofs.YtikggnalmidlhaaGreatDoor.Y
