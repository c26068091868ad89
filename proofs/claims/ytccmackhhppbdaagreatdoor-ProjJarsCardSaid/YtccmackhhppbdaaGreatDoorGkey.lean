/- How two keys compare: (cookie.Key).Cmp at the printed text. -/
import Derived.Test.YtccmackhhppbdaaGreatDoorPC
import Derived.Test.YtccmackhhppbdaaGreatDoorYA
import Derived.LoopTactic
namespace Go.Proofs.YtccmackhhppbdaaGreatDoor.Print
open RowKit Y Af BI BM
set_option linter.unusedVariables false
set_option linter.unusedSimpArgs false
def Fg (a b:ByteArray):Int:=if Op.bytesLess a.toList b.toList=true then -1 else if Op.bytesLess b.toList a.toList=true then 1 else 0
def Q3:List Int->Int
 |[]=>0
 |x::l=>if x=0 then Q3 l else x
def IL (a0 a1 a2 b0 b1 b2:ByteArray):Int:=Q3 [Fg a0 b0,Fg a1 b1,Fg a2 b2]
theorem QU (a b:ByteArray):Ct.Bq.f a b=some (Fg a b):=by
 unfold Ct.Bq.f Ct.cmp_isNaN_string.f Fg;simp only [bne_self_eq_false,Option.bind_some,if_neg (show ¬(false=true) by decide)];split
 ·rfl
 ·split<;>rfl
theorem PG {l:List Int} {i:Nat} {c:Int} {r:List Int} (h:l.drop i=c::r):rd l (i:Int)=c:=by
 unfold rd;have:=congrArg (λx=>x[0]?) h;simp only [List.getElem?_drop,Nat.add_zero,List.getElem?_cons_zero] at this;rw [Int.toNat_natCast,List.getD_eq_getElem?_getD,this];rfl
theorem KY (l:List Int) {i:Nat} (h:i<=l.length):(i=l.length/\l.drop i=[])\/(∃ c,i<l.length/\l.drop i=c::l.drop (i+1)):=by
 rcases Nat.lt_or_ge i l.length with h1|h1
 ·exact .inr ⟨l[i],h1,List.drop_eq_getElem_cons h1⟩
 ·exact .inl ⟨by omega,List.drop_eq_nil_of_le h1⟩
theorem PH (l:List Int) (hl:l.length<=4294967296) (d:Nat):∀ i:Nat,i+d=l.length->Ev (λk=>Ct.Ch.l0 k 0 l (l.length:Int) i) (Q3 (l.drop i)):=by
 induction d with
 |zero=>
  intro i hi;apply BH;simp only [Ct.Ch.l0];exact Ah (by omega) (BL (Ao _) (by rw [List.drop_eq_nil_of_le (by omega)];rfl))
 |succ d ih=>
  intro i hi;apply BH;simp only [Ct.Ch.l0];have hw:wrap64 ((i:Int)+1)=((i+1:Nat):Int):=by rw [JM (by omega) (by omega)];omega
  rw [hw];refine AU (by omega) (AU (by omega) (AU (by omega) ?_));rcases KY l (i:=i) (by omega) with ⟨h1,_⟩|⟨c,h1,h2⟩
  ·omega
  ·rw [PG h2,h2,Q3];by_cases hc:c=0
   ·rw [if_pos hc];exact AU hc (ih (i+1) (by omega))
   ·rw [if_neg hc];exact Ah hc (Ao _)
theorem Q9 {l:List Int} (hl:l.length<=4294967296):Ev (λk=>Ct.Ch.f k l) (Q3 l):=by
 have:=PH l hl l.length 0 (by omega);simpa [Ct.Ch.f] using this
theorem QV (a0 a1 a2 b0 b1 b2:ByteArray):Ev (λk=>Ct.CK.f k a0 a1 a2 b0 b1 b2) (IL a0 a1 a2 b0 b1 b2):=by
 simp only [Ct.CK.f,QU,Option.bind_some];exact BN (Q9 (by simp)) (Ao _)
theorem QW (a0 a1 a2 b0 b1 b2:ByteArray):∃ k,Ct.CK.f k a0 a1 a2 b0 b1 b2=some (IL a0 a1 a2 b0 b1 b2):=(QV a0 a1 a2 b0 b1 b2).rounds
end Go.Proofs.YtccmackhhppbdaaGreatDoor.Print
