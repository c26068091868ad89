/- How two keys compare: (cookie.Key).Cmp at the printed text. -/
import Derived.Test.YtfggjdkccdkogaaGreatDoorPC
import Derived.Test.YtfggjdkccdkogaaGreatDoorYA
import Derived.LoopTactic
namespace Go.Proofs.YtfggjdkccdkogaaGreatDoor.Print
open RowKit Y Ac Aq Aw
set_option linter.unusedVariables false
set_option linter.unusedSimpArgs false
def Iz (a b:ByteArray):Int:=if Op.bytesLess a.toList b.toList=true then -1 else if Op.bytesLess b.toList a.toList=true then 1 else 0
def YX:List Int->Int
 |[]=>0
 |x::l=>if x=0 then YX l else x
def LG (a0 a1 a2 b0 b1 b2:ByteArray):Int:=YX [Iz a0 b0,Iz a1 b1,Iz a2 b2]
theorem Xq (a b:ByteArray):EE.DR.f a b=some (Iz a b):=by
 unfold EE.DR.f EE.cmp_isNaN_string.f Iz;simp only [bne_self_eq_false,Option.bind_some,if_neg (show ¬(false=true) by decide)];split
 ·rfl
 ·split<;>rfl
theorem WH {l:List Int} {i:Nat} {c:Int} {r:List Int} (h:l.drop i=c::r):rd l (i:Int)=c:=by
 unfold rd;have:=congrArg (λx=>x[0]?) h;simp only [List.getElem?_drop,Nat.add_zero,List.getElem?_cons_zero] at this;rw [Int.toNat_natCast,List.getD_eq_getElem?_getD,this];rfl
theorem Px (l:List Int) {i:Nat} (h:i<=l.length):(i=l.length/\l.drop i=[])\/(∃ c,i<l.length/\l.drop i=c::l.drop (i+1)):=by
 rcases Nat.lt_or_ge i l.length with h1|h1
 ·exact .inr ⟨l[i],h1,List.drop_eq_getElem_cons h1⟩
 ·exact .inl ⟨by omega,List.drop_eq_nil_of_le h1⟩
theorem WI (l:List Int) (hl:l.length<=4294967296) (d:Nat):∀ i:Nat,i+d=l.length->Ev (λk=>EE.ED.l0 k 0 l (l.length:Int) i) (YX (l.drop i)):=by
 induction d with
 |zero=>
  intro i hi;apply Az;simp only [EE.ED.l0];exact Ab (by omega) (BJ (Ad _) (by rw [List.drop_eq_nil_of_le (by omega)];rfl))
 |succ d ih=>
  intro i hi;apply Az;simp only [EE.ED.l0];have hw:wrap64 ((i:Int)+1)=((i+1:Nat):Int):=by rw [JV (by omega) (by omega)];omega
  rw [hw];refine AU (by omega) (AU (by omega) (AU (by omega) ?_));rcases Px l (i:=i) (by omega) with ⟨h1,_⟩|⟨c,h1,h2⟩
  ·omega
  ·rw [WH h2,h2,YX];by_cases hc:c=0
   ·rw [if_pos hc];exact AU hc (ih (i+1) (by omega))
   ·rw [if_neg hc];exact Ab hc (Ad _)
theorem Yf {l:List Int} (hl:l.length<=4294967296):Ev (λk=>EE.ED.f k l) (YX l):=by
 have:=WI l hl l.length 0 (by omega);simpa [EE.ED.f] using this
theorem Xr (a0 a1 a2 b0 b1 b2:ByteArray):Ev (λk=>EE.Dk.f k a0 a1 a2 b0 b1 b2) (LG a0 a1 a2 b0 b1 b2):=by
 simp only [EE.Dk.f,Xq,Option.bind_some];exact AY (Yf (by simp)) (Ad _)
theorem Xt (a0 a1 a2 b0 b1 b2:ByteArray):∃ k,EE.Dk.f k a0 a1 a2 b0 b1 b2=some (LG a0 a1 a2 b0 b1 b2):=(Xr a0 a1 a2 b0 b1 b2).rounds
end Go.Proofs.YtfggjdkccdkogaaGreatDoor.Print
