/- JarOwn: what is written into the rows it was made of, or that it told, changes nothing of a jar. -/
import Derived.Test.YtohjohhcjcljoaaGreatDoorPrint23
import Derived.Test.YtohjohhcjcljoaaGreatDoorYB
namespace Go.Proofs.YtohjohhcjcljoaaGreatDoor.Pure
open RowKit Print Ak BR BS Y
theorem Vi (l m:List SC) (hb:m.length<=100) (hl:l=m):∀ n j (x:List SC),x.length<=100->x.length - j=n->j<=x.length->Ev (λk=>Ai.l1 k l x (x.length:Int) (j:Int) (m.map Dx)) true:=by
 subst hl;intro n;induction n with
 |zero=>
  intro j x hx hn hj;refine BQ ?_;simp only [Ai.l1,Bh.f,F8 (show l.length<=10000 by omega),Option.bind_some];exact Aq (by omega) (AZ trivial (Az (Fb _ _ (by omega)) (Ba (Ay _) (EY _))))
 |succ n ih=>
  intro j x hx hn hj;refine BQ ?_;simp only [Ai.l1];rw [G9 (by omega)];refine AZ (by omega) (AZ (by omega) (AZ (by omega) ?_));have:=ih (j+1) (x.set (j:Int).toNat ⟨(AB x j).f0,(AB x j).f1,(AB x j).f2,⟨#[111,116,104,101,114]⟩,(AB x j).f4,(AB x j).f5,(AB x j).f6,(AB x j).f7,(AB x j).f8,(AB x j).f9,(AB x j).f10⟩) (by rw [List.length_set];exact hx) (by rw [List.length_set];omega) (by rw [List.length_set];omega);rw [List.length_set] at this;exact this
theorem Vj (l m:List SC) (hb:m.length<=100) (hl:l=m) (y:List SC) (hy:y.length<=100):∀ n j (x:List SC),x.length<=100->x.length - j=n->j<=x.length->Ev (λk=>Ai.l0 k l x y (x.length:Int) (j:Int) (m.map Dx)) true:=by
 intro n;induction n with
 |zero=>
  intro j x hx hn hj;refine BQ ?_;simp only [Ai.l0];exact Aq (by omega) (Vi l m hb hl _ 0 y hy rfl (Nat.zero_le _))
 |succ n ih=>
  intro j x hx hn hj;refine BQ ?_;simp only [Ai.l0];rw [G9 (by omega)];refine AZ (by omega) (AZ (by omega) (AZ (by omega) ?_));have:=ih (j+1) (x.set (j:Int).toNat ⟨(AB x j).f0,(AB x j).f1,(AB x j).f2,⟨#[111,116,104,101,114]⟩,(AB x j).f4,(AB x j).f5,(AB x j).f6,(AB x j).f7,(AB x j).f8,(AB x j).f9,(AB x j).f10⟩) (by rw [List.length_set];exact hx) (by rw [List.length_set];omega) (by rw [List.length_set];omega);rw [List.length_set] at this;exact this
theorem JarOwn:Ai.Pure:=by
 intro l hw;apply Ev.rounds;simp only [Ai.f];have no:Ev (λk=>Ai.j0 k l true) true:=by
  refine BQ ?_;simp only [Ai.j0,Bh.f,Option.bind_some];exact AZ trivial (Ay _)
 refine Az (JK l) ?_;by_cases hf:Kg l=true
 ·refine AZ hf ?_;obtain ⟨hl,hs⟩:=IC.1 hf;refine Az (Gr hl hs) ?_;by_cases hr:F9 l=true
  ·have hj:=(Fu hs).1 hr;rw [hr];refine BQ ?_;simp only [Ai.j0,Option.bind_some,List.nil_append,List.length_nil];refine Aq (by decide) (AZ (by omega) (Az (JL hl hs) ?_));simp only [Hz hj,F8 (show l.length<=10000 by omega),Option.bind_some];exact Vj l l hl rfl l hl _ 0 l hl rfl (Nat.zero_le _)
  ·rw [show F9 l=false by simpa using hr];exact no
 ·exact Aq hf no
end Go.Proofs.YtohjohhcjcljoaaGreatDoor.Pure
