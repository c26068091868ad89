/- Layer 22's cookie there and back: the printed function tells true. No condition. -/
import Derived.Test.YtfggjdkccdkogaaGreatDoorPrint12
namespace Go.Proofs.YtfggjdkccdkogaaGreatDoor.Y
open RowKit Print Ac Aq Aw
theorem Vs {α:Type} {f:Nat->Option α} {r:α} (hm:∀ k,CZ (f k) (f (k+1))) (K:Nat) (h:f K=some r):Ev f r:=by
 refine ⟨K,λk hk=>?_⟩;induction k with
 |zero=>
  obtain rfl:K=0:=by omega
  exact h
 |succ k ih=>
  rcases Nat.lt_or_ge k K with h1|h1
  ·obtain rfl:K=k+1:=by omega
   exact h
  ·exact hm k _ (ih h1)
theorem Ez:Ev (λk=>AX.f k) true:=Vs AX.mono 60 (by decide+kernel)
end Go.Proofs.YtfggjdkccdkogaaGreatDoor.Y
