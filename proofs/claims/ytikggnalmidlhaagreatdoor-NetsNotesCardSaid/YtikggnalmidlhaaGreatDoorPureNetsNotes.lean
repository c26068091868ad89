/- NetsNotes: empty lines and notes behind any lines change nothing of what a text is read as. -/
import Derived.Test.YtikggnalmidlhaaGreatDoorYnetsE
namespace Go.Proofs.YtikggnalmidlhaaGreatDoor.Pure
open RowKit Print AR Aa Ad Y
theorem NetsNotes:Yg.Pure:=by
 intro s note now _ _ _;apply Ev.rounds;unfold Yg.f;by_cases h:(s.size:Int)>1000
 ·exact AU h (YM λe=>by cases e)
 ·exact Ah h (YM λe=>⟨by omega,by have:=of_decide_eq_false e;omega⟩)
end Go.Proofs.YtikggnalmidlhaaGreatDoor.Pure
