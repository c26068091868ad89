/- NetsEnds: bytes 13 ahead of the ends of lines change nothing of what a text is read as. -/
import Derived.Test.YtikggnalmidlhaaGreatDoorYnetsE
namespace Go.Proofs.YtikggnalmidlhaaGreatDoor.Pure
open RowKit Print AR Aa Ad Y
theorem NetsEnds:YU.Pure:=by
 intro s now _ _;apply Ev.rounds;unfold YU.f;by_cases h:(s.size:Int)>1000
 ·exact AU h (BL J4 (Am _))
 ·have hs:s.size<=1000:=by omega
  have hlen:=V4 s;have hsz:∀ x∈Vi s,x.size<=2000:=λx hx=>by have:=(WO hx).1;omega
  refine Ah h (BL (WJ (by omega)) (BL (YP (by omega) hsz) ?_));refine Ya (s:=s) hs (λhb=>?_) (Vi s).length 0 (by omega);by_cases hbad:(Vi s).any (λx=>KU (bytesOf x))=true
  ·rw [if_pos hbad] at hb;cases hb
  ·rw [if_neg hbad];have hbf:=List.any_eq_false.1 (Bool.eq_false_iff.2 hbad);have hlt:Vi (UQ (Vi s))=Vi s:=Xn λx hx=>by simpa using hbf x hx
   have hts:=Xf (Vi s) ⟨#[]⟩ hsz;have h0:(⟨#[]⟩:ByteArray).size=0:=rfl;rw [h0] at hts;exact ⟨XC (Nat.le_trans hts (by omega)) λx hx=>by rw [hlt] at hx;have:=hsz x hx;omega,Nat.le_trans hts (by omega),hlt⟩
end Go.Proofs.YtikggnalmidlhaaGreatDoor.Pure
