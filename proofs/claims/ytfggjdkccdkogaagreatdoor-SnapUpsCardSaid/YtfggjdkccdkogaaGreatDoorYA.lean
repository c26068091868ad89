/- Plain words used by all laws of this seat: "eventually" (enough rounds), bytes as whole numbers. No condition. -/
import Derived.Test.YtfggjdkccdkogaaGreatDoorWMore
import Derived.Laws.Strings
namespace Go.Proofs.YtfggjdkccdkogaaGreatDoor.Y
set_option linter.unusedVariables false
set_option linter.unusedSimpArgs false
open RowKit Ac Aq Aw
section
variable {α β:Type} {f g:Nat->Option α} {r:α} {c:Prop} [Decidable c]
theorem AU (hc:c) (h:Ev f r):Ev (λk=>if c then f k else g k) r:=by simpa only [if_pos hc] using h
theorem Ab (hc:¬c) (h:Ev g r):Ev (λk=>if c then f k else g k) r:=by simpa only [if_neg hc] using h
theorem Ad (r:α):Ev (λ_=>some r) r:=⟨0,λ_ _=>rfl⟩
theorem Az (h:Ev (λk=>g (k+1)) r):Ev g r:=by
 obtain ⟨K,h⟩:=h;refine ⟨K+1,λk hk=>?_⟩;obtain ⟨j,rfl⟩:∃ j,k=j+1:=⟨k - 1,by omega⟩;exact h j (by omega)
theorem AY {h:Nat->α->Option β} {q:β} (hg:Ev g r) (k:Ev (λn=>h n r) q):Ev (λn=>(g n).bind λx=>h n x) q:=Ev.bind hg k
theorem BJ {r':α} (h:Ev g r) (e:r=r'):Ev g r':=e▸h
end
theorem toList_data (s:ByteArray):s.toList=s.data.toList:=ByteArray.toList_eq s
theorem toList_inj {a b:ByteArray}:a.toList=b.toList↔a=b:=by
 constructor
 ·intro h;rw [toList_data,toList_data] at h;cases a;cases b;rw [ByteArray.mk.injEq];exact Array.toList_inj.mp h
 ·rintro rfl;rfl
theorem JV {n:Int} (h: -9223372036854775808<=n) (h':n<=9223372036854775807):wrap64 n=n:=by unfold wrap64;omega
end Go.Proofs.YtfggjdkccdkogaaGreatDoor.Y
