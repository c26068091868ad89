/- snap's reader and the document's, step by step: they tell the same as long as nothing is amiss, and the same of what is amiss. The texts are no longer than a row may be. -/
import Derived.Test.YtfggjdkccdkogaaGreatDoorPrint25
import Derived.Test.YtfggjdkccdkogaaGreatDoorYB
import Derived.Test.YtfggjdkccdkogaaGreatDoorYS
namespace Go.Proofs.YtfggjdkccdkogaaGreatDoor.Y
set_option linter.unusedVariables false
set_option linter.unusedSimpArgs false
open RowKit Print Ac Aq Aw
def GV (v:Int) (se ht ho:Bool):Int:=(if se=true then 1 else 0)+(if ht=true then 2 else 0)+(if ho=true/\1<v then 4 else 0)
theorem MV (v:Int) (b0 b1 b2 b3:ByteArray) (se ht:Bool) (c6 c7:Int) (ho:Bool) (c9:Int):FM.f v b0 b1 b2 b3 se ht c6 c7 ho c9=some (GV v se ht ho):=by
 unfold FM.f GV Ye;by_cases h:1<v
 ·rw [decide_eq_true h];cases se<;>cases ht<;>cases ho<;>simp [h]<;>decide
 ·rw [decide_eq_false h];cases se<;>cases ht<;>cases ho<;>simp [h]<;>decide
theorem K4 (v:Int) (b0 b1 b2 b3:ByteArray) (c4 c5 c6:Int) (ho se ht:Bool) (ss:Int):Ev (λk=>BU.f k v b0 b1 b2 b3 c4 c5 c6 ho se ht ss) (GV v se ht ho):=by
 simp only [BU.f];unfold GV;cases se<;>cases ht<;>cases ho<;>simp only [if_true,if_neg (show ¬(false=true) by decide)]<;>apply Az<;>simp only [BU.j0,if_true,if_neg (show ¬(false=true) by decide)]<;>by_cases h:v>=2<;>simp [h,show (1<v)=(v>=2) from propext ⟨λ_=>by omega,λ_=>by omega⟩]<;>first|exact Ad _|exact BJ (Ad _) (by unfold wrap64;omega)|(unfold wrap64;simp;exact Ad _)
end Go.Proofs.YtfggjdkccdkogaaGreatDoor.Y
