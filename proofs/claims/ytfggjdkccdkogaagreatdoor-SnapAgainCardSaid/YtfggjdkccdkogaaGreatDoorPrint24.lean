/- Printed by a program of this claim's session (xprint.py): the machine's side: each Go function as a Lean function, and that a call of it comes to what that tells; the row of a statement. No condition. -/
import Derived.Test.YtfggjdkccdkogaaGreatDoorPrint23
namespace Go.Proofs.YtfggjdkccdkogaaGreatDoor.Print
open RowKit Ac Aq Aw
attribute [local go_sem] DC DD DX DY Co Cq DI DJ
set_option linter.unusedVariables false
set_option linter.unusedSimpArgs false
def Bt.j0:Nat->ByteArray->Int->Option (ByteArray×Int×Int)
 |0,_,_=>none
 |k+1,x0,x1=>(BL.f k x0).bind λbt472=>(if bt472.2.2=0 then (if bt472.1>(IntKind.u64.wrap (x1)) then (some ((⟨#[]⟩:ByteArray),0,31)) else (if bt472.1>(IntKind.u64.wrap (wrap64 ((x0.size:Int) - bt472.2.1))) then (some ((⟨#[]⟩:ByteArray),0,30)) else (if 0<=bt472.2.1 then (if bt472.2.1<=(wrap64 (bt472.2.1+(wrap64 (bt472.1)))) then (if (wrap64 (bt472.2.1+(wrap64 (bt472.1))))<=(x0.size:Int) then (some (x0.extract (bt472.2.1:Int).toNat ((wrap64 (bt472.2.1+(wrap64 (bt472.1)))):Int).toNat,wrap64 (bt472.2.1+(wrap64 (bt472.1))),0)) else (none)) else (none)) else (none)))) else (some ((⟨#[]⟩:ByteArray),0,bt472.2.2)))
def Bt.f (k:Nat) (a0:ByteArray) (a1:Int):Option (ByteArray×Int×Int):=if a1<0 then (Bt.j0 k a0 0) else (Bt.j0 k a0 a1)
def Cj.f (k:Nat) (a0_0:ByteArray) (a0_1:Int) (a1:Int):Option (ByteArray×Int×ByteArray):=if a0_1=0 then ((Bt.f k a0_0 a1).bind λbt477=>(if bt477.2.2=0 then (if 0<=bt477.2.1 then (if bt477.2.1<=(a0_0.size:Int) then (some (a0_0.extract (bt477.2.1:Int).toNat a0_0.size,0,bt477.1)) else (none)) else (none)) else (some ((⟨#[]⟩:ByteArray),bt477.2.2,(⟨#[]⟩:ByteArray))))) else (some (a0_0,a0_1,(⟨#[]⟩:ByteArray)))
def Cb.f (a0_0:ByteArray) (a0_1:Int):Option (ByteArray×Int×Int):=if a0_1=0 then (if a0_0.toList=([]:List UInt8) then (some ((⟨#[]⟩:ByteArray),224,0)) else (if 1<=(a0_0.size:Int) then (if 0<(a0_0.size:Int) then (some (a0_0.extract 1 a0_0.size,0,bt a0_0 0)) else (none)) else (none))) else (some (a0_0,a0_1,0))
end Go.Proofs.YtfggjdkccdkogaaGreatDoor.Print
