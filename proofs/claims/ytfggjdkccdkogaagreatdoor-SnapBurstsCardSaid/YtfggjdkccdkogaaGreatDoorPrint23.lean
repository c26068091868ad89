/- Printed by a program of this claim's session (xprint.py): the machine's side: each Go function as a Lean function, and that a call of it comes to what that tells; the row of a statement. No condition. -/
import Derived.Test.YtfggjdkccdkogaaGreatDoorPrint13
namespace Go.Proofs.YtfggjdkccdkogaaGreatDoor.Print
open RowKit Ac Aq Aw
attribute [local go_sem] DC DD DX DY Co Cq DI DJ
set_option linter.unusedVariables false
set_option linter.unusedSimpArgs false
def CB.f (k:Nat) (a0:ByteArray):Option (Bool):=if (a0.size:Int)>=4 then (if 0<=(wrap64 ((a0.size:Int) - 4)) then (if (wrap64 ((a0.size:Int) - 4))<=(a0.size:Int) then ((Ci.f k (a0.extract 0 ((wrap64 ((a0.size:Int) - 4)):Int).toNat)).bind λt465=>(some ((a0.extract ((wrap64 ((a0.size:Int) - 4)):Int).toNat a0.size).toList==t465.toList))) else (none)) else (none)) else (some false)
mutual
def BL.l0:Nat->ByteArray->Int->Int->Int->Option (Int×Int×Int)
 |0,_,_,_,_=>none
 |k+1,x0,x5,x6,x7=>if x7<10 then (if x7>=(x0.size:Int) then (some (0,0,30)) else (if 0<=x7 then (if x7<(x0.size:Int) then (if (IntKind.u64.wrap (bt x0 x7))>=128 then (BL.l0 k x0 (IntKind.u64.wrap (x5+(IntKind.u64.wrap ((IntKind.u64.wrap ((IntKind.u64.wrap (bt x0 x7)) - 128))*x6)))) (IntKind.u64.wrap (x6*128)) (wrap64 (x7+1))) else (if x7=9 then (BL.j1 k x5 x6 x7 (IntKind.u64.wrap (bt x0 x7)) (decide ((IntKind.u64.wrap (bt x0 x7))>1))) else (BL.j1 k x5 x6 x7 (IntKind.u64.wrap (bt x0 x7)) false))) else (none)) else (none))) else (some (0,0,31))
def BL.j1:Nat->Int->Int->Int->Int->Bool->Option (Int×Int×Int)
 |0,_,_,_,_,_=>none
 |k+1,x5,x6,x7,x8,x36=>if x36=true then (some (0,0,31)) else (if x7>0 then (if x8=0 then (some (0,0,32)) else (some (IntKind.u64.wrap (x5+(IntKind.u64.wrap (x8*x6))),wrap64 (x7+1),0))) else (some (IntKind.u64.wrap (x5+(IntKind.u64.wrap (x8*x6))),wrap64 (x7+1),0)))
end
def BL.f (k:Nat) (a0:ByteArray):Option (Int×Int×Int):=BL.l0 k a0 0 1 0
def Bg.f (k:Nat) (a0_0:ByteArray) (a0_1:Int) (a1:Int):Option (ByteArray×Int×Int):=if a0_1=0 then ((BL.f k a0_0).bind λbt468=>(if bt468.2.2=0 then (if bt468.1>(IntKind.u64.wrap (a1)) then (some ((⟨#[]⟩:ByteArray),224,0)) else (if 0<=bt468.2.1 then (if bt468.2.1<=(a0_0.size:Int) then (some (a0_0.extract (bt468.2.1:Int).toNat a0_0.size,0,wrap64 (bt468.1))) else (none)) else (none))) else (some ((⟨#[]⟩:ByteArray),bt468.2.2,0)))) else (some (a0_0,a0_1,0))
def BU.j0:Nat->Int->Int->ByteArray->ByteArray->ByteArray->ByteArray->Int->Int->Int->Bool->Bool->Bool->Int->Option (Int)
 |0,_,_,_,_,_,_,_,_,_,_,_,_,_=>none
 |k+1,x0,x5,x472000,x472001,x472002,x472003,x472004,x472005,x472006,x472007,x472008,x472009,x472010=>if x472009=true then (if x472007=true then (if x0>=2 then (some ((wrap64 ((wrap64 (x5+2))+4))%256)) else (some ((wrap64 (x5+2))%256))) else (some ((wrap64 (x5+2))%256))) else (if x472007=true then (if x0>=2 then (some ((wrap64 (x5+4))%256)) else (some ((x5)%256))) else (some ((x5)%256)))
def BU.f (k:Nat) (a0:Int) (a1_0:ByteArray) (a1_1:ByteArray) (a1_2:ByteArray) (a1_3:ByteArray) (a1_4:Int) (a1_5:Int) (a1_6:Int) (a1_7:Bool) (a1_8:Bool) (a1_9:Bool) (a1_10:Int):Option (Int):=if a1_8=true then (BU.j0 k a0 (0+1) a1_0 a1_1 a1_2 a1_3 a1_4 a1_5 a1_6 a1_7 a1_8 a1_9 a1_10) else (BU.j0 k a0 0 a1_0 a1_1 a1_2 a1_3 a1_4 a1_5 a1_6 a1_7 a1_8 a1_9 a1_10)
end Go.Proofs.YtfggjdkccdkogaaGreatDoor.Print
