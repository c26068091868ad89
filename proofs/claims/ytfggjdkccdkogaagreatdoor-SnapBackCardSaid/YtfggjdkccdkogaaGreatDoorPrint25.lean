/- Printed by a program of this claim's session (xprint.py): the machine's side: each Go function as a Lean function, and that a call of it comes to what that tells; the row of a statement. No condition. -/
import Derived.Test.YtfggjdkccdkogaaGreatDoorPF
import Derived.Test.YtfggjdkccdkogaaGreatDoorPrint24
namespace Go.Proofs.YtfggjdkccdkogaaGreatDoor.Print
open RowKit Ac Aq Aw
attribute [local go_sem] DC DD DX DY Co Cq DI DJ
set_option linter.unusedVariables false
set_option linter.unusedSimpArgs false
mutual
def BF.j0:Nat->Int->Int->ByteArray->Int->ByteArray->ByteArray->ByteArray->ByteArray->Int->Int->Int->Bool->Bool->Bool->Int->Option (ByteArray×Int×ByteArray×ByteArray×ByteArray×ByteArray×Int×Int×Int×Bool×Bool×Bool×Int)
 |0,_,_,_,_,_,_,_,_,_,_,_,_,_,_,_=>none
 |k+1,x1,x7,x483000,x483001,x486000,x486001,x486002,x486003,x486004,x486005,x486006,x486007,x486008,x486009,x486010=>if x1=3 then ((Cb.f x483000 x483001).bind λbt510=>(BF.j1 k x1 x7 bt510.1 bt510.2.1 x486000 x486001 x486002 x486003 x486004 x486005 x486006 x486007 x486008 x486009 (wrap64 (bt510.2.2)))) else (BF.j1 k x1 x7 x483000 x483001 x486000 x486001 x486002 x486003 x486004 x486005 x486006 x486007 x486008 x486009 x486010)
def BF.j1:Nat->Int->Int->ByteArray->Int->ByteArray->ByteArray->ByteArray->ByteArray->Int->Int->Int->Bool->Bool->Bool->Int->Option (ByteArray×Int×ByteArray×ByteArray×ByteArray×ByteArray×Int×Int×Int×Bool×Bool×Bool×Int)
 |0,_,_,_,_,_,_,_,_,_,_,_,_,_,_,_=>none
 |k+1,x1,x7,x483000,x483001,x486000,x486001,x486002,x486003,x486004,x486005,x486006,x486007,x486008,x486009,x486010=>if x483001=0 then ((BU.f k x1 x486000 x486001 x486002 x486003 x486004 x486005 x486006 x486007 x486008 x486009 x486010).bind λt513=>(if x7=t513 then ((Aa.f k x486000 x486001 x486002 x486003 x486004 x486005 x486006 x486007 x486008 x486009 x486010).bind λt514=>(if t514=true then (some (x483000,x483001,x486000,x486001,x486002,x486003,x486004,x486005,x486006,x486007,x486008,x486009,x486010)) else (some ((⟨#[]⟩:ByteArray),224,x486000,x486001,x486002,x486003,x486004,x486005,x486006,x486007,x486008,x486009,x486010)))) else (some ((⟨#[]⟩:ByteArray),224,x486000,x486001,x486002,x486003,x486004,x486005,x486006,x486007,x486008,x486009,x486010)))) else (some (x483000,x483001,x486000,x486001,x486002,x486003,x486004,x486005,x486006,x486007,x486008,x486009,x486010))
end
def BF.f (k:Nat) (a0_0:ByteArray) (a0_1:Int) (a1:Int):Option (ByteArray×Int×ByteArray×ByteArray×ByteArray×ByteArray×Int×Int×Int×Bool×Bool×Bool×Int):=(Cj.f k a0_0 a0_1 64).bind λbt486=>((Cj.f k bt486.1 bt486.2.1 64).bind λbt489=>((Cj.f k bt489.1 bt489.2.1 64).bind λbt492=>((Cj.f k bt492.1 bt492.2.1 128).bind λbt495=>((Cb.f bt495.1 bt495.2.1).bind λbt498=>((Bg.f k bt498.1 bt498.2.1 253402300799).bind λbt501=>((Bg.f k bt501.1 bt501.2.1 253402300799).bind λbt504=>(if a1>=2 then ((Bg.f k bt504.1 bt504.2.1 253402300799).bind λbt507=>(BF.j0 k a1 bt498.2.2 bt507.1 bt507.2.1 bt486.2.2 bt489.2.2 bt492.2.2 bt495.2.2 bt504.2.2 bt507.2.2 bt501.2.2 ((((Int.tdiv bt498.2.2 4)%256)%2)==1) ((Int.tmod bt498.2.2 2)==1) ((((Int.tdiv bt498.2.2 2)%256)%2)==1) 0)) else (BF.j0 k a1 bt498.2.2 bt504.1 bt504.2.1 bt486.2.2 bt489.2.2 bt492.2.2 bt495.2.2 bt504.2.2 bt504.2.2 bt501.2.2 true ((Int.tmod bt498.2.2 2)==1) ((((Int.tdiv bt498.2.2 2)%256)%2)==1) 0))))))))
section
variable {w W:World} {bs bs':Bs} {ops:Array Oper} {o:Oper} {a:Act} {Q:Exit->Act->World->Prop} {ty t:TypeId} {x y:Operand} {g:Nat} {cs cs':Array Value} {td:TypeDesc}
variable {k:Nat}
variable {x0 x1 x2 x3:ByteArray} {x4 x5 x6 x10:Int} {x7 x8 x9:Bool}
end
end Go.Proofs.YtfggjdkccdkogaaGreatDoor.Print
