/- An argument that is an array of two whole numbers, by value: opened. -/
import Derived.Test.YtfggjdkccdkogaaGreatDoorPrint0
import Derived.Deep.Slices
import Derived.Deep.Fields
import Derived.ChangeSame
import Derived.ChangeArms
import Derived.OpenShut
namespace Go.Proofs.YtfggjdkccdkogaaGreatDoor.Print
open Go RowKit ChangeShapes WideShapes Deep Ac Aq Aw
set_option linter.unusedVariables false
set_option maxRecDepth 100000 in
theorem aa {H:Type} {enc:TypeId×Value->H} {w:World} {base:Nat} {spare:Nat->Bool} {held:Bool} {r:Reach} {b0:Nat} {v:Value} {d:DataW H} {ps:List MemPlace}
 (hv:Value.okWide Tryz.prog w r b0 65 v) (h:DataW.Trod enc Tryz.prog w base spare held 65 v d ps):
 ∃ x0 x1:Int,v= .agg #[.int .i64 x0, .int .i64 x1]/\(Lit.int .i64 x0).wf=true/\(Lit.int .i64 x1).wf=true:=by
 have hu:=Tryz.underlying65;have hi:=Tryz.underlying3;simp only [Value.okWide,hu] at hv;obtain ⟨cs,rfl,hsz,_⟩:=hv;rw [show Tryz.prog.cellsOf 65=2 by kernel_rfl] at hsz;obtain ⟨fuel,hf⟩:=h;obtain ⟨xs,m,_,_,hlen,hx,hg⟩:=DataW.trod_array hu hf;obtain ⟨l⟩:=cs
 match l,hsz with
 |[c0,c1],_=>
  have g0:=hg 0 (by omega);have g1:=hg 1 (by omega);rw [show Tryz.prog.cellsOf 3=1 by kernel_rfl] at g0 g1;simp [Value.cells] at g0 g1;rw [List.getElem?_eq_getElem (by omega)] at g0 g1;obtain ⟨m0,e0,_,w0⟩:=DataW.trod_int hi g0;obtain ⟨m1,e1,_,w1⟩:=DataW.trod_int hi g1;obtain rfl:=(List.cons.inj e0).1;obtain rfl:=(List.cons.inj e1).1;exact ⟨m0,m1,rfl,w0,w1⟩
end Go.Proofs.YtfggjdkccdkogaaGreatDoor.Print
