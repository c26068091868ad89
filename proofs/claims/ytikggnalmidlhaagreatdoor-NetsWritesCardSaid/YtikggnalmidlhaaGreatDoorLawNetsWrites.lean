/- Printed by a program of this claim's session (xprint.py): the machine's side: each Go function as a Lean function, and that a call of it comes to what that tells; the row of a statement. No condition. -/
import Derived.Test.YtikggnalmidlhaaGreatDoorCards
import Derived.Test.YtikggnalmidlhaaGreatDoorL
import Derived.Test.YtikggnalmidlhaaGreatDoorPureNetsWrites
import Derived.ShutString
import Derived.ChangeOld
import Derived.SizedLaws
import Derived.SevenTiedAt
namespace Go.Proofs.YtikggnalmidlhaaGreatDoor.netsWrites
open ChangeShapes WideShapes ChangeAt RowKit Print AR
open Go.ChangeMaps (open_string shut_string)
set_option linter.unusedVariables false
open Joins Deep
theorem own:ownKnob Tryz.prog.godebug=none:=by kernel_rfl
theorem laidOut:laidOutB Tryz.prog=true:=by kernel_rfl
set_option maxRecDepth 100000 in
theorem lifted (os:Os) (started:os.Started) (H:Type) (enc:TypeId×Value->H):
 ReturnsInHanded {} Tryz.checked os 3 .any (λw args=>(Rows.netsWritesSpec.pre enc Tryz.prog Tryz.f3 [] false w args/\laidMetH Tryz.prog Rows.netsWritesRow.laid w)/\sizedMet enc Tryz.prog Tryz.f3 (OpenSpec.ofChange Rows.netsWritesSpec) false w args) (Rows.netsWritesSpec.post enc Tryz.prog Tryz.f3 false true false false):=by
 refine H6 (C:=Tryz.checked) (X:=λw _=>laidMetH Tryz.prog Rows.netsWritesRow.laid w) (λ_ _ _ hh h=>h.of_heap hh) own started (by kernel_rfl) Tryz.func3
  (ChangeSpec.witness_shaped (enc:=enc) (C:=Tryz.checked) (os:=os) (X:=λw _=>laidMetH Tryz.prog Rows.netsWritesRow.laid w) false (World.laidAll Tryz.prog os OO) #[.slice none 0 0] 8 (World.laidAll_os _ _ _) (World.shaped_of_ZipB (by kernel_rfl) (by kernel_rfl)) (by kernel_rfl) (by kernel_rfl) (by kernel_rfl) (QC os _)) ?_
 intro W base args ds gs before hval0 hW hsz0 hcnd hL hsh _;have hG:=QB hL hsh;have hsz:(DataW.weightsEach Tryz.prog (Tryz.f3.params.toList++Rows.netsWritesSpec.plain.varTypes Tryz.prog) (ds++gs)).all (· <=reachBytes)=true:=hcnd;have hval:∀ (j:Nat) t v,Tryz.f3.params[j]? =some t->args[j]? =some v->Value.okWide Tryz.prog W .any base t v:=hval0;have hW':=hW;obtain ⟨p,q,hA0,hV,rfl,hfz,hnd⟩:=hW;have hA:DataW.TrodAll enc Tryz.prog W 0 (λ_=>true) true Tryz.f3.params.toList args.toList ds p:=hA0;rw [Tryz.params3] at hA hval hsz;obtain ⟨v0,vs0,d0,ds0,p0,q0,hargs,rfl,rfl,h0,r0⟩:=trodAll_cons hA;obtain ⟨rfl,rfl,rfl⟩:=trodAll_nil r0;obtain rfl:args=#[v0]:=by cases args;simp_all
 obtain ⟨rfl,rfl⟩:=trodVars_none hV;have k0:=h0;have lt0:∀ x∈p0,x.block<W.heap.size:=by obtain ⟨m,hm⟩:=k0;exact DataW.trod_lt m _ _ _ hm
 obtain ⟨A0,c0,l0,rfl,hr0,hc0,hw0⟩:=O7 (hval 0 22 v0 rfl rfl) h0;clear hA0 hval0 hsz0 hsz hcnd;refine (Bu.walk Pure.NetsWrites A0 c0 l0 W hr0 hc0 hw0 (AA.mk hG)).mono λe W' ⟨he,bel⟩=>?_
 subst he;exact ⟨_,rfl,_,_,_,[],_,[],hW',trodAll_mk1 (shut_bool Tryz.underlying4 _),(trodAll_cons_mk (Below.trod laidOut (by kernel_rfl) (of_decide_eq_true (by kernel_rfl)) k0 bel lt0) trodAll_mk0),rfl,bel.frame _,λh=>by cases h⟩
theorem over:Rows.netsWritesRow.holds Tryz.pinned (OpenSpec.ofChange Rows.netsWritesSpec):=
 OpenClaim.holds_of_wide 3 Tryz.f3 rfl rfl rfl rfl rfl rfl rfl ⟨rfl,rfl,rfl,rfl,rfl⟩ rfl rfl rfl rfl rfl (by kernel_rfl) Tryz.func3 (by kernel_rfl)
  (of_decide_eq_true (by kernel_rfl)) (by unfold Func.isWrapper;first|(rw [if_pos (by decide+kernel)];kernel_rfl)|(rw [if_neg (by decide+kernel)];exact ⟨rfl,rfl⟩))
  (λos started H enc _=>lifted os started H enc)
theorem Tf:Rows.NetsWritesCardSaid:=
 Claim7.holds_tied_plain_at .later [] [.data, .data, .data, .data, .sentinel, .sentinel, .pinned] true (true,"93b370a80adaabad3a4a0bb5fd12a122e4b74b7278b738834904ecbbaf5e259b") true
  over (λ_ h=>by cases h) (by kernel_rfl) (λ_ h=>by cases h) netsWrites_row_tie rfl ⟨rfl,rfl⟩ (by kernel_rfl) rfl
  (λf fn hf hfn=>by
   obtain rfl:f=3:=(Option.some.inj ((show Tryz.prog.funcNamed Rows.netsWritesRow.func=some 3 by kernel_rfl).symm.trans hf)).symm
   obtain rfl:fn=Tryz.f3:=(Option.some.inj (Tryz.func3.symm.trans hfn)).symm
   exact ⟨by kernel_rfl,λj t ht=>by
    rw [Tryz.params3] at ht
    have hm:t∈[22]:=by simpa using Array.mem_of_getElem? ht
    have hall:([22].all λu=> !Tryz.prog.wantsStandIn u)=true:=by kernel_rfl
    exact (show Tryz.prog.wantsStandIn t=false by simpa using List.all_eq_true.1 hall t hm)⟩)
  (by kernel_rfl)
end Go.Proofs.YtikggnalmidlhaaGreatDoor.netsWrites
namespace Go.Proofs.YtikggnalmidlhaaGreatDoor
theorem netsWrites_holds:Rows.NetsWritesCardSaid:=netsWrites.Tf
end Go.Proofs.YtikggnalmidlhaaGreatDoor
