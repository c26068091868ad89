/- Printed by a program of this claim's session (xprint.py): the machine's side: each Go function as a Lean function, and that a call of it comes to what that tells; the row of a statement. No condition. -/
import Derived.Test.YtikggnalmidlhaaGreatDoorCards
import Derived.Test.YtikggnalmidlhaaGreatDoorL
import Derived.Test.YtikggnalmidlhaaGreatDoorPureNetsApart
import Derived.ShutString
import Derived.ChangeOld
import Derived.SizedLaws
import Derived.SevenTiedAt
namespace Go.Proofs.YtikggnalmidlhaaGreatDoor.netsApart
open ChangeShapes WideShapes ChangeAt RowKit Print AR
open Go.ChangeMaps (open_string shut_string)
set_option linter.unusedVariables false
open Joins Deep
theorem own:ownKnob Tryz.prog.godebug=none:=by kernel_rfl
theorem laidOut:laidOutB Tryz.prog=true:=by kernel_rfl
set_option maxRecDepth 100000 in
theorem lifted (os:Os) (started:os.Started) (H:Type) (enc:TypeId×Value->H):
 ReturnsInHanded {} Tryz.checked os 8 .any (λw args=>(Rows.netsApartSpec.pre enc Tryz.prog Tryz.f8 [] false w args/\laidMetH Tryz.prog Rows.netsApartRow.laid w)/\sizedMet enc Tryz.prog Tryz.f8 (OpenSpec.ofChange Rows.netsApartSpec) false w args) (Rows.netsApartSpec.post enc Tryz.prog Tryz.f8 false true false false):=by
 refine H6 (C:=Tryz.checked) (X:=λw _=>laidMetH Tryz.prog Rows.netsApartRow.laid w) (λ_ _ _ hh h=>h.of_heap hh) own started (by kernel_rfl) Tryz.func8
  (ChangeSpec.witness_shaped (enc:=enc) (C:=Tryz.checked) (os:=os) (X:=λw _=>laidMetH Tryz.prog Rows.netsApartRow.laid w) false (World.laidAll Tryz.prog os OO) #[.slice none 0 0, .slice none 0 0] 8 (World.laidAll_os _ _ _) (World.shaped_of_ZipB (by kernel_rfl) (by kernel_rfl)) (by kernel_rfl) (by kernel_rfl) (by kernel_rfl) (QC os _)) ?_
 intro W base args ds gs before hval0 hW hsz0 hcnd hL hsh _;have hG:=QB hL hsh;have hsz:(DataW.weightsEach Tryz.prog (Tryz.f8.params.toList++Rows.netsApartSpec.plain.varTypes Tryz.prog) (ds++gs)).all (· <=reachBytes)=true:=hcnd;have hval:∀ (j:Nat) t v,Tryz.f8.params[j]? =some t->args[j]? =some v->Value.okWide Tryz.prog W .any base t v:=hval0;have hW':=hW;obtain ⟨p,q,hA0,hV,rfl,hfz,hnd⟩:=hW;have hA:DataW.TrodAll enc Tryz.prog W 0 (λ_=>true) true Tryz.f8.params.toList args.toList ds p:=hA0;rw [Tryz.params8] at hA hval hsz;obtain ⟨v0,vs0,d0,ds0,p0,q0,hargs,rfl,rfl,h0,r0⟩:=trodAll_cons hA;obtain ⟨v1,vs1,d1,ds1,p1,q1,rfl,rfl,rfl,h1,r1⟩:=trodAll_cons r0;obtain ⟨rfl,rfl,rfl⟩:=trodAll_nil r1;obtain rfl:args=#[v0,v1]:=by cases args;simp_all
 obtain ⟨rfl,rfl⟩:=trodVars_none hV;have k0:=h0;have lt0:∀ x∈p0,x.block<W.heap.size:=by obtain ⟨m,hm⟩:=k0;exact DataW.trod_lt m _ _ _ hm
 obtain ⟨A0,c0,l0,rfl,hr0,hc0,hw0⟩:=O7 (hval 0 22 v0 rfl rfl) h0;have k1:=h1;have lt1:∀ x∈p1,x.block<W.heap.size:=by obtain ⟨m,hm⟩:=k1;exact DataW.trod_lt m _ _ _ hm
 obtain ⟨A1,c1,l1,rfl,hr1,hc1,hw1⟩:=O7 (hval 1 22 v1 rfl rfl) h1;clear hA0 hval0 hsz0 hsz hcnd;refine (Yb.walk Pure.NetsApart A0 c0 l0 A1 c1 l1 W hr0 hc0 hw0 hr1 hc1 hw1 (AA.mk hG)).mono λe W' ⟨he,bel⟩=>?_
 subst he;exact ⟨_,rfl,_,_,_,[],_,[],hW',trodAll_mk1 (shut_bool Tryz.underlying4 _),(trodAll_cons_mk (Below.trod laidOut (by kernel_rfl) (of_decide_eq_true (by kernel_rfl)) k0 bel lt0) (trodAll_cons_mk (Below.trod laidOut (by kernel_rfl) (of_decide_eq_true (by kernel_rfl)) k1 bel lt1) trodAll_mk0)),rfl,bel.frame _,λh=>by cases h⟩
theorem over:Rows.netsApartRow.holds Tryz.pinned (OpenSpec.ofChange Rows.netsApartSpec):=
 OpenClaim.holds_of_wide 8 Tryz.f8 rfl rfl rfl rfl rfl rfl rfl ⟨rfl,rfl,rfl,rfl,rfl⟩ rfl rfl rfl rfl rfl (by kernel_rfl) Tryz.func8 (by kernel_rfl)
  (of_decide_eq_true (by kernel_rfl)) (by unfold Func.isWrapper;first|(rw [if_pos (by decide+kernel)];kernel_rfl)|(rw [if_neg (by decide+kernel)];exact ⟨rfl,rfl⟩))
  (λos started H enc _=>lifted os started H enc)
theorem Tf:Rows.NetsApartCardSaid:=
 Claim7.holds_tied_plain_at .later [] [.data, .data, .data, .data, .sentinel, .sentinel, .pinned] true (true,"93b370a80adaabad3a4a0bb5fd12a122e4b74b7278b738834904ecbbaf5e259b") true
  over (λ_ h=>by cases h) (by kernel_rfl) (λ_ h=>by cases h) netsApart_row_tie rfl ⟨rfl,rfl⟩ (by kernel_rfl) rfl
  (λf fn hf hfn=>by
   obtain rfl:f=8:=(Option.some.inj ((show Tryz.prog.funcNamed Rows.netsApartRow.func=some 8 by kernel_rfl).symm.trans hf)).symm
   obtain rfl:fn=Tryz.f8:=(Option.some.inj (Tryz.func8.symm.trans hfn)).symm
   exact ⟨by kernel_rfl,λj t ht=>by
    rw [Tryz.params8] at ht
    have hm:t∈[22,22]:=by simpa using Array.mem_of_getElem? ht
    have hall:([22,22].all λu=> !Tryz.prog.wantsStandIn u)=true:=by kernel_rfl
    exact (show Tryz.prog.wantsStandIn t=false by simpa using List.all_eq_true.1 hall t hm)⟩)
  (by kernel_rfl)
end Go.Proofs.YtikggnalmidlhaaGreatDoor.netsApart
namespace Go.Proofs.YtikggnalmidlhaaGreatDoor
theorem netsApart_holds:Rows.NetsApartCardSaid:=netsApart.Tf
end Go.Proofs.YtikggnalmidlhaaGreatDoor
