/- Printed by a program of this claim's session (xprint.py): the machine's side: each Go function as a Lean function, and that a call of it comes to what that tells; the row of a statement. No condition. -/
import Derived.Test.YtikggnalmidlhaaGreatDoorCards
import Derived.Test.YtikggnalmidlhaaGreatDoorL
import Derived.Test.YtikggnalmidlhaaGreatDoorPureNetsEnds
import Derived.ShutString
import Derived.ChangeOld
import Derived.SizedLaws
import Derived.SevenTiedAt
namespace Go.Proofs.YtikggnalmidlhaaGreatDoor.netsEnds
open ChangeShapes WideShapes ChangeAt RowKit Print AR
open Go.ChangeMaps (open_string shut_string)
set_option linter.unusedVariables false
theorem own:ownKnob Tryz.prog.godebug=none:=by kernel_rfl
set_option maxRecDepth 100000 in
theorem lifted (os:Os) (started:os.Started) (H:Type) (enc:TypeId×Value->H):
 ReturnsInHanded {} Tryz.checked os 7 .any (λw args=>(Rows.netsEndsSpec.pre enc Tryz.prog Tryz.f7 [] false w args/\laidMetH Tryz.prog Rows.netsEndsRow.laid w)/\sizedMet enc Tryz.prog Tryz.f7 (OpenSpec.ofChange Rows.netsEndsSpec) false w args) (Rows.netsEndsSpec.post enc Tryz.prog Tryz.f7 false true false false):=by
 refine H6 (C:=Tryz.checked) (X:=λw _=>laidMetH Tryz.prog Rows.netsEndsRow.laid w) (λ_ _ _ hh h=>h.of_heap hh) own started (by kernel_rfl) Tryz.func7
  (ChangeSpec.witness_shaped (enc:=enc) (C:=Tryz.checked) (os:=os) (X:=λw _=>laidMetH Tryz.prog Rows.netsEndsRow.laid w) false (World.laidAll Tryz.prog os OO) #[.string ByteArray.empty, .int .i64 0] 8 (World.laidAll_os _ _ _) (World.shaped_of_ZipB (by kernel_rfl) (by kernel_rfl)) (by kernel_rfl) (by kernel_rfl) (by kernel_rfl) (QC os _)) ?_
 intro W base args ds gs before hval0 hW hsz0 hcnd hL hsh _;have hG:=QB hL hsh;have hsz:(DataW.weightsEach Tryz.prog (Tryz.f7.params.toList++Rows.netsEndsSpec.plain.varTypes Tryz.prog) (ds++gs)).all (· <=reachBytes)=true:=hcnd;have hval:∀ (j:Nat) t v,Tryz.f7.params[j]? =some t->args[j]? =some v->Value.okWide Tryz.prog W .any base t v:=hval0;have hW':=hW;obtain ⟨p,q,hA0,hV,rfl,hfz,hnd⟩:=hW;have hA:DataW.TrodAll enc Tryz.prog W 0 (λ_=>true) true Tryz.f7.params.toList args.toList ds p:=hA0;rw [Tryz.params7] at hA hval hsz;obtain ⟨v0,vs0,d0,ds0,p0,q0,hargs,rfl,rfl,h0,r0⟩:=trodAll_cons hA;obtain ⟨v1,vs1,d1,ds1,p1,q1,rfl,rfl,rfl,h1,r1⟩:=trodAll_cons r0;obtain ⟨rfl,rfl,rfl⟩:=trodAll_nil r1;obtain rfl:args=#[v0,v1]:=by cases args;simp_all
 obtain ⟨rfl,rfl⟩:=trodVars_none hV;obtain ⟨a0,rfl,rfl,rfl,y0⟩:=open_string Tryz.underlying9 (hval 0 9 v0 rfl rfl) h0;have w0:a0.size<=140737488351232:=by
  have z:=sized_string hsz (j:=0) (t:=9) rfl rfl;rw [Array.length_toList] at z;exact z
 obtain ⟨a1,rfl,rfl,rfl,w1⟩:=open_int Tryz.underlying3 (hval 1 3 v1 rfl rfl) h1;clear hA0 hval0 hsz0 hsz hcnd;refine (YU.walk Pure.NetsEnds a0 a1 W w0 w1 (AA.mk hG)).mono λe W' ⟨he,bel⟩=>?_
 subst he;exact ⟨_,rfl,_,_,_,[],_,[],hW',trodAll_mk1 (shut_bool Tryz.underlying4 _),(trodAll_cons_mk (shut_string Tryz.underlying9 y0) (trodAll_cons_mk (shut_int Tryz.underlying3 w1) trodAll_mk0)),rfl,bel.frame _,λh=>by cases h⟩
theorem over:Rows.netsEndsRow.holds Tryz.pinned (OpenSpec.ofChange Rows.netsEndsSpec):=
 OpenClaim.holds_of_wide 7 Tryz.f7 rfl rfl rfl rfl rfl rfl rfl ⟨rfl,rfl,rfl,rfl,rfl⟩ rfl rfl rfl rfl rfl (by kernel_rfl) Tryz.func7 (by kernel_rfl)
  (of_decide_eq_true (by kernel_rfl)) (by unfold Func.isWrapper;first|(rw [if_pos (by decide+kernel)];kernel_rfl)|(rw [if_neg (by decide+kernel)];exact ⟨rfl,rfl⟩))
  (λos started H enc _=>lifted os started H enc)
theorem Tf:Rows.NetsEndsCardSaid:=
 Claim7.holds_tied_plain_at .later [] [.data, .data, .data, .data, .sentinel, .sentinel, .pinned] true (true,"93b370a80adaabad3a4a0bb5fd12a122e4b74b7278b738834904ecbbaf5e259b") true
  over (λ_ h=>by cases h) (by kernel_rfl) (λ_ h=>by cases h) netsEnds_row_tie rfl ⟨rfl,rfl⟩ (by kernel_rfl) rfl
  (λf fn hf hfn=>by
   obtain rfl:f=7:=(Option.some.inj ((show Tryz.prog.funcNamed Rows.netsEndsRow.func=some 7 by kernel_rfl).symm.trans hf)).symm
   obtain rfl:fn=Tryz.f7:=(Option.some.inj (Tryz.func7.symm.trans hfn)).symm
   exact ⟨by kernel_rfl,λj t ht=>by
    rw [Tryz.params7] at ht
    have hm:t∈[9,3]:=by simpa using Array.mem_of_getElem? ht
    have hall:([9,3].all λu=> !Tryz.prog.wantsStandIn u)=true:=by kernel_rfl
    exact (show Tryz.prog.wantsStandIn t=false by simpa using List.all_eq_true.1 hall t hm)⟩)
  (by kernel_rfl)
end Go.Proofs.YtikggnalmidlhaaGreatDoor.netsEnds
namespace Go.Proofs.YtikggnalmidlhaaGreatDoor
theorem netsEnds_holds:Rows.NetsEndsCardSaid:=netsEnds.Tf
end Go.Proofs.YtikggnalmidlhaaGreatDoor
