/- Printed by a program of this claim's session (xprint.py): the machine's side: each Go function as a Lean function, and that a call of it comes to what that tells; the row of a statement. No condition. -/
import Derived.Test.YtohjohhcjcljoaaGreatDoorCards
import Derived.Test.YtohjohhcjcljoaaGreatDoorLO
import Derived.Test.YtohjohhcjcljoaaGreatDoorPureJarFinds
import Derived.ShutString
import Derived.ChangeOld
import Derived.SizedLaws
import Derived.SevenTiedAt
namespace Go.Proofs.YtohjohhcjcljoaaGreatDoor.jarFinds
open ChangeShapes WideShapes ChangeAt RowKit Print Ak
open Go.ChangeMaps (open_string shut_string)
set_option linter.unusedVariables false
open Joins Deep
theorem own:ownKnob Tryz.prog.godebug=none:=by kernel_rfl
theorem laidOut:laidOutB Tryz.prog=true:=by kernel_rfl
theorem open_agg3 {H:Type} {enc:TypeId×Value->H} {P:Program} {w:World} {base:Nat} {spare:Nat->Bool} {held:Bool} {r:Reach} {b0:Nat} {t:TypeId} {f0 f1 f2:Field} {v:Value} {d:DataW H} {p:List MemPlace} (hs:P.underlying t=some (.struct #[f0,f1,f2])) (hone:Go.Deep.oneCellFields P #[f0,f1,f2]=true) (hC:P.cellsOf t=3)
 (hv:Value.okWide P w r b0 t v) (h:DataW.Trod enc P w base spare held t v d p):
 ∃ (v0 v1 v2:Value) (y0 y1 y2:DataW H×List MemPlace) (n:Nat),v= .agg #[v0,v1,v2]/\d= .agg [y0.1,y1.1,y2.1]/\p=y0.2++(y1.2++(y2.2))/\
  DataW.trod enc P w base spare held n f0.type [v0]=some y0/\DataW.trod enc P w base spare held n f1.type [v1]=some y1/\DataW.trod enc P w base spare held n f2.type [v2]=some y2:=by
 obtain ⟨cs,rfl,hsz⟩:=okWide_struct hs hv;obtain ⟨l⟩:=cs
 match l,hsz.trans hC with
 |[c0,c1,c2],_=>
  obtain ⟨fuel,hf⟩:=h;obtain ⟨xs,n,_,hx,_,hlen,hg⟩:=DataW.trod_struct hs hf;obtain ⟨o0,k0⟩:=Go.Deep.hone_of hone 0 f0 rfl;obtain ⟨o1,k1⟩:=Go.Deep.hone_of hone 1 f1 rfl;obtain ⟨o2,k2⟩:=Go.Deep.hone_of hone 2 f2 rfl
  match xs,hlen with
  |[y0,y1,y2],_=>
   simp only [Prod.mk.injEq] at hx;exact ⟨c0,c1,c2,y0,y1,y2,n,rfl,by simpa using hx.1,by simpa using hx.2,by simpa [Value.cells,o0,k0] using hg 0 f0 rfl,by simpa [Value.cells,o1,k1] using hg 1 f1 rfl,by simpa [Value.cells,o2,k2] using hg 2 f2 rfl⟩
set_option maxRecDepth 100000 in
theorem lifted (os:Os) (started:os.Started) (H:Type) (enc:TypeId×Value->H):
 ReturnsInHanded {} Tryz.checked os 4 .any (λw args=>(Rows.jarFindsSpec.pre enc Tryz.prog Tryz.f4 [] false w args/\laidMetH Tryz.prog Rows.jarFindsRow.laid w)/\sizedMet enc Tryz.prog Tryz.f4 (OpenSpec.ofChange Rows.jarFindsSpec) false w args) (Rows.jarFindsSpec.post enc Tryz.prog Tryz.f4 false true false false):=by
 refine Em (C:=Tryz.checked) (X:=λw _=>laidMetH Tryz.prog Rows.jarFindsRow.laid w) (λ_ _ _ hh h=>h.of_heap hh) own started (by kernel_rfl) Tryz.func4
  (ChangeSpec.witness_shaped (enc:=enc) (C:=Tryz.checked) (os:=os) (X:=λw _=>laidMetH Tryz.prog Rows.jarFindsRow.laid w) false (World.laidAll Tryz.prog os KL) #[.slice none 0 0, .agg #[.string ByteArray.empty, .string ByteArray.empty, .string ByteArray.empty]] 8 (World.laidAll_os _ _ _) (World.shaped_of_ZipB (by kernel_rfl) (by kernel_rfl)) (by kernel_rfl) (by kernel_rfl) (by kernel_rfl) (IW os _)) ?_
 intro W base args ds gs before hval0 hW hsz0 hcnd hL hsh _;have hG:=IV hL hsh;have hsz:(DataW.weightsEach Tryz.prog (Tryz.f4.params.toList++Rows.jarFindsSpec.plain.varTypes Tryz.prog) (ds++gs)).all (· <=reachBytes)=true:=hcnd;have hval:∀ (j:Nat) t v,Tryz.f4.params[j]? =some t->args[j]? =some v->Value.okWide Tryz.prog W .any base t v:=hval0;have hW':=hW;obtain ⟨p,q,hA0,hV,rfl,hfz,hnd⟩:=hW;have hA:DataW.TrodAll enc Tryz.prog W 0 (λ_=>true) true Tryz.f4.params.toList args.toList ds p:=hA0;rw [Tryz.params4] at hA hval hsz;obtain ⟨v0,vs0,d0,ds0,p0,q0,hargs,rfl,rfl,h0,r0⟩:=trodAll_cons hA;obtain ⟨v1,vs1,d1,ds1,p1,q1,rfl,rfl,rfl,h1,r1⟩:=trodAll_cons r0;obtain ⟨rfl,rfl,rfl⟩:=trodAll_nil r1;obtain rfl:args=#[v0,v1]:=by cases args;simp_all
 obtain ⟨rfl,rfl⟩:=trodVars_none hV;have k0:=h0;have lt0:∀ x∈p0,x.block<W.heap.size:=by obtain ⟨m,hm⟩:=k0;exact DataW.trod_lt m _ _ _ hm
 obtain ⟨A0,c0,l0,rfl,hr0,hc0,hw0⟩:=Gq (hval 0 22 v0 rfl rfl) h0;have k1:=h1;have lt1:∀ x∈p1,x.block<W.heap.size:=by obtain ⟨m,hm⟩:=k1;exact DataW.trod_lt m _ _ _ hm
 obtain ⟨v1_0,v1_1,v1_2,y1_0,y1_1,y1_2,n1,rfl,rfl,rfl,t1_0,t1_1,t1_2⟩:=open_agg3 Tryz.underlying41 (by kernel_rfl) (by kernel_rfl) (hval 1 41 v1 rfl rfl) h1;obtain ⟨a1_0,e,_,w1_0⟩:=DataW.trod_string Tryz.underlying9 t1_0;obtain rfl:=(List.cons.inj e).1;clear e;replace w1_0:a1_0.size<=9223372036854775807:=Nat.le_trans w1_0 (by unfold maxLen;omega);obtain ⟨a1_1,e,_,w1_1⟩:=DataW.trod_string Tryz.underlying9 t1_1;obtain rfl:=(List.cons.inj e).1;clear e;replace w1_1:a1_1.size<=9223372036854775807:=Nat.le_trans w1_1 (by unfold maxLen;omega);obtain ⟨a1_2,e,_,w1_2⟩:=DataW.trod_string Tryz.underlying9 t1_2;obtain rfl:=(List.cons.inj e).1;clear e;replace w1_2:a1_2.size<=9223372036854775807:=Nat.le_trans w1_2 (by unfold maxLen;omega);clear hA0 hval0 hsz0 hsz hcnd;refine (AU.walk Pure.JarFinds A0 c0 l0 a1_0 a1_1 a1_2 W hr0 hc0 hw0 w1_0 w1_1 w1_2 (AA.mk hG)).mono λe W' ⟨he,bel⟩=>?_
 subst he;exact ⟨_,rfl,_,_,_,[],_,[],hW',trodAll_mk1 (shut_bool Tryz.underlying4 _),(trodAll_cons_mk (Below.trod laidOut (by kernel_rfl) (of_decide_eq_true (by kernel_rfl)) k0 bel lt0) (trodAll_cons_mk (Below.trod laidOut (by kernel_rfl) (of_decide_eq_true (by kernel_rfl)) k1 bel lt1) trodAll_mk0)),rfl,bel.frame _,λh=>by cases h⟩
theorem over:Rows.jarFindsRow.holds Tryz.pinned (OpenSpec.ofChange Rows.jarFindsSpec):=
 OpenClaim.holds_of_wide 4 Tryz.f4 rfl rfl rfl rfl rfl rfl rfl ⟨rfl,rfl,rfl,rfl,rfl⟩ rfl rfl rfl rfl rfl (by kernel_rfl) Tryz.func4 (by kernel_rfl)
  (of_decide_eq_true (by kernel_rfl)) (by unfold Func.isWrapper;first|(rw [if_pos (by decide+kernel)];kernel_rfl)|(rw [if_neg (by decide+kernel)];exact ⟨rfl,rfl⟩))
  (λos started H enc _=>lifted os started H enc)
theorem H7:Rows.JarFindsCardSaid:=
 Claim7.holds_tied_plain_at .later [] [.data, .data, .data, .data, .sentinel, .sentinel, .pinned] true (true,"e3b2c9961bf8e69dced369db30900b4796c8afe89ac57e42045b678c56606e8f") true
  over (λ_ h=>by cases h) (by kernel_rfl) (λ_ h=>by cases h) jarFinds_row_tie rfl ⟨rfl,rfl⟩ (by kernel_rfl) rfl
  (λf fn hf hfn=>by
   obtain rfl:f=4:=(Option.some.inj ((show Tryz.prog.funcNamed Rows.jarFindsRow.func=some 4 by kernel_rfl).symm.trans hf)).symm
   obtain rfl:fn=Tryz.f4:=(Option.some.inj (Tryz.func4.symm.trans hfn)).symm
   exact ⟨by kernel_rfl,λj t ht=>by
    rw [Tryz.params4] at ht
    have hm:t∈[22,41]:=by simpa using Array.mem_of_getElem? ht
    have hall:([22,41].all λu=> !Tryz.prog.wantsStandIn u)=true:=by kernel_rfl
    exact (show Tryz.prog.wantsStandIn t=false by simpa using List.all_eq_true.1 hall t hm)⟩)
  (by kernel_rfl)
end Go.Proofs.YtohjohhcjcljoaaGreatDoor.jarFinds
namespace Go.Proofs.YtohjohhcjcljoaaGreatDoor
theorem jarFinds_holds:Rows.JarFindsCardSaid:=jarFinds.H7
end Go.Proofs.YtohjohhcjcljoaaGreatDoor
