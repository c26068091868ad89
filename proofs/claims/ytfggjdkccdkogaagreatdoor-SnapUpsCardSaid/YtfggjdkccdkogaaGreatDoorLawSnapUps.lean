/- Printed by a program of this claim's session (xprint.py): the machine's side: each Go function as a Lean function, and that a call of it comes to what that tells; the row of a statement. No condition. -/
import Derived.Test.YtfggjdkccdkogaaGreatDoorCards
import Derived.Test.YtfggjdkccdkogaaGreatDoorLO
import Derived.Test.YtfggjdkccdkogaaGreatDoorPureSnapUps
import Derived.ShutString
import Derived.ChangeOld
import Derived.SizedLaws
import Derived.SevenTiedAt
import Derived.ChangeArms
namespace Go.Proofs.YtfggjdkccdkogaaGreatDoor.snapUps
open ChangeShapes WideShapes ChangeAt RowKit Print Ac
open Go.ChangeMaps (open_string shut_string)
set_option linter.unusedVariables false
open Joins Deep
theorem own:ownKnob Tryz.prog.godebug=none:=by kernel_rfl
theorem laidOut:laidOutB Tryz.prog=true:=by kernel_rfl
theorem TQ {H:Type} {enc:TypeId×Value->H} {P:Program} {w:World} {base:Nat} {spare:Nat->Bool} {held:Bool} {r:Reach} {b0:Nat} {t:TypeId} {f0 f1 f2 f3 f4 f5 f6 f7:Field} {v:Value} {d:DataW H} {p:List MemPlace} (hs:P.underlying t=some (.struct #[f0,f1,f2,f3,f4,f5,f6,f7])) (hone:Go.Deep.oneCellFields P #[f0,f1,f2,f3,f4,f5,f6,f7]=true) (hC:P.cellsOf t=8)
 (hv:Value.okWide P w r b0 t v) (h:DataW.Trod enc P w base spare held t v d p):
 ∃ (v0 v1 v2 v3 v4 v5 v6 v7:Value) (y0 y1 y2 y3 y4 y5 y6 y7:DataW H×List MemPlace) (n:Nat),v= .agg #[v0,v1,v2,v3,v4,v5,v6,v7]/\d= .agg [y0.1,y1.1,y2.1,y3.1,y4.1,y5.1,y6.1,y7.1]/\p=y0.2++(y1.2++(y2.2++(y3.2++(y4.2++(y5.2++(y6.2++(y7.2)))))))/\
  DataW.trod enc P w base spare held n f0.type [v0]=some y0/\DataW.trod enc P w base spare held n f1.type [v1]=some y1/\DataW.trod enc P w base spare held n f2.type [v2]=some y2/\DataW.trod enc P w base spare held n f3.type [v3]=some y3/\DataW.trod enc P w base spare held n f4.type [v4]=some y4/\DataW.trod enc P w base spare held n f5.type [v5]=some y5/\DataW.trod enc P w base spare held n f6.type [v6]=some y6/\DataW.trod enc P w base spare held n f7.type [v7]=some y7:=by
 obtain ⟨cs,rfl,hsz⟩:=okWide_struct hs hv;obtain ⟨l⟩:=cs
 match l,hsz.trans hC with
 |[c0,c1,c2,c3,c4,c5,c6,c7],_=>
  obtain ⟨fuel,hf⟩:=h;obtain ⟨xs,n,_,hx,_,hlen,hg⟩:=DataW.trod_struct hs hf;obtain ⟨o0,k0⟩:=Go.Deep.hone_of hone 0 f0 rfl;obtain ⟨o1,k1⟩:=Go.Deep.hone_of hone 1 f1 rfl;obtain ⟨o2,k2⟩:=Go.Deep.hone_of hone 2 f2 rfl;obtain ⟨o3,k3⟩:=Go.Deep.hone_of hone 3 f3 rfl;obtain ⟨o4,k4⟩:=Go.Deep.hone_of hone 4 f4 rfl;obtain ⟨o5,k5⟩:=Go.Deep.hone_of hone 5 f5 rfl;obtain ⟨o6,k6⟩:=Go.Deep.hone_of hone 6 f6 rfl;obtain ⟨o7,k7⟩:=Go.Deep.hone_of hone 7 f7 rfl
  match xs,hlen with
  |[y0,y1,y2,y3,y4,y5,y6,y7],_=>
   simp only [Prod.mk.injEq] at hx;exact ⟨c0,c1,c2,c3,c4,c5,c6,c7,y0,y1,y2,y3,y4,y5,y6,y7,n,rfl,by simpa using hx.1,by simpa using hx.2,by simpa [Value.cells,o0,k0] using hg 0 f0 rfl,by simpa [Value.cells,o1,k1] using hg 1 f1 rfl,by simpa [Value.cells,o2,k2] using hg 2 f2 rfl,by simpa [Value.cells,o3,k3] using hg 3 f3 rfl,by simpa [Value.cells,o4,k4] using hg 4 f4 rfl,by simpa [Value.cells,o5,k5] using hg 5 f5 rfl,by simpa [Value.cells,o6,k6] using hg 6 f6 rfl,by simpa [Value.cells,o7,k7] using hg 7 f7 rfl⟩
theorem Q5 {H:Type} {enc:TypeId×Value->H} {P:Program} {w:World} {base:Nat} {spare:Nat->Bool} {held:Bool} {r:Reach} {b0:Nat} {t:TypeId} {f0 f1 f2 f3 f4 f5 f6 f7 f8 f9 f10:Field} {v:Value} {d:DataW H} {p:List MemPlace} (hs:P.underlying t=some (.struct #[f0,f1,f2,f3,f4,f5,f6,f7,f8,f9,f10])) (hone:Go.Deep.oneCellFields P #[f0,f1,f2,f3,f4,f5,f6,f7,f8,f9,f10]=true) (hC:P.cellsOf t=11)
 (hv:Value.okWide P w r b0 t v) (h:DataW.Trod enc P w base spare held t v d p):
 ∃ (v0 v1 v2 v3 v4 v5 v6 v7 v8 v9 v10:Value) (y0 y1 y2 y3 y4 y5 y6 y7 y8 y9 y10:DataW H×List MemPlace) (n:Nat),v= .agg #[v0,v1,v2,v3,v4,v5,v6,v7,v8,v9,v10]/\d= .agg [y0.1,y1.1,y2.1,y3.1,y4.1,y5.1,y6.1,y7.1,y8.1,y9.1,y10.1]/\p=y0.2++(y1.2++(y2.2++(y3.2++(y4.2++(y5.2++(y6.2++(y7.2++(y8.2++(y9.2++(y10.2))))))))))/\
  DataW.trod enc P w base spare held n f0.type [v0]=some y0/\DataW.trod enc P w base spare held n f1.type [v1]=some y1/\DataW.trod enc P w base spare held n f2.type [v2]=some y2/\DataW.trod enc P w base spare held n f3.type [v3]=some y3/\DataW.trod enc P w base spare held n f4.type [v4]=some y4/\DataW.trod enc P w base spare held n f5.type [v5]=some y5/\DataW.trod enc P w base spare held n f6.type [v6]=some y6/\DataW.trod enc P w base spare held n f7.type [v7]=some y7/\DataW.trod enc P w base spare held n f8.type [v8]=some y8/\DataW.trod enc P w base spare held n f9.type [v9]=some y9/\DataW.trod enc P w base spare held n f10.type [v10]=some y10:=by
 obtain ⟨cs,rfl,hsz⟩:=okWide_struct hs hv;obtain ⟨l⟩:=cs
 match l,hsz.trans hC with
 |[c0,c1,c2,c3,c4,c5,c6,c7,c8,c9,c10],_=>
  obtain ⟨fuel,hf⟩:=h;obtain ⟨xs,n,_,hx,_,hlen,hg⟩:=DataW.trod_struct hs hf;obtain ⟨o0,k0⟩:=Go.Deep.hone_of hone 0 f0 rfl;obtain ⟨o1,k1⟩:=Go.Deep.hone_of hone 1 f1 rfl;obtain ⟨o2,k2⟩:=Go.Deep.hone_of hone 2 f2 rfl;obtain ⟨o3,k3⟩:=Go.Deep.hone_of hone 3 f3 rfl;obtain ⟨o4,k4⟩:=Go.Deep.hone_of hone 4 f4 rfl;obtain ⟨o5,k5⟩:=Go.Deep.hone_of hone 5 f5 rfl;obtain ⟨o6,k6⟩:=Go.Deep.hone_of hone 6 f6 rfl;obtain ⟨o7,k7⟩:=Go.Deep.hone_of hone 7 f7 rfl;obtain ⟨o8,k8⟩:=Go.Deep.hone_of hone 8 f8 rfl;obtain ⟨o9,k9⟩:=Go.Deep.hone_of hone 9 f9 rfl;obtain ⟨o10,k10⟩:=Go.Deep.hone_of hone 10 f10 rfl
  match xs,hlen with
  |[y0,y1,y2,y3,y4,y5,y6,y7,y8,y9,y10],_=>
   simp only [Prod.mk.injEq] at hx;exact ⟨c0,c1,c2,c3,c4,c5,c6,c7,c8,c9,c10,y0,y1,y2,y3,y4,y5,y6,y7,y8,y9,y10,n,rfl,by simpa using hx.1,by simpa using hx.2,by simpa [Value.cells,o0,k0] using hg 0 f0 rfl,by simpa [Value.cells,o1,k1] using hg 1 f1 rfl,by simpa [Value.cells,o2,k2] using hg 2 f2 rfl,by simpa [Value.cells,o3,k3] using hg 3 f3 rfl,by simpa [Value.cells,o4,k4] using hg 4 f4 rfl,by simpa [Value.cells,o5,k5] using hg 5 f5 rfl,by simpa [Value.cells,o6,k6] using hg 6 f6 rfl,by simpa [Value.cells,o7,k7] using hg 7 f7 rfl,by simpa [Value.cells,o8,k8] using hg 8 f8 rfl,by simpa [Value.cells,o9,k9] using hg 9 f9 rfl,by simpa [Value.cells,o10,k10] using hg 10 f10 rfl⟩
set_option maxRecDepth 100000 in
theorem lifted (os:Os) (started:os.Started) (H:Type) (enc:TypeId×Value->H):
 ReturnsInHanded {} Tryz.checked os 3 .any (λw args=>(Rows.snapUpsSpec.pre enc Tryz.prog Tryz.f3 [] false w args/\laidMetH Tryz.prog Rows.snapUpsRow.laid w)/\sizedMet enc Tryz.prog Tryz.f3 (OpenSpec.ofChange Rows.snapUpsSpec) false w args) (Rows.snapUpsSpec.post enc Tryz.prog Tryz.f3 false true false false):=by
 refine Ex (C:=Tryz.checked) (X:=λw _=>laidMetH Tryz.prog Rows.snapUpsRow.laid w) (λ_ _ _ hh h=>h.of_heap hh) own started (by kernel_rfl) Tryz.func3
  (ChangeSpec.witness_shaped (enc:=enc) (C:=Tryz.checked) (os:=os) (X:=λw _=>laidMetH Tryz.prog Rows.snapUpsRow.laid w) false (World.laidAll Tryz.prog os Kh) #[.agg #[.string ByteArray.empty, .string ByteArray.empty, .string ByteArray.empty, .string ByteArray.empty, .bool false, .bool false, .int .i64 0, .int .i64 0], .agg #[.string ByteArray.empty, .string ByteArray.empty, .string ByteArray.empty, .string ByteArray.empty, .int .i64 0, .int .i64 0, .int .i64 0, .bool false, .bool false, .bool false, .int .i64 0]] 8 (World.laidAll_os _ _ _) (World.shaped_of_ZipB (by kernel_rfl) (by kernel_rfl)) (by kernel_rfl) (by kernel_rfl) (by kernel_rfl) (I4 os _)) ?_
 intro W base args ds gs before hval0 hW hsz0 hcnd hL hsh _;have hG:=I1 hL hsh;have hsz:(DataW.weightsEach Tryz.prog (Tryz.f3.params.toList++Rows.snapUpsSpec.plain.varTypes Tryz.prog) (ds++gs)).all (· <=reachBytes)=true:=hcnd;have hval:∀ (j:Nat) t v,Tryz.f3.params[j]? =some t->args[j]? =some v->Value.okWide Tryz.prog W .any base t v:=hval0;have hW':=hW;obtain ⟨p,q,hA0,hV,rfl,hfz,hnd⟩:=hW;have hA:DataW.TrodAll enc Tryz.prog W 0 (λ_=>true) true Tryz.f3.params.toList args.toList ds p:=hA0;rw [Tryz.params3] at hA hval hsz;obtain ⟨v0,vs0,d0,ds0,p0,q0,hargs,rfl,rfl,h0,r0⟩:=trodAll_cons hA;obtain ⟨v1,vs1,d1,ds1,p1,q1,rfl,rfl,rfl,h1,r1⟩:=trodAll_cons r0;obtain ⟨rfl,rfl,rfl⟩:=trodAll_nil r1;obtain rfl:args=#[v0,v1]:=by cases args;simp_all
 obtain ⟨rfl,rfl⟩:=trodVars_none hV;have k0:=h0;have lt0:∀ x∈p0,x.block<W.heap.size:=by obtain ⟨m,hm⟩:=k0;exact DataW.trod_lt m _ _ _ hm
 obtain ⟨v0_0,v0_1,v0_2,v0_3,v0_4,v0_5,v0_6,v0_7,y0_0,y0_1,y0_2,y0_3,y0_4,y0_5,y0_6,y0_7,n0,rfl,rfl,rfl,t0_0,t0_1,t0_2,t0_3,t0_4,t0_5,t0_6,t0_7⟩:=TQ Tryz.underlying23 (by kernel_rfl) (by kernel_rfl) (hval 0 23 v0 rfl rfl) h0;obtain ⟨a0_0,e,_,w0_0⟩:=DataW.trod_string Tryz.underlying9 t0_0;obtain rfl:=(List.cons.inj e).1;clear e;replace w0_0:a0_0.size<=9223372036854775807:=Nat.le_trans w0_0 (by unfold maxLen;omega);obtain ⟨a0_1,e,_,w0_1⟩:=DataW.trod_string Tryz.underlying9 t0_1;obtain rfl:=(List.cons.inj e).1;clear e;replace w0_1:a0_1.size<=9223372036854775807:=Nat.le_trans w0_1 (by unfold maxLen;omega);obtain ⟨a0_2,e,_,w0_2⟩:=DataW.trod_string Tryz.underlying9 t0_2;obtain rfl:=(List.cons.inj e).1;clear e;replace w0_2:a0_2.size<=9223372036854775807:=Nat.le_trans w0_2 (by unfold maxLen;omega);obtain ⟨a0_3,e,_,w0_3⟩:=DataW.trod_string Tryz.underlying9 t0_3;obtain rfl:=(List.cons.inj e).1;clear e;replace w0_3:a0_3.size<=9223372036854775807:=Nat.le_trans w0_3 (by unfold maxLen;omega);obtain ⟨a0_4,e,_⟩:=DataW.trod_bool Tryz.underlying4 t0_4;obtain rfl:=(List.cons.inj e).1;clear e;obtain ⟨a0_5,e,_⟩:=DataW.trod_bool Tryz.underlying4 t0_5;obtain rfl:=(List.cons.inj e).1;clear e;obtain ⟨a0_6,e,_,w0_6⟩:=DataW.trod_int Tryz.underlying3 t0_6;obtain rfl:=(List.cons.inj e).1;clear e;obtain ⟨a0_7,e,_,w0_7⟩:=DataW.trod_int Tryz.underlying3 t0_7;obtain rfl:=(List.cons.inj e).1;clear e;have k1:=h1;have lt1:∀ x∈p1,x.block<W.heap.size:=by obtain ⟨m,hm⟩:=k1;exact DataW.trod_lt m _ _ _ hm
 obtain ⟨v1_0,v1_1,v1_2,v1_3,v1_4,v1_5,v1_6,v1_7,v1_8,v1_9,v1_10,y1_0,y1_1,y1_2,y1_3,y1_4,y1_5,y1_6,y1_7,y1_8,y1_9,y1_10,n1,rfl,rfl,rfl,t1_0,t1_1,t1_2,t1_3,t1_4,t1_5,t1_6,t1_7,t1_8,t1_9,t1_10⟩:=Q5 Tryz.underlying25 (by kernel_rfl) (by kernel_rfl) (hval 1 25 v1 rfl rfl) h1;obtain ⟨a1_0,e,_,w1_0⟩:=DataW.trod_string Tryz.underlying9 t1_0;obtain rfl:=(List.cons.inj e).1;clear e;replace w1_0:a1_0.size<=9223372036854775807:=Nat.le_trans w1_0 (by unfold maxLen;omega);obtain ⟨a1_1,e,_,w1_1⟩:=DataW.trod_string Tryz.underlying9 t1_1;obtain rfl:=(List.cons.inj e).1;clear e;replace w1_1:a1_1.size<=9223372036854775807:=Nat.le_trans w1_1 (by unfold maxLen;omega);obtain ⟨a1_2,e,_,w1_2⟩:=DataW.trod_string Tryz.underlying9 t1_2;obtain rfl:=(List.cons.inj e).1;clear e;replace w1_2:a1_2.size<=9223372036854775807:=Nat.le_trans w1_2 (by unfold maxLen;omega);obtain ⟨a1_3,e,_,w1_3⟩:=DataW.trod_string Tryz.underlying9 t1_3;obtain rfl:=(List.cons.inj e).1;clear e;replace w1_3:a1_3.size<=9223372036854775807:=Nat.le_trans w1_3 (by unfold maxLen;omega);obtain ⟨a1_4,e,_,w1_4⟩:=DataW.trod_int Tryz.underlying3 t1_4;obtain rfl:=(List.cons.inj e).1;clear e;obtain ⟨a1_5,e,_,w1_5⟩:=DataW.trod_int Tryz.underlying3 t1_5;obtain rfl:=(List.cons.inj e).1;clear e;obtain ⟨a1_6,e,_,w1_6⟩:=DataW.trod_int Tryz.underlying3 t1_6;obtain rfl:=(List.cons.inj e).1;clear e;obtain ⟨a1_7,e,_⟩:=DataW.trod_bool Tryz.underlying4 t1_7;obtain rfl:=(List.cons.inj e).1;clear e;obtain ⟨a1_8,e,_⟩:=DataW.trod_bool Tryz.underlying4 t1_8;obtain rfl:=(List.cons.inj e).1;clear e;obtain ⟨a1_9,e,_⟩:=DataW.trod_bool Tryz.underlying4 t1_9;obtain rfl:=(List.cons.inj e).1;clear e;obtain ⟨a1_10,e,_,w1_10⟩:=DataW.trod_int Tryz.underlying3 t1_10;obtain rfl:=(List.cons.inj e).1;clear e;clear hA0 hval0 hsz0 hsz hcnd;refine (Cn.walk Pure.SnapUps a0_0 a0_1 a0_2 a0_3 a0_4 a0_5 a0_6 a0_7 a1_0 a1_1 a1_2 a1_3 a1_4 a1_5 a1_6 a1_7 a1_8 a1_9 a1_10 W w0_0 w0_1 w0_2 w0_3 w0_6 w0_7 w1_0 w1_1 w1_2 w1_3 w1_4 w1_5 w1_6 w1_10 (AA.mk hG)).mono λe W' ⟨he,bel⟩=>?_
 subst he;exact ⟨_,rfl,_,_,_,[],_,[],hW',trodAll_mk1 (shut_bool Tryz.underlying4 _),(trodAll_cons_mk (Below.trod laidOut (by kernel_rfl) (of_decide_eq_true (by kernel_rfl)) k0 bel lt0) (trodAll_cons_mk (Below.trod laidOut (by kernel_rfl) (of_decide_eq_true (by kernel_rfl)) k1 bel lt1) trodAll_mk0)),rfl,bel.frame _,λh=>by cases h⟩
theorem over:Rows.snapUpsRow.holds Tryz.pinned (OpenSpec.ofChange Rows.snapUpsSpec):=
 OpenClaim.holds_of_wide 3 Tryz.f3 rfl rfl rfl rfl rfl rfl rfl ⟨rfl,rfl,rfl,rfl,rfl⟩ rfl rfl rfl rfl rfl (by kernel_rfl) Tryz.func3 (by kernel_rfl)
  (of_decide_eq_true (by kernel_rfl)) (by unfold Func.isWrapper;first|(rw [if_pos (by decide+kernel)];kernel_rfl)|(rw [if_neg (by decide+kernel)];exact ⟨rfl,rfl⟩))
  (λos started H enc _=>lifted os started H enc)
theorem IP:Rows.SnapUpsCardSaid:=
 Claim7.holds_tied_plain_at .later [] [.data, .data, .data, .data, .sentinel, .sentinel, .pinned] true (true,"20e9b9fa62ce5f25cce577e6419377a401077d7d2360366df5d8aa5476008a49") true
  over (λ_ h=>by cases h) (by kernel_rfl) (λ_ h=>by cases h) snapUps_row_tie rfl ⟨rfl,rfl⟩ (by kernel_rfl) rfl
  (λf fn hf hfn=>by
   obtain rfl:f=3:=(Option.some.inj ((show Tryz.prog.funcNamed Rows.snapUpsRow.func=some 3 by kernel_rfl).symm.trans hf)).symm
   obtain rfl:fn=Tryz.f3:=(Option.some.inj (Tryz.func3.symm.trans hfn)).symm
   exact ⟨by kernel_rfl,λj t ht=>by
    rw [Tryz.params3] at ht
    have hm:t∈[23,25]:=by simpa using Array.mem_of_getElem? ht
    have hall:([23,25].all λu=> !Tryz.prog.wantsStandIn u)=true:=by kernel_rfl
    exact (show Tryz.prog.wantsStandIn t=false by simpa using List.all_eq_true.1 hall t hm)⟩)
  (by kernel_rfl)
end Go.Proofs.YtfggjdkccdkogaaGreatDoor.snapUps
namespace Go.Proofs.YtfggjdkccdkogaaGreatDoor
theorem snapUps_holds:Rows.SnapUpsCardSaid:=snapUps.IP
end Go.Proofs.YtfggjdkccdkogaaGreatDoor
