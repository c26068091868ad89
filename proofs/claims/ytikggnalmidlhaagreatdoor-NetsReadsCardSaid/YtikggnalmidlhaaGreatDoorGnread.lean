/- nets.read: a cookie out of a line, walked by hand. -/
import Derived.Test.YtikggnalmidlhaaGreatDoorM20
namespace Go.Proofs.YtikggnalmidlhaaGreatDoor.Print
open RowKit AR Aa Ad
set_option linter.unusedVariables false
set_option linter.unusedSimpArgs false
def P6 (s:ByteArray):Bool:=s.toList==([84,82,85,69]:List UInt8)
def VP (s:ByteArray):Bool:=s.toList==([70,65,76,83,69]:List UInt8)
def Hz (s:ByteArray):Bool:= !P6 s&& !VP s
theorem TZ {w W:World} {bs:Bs} (S:AA (St w W bs):=by with_reducible assumption):Calls Tryz.prog 42 #[.bool true] W λe W'=>e= .returned (.string ⟨#[84,82,85,69]⟩)/\AA (St w W' bs):=St.P9 S (EA.calls true _ W rfl)
theorem Ta {w W:World} {bs:Bs} (S:AA (St w W bs):=by with_reducible assumption):Calls Tryz.prog 42 #[.bool false] W λe W'=>e= .returned (.string ⟨#[70,65,76,83,69]⟩)/\AA (St w W' bs):=St.P9 S (EA.calls false _ W rfl)
set_option maxHeartbeats 4000000 in
set_option maxRecDepth 100000 in
theorem Iy {w W:World} {bs bs':Bs} {b:Nat} {wr:Bool} {s:ByteArray} (S:AA (St w W bs)) (hu:KL bs b #[.bool wr] 4 #[.bool (wr||Hz s)] bs'):
 Calls Tryz.prog 56 #[.string s, .pointer (some ⟨b,0,none⟩)] W λe W'=>e= .returned (.bool (P6 s))/\AA (St w W' bs'):=by
 have u4:=Tryz.underlying4;have u9:=Tryz.underlying9;obtain ⟨L,S1,back⟩:=St.front S hu;clear S hu;have S:=S1;clear S1;have back:=AA.mk back;obtain ⟨a,ha⟩:∃ a,a=P6 s:=⟨_,rfl⟩;obtain ⟨c,hc⟩:∃ c,c=VP s:=⟨_,rfl⟩;have g1:(s.toList==([84,82,85,69]:List UInt8))=a:=ha.symm;have g2:(s.toList != ([84,82,85,69]:List UInt8))= !a:=by rw [ha];rfl
 have g3:(s.toList==([70,65,76,83,69]:List UInt8))=c:=hc.symm;have g4:(s.toList != ([70,65,76,83,69]:List UInt8))= !c:=by rw [hc];rfl
 have R:=AA.mk (show (wr||Hz s)=(wr||(!a&& !c)) by rw [ha,hc];rfl);rw [<-ha];rw [R.out] at back;clear ha hc R;cases wr<;>cases a<;>cases c<;>
  (go_enter Tryz.func56,Tryz.ntmps56
   go_wp2_with (first|((with_reducible refine DD rfl ?_);refine EM ?_)|((with_reducible refine C8 rfl ?_);refine IZ (λW_ S_=>?_);replace S:=S_;clear S_)|(go_at_call 42;(first|refine (TZ).mono ?_|refine (Ta).mono ?_);rintro e W_ ⟨rfl,S_⟩;replace S:=S_;clear S_))
   go_ret
   exact ⟨rfl,back.out _ S⟩)
section
variable {P:Program} {ops:Array Oper} {Q:Exit->Act->World->Prop}
theorem P7 {oi:Oper} {N:Option Tmp} {a:Act} {w:World} {K:Act->World->Prop} {f:FuncId} {fn:Func} {x:Operand} {as_:Array Operand} {ts:Array TypeId} {fv:Array Value} (hf:P.funcs[f]? =some fn) (hname:(fn.name== "runtime.NumGoroutine")=false) (hb:fn.body.isSome=true) (args:Array Value)
 (hw:Region.wanted oi (yielded ops a.tmps)=true) (hN:oi.dst=N) (hop:oi.op= .call {callee:= .value x,args:=as_,argTypes:=ts}) (hx:a.eval x= .func (.func f) #[] fv) (hargs:as_.map a.eval=args)
 (h:Calls P f (args++fv) w λe w'=>∃ v,e= .returned v/\K (a.put N v) w'):if Region.wanted oi (yielded ops a.tmps)=true then Oper.wp P oi a w K Q else K (a.put N undef) w:=by
 refine call_ f (args++fv) hw hN ?_ h;have he:=LV hf hname hb (args++fv) w;unfold execOp;simp [hop,resolve,Deferred.ofValue,invoke,hargs,he,hx]
end
section
variable {w W W':World} {bs:Bs}
theorem VB {ops:Array Oper} {Q:Exit->Act->World->Prop} {K:Act->World->Prop} {o:Oper} {a:Act} {N:Tmp} (cs:Array Value) (t:TypeId) (S:AA (St w W bs)) (hw:Region.wanted o (yielded ops a.tmps)=true) (hN:o.dst=some N) (hr:(execOp a.eval o).run Tryz.prog W= .ok (.value (.pointer (some ⟨W.heap.size,0,none⟩))) (W.alloc (.cells cs t)))
 (h:∀ g W',AA (St w W' ((g,cs,t)::bs))->K (a.put (some N) (.pointer (some ⟨g,0,none⟩))) W'):if Region.wanted o (yielded ops a.tmps)=true then Oper.wp Tryz.prog o a W K Q else K (a.put (some N) undef) W:=by
 rw [if_pos hw];unfold Oper.wp;rw [hr];show K (a.put o.dst (.pointer (some ⟨W.heap.size,0,none⟩))) (W.alloc (.cells cs t));rw [hN];exact h _ _ (St.push S rfl (Eh W _) ((Below.refl _ W).alloc (Nat.le_refl _) _))
theorem Tc {ops:Array Oper} {Q:Exit->Act->World->Prop} {K:Act->World->Prop} {o:Oper} {a:Act} {bs':Bs} {cs cs':Array Value} {t ty:TypeId} {x y:Operand} {g:Nat} (S:AA (St w W bs)) (hw:Region.wanted o (yielded ops a.tmps)=true) (ho:o.op= .store ty x y) (hd:o.dst=none) (hx:a.eval x= .pointer (some ⟨g,0,none⟩)) (hy:a.eval y= .agg cs') (hu:KL bs g cs t cs' bs') (hi:(Tryz.prog.info? ty).map (·.size)=some cs'.size) (hs:cs.size=cs'.size) (h1:cs'.all (·.oneCell')=true)
 (h:∀ W',AA (St w W' bs')->K a W'):if Region.wanted o (yielded ops a.tmps)=true then Oper.wp Tryz.prog o a W K Q else K (a.put none undef) W:=by
 rw [if_pos hw];refine wp_store_row ty x y ho g cs' hx hy t cs (S.out.x _ hu.mem).1 hi hs h1 ?_;rw [hd];exact h _ (St.row S hu)
theorem P8 {o:Oper} {a:Act} {ty t:TypeId} {x:Operand} {g i:Nat} {cs:Array Value} {td:TypeDesc} {v:Value} (S:AA (St w W bs)) (ho:o.op= .load ty x) (hx:a.eval x= .pointer (some ⟨g,i,none⟩)) (hu:Tryz.prog.underlying ty=some td) (hm:(g,cs,t)∈bs) (hv:cs[i]? =some v) (hk:H5 td=false):(execOp a.eval o).run Tryz.prog W= .ok (.value v) W:=by
 have hc:=St.cell S hm hv;have hagg:(isAgg ty).run Tryz.prog W= .ok false W:=by
  unfold isAgg;rw [Sem.run_bind,run_underlying hu W];cases td<;>first|rfl|(simp [H5] at hk;done)
 unfold execOp;simp [ho,hx,Instr.loadAt,Instr.sureAddr,loadVar,Sem.run_bind,hagg,hc]
theorem St.texts {v:Value} {xs:List ByteArray} (S:AA (St w W bs)) (hb:Below W.heap.size W W') (hr:Kd.R Kd.string 9 W' W.heap.size (λ_=>True) v xs) (h0:xs≠[]):
 ∃ g cap cur,v= .slice (some ⟨g,0,none⟩) xs.length cap/\AA (St w W' ((g,cur,9)::bs))/\∀ (j:Nat) (x:ByteArray),xs[j]? =some x->cur[j]? =some (Value.string x):=by
 have ho:=Kd.Ji hr;rcases ho.2 with ⟨_,hz⟩|⟨g,cap,cur,hv,hg,hc,_,_,_,ht⟩
 ·exact absurd (List.eq_nil_of_length_eq_zero hz) h0
 ·have S2:=St.below S hb;refine ⟨g,cap,cur,hv,⟨⟨S2.out.b,λp hp=>?_,List.pairwise_cons.2 ⟨λp hp e=>?_,S2.out.n⟩⟩⟩,λj x hj=>?_⟩
  ·rcases List.mem_cons.1 hp with rfl|hp
   ·exact ⟨hc,Nat.le_trans S.out.b.size hg⟩
   ·exact S2.out.x p hp
  ·have:=(Array.getElem?_eq_some_iff.1 (S.out.x p hp).1).1;simp only at e;omega
  ·have h2:(cur.toList.take (xs.length*1))[j]? =some (.string x):=by
    rw [ht];unfold encs;rw [List.getElem?_map,hj];rfl
   rw [List.getElem?_take] at h2;split at h2
   ·simpa using h2
   ·cases h2
theorem Td {s p r:ByteArray} {y:Bool} (S:AA (St w W bs):=by with_reducible assumption) (F:AA (strings_CutPrefix.f s p=some (r,y)):=by with_reducible assumption):Calls Tryz.prog 54 #[.string s, .string p] W λe W'=>e= .returned (.tuple #[.string r, .bool y])/\AA (St w W' bs):=St.P9 S (strings_CutPrefix.calls s p r y W F.out)
end
abbrev Fa:Array Value:=#[.string ⟨#[]⟩, .string ⟨#[]⟩, .string ⟨#[]⟩, .string ⟨#[]⟩, .int .i64 0, .int .i64 0, .int .i64 0, .bool false, .bool false, .bool false, .int .i64 0]
def Fb:ByteArray:=⟨#[35,72,116,116,112,79,110,108,121,95]⟩
def O4:ByteArray:=⟨#[46]⟩
set_option maxHeartbeats 4000000 in
set_option maxRecDepth 100000 in
theorem NK {s rest:ByteArray} {only:Bool} {now:Int} {f:List ByteArray} {w:World} (hG:AA (Ck w)) (C1:AA (strings_CutPrefix.f s Fb=some (rest,only))) (T:AA (ES.f rest=some f)) (h7:f.length≠7):
 Calls Tryz.prog 29 #[.string s, .int .i64 now] w λe W'=>e= .returned (.tuple #[.agg Fa, .int .i64 191])/\Below w.heap.size w W':=by
 have u1:=Tryz.underlying53;have S:=St.start w;have n1:((f.length:Int) != 7)=true:=bne_iff_ne.2 (by omega);have n2:(f.length != 7)=true:=bne_iff_ne.2 h7;have n3:(f.length==7)=false:=beq_eq_false_iff_ne.2 h7;go_enter Tryz.func29,Tryz.ntmps29;go_wp2_with (first|(refine NT (N:=4) Fa 53 (λb4 W_ S_=>?_);replace S:=S_;clear S_)|(go_at_call 54;refine (Td (F:=C1)).mono ?_;rintro e W_ ⟨rfl,S_⟩;replace S:=S_;clear S_)|(go_at_call 55;refine (ES.calls rest f _ (St.laid S hG) T.out).mono ?_;rintro e W_ ⟨v8,rfl,hr,hb⟩;obtain ⟨A8,c8,rfl⟩:=Kd.CE hr;replace S:=St.below S hb;clear hr hb)|((with_reducible refine C8 rfl ?_);refine Gg (λW_ S_=>?_);replace S:=S_;clear S_));refine bodyPost_ret (DC rfl _ _ b4 53 _ (0,0) _ rfl (S.out.x _ (.head _)).1 Tryz.underlying53 rfl (by kernel_rfl)) rfl ?_;exact ⟨rfl,S.out.b⟩
set_option maxHeartbeats 4000000 in
set_option maxRecDepth 100000 in
theorem O5 {k:Nat} {s rest f0 f1 f2 f3 f4 f5 f6 name dom:ByteArray} {only dotted is number:Bool} {now ex:Int} {w:World} (hG:AA (Ck w)) (C1:AA (strings_CutPrefix.f s Fb=some (rest,only))) (T:AA (ES.f rest=some [f0,f1,f2,f3,f4,f5,f6]))
 (C2:AA (strings_CutPrefix.f f0 O4=some (name,dotted))) (D:AA (Ca.f k name=some (dom,is))) (X:AA (EL.f f4=some (ex,number))) {wr wide sec:Bool} (hwr:AA (wr=((false||Hz f1)||Hz f3))) (hwide:AA (wide=P6 f1)) (hsec:AA (sec=P6 f3)) {rc:Array Value} {re:Int}
 (R:AA ((wr=true/\rc=Fa/\re=192)\/(wr=false/\dotted≠wide/\rc=Fa/\re=192)\/(wr=false/\dotted=wide/\is=false/\rc=Fa/\re=192)\/(wr=false/\dotted=wide/\is=true/\number=false/\rc=Fa/\re=192)\/
  (wr=false/\dotted=wide/\is=true/\number=true/\AV.f k dom f2 f5 f6 now now ex (!wide) sec only 0=some false/\rc=Fa/\re=192)\/(wr=false/\dotted=wide/\is=true/\number=true/\AV.f k dom f2 f5 f6 now now ex (!wide) sec only 0=some true/\rc=#[.string dom, .string f2, .string f5, .string f6, .int .i64 now, .int .i64 now, .int .i64 ex, .bool (!wide), .bool sec, .bool only, .int .i64 0]/\re=0))):
 Calls Tryz.prog 29 #[.string s, .int .i64 now] w λe W'=>e= .returned (.tuple #[.agg rc, .int .i64 re])/\Below w.heap.size w W':=by
 have u1:=Tryz.underlying53;have u2:=Tryz.underlying9;have u3:=Tryz.underlying4;have S:=St.start w;go_enter Tryz.func29,Tryz.ntmps29;go_upto_region 8 with (first|(refine NT (N:=4) Fa 53 (λb4 W_ S_=>?_);replace S:=S_;clear S_)|(refine NT (N:=9) #[.bool false] 4 (λb9 W_ S_=>?_);replace S:=S_;clear S_)|(go_at_call 54;(first|(have g_:=h0;clear g_;refine (Td (F:=C2)).mono ?_)|refine (Td (F:=C1)).mono ?_);rintro e W_ ⟨rfl,S_⟩;replace S:=S_;clear S_)|(go_at_call 55;refine (ES.calls rest _ _ (St.laid S hG) T.out).mono ?_;rintro e W_ ⟨v8,rfl,hr,hb⟩;obtain ⟨g,cap,cur,rfl,S_,hcur⟩:=St.texts S hb hr (by simp);have h0:=hcur 0 _ rfl;have h1:=hcur 1 _ rfl;have h2:=hcur 2 _ rfl;have h3:=hcur 3 _ rfl;have h4:=hcur 4 _ rfl;have h5:=hcur 5 _ rfl;have h6:=hcur 6 _ rfl;replace S:=S_;clear S_ hr hb hcur)|((with_reducible refine DD rfl ?_);(first|refine EM ?_ (hv:=h0)|refine EM ?_ (hv:=h1)))|((with_reducible refine C8 rfl ?_);refine IZ (λW_ S_=>?_);replace S:=S_;clear S_))
 have BS:∃ bs,bs=[(b9,#[.bool false],4),(g,cur,9),(b4,Fa,53)]:=⟨_,rfl⟩;clear BS;refine Eg (n:=12) (S:=λw'=>∃ bs',AA (St w w' bs')/\(g,cur,9)∈bs') (ds:=[]) (bm 12 0) (by kernel_rfl) rfl rfl ⟨_,St.below S (CK (Below.refl _ _)), .tail _ (.head _)⟩ (λhH=>?_);replace S:=St.below S (CK (Below.refl _ _));refine Ay (i:=0) (N:=some 39) (bm 12 1) rfl rfl (by kernel_rfl) (Or.inl ⟨by rfl,by intro w';go_simp;with_reducible rfl⟩) ?_;refine Ay (i:=1) (N:=some 40) (bm 12 3) rfl rfl (by kernel_rfl) (Or.inl ⟨by rfl,by intro w';go_simp;with_reducible rfl⟩) ?_;refine Ay (i:=2) (N:=some 41) (bm 12 7) rfl rfl (by kernel_rfl) (Or.inl ⟨by rfl,by intro w';go_simp;with_reducible rfl⟩) ?_;refine Cn (i:=3) (N:=some 42) (bm 12 15) rfl rfl (by kernel_rfl) (Or.inl ⟨by rfl,λw' ⟨_,S_,m_⟩=>P8 S_ rfl rfl u2 m_ h1 rfl⟩) hH ?_;refine Ay (i:=5) (N:=some 44) (bm 12 47) rfl rfl (by kernel_rfl) (Or.inl ⟨by rfl,by intro w';go_simp;with_reducible rfl⟩) ?_;refine Ay (i:=6) (N:=some 45) (bm 12 111) rfl rfl (by kernel_rfl) (Or.inl ⟨by rfl,by intro w';go_simp;with_reducible rfl⟩) ?_;refine Ay (i:=7) (N:=some 46) (bm 12 239) rfl rfl (by kernel_rfl) (Or.inl ⟨by rfl,by intro w';go_simp;with_reducible rfl⟩) ?_;refine Cn (i:=8) (N:=some 47) (bm 12 495) rfl rfl (by kernel_rfl) (Or.inl ⟨by rfl,λw' ⟨_,S_,m_⟩=>P8 S_ rfl rfl u2 m_ h3 rfl⟩) hH ?_;refine D8 (i:=4) (N:=some 43) (bm 12 511) rfl rfl (by kernel_rfl) (by decide) (λK hK=>?_);refine P7 Tryz.func56 (by kernel_rfl) rfl #[.string f1] (by rfl) rfl rfl rfl xg ?_;refine (Iy S .head).mono ?_;rintro e_ W_ ⟨rfl,S_⟩;refine ⟨_,rfl,?_⟩;replace S:=S_;clear S_;refine hK.out _ _ ⟨_,S, .tail _ (.head _)⟩ (λhH=>?_);clear hK K;refine DK (some 43) rfl ?_;refine D8 (i:=9) (N:=some 48) (bm 12 1023) rfl rfl (by kernel_rfl) (by decide) (λK hK=>?_);refine P7 Tryz.func56 (by kernel_rfl) rfl #[.string f3] (by rfl) rfl rfl rfl xg ?_;refine (Iy S .head).mono ?_;rintro e_ W_ ⟨rfl,S_⟩;refine ⟨_,rfl,?_⟩;replace S:=S_;clear S_;refine hK.out _ _ ⟨_,S, .tail _ (.head _)⟩ (λhH=>?_);clear hK K;refine DK (some 48) rfl ?_;refine Ay (i:=10) (N:=some 13) (bm 12 2047) rfl rfl (by kernel_rfl) (Or.inl ⟨by rfl,by intro w';go_simp;with_reducible rfl⟩) ?_;refine Ay (i:=11) (N:=some 14) (bm 12 4095) rfl rfl (by kernel_rfl) (Or.inl ⟨by rfl,by intro w';go_simp;with_reducible rfl⟩) ?_;refine Fe (by kernel_rfl) ?_;clear hH;rw [<-hwr.out] at S;have e1:=hwide.out;have e2:=hsec.out;rw [<-e1, <-e2];clear e1 e2;go_upto_region 11 with (first|(go_at_call 57;refine (St.OL S (Ca.calls k name dom is _ (St.laid S hG) D.out)).mono ?_;rintro e W_ ⟨rfl,S_⟩;replace S:=S_;clear S_)|(go_at_call 58;refine (St.OL S (EL.calls f4 ex number _ (St.laid S hG) X.out)).mono ?_;rintro e W_ ⟨rfl,S_⟩;replace S:=S_;clear S_)|((with_reducible refine DD rfl ?_);refine EM ?_ (hv:=h4)))
 refine Eg (n:=20) (S:=λw'=>∃ bs',AA (St w w' bs')/\(g,cur,9)∈bs') (ds:=[]) (bm 20 0) (by kernel_rfl) rfl rfl ⟨_,St.below S (CK (Below.refl _ _)), .tail _ (.head _)⟩ (λhH=>?_);replace S:=St.below S (CK (Below.refl _ _));refine Ay (i:=0) (N:=some 61) (bm 20 1) rfl rfl (by kernel_rfl) (Or.inl ⟨by rfl,by intro w';go_simp;with_reducible rfl⟩) ?_;refine Ay (i:=1) (N:=some 62) (bm 20 3) rfl rfl (by kernel_rfl) (Or.inl ⟨by rfl,by intro w';go_simp;with_reducible rfl⟩) ?_;refine Ay (i:=2) (N:=some 63) (bm 20 7) rfl rfl (by kernel_rfl) (Or.inl ⟨by rfl,by intro w';go_simp;with_reducible rfl⟩) ?_;refine Ay (i:=3) (N:=some 64) (bm 20 15) rfl rfl (by kernel_rfl) (Or.inl ⟨by rfl,by intro w';go_simp;with_reducible rfl⟩) ?_;refine Ay (i:=4) (N:=some 65) (bm 20 31) rfl rfl (by kernel_rfl) (Or.inl ⟨by rfl,by intro w';go_simp;with_reducible rfl⟩) ?_;refine Cn (i:=5) (N:=some 66) (bm 20 63) rfl rfl (by kernel_rfl) (Or.inl ⟨by rfl,λw' ⟨_,S_,m_⟩=>P8 S_ rfl rfl u2 m_ h2 rfl⟩) hH ?_;refine Ay (i:=6) (N:=some 67) (bm 20 127) rfl rfl (by kernel_rfl) (Or.inl ⟨by rfl,by intro w';go_simp;with_reducible rfl⟩) ?_;refine Ay (i:=7) (N:=some 68) (bm 20 255) rfl rfl (by kernel_rfl) (Or.inl ⟨by rfl,by intro w';go_simp;with_reducible rfl⟩) ?_;refine Ay (i:=8) (N:=some 69) (bm 20 511) rfl rfl (by kernel_rfl) (Or.inl ⟨by rfl,by intro w';go_simp;with_reducible rfl⟩) ?_;refine Ay (i:=9) (N:=some 70) (bm 20 1023) rfl rfl (by kernel_rfl) (Or.inl ⟨by rfl,by intro w';go_simp;with_reducible rfl⟩) ?_;refine Cn (i:=10) (N:=some 71) (bm 20 2047) rfl rfl (by kernel_rfl) (Or.inl ⟨by rfl,λw' ⟨_,S_,m_⟩=>P8 S_ rfl rfl u2 m_ h5 rfl⟩) hH ?_;refine Ay (i:=11) (N:=some 72) (bm 20 4095) rfl rfl (by kernel_rfl) (Or.inl ⟨by rfl,by intro w';go_simp;with_reducible rfl⟩) ?_;refine Ay (i:=12) (N:=some 73) (bm 20 8191) rfl rfl (by kernel_rfl) (Or.inl ⟨by rfl,by intro w';go_simp;with_reducible rfl⟩) ?_;refine Cn (i:=13) (N:=some 74) (bm 20 16383) rfl rfl (by kernel_rfl) (Or.inl ⟨by rfl,λw' ⟨_,S_,m_⟩=>P8 S_ rfl rfl u2 m_ h6 rfl⟩) hH ?_;refine Ay (i:=14) (N:=some 75) (bm 20 32767) rfl rfl (by kernel_rfl) (Or.inl ⟨by rfl,by intro w';go_simp;with_reducible rfl⟩) ?_;refine Ay (i:=15) (N:=some 76) (bm 20 65535) rfl rfl (by kernel_rfl) (Or.inl ⟨by rfl,by intro w';go_simp;with_reducible rfl⟩) ?_;refine Ay (i:=16) (N:=some 77) (bm 20 131071) rfl rfl (by kernel_rfl) (Or.inl ⟨by rfl,by intro w';go_simp;with_reducible rfl⟩) ?_;refine Ay (i:=17) (N:=some 78) (bm 20 262143) rfl rfl (by kernel_rfl) (Or.inl ⟨by rfl,by intro w';go_simp;with_reducible rfl⟩) ?_;refine D8 (i:=18) (N:=some 19) (bm 20 524287) rfl rfl (by kernel_rfl) (by decide) (λK hK=>?_);refine VB (N:=19) Fa 53 S (by rfl) rfl (by first|(go_simp;done)|(go_simp;rfl)) (λb19 W_ S_=>?_);replace S:=S_;clear S_;refine hK.out _ _ ⟨_,S, .tail _ (.tail _ (.head _))⟩ (λhH=>?_);clear hK K;refine DK (some 19) rfl ?_;refine D8 (i:=19) (N:=none) (bm 20 1048575) rfl rfl (by kernel_rfl) (by decide) (λK hK=>?_);refine Tc S (by rfl) rfl rfl rfl rfl .head (by kernel_rfl) rfl (by simp [Value.oneCell']) (λW_ S_=>?_);replace S:=S_;clear S_;refine hK.out _ _ ⟨_,S, .tail _ (.tail _ (.head _))⟩ (λhH=>?_);clear hK K;refine Fe (by kernel_rfl) ?_;clear hH hwr hwide hsec C1 C2 T D X h0 h1 h2 h3 h4 h5 h6;rcases R.out with ⟨rfl,rfl,rfl⟩|⟨rfl,hd,rfl,rfl⟩|⟨rfl,rfl,rfl,rfl,rfl⟩|⟨rfl,rfl,rfl,rfl,rfl,rfl⟩|⟨rfl,rfl,rfl,rfl,RT,rfl,rfl⟩|⟨rfl,rfl,rfl,rfl,RT,rfl,rfl⟩
 ·clear R;go_wp2_with (first|((with_reducible refine DD rfl ?_);(first|refine EM ?_|refine Fw ?_|(refine Gf ?_;refine Fw ?_)))|((with_reducible refine C8 rfl ?_);refine Gg (λW_ S_=>?_);replace S:=S_;clear S_));refine bodyPost_ret (DC rfl _ _ b4 53 _ (0,0) _ rfl (S.out.x _ (.tail _ (.tail _ (.tail _ (.head _))))).1 Tryz.underlying53 rfl (by kernel_rfl)) (by rfl) ?_;exact ⟨rfl,S.out.b⟩
 ·clear R;cases dotted<;>cases wide<;>first|exact absurd rfl hd|skip
  all_goals
   clear hd;go_wp2_with (first|((with_reducible refine DD rfl ?_);(first|refine EM ?_|refine Fw ?_|(refine Gf ?_;refine Fw ?_)))|((with_reducible refine C8 rfl ?_);refine Gg (λW_ S_=>?_);replace S:=S_;clear S_));refine bodyPost_ret (DC rfl _ _ b4 53 _ (0,0) _ rfl (S.out.x _ (.tail _ (.tail _ (.tail _ (.head _))))).1 Tryz.underlying53 rfl (by kernel_rfl)) (by rfl) ?_;exact ⟨rfl,S.out.b⟩
 ·have d1:(dotted != dotted)=false:=by simp
  clear R;go_wp2_with (first|((with_reducible refine DD rfl ?_);(first|refine EM ?_|refine Fw ?_|(refine Gf ?_;refine Fw ?_)))|((with_reducible refine C8 rfl ?_);refine Gg (λW_ S_=>?_);replace S:=S_;clear S_));refine bodyPost_ret (DC rfl _ _ b4 53 _ (0,0) _ rfl (S.out.x _ (.tail _ (.tail _ (.tail _ (.head _))))).1 Tryz.underlying53 rfl (by kernel_rfl)) (by rfl) ?_;exact ⟨rfl,S.out.b⟩
 ·have d1:(dotted != dotted)=false:=by simp
  clear R;go_wp2_with (first|((with_reducible refine DD rfl ?_);(first|refine EM ?_|refine Fw ?_|(refine Gf ?_;refine Fw ?_)))|((with_reducible refine C8 rfl ?_);refine Gg (λW_ S_=>?_);replace S:=S_;clear S_));refine bodyPost_ret (DC rfl _ _ b4 53 _ (0,0) _ rfl (S.out.x _ (.tail _ (.tail _ (.tail _ (.head _))))).1 Tryz.underlying53 rfl (by kernel_rfl)) (by rfl) ?_;exact ⟨rfl,S.out.b⟩
 ·have d1:(dotted != dotted)=false:=by simp
  replace RT:=AA.mk RT;clear R;go_wp2_with (first|((with_reducible refine DD rfl ?_);(first|refine EM ?_|refine Fw ?_|(refine Gf ?_;refine Fw ?_)))|((with_reducible refine C8 rfl ?_);refine Gg (λW_ S_=>?_);replace S:=S_;clear S_)|(go_at_call 35;refine (St.OL S (AV.calls k dom f2 f5 f6 now now ex _ sec only 0 _ _ (St.laid S hG) RT.out)).mono ?_;rintro e W_ ⟨rfl,S_⟩;replace S:=S_;clear S_));refine bodyPost_ret (DC rfl _ _ b4 53 _ (0,0) _ rfl (S.out.x _ (.tail _ (.tail _ (.tail _ (.head _))))).1 Tryz.underlying53 rfl (by kernel_rfl)) (by rfl) ?_;exact ⟨rfl,S.out.b⟩
 ·have d1:(dotted != dotted)=false:=by simp
  replace RT:=AA.mk RT;clear R;go_wp2_with (first|((with_reducible refine DD rfl ?_);(first|refine EM ?_|refine Fw ?_|(refine Gf ?_;refine Fw ?_)))|((with_reducible refine C8 rfl ?_);refine Gg (λW_ S_=>?_);replace S:=S_;clear S_)|(go_at_call 35;refine (St.OL S (AV.calls k dom f2 f5 f6 now now ex _ sec only 0 _ _ (St.laid S hG) RT.out)).mono ?_;rintro e W_ ⟨rfl,S_⟩;replace S:=S_;clear S_));refine bodyPost_ret (DC rfl _ _ b4 53 _ (0,0) _ rfl (S.out.x _ (.tail _ (.tail _ (.tail _ (.head _))))).1 Tryz.underlying53 rfl (by kernel_rfl)) (by rfl) ?_;exact ⟨rfl,S.out.b⟩
def Ra (c:CU):Array Value:=#[.string c.f0, .string c.f1, .string c.f2, .string c.f3, .int .i64 c.f4, .int .i64 c.f5, .int .i64 c.f6, .bool c.f7, .bool c.f8, .bool c.f9, .int .i64 c.f10]
def Ug:CU:=⟨⟨#[]⟩,⟨#[]⟩,⟨#[]⟩,⟨#[]⟩,0,0,0,false,false,false,0⟩
def LD (k:Nat) (only:Bool) (now:Int) (f0 f1 f2 f3 f4 f5 f6:ByteArray):Option (CU×Int):=
 (strings_CutPrefix.f f0 O4).bind λc=>(Ca.f k c.1).bind λd=>(EL.f f4).bind λx=>
  if Hz f1=true\/Hz f3=true\/c.2≠P6 f1\/d.2=false\/x.2=false then some (Ug,192) else
  (AV.f k d.1 f2 f5 f6 now now x.1 (!P6 f1) (P6 f3) only 0).bind λt=>if t=true then some (⟨d.1,f2,f5,f6,now,now,x.1, !P6 f1,P6 f3,only,0⟩,0) else some (Ug,192)
def Rb (k:Nat) (only:Bool) (now:Int):List ByteArray->Option (CU×Int)
 |[f0,f1,f2,f3,f4,f5,f6]=>LD k only now f0 f1 f2 f3 f4 f5 f6
 |_=>some (Ug,191)
def Db.f (k:Nat) (s:ByteArray) (now:Int):Option (CU×Int):=
 (strings_CutPrefix.f s Fb).bind λc=>(ES.f c.1).bind λf=>Rb k c.2 now f
theorem Db.mono:∀ a0 a1 k,Bz (Db.f k a0 a1) (Db.f (k+1) a0 a1):=by
 intro s now k;unfold Db.f;refine Bz.bind (Bz.refl _) (λc=>Bz.bind (Bz.refl _) (λf=>?_));unfold Rb;split
 ·unfold LD;refine Bz.bind (Bz.refl _) (λc=>Bz.bind (Ca.mono _ _) (λd=>Bz.bind (Bz.refl _) (λx=>?_)));refine Bz.ite (Bz.refl _) (Bz.bind (AV.mono _ _ _ _ _ _ _ _ _ _ _ _) (λt=>Bz.refl _))
 ·exact Bz.refl _
theorem NL {k:Nat} {only:Bool} {now:Int} {f:List ByteArray} (h:f.length≠7):Rb k only now f=some (Ug,191):=by
 unfold Rb;split
 ·exact absurd rfl h
 ·rfl
theorem seven {f:List ByteArray} (h:f.length=7):∃ f0 f1 f2 f3 f4 f5 f6,f=[f0,f1,f2,f3,f4,f5,f6]:=by
 match f,h with
 |[f0,f1,f2,f3,f4,f5,f6],_=>exact ⟨f0,f1,f2,f3,f4,f5,f6,rfl⟩
theorem Db.calls (k:Nat) (s:ByteArray) (now:Int) (c:CU) (re:Int) (w:World) (hG:AA (Ck w)) (h:Db.f k s now=some (c,re)):
 Calls Tryz.prog 29 #[.string s, .int .i64 now] w λe W'=>e= .returned (.tuple #[.agg (Ra c), .int .i64 re])/\Below w.heap.size w W':=by
 unfold Db.f at h;obtain ⟨⟨rest,only⟩,h1,h⟩:=Option.bind_eq_some_iff.1 h;obtain ⟨f,h2,h⟩:=Option.bind_eq_some_iff.1 h;by_cases h7:f.length=7
 ·obtain ⟨f0,f1,f2,f3,f4,f5,f6,rfl⟩:=seven h7;replace h:LD k only now f0 f1 f2 f3 f4 f5 f6=some (c,re):=h;unfold LD at h;obtain ⟨⟨name,dotted⟩,h3,h⟩:=Option.bind_eq_some_iff.1 h;obtain ⟨⟨dom,is⟩,h4,h⟩:=Option.bind_eq_some_iff.1 h;obtain ⟨⟨ex,number⟩,h5,h⟩:=Option.bind_eq_some_iff.1 h;dsimp only at h2 h4 h;refine O5 (k:=k) (rc:=Ra c) hG ⟨h1⟩ ⟨h2⟩ ⟨h3⟩ ⟨h4⟩ ⟨h5⟩ ⟨rfl⟩ ⟨rfl⟩ ⟨rfl⟩ ⟨?_⟩;have z:Ra Ug=Fa:=rfl;split at h
  ·rename_i hc;simp only [Option.some.injEq,Prod.mk.injEq] at h;obtain ⟨rfl,rfl⟩:=h;rw [z];by_cases e1:((false||Hz f1)||Hz f3)=true
   ·exact .inl ⟨e1,rfl,rfl⟩
   ·have e2:((false||Hz f1)||Hz f3)=false:=by simpa using e1
    have e3:Hz f1=false/\Hz f3=false:=by simpa using e2
    rw [e3.1,e3.2] at hc;by_cases e4:dotted=P6 f1
    ·cases is
     ·exact .inr (.inr (.inl ⟨e2,e4,rfl,rfl,rfl⟩))
     ·cases number
      ·exact .inr (.inr (.inr (.inl ⟨e2,e4,rfl,rfl,rfl,rfl⟩)))
      ·simp [e4] at hc
    ·exact .inr (.inl ⟨e2,e4,rfl,rfl⟩)
  ·rename_i hc;simp only [not_or,Bool.not_eq_true,Bool.not_eq_false,ne_eq,Decidable.not_not] at hc;obtain ⟨c1,c3,c4,c5,c6⟩:=hc;have e2:((false||Hz f1)||Hz f3)=false:=by rw [c1,c3];rfl
   obtain ⟨t,h6,h⟩:=Option.bind_eq_some_iff.1 h;cases t
   ·simp only [Bool.false_eq_true,if_false,Option.some.injEq,Prod.mk.injEq] at h;obtain ⟨rfl,rfl⟩:=h;exact .inr (.inr (.inr (.inr (.inl ⟨e2,c4,c5,c6,h6,z,rfl⟩))))
   ·simp only [if_true,Option.some.injEq,Prod.mk.injEq] at h;obtain ⟨rfl,rfl⟩:=h;exact .inr (.inr (.inr (.inr (.inr ⟨e2,c4,c5,c6,h6,rfl,rfl⟩))))
 ·rw [NL h7] at h;simp only [Option.some.injEq,Prod.mk.injEq] at h;obtain ⟨rfl,rfl⟩:=h;exact NK hG ⟨h1⟩ ⟨h2⟩ h7
end Go.Proofs.YtikggnalmidlhaaGreatDoor.Print
