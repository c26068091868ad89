/- The reader of layer 22: number, part, one, walked by hand. -/
import Derived.Test.YtfggjdkccdkogaaGreatDoorGst
import Derived.Test.YtfggjdkccdkogaaGreatDoorPrint10
import Derived.Test.YtfggjdkccdkogaaGreatDoorPrint11
namespace Go.Proofs.YtfggjdkccdkogaaGreatDoor.Print
open RowKit Ac Aq Aw
set_option linter.unusedVariables false
set_option linter.unusedSimpArgs false
attribute [local go_sem] DC DD DX DY
abbrev Hg (s:ByteArray) (no:Int):Array Value:=#[.string s, .int .i64 no]
def Bl.f (k:Nat) (s:ByteArray) (no most:Int):Option (Int×ByteArray×Int):=if no=0 then ((BR.f k s).bind λt=>((Bp.f s no (t.2.2 != 0) t.2.2).bind λa=>((Bp.f a.1 a.2 (decide (t.1>IntKind.u64.wrap most)) 224).bind λb=>(if 0<=t.2.1 then (if t.2.1<=(b.1.size:Int) then (some (wrap64 (mn t.1 (IntKind.u64.wrap most)),b.1.extract t.2.1.toNat b.1.size,b.2)) else none) else none)))) else some (0,s,no)
def Cw.f (k:Nat) (s:ByteArray) (no most:Int):Option (ByteArray×ByteArray×Int):=if no=0 then ((ER.f k s most).bind λt=>((Bp.f s no (t.2.2 != 0) t.2.2).bind λa=>(if 0<=t.2.1 then (if t.2.1<=(a.1.size:Int) then (some (t.1,a.1.extract t.2.1.toNat a.1.size,a.2)) else none) else none))) else some (⟨#[]⟩,s,no)
def Dt.f (s:ByteArray) (no:Int):Option (Int×ByteArray×Int):=(Bp.f s no (s.toList==([]:List UInt8)) 224).bind λa=>(if a.2=0 then (if 0<(a.1.size:Int) then (if 1<=(a.1.size:Int) then (some (bt a.1 0,a.1.extract 1 a.1.size,a.2)) else none) else none) else some (0,a.1,a.2))
theorem Bl.mono:∀ a0 a1 a2 k,CZ (Bl.f k a0 a1 a2) (Bl.f (k+1) a0 a1 a2):=by
 intro a0 a1 a2 k;unfold Bl.f
 repeat' first|(with_reducible first|exact BR.mono _ _|exact CZ.refl _|refine CZ.ite ?_ ?_|refine CZ.bind ?_ (λ_=>?_))
theorem Cw.mono:∀ a0 a1 a2 k,CZ (Cw.f k a0 a1 a2) (Cw.f (k+1) a0 a1 a2):=by
 intro a0 a1 a2 k;unfold Cw.f
 repeat' first|(with_reducible first|exact ER.mono _ _ _|exact CZ.refl _|refine CZ.ite ?_ ?_|refine CZ.bind ?_ (λ_=>?_))
section
variable {w W:World} {bs bs' L:Bs} {g:Nat} {s s':ByteArray} {no no':Int} {k:Nat}
theorem St.Yl {f:FuncId} {args:Array Value} {r:Ending} (S:AA (St w W bs)) (hu:Me bs g (Hg s no) 79 (Hg s' no') bs') (h:Calls Tryz.prog f args W λe W'=>e=r/\Dh w W' g s' no'/\Below w.heap.size w W'/\EA W W' g none):
 Calls Tryz.prog f args W λe W'=>e=r/\AA (St w W' bs'):=
 h.mono λe W' ⟨he,hi,hb,hk⟩=>⟨he,St.upd S hu hi.1 (λi o hne ho=>(hk.2 i (IV ho) hne (by simp)).trans ho) hb⟩
theorem Jd {is:Bool} {no2:Int} (S:AA (St w W bs):=by with_reducible assumption) (hu:Me bs g (Hg s no) 79 (Hg s' no') bs':=by with_reducible first|exact .head|exact .tail .head|exact .tail (.tail .head)|exact .tail (.tail (.tail .head))|exact .tail (.tail (.tail (.tail .head)))) (F:AA (Bp.f s no is no2=some (s',no')):=by with_reducible assumption):
 Calls Tryz.prog 39 #[.pointer (some ⟨g,0,none⟩), .bool is, .int .i64 no2] W λe W'=>e= .returned (.tuple #[])/\AA (St w W' bs'):=
 St.Yl S hu (Bp.calls g s no is no2 s' no' w W (S.out.x _ hu.mem) S.out.b F.out)
theorem Ym {r1 r2 r3:Int} (S:AA (St w W bs):=by with_reducible assumption) (F:AA (BR.f k s=some (r1,r2,r3)):=by with_reducible assumption):
 Calls Tryz.prog 64 #[.string s] W λe W'=>e= .returned (.tuple #[.int .u64 r1, .int .i64 r2, .int .i64 r3])/\AA (St w W' bs):=St.Uf S (BR.calls k s r1 r2 r3 W F.out)
theorem TN {r1:ByteArray} {r2 r3 most:Int} (S:AA (St w W bs):=by with_reducible assumption) (F:AA (ER.f k s most=some (r1,r2,r3)):=by with_reducible assumption):
 Calls Tryz.prog 88 #[.string s, .int .i64 most] W λe W'=>e= .returned (.tuple #[.string r1, .int .i64 r2, .int .i64 r3])/\AA (St w W' bs):=St.G7 S (ER.calls k s most r1 r2 r3 W F.out)
set_option maxHeartbeats 4000000 in
set_option maxRecDepth 100000 in
theorem WM {r most:Int} (S:AA (St w W ((g,Hg s no,79)::L))) (F:Bl.f k s no most=some (r,s',no')):
 Calls Tryz.prog 37 #[.pointer (some ⟨g,0,none⟩), .int .i64 most] W λe W'=>e= .returned (.int .i64 r)/\AA (St w W' ((g,Hg s' no',79)::L)):=by
 have hu2:=Tryz.underlying79;have hu3:=Tryz.underlying54;have hu4:=Tryz.underlying9;unfold Bl.f at F;by_cases h:no=0
 ·rw [if_pos h] at F;have f1:(no != 0)=false:=by rw [h];rfl
  obtain ⟨⟨n,at_,e⟩,T,F⟩:=Option.bind_eq_some_iff.1 F;obtain ⟨⟨sa,na⟩,A,F⟩:=Option.bind_eq_some_iff.1 F;obtain ⟨⟨sb,nb⟩,B,F⟩:=Option.bind_eq_some_iff.1 F;simp only at T A B F;split at F;case isFalse=>cases F
  rename_i p1;split at F;case isFalse=>cases F
  rename_i p2;simp only [Option.some.injEq,Prod.mk.injEq] at F;obtain ⟨rfl,rfl,rfl⟩:=F;replace T:=AA.mk T;replace A:=AA.mk A;replace B:=AA.mk B;have q1:=eq_true p1;have q2:=eq_true p2;obtain ⟨j,hj⟩:∃ j,mn n (IntKind.u64.wrap most)=j:=⟨_,rfl⟩;have hj2:(if IntKind.u64.wrap most<n then IntKind.u64.wrap most else n)=j:=hj;rw [hj];clear p1 p2 h hj;go_enter Tryz.func37,Tryz.ntmps37;go_wp2_with (first|((with_reducible refine Db rfl ?_);refine Gs ?_)|((with_reducible refine Dr rfl ?_);refine KH (λW_ S_=>?_);replace S:=S_;clear S_)|(go_at_call 39;refine (Jd).mono ?_;rintro e W_ ⟨rfl,S_⟩;replace S:=S_;clear S_)|(go_at_call 64;refine (Ym).mono ?_;rintro e W_ ⟨rfl,S_⟩;replace S:=S_;clear S_));go_ret;exact ⟨rfl,S⟩
 ·rw [if_neg h] at F;have f1:(no != 0)=true:=bne_iff_ne.2 h;simp only [Option.some.injEq,Prod.mk.injEq] at F;obtain ⟨rfl,rfl,rfl⟩:=F;clear h;go_enter Tryz.func37,Tryz.ntmps37;go_wp2_with (first|((with_reducible refine Db rfl ?_);refine Gs ?_));go_ret;exact ⟨rfl,S⟩
set_option maxHeartbeats 4000000 in
set_option maxRecDepth 100000 in
theorem Yn {most:Int} {r:ByteArray} (S:AA (St w W ((g,Hg s no,79)::L))) (F:Cw.f k s no most=some (r,s',no')):
 Calls Tryz.prog 65 #[.pointer (some ⟨g,0,none⟩), .int .i64 most] W λe W'=>e= .returned (.string r)/\AA (St w W' ((g,Hg s' no',79)::L)):=by
 have hu2:=Tryz.underlying79;have hu3:=Tryz.underlying54;have hu4:=Tryz.underlying9;unfold Cw.f at F;by_cases h:no=0
 ·rw [if_pos h] at F;have f1:(no != 0)=false:=by rw [h];rfl
  obtain ⟨⟨n,at_,e⟩,T,F⟩:=Option.bind_eq_some_iff.1 F;obtain ⟨⟨sa,na⟩,A,F⟩:=Option.bind_eq_some_iff.1 F;simp only at T A F;split at F;case isFalse=>cases F
  rename_i p1;split at F;case isFalse=>cases F
  rename_i p2;simp only [Option.some.injEq,Prod.mk.injEq] at F;obtain ⟨rfl,rfl,rfl⟩:=F;replace T:=AA.mk T;replace A:=AA.mk A;have q1:=eq_true p1;have q2:=eq_true p2;clear p1 p2 h;go_enter Tryz.func65,Tryz.ntmps65;go_wp2_with (first|((with_reducible refine Db rfl ?_);refine Gs ?_)|((with_reducible refine Dr rfl ?_);refine KH (λW_ S_=>?_);replace S:=S_;clear S_)|(go_at_call 39;refine (Jd).mono ?_;rintro e W_ ⟨rfl,S_⟩;replace S:=S_;clear S_)|(go_at_call 88;refine (TN).mono ?_;rintro e W_ ⟨rfl,S_⟩;replace S:=S_;clear S_));go_ret;exact ⟨rfl,S⟩
 ·rw [if_neg h] at F;have f1:(no != 0)=true:=bne_iff_ne.2 h;simp only [Option.some.injEq,Prod.mk.injEq] at F;obtain ⟨rfl,rfl,rfl⟩:=F;clear h;go_enter Tryz.func65,Tryz.ntmps65;go_wp2_with (first|((with_reducible refine Db rfl ?_);refine Gs ?_));go_ret;exact ⟨rfl,S⟩
set_option maxHeartbeats 4000000 in
set_option maxRecDepth 100000 in
theorem ZU {r:Int} (S:AA (St w W ((g,Hg s no,79)::L))) (F:Dt.f s no=some (r,s',no')):
 Calls Tryz.prog 66 #[.pointer (some ⟨g,0,none⟩)] W λe W'=>e= .returned (.int .u8 r)/\AA (St w W' ((g,Hg s' no',79)::L)):=by
 have hu2:=Tryz.underlying79;have hu3:=Tryz.underlying54;have hu4:=Tryz.underlying9;unfold Dt.f at F;obtain ⟨⟨sa,na⟩,A,F⟩:=Option.bind_eq_some_iff.1 F;simp only at A F;by_cases he:s.toList=[]
 case' pos=>have g1:(s.toList==([]:List UInt8))=true:=beq_iff_eq.2 he;have g2:(s.toList != ([]:List UInt8))=false:=bne_eq_false_iff_eq.2 he;have g3:s.toList.isEmpty=true:=by rw [he];rfl
 case' neg=>have g1:(s.toList==([]:List UInt8))=false:=beq_eq_false_iff_ne.2 he;have g2:(s.toList != ([]:List UInt8))=true:=bne_iff_ne.2 he;have g3:s.toList.isEmpty=false:=List.isEmpty_eq_false_iff.2 he
 all_goals
  rw [g1] at A;replace A:=AA.mk A;clear he;by_cases h:na=0
  ·rw [if_pos h] at F;have f1:(na != 0)=false:=by rw [h];rfl
   split at F;case isFalse=>cases F
   rename_i p1;split at F;case isFalse=>cases F
   rename_i p2;simp only [Option.some.injEq,Prod.mk.injEq] at F;obtain ⟨rfl,rfl,rfl⟩:=F;have q1:=eq_true p1;have q2:=eq_true p2;have q3:=eq_true (show 0<sa.size by omega);have hx:∀ h:0<sa.size,((sa[0]'h).toNat:Int)=bt sa 0:=CV sa 0;clear p1 p2 h;go_enter Tryz.func66,Tryz.ntmps66;go_wp2_with (first|((with_reducible refine Db rfl ?_);refine Gs ?_)|((with_reducible refine Dr rfl ?_);refine KH (λW_ S_=>?_);replace S:=S_;clear S_)|(go_at_call 39;refine (Jd).mono ?_;rintro e W_ ⟨rfl,S_⟩;replace S:=S_;clear S_));go_ret;exact ⟨rfl,S⟩
  ·rw [if_neg h] at F;have f1:(na != 0)=true:=bne_iff_ne.2 h;simp only [Option.some.injEq,Prod.mk.injEq] at F;obtain ⟨rfl,rfl,rfl⟩:=F;clear h;go_enter Tryz.func66,Tryz.ntmps66;go_wp2_with (first|((with_reducible refine Db rfl ?_);refine Gs ?_)|(go_at_call 39;refine (Jd).mono ?_;rintro e W_ ⟨rfl,S_⟩;replace S:=S_;clear S_));go_ret;exact ⟨rfl,S⟩
theorem Oo {most r:Int} (S:AA (St w W bs):=by with_reducible assumption) (hu:Me bs g (Hg s no) 79 (Hg s' no') bs':=by with_reducible first|exact .head|exact .tail .head|exact .tail (.tail .head)|exact .tail (.tail (.tail .head))|exact .tail (.tail (.tail (.tail .head)))) (F:AA (Bl.f k s no most=some (r,s',no')):=by with_reducible assumption):
 Calls Tryz.prog 37 #[.pointer (some ⟨g,0,none⟩), .int .i64 most] W λe W'=>e= .returned (.int .i64 r)/\AA (St w W' bs'):=by
 obtain ⟨L,S1,S2⟩:=St.front S hu;exact (WM S1 F.out).mono λe W' h=>⟨h.1,S2 _ h.2⟩
theorem Yo {most:Int} {r:ByteArray} (S:AA (St w W bs):=by with_reducible assumption) (hu:Me bs g (Hg s no) 79 (Hg s' no') bs':=by with_reducible first|exact .head|exact .tail .head|exact .tail (.tail .head)|exact .tail (.tail (.tail .head))|exact .tail (.tail (.tail (.tail .head)))) (F:AA (Cw.f k s no most=some (r,s',no')):=by with_reducible assumption):
 Calls Tryz.prog 65 #[.pointer (some ⟨g,0,none⟩), .int .i64 most] W λe W'=>e= .returned (.string r)/\AA (St w W' bs'):=by
 obtain ⟨L,S1,S2⟩:=St.front S hu;exact (Yn S1 F.out).mono λe W' h=>⟨h.1,S2 _ h.2⟩
theorem Yp {r:Int} (S:AA (St w W bs):=by with_reducible assumption) (hu:Me bs g (Hg s no) 79 (Hg s' no') bs':=by with_reducible first|exact .head|exact .tail .head|exact .tail (.tail .head)|exact .tail (.tail (.tail .head))|exact .tail (.tail (.tail (.tail .head)))) (F:AA (Dt.f s no=some (r,s',no')):=by with_reducible assumption):
 Calls Tryz.prog 66 #[.pointer (some ⟨g,0,none⟩)] W λe W'=>e= .returned (.int .u8 r)/\AA (St w W' bs'):=by
 obtain ⟨L,S1,S2⟩:=St.front S hu;exact (ZU S1 F.out).mono λe W' h=>⟨h.1,S2 _ h.2⟩
end
end Go.Proofs.YtfggjdkccdkogaaGreatDoor.Print
