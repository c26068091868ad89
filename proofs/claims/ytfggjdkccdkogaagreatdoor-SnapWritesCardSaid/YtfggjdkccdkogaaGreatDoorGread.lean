/- The reader of layer 22, its row, walked by hand. -/
import Derived.Test.YtfggjdkccdkogaaGreatDoorGflags
import Derived.Test.YtfggjdkccdkogaaGreatDoorGrdr
namespace Go.Proofs.YtfggjdkccdkogaaGreatDoor.Print
open RowKit Ac Aq Aw
set_option linter.unusedVariables false
set_option linter.unusedSimpArgs false
section
variable {w W:World} {bs bs':Bs} {g:Nat} {s s':ByteArray} {no no':Int} {k:Nat}
theorem Xv {v a6 a7 a9 r:Int} {a0 a1 a2 a3:ByteArray} {a4 a5 a8:Bool} (S:AA (St w W bs):=by with_reducible assumption) (F:AA (FM.f v a0 a1 a2 a3 a4 a5 a6 a7 a8 a9=some r):=by with_reducible assumption):
 Calls Tryz.prog 59 #[.int .i64 v, .agg #[.string a0, .string a1, .string a2, .string a3, .bool a4, .bool a5, .int .i64 a6, .int .i64 a7, .bool a8, .int .i64 a9]] W λe W'=>e= .returned (.int .u8 r)/\AA (St w W' bs):=
 St.G7 S (FM.calls v a0 a1 a2 a3 a4 a5 a6 a7 a8 a9 r W F.out)
theorem WN {a0 a1 a2 a3:ByteArray} {a4 a5 a6 a10:Int} {a7 a8 a9 r:Bool} (S:AA (St w W bs):=by with_reducible assumption) (F:AA (Aj.f k a0 a1 a2 a3 a4 a5 a6 a7 a8 a9 a10=some r):=by with_reducible assumption) (hG:AA (D8 w):=by with_reducible assumption):
 Calls Tryz.prog 51 #[.agg #[.string a0, .string a1, .string a2, .string a3, .int .i64 a4, .int .i64 a5, .int .i64 a6, .bool a7, .bool a8, .bool a9, .int .i64 a10]] W λe W'=>e= .returned (.bool r)/\AA (St w W' bs):=
 St.G7 S (Aj.calls k a0 a1 a2 a3 a4 a5 a6 a7 a8 a9 a10 r W (St.laid S hG) F.out)
theorem ZV {a0 a1 a2 a3:ByteArray} {a4 a5:Bool} {a6 a7:Int} (S:AA (St w W bs):=by with_reducible assumption):
 Calls Tryz.prog 10 #[.agg #[.string a0, .string a1, .string a2, .string a3, .bool a4, .bool a5, .int .i64 a6, .int .i64 a7]] W λe W'=>e= .returned (.agg #[.string a0, .string a1, .string a2, .string a3, .bool a4, .bool a5, .int .i64 a6, .int .i64 a7, .bool true, .int .i64 a7])/\AA (St w W' bs):=
 St.G7 S (Ht.calls a0 a1 a2 a3 a4 a5 a6 a7 _ _ _ _ _ _ _ _ _ _ W rfl)
theorem ZW {a0 a1 a2 a3:ByteArray} {a4 a5 a8:Bool} {a6 a7 a9:Int} (S:AA (St w W bs):=by with_reducible assumption):
 Calls Tryz.prog 14 #[.agg #[.string a0, .string a1, .string a2, .string a3, .bool a4, .bool a5, .int .i64 a6, .int .i64 a7, .bool a8, .int .i64 a9]] W λe W'=>e= .returned (.agg #[.string a0, .string a1, .string a2, .string a3, .int .i64 a7, .int .i64 a9, .int .i64 a6, .bool a8, .bool a4, .bool a5, .int .i64 0])/\AA (St w W' bs):=
 St.G7 S (Fg.calls a0 a1 a2 a3 a4 a5 a6 a7 a8 a9 _ _ _ _ _ _ _ _ _ _ _ W rfl)
end
abbrev ZX:Array Value:=#[.string ⟨#[]⟩, .string ⟨#[]⟩, .string ⟨#[]⟩, .string ⟨#[]⟩, .int .i64 0, .int .i64 0, .int .i64 0, .bool false, .bool false, .bool false, .int .i64 0]
abbrev Ee (f m:Int):Bool:=decide (0<Go.bits .and .u8 f m)
set_option maxHeartbeats 8000000 in
set_option maxRecDepth 100000 in
theorem R3 {k g:Nat} {v f ex cr ac ss fl n0 n1 n2 n3 n4 n5 n6 n7 n8 n9 n10:Int} {s0 s1 s2 s3 s4 s5 s6 s7 s8 s9 s10 d p nm vl:ByteArray} {ho ok:Bool} {w W:World} {L:Bs} (S:AA (St w W ((g,Hg s0 n0,79)::L))) (hG:AA (D8 w))
 (P1:AA (Cw.f k s0 n0 64=some (d,s1,n1))) (P2:AA (Cw.f k s1 n1 64=some (p,s2,n2))) (P3:AA (Cw.f k s2 n2 64=some (nm,s3,n3))) (P4:AA (Cw.f k s3 n3 128=some (vl,s4,n4)))
 (O1:AA (Dt.f s4 n4=some (f,s5,n5))) (N1:AA (Bl.f k s5 n5 253402300799=some (ex,s6,n6))) (N2:AA (Bl.f k s6 n6 253402300799=some (cr,s7,n7)))
 (N3:AA (1<v/\ho=Ee f 4/\Bl.f k s7 n7 253402300799=some (ac,s8,n8)\/v<=1/\ho=true/\ac=cr/\s8=s7/\n8=n7)) (O2:AA (2<v/\(∃ si,Dt.f s8 n8=some (si,s9,n9)/\ss=wrap64 si)\/v<=2/\ss=0/\s9=s8/\n9=n8))
 (FL:AA (FM.f v d p nm vl (Ee f 1) (Ee f 2) ex cr ho ac=some fl)) (R:AA (f=fl/\Aj.f k d p nm vl cr ac ex ho (Ee f 1) (Ee f 2) ss=some ok/\Bp.f s9 n9 (!ok) 224=some (s10,n10)\/f≠fl/\Bp.f s9 n9 true 224=some (s10,n10))):
 Calls Tryz.prog 38 #[.pointer (some ⟨g,0,none⟩), .int .i64 v] W λe W'=>e= .returned (.agg #[.string d, .string p, .string nm, .string vl, .int .i64 cr, .int .i64 ac, .int .i64 ex, .bool ho, .bool (Ee f 1), .bool (Ee f 2), .int .i64 ss])/\AA (St w W' ((g,Hg s10 n10,79)::L)):=by
 have hu1:=Tryz.underlying25;have hu2:=Tryz.underlying26;have hu3:=Tryz.underlying28;go_enter Tryz.func38,Tryz.ntmps38;go_upto_region 3 with (first|(refine Gg (N:=4) ZX 25 (λb4 W_ S_=>?_);replace S:=S_;clear S_)|(refine Gg (N:=7) #[.string ⟨#[]⟩, .string ⟨#[]⟩, .string ⟨#[]⟩, .string ⟨#[]⟩, .bool false, .bool false, .int .i64 0, .int .i64 0] 26 (λb7 W_ S_=>?_);replace S:=S_;clear S_)|(go_at_call 65;refine (Yo).mono ?_;rintro e W_ ⟨rfl,S_⟩;replace S:=S_;clear S_)|((with_reducible refine Dr rfl ?_);refine Gh (λW_ S_=>?_);replace S:=S_;clear S_))
 clear P1 P2 P3 P4;go_upto_region 8 with (first|(go_at_call 66;refine (Yp).mono ?_;rintro e W_ ⟨rfl,S_⟩;replace S:=S_;clear S_)|(go_at_call 37;refine (Oo).mono ?_;rintro e W_ ⟨rfl,S_⟩;replace S:=S_;clear S_)|((with_reducible refine Dr rfl ?_);refine KH (λW_ S_=>?_);replace S:=S_;clear S_)|((with_reducible refine Db rfl ?_);refine Ke ?_)|(go_at_call 10;refine (ZV).mono ?_;rintro e W_ ⟨rfl,S_⟩;replace S:=S_;clear S_)|(refine Gg (N:=9) #[.string ⟨#[]⟩, .string ⟨#[]⟩, .string ⟨#[]⟩, .string ⟨#[]⟩, .bool false, .bool false, .int .i64 0, .int .i64 0, .bool false, .int .i64 0] 28 (λb9 W_ S_=>?_);replace S:=S_;clear S_)|((with_reducible refine Dr rfl ?_);refine Gh (λW_ S_=>?_);replace S:=S_;clear S_))
 clear O1 N1 N2;rcases N3.out with ⟨h1,rfl,N4⟩|⟨h1,rfl,rfl,rfl,rfl⟩
 case' inl=>have d1:=decide_eq_true h1;replace N4:=AA.mk N4
 case' inr=>have d1:=decide_eq_false (show ¬1<v by omega)
 all_goals
  clear N3 h1;go_upto_region 11 with (first|(go_at_call 37;refine (Oo).mono ?_;rintro e W_ ⟨rfl,S_⟩;replace S:=S_;clear S_)|((with_reducible refine Dr rfl ?_);refine KH (λW_ S_=>?_);replace S:=S_;clear S_)|((with_reducible refine Db rfl ?_);refine Ke ?_)|(go_at_call 14;refine (ZW).mono ?_;rintro e W_ ⟨rfl,S_⟩;replace S:=S_;clear S_)|(refine Gg (N:=10) ZX 25 (λb10 W_ S_=>?_);replace S:=S_;clear S_)|((with_reducible refine Dr rfl ?_);refine Gh (λW_ S_=>?_);replace S:=S_;clear S_))
  rcases O2.out with ⟨h2,si,O3,rfl⟩|⟨h2,rfl,rfl,rfl⟩
  case' inl=>have d2:=decide_eq_true h2;replace O3:=AA.mk O3
  case' inr=>have d2:=decide_eq_false (show ¬2<v by omega)
  all_goals
   clear O2 h2 d1;go_upto_region 13 with (first|(go_at_call 66;refine (Yp).mono ?_;rintro e W_ ⟨rfl,S_⟩;replace S:=S_;clear S_)|((with_reducible refine Dr rfl ?_);refine KH (λW_ S_=>?_);replace S:=S_;clear S_))
   clear d2;rcases R.out with ⟨rfl,R1,R2⟩|⟨hf,R2⟩
   case' inl=>have f1:(f != f)=false:=by simp
   case' inl=>replace R1:=AA.mk R1;replace R2:=AA.mk R2
   case' inr=>have f1:(f != fl)=true:=bne_iff_ne.2 hf
   case' inr=>replace R2:=AA.mk R2;clear hf
   all_goals
    clear R;go_wp2_with (first|((with_reducible refine Db rfl ?_);refine Ke ?_)|((with_reducible refine Db rfl ?_);refine Yr ?_;refine Ke ?_)|(go_at_call 59;refine (Xv).mono ?_;rintro e W_ ⟨rfl,S_⟩;replace S:=S_;clear S_)|(go_at_call 51;refine (WN).mono ?_;rintro e W_ ⟨rfl,S_⟩;replace S:=S_;clear S_)|(go_at_call 39;refine (Jd).mono ?_;rintro e W_ ⟨rfl,S_⟩;replace S:=S_;clear S_)|((with_reducible refine Dr rfl ?_);refine Gh (λW_ S_=>?_);replace S:=S_;clear S_));refine bodyPost_ret (results_cell_row rfl _ _ b4 25 _ (0,0) _ rfl (S.out.x _ (.tail _ (.tail _ (.tail _ (.head _))))).1 hu1 rfl (by kernel_rfl)) rfl ?_;exact ⟨rfl,St.drop (St.drop (St.drop (St.drop S)))⟩
end Go.Proofs.YtfggjdkccdkogaaGreatDoor.Print
