/- snap.flags (layer 22) by hand: a closure over a number that it turns. No condition. -/
import Derived.Test.YtfggjdkccdkogaaGreatDoorPC
import Derived.LoopTactic
import Derived.Laws.EntriesVeiled
namespace Go.Proofs.YtfggjdkccdkogaaGreatDoor.Print
open RowKit Ac Aq Aw
set_option linter.unusedVariables false
set_option linter.unusedSimpArgs false
def Ye (b:Bool) (n bit:Int):Int:=if b=true then Go.bits .or .i64 n bit else n
theorem KZ (b:Bool) (bit n:Int) (g B:Nat) (w0 w:World) (hc:AA (w.heap[g]? =some (.cells #[.int .i64 n] 3 (0,0)))) (hB:AA (Below B w0 w)) (hg:AA (B<=g)):
 Calls Tryz.prog 86 #[.bool b, .int .i64 bit, .pointer (some ⟨g,0,none⟩)] w λe w'=>e= .returned (.tuple #[])/\AA (w'.heap[g]? =some (.cells #[.int .i64 (Ye b n bit)] 3 (0,0)))/\AA (Below B w0 w')/\∀ i o,w.heap[i]? =some o->i≠g->w'.heap[i]? =some o:=by
 have c1:w.cell? ⟨g,0,none⟩=some (.int .i64 n):=AJ hc.out 0;have f1:=AP hc.out 0;cases b;case false=>
  go_enter Tryz.func86,Tryz.ntmps86;go_wp2;first|go_end0|((try simp only [Exit.inBlock,Exit.then]);refine bodyPost_ret (results_none rfl _ _ _) rfl ?_)
  exact ⟨rfl,hc,hB,λi o h _=>h⟩
 case true=>
  go_enter Tryz.func86,Tryz.ntmps86;go_wp2;first|go_end0|((try simp only [Exit.inBlock,Exit.then]);refine bodyPost_ret (results_none rfl _ _ _) rfl ?_)
  exact ⟨rfl,⟨MN hc.out 0 _ rfl⟩,⟨hB.out.setCell (p:=⟨g,0,none⟩) hg.out _⟩,λi o h hi=>(heap_setCell_other _ _ _ _ hi).trans h⟩
def FM.f (a0:Int) (b0 b1 b2 b3:ByteArray) (b4 b5:Bool) (b6 b7:Int) (b8:Bool) (b9:Int):Option Int:=some (IntKind.u8.wrap (Ye (decide (1<a0)&&b8) (Ye b5 (Ye b4 0 1) 2) 4))
set_option maxHeartbeats 4000000 in
set_option maxRecDepth 100000 in
theorem FM.calls (a0:Int) (b0 b1 b2 b3:ByteArray) (b4 b5:Bool) (b6 b7:Int) (b8:Bool) (b9:Int) (r:Int) (w:World) (h:FM.f a0 b0 b1 b2 b3 b4 b5 b6 b7 b8 b9=some r):
 Calls Tryz.prog 59 #[.int .i64 a0, .agg #[.string b0, .string b1, .string b2, .string b3, .bool b4, .bool b5, .int .i64 b6, .int .i64 b7, .bool b8, .int .i64 b9]] w λe w'=>e= .returned (.int .u8 r)/\Below w.heap.size w w':=by
 have hr:=AA.mk (Option.some.inj h);clear h;have hu1:=Tryz.underlying26;have hu2:=Tryz.underlying28;go_enter Tryz.func59,Tryz.ntmps59;go_upto_region 2 with (fail)
 have K0:=AA.mk (GQ (Ii w (.cells #[.string b0, .string b1, .string b2, .string b3, .bool b4, .bool b5, .int .i64 b6, .int .i64 b7, .bool b8, .int .i64 b9] 28 (0,0))) (.cells #[.int .i64 0] 3 (0,0)));have N0:=by have h_:=Ii (w.alloc (.cells #[.string b0, .string b1, .string b2, .string b3, .bool b4, .bool b5, .int .i64 b6, .int .i64 b7, .bool b8, .int .i64 b9] 28 (0,0))) (.cells #[.int .i64 0] 3 (0,0));rw [World.size_alloc] at h_;exact AA.mk h_
 have B0:=AA.mk (Bu (Bu (Below.refl w.heap.size w) (.cells #[.string b0, .string b1, .string b2, .string b3, .bool b4, .bool b5, .int .i64 b6, .int .i64 b7, .bool b8, .int .i64 b9] 28 (0,0))) (.cells #[.int .i64 0] 3 (0,0)));have G:=AA.mk (show w.heap.size<=w.heap.size+1 by omega);generalize (w.alloc (.cells #[.string b0, .string b1, .string b2, .string b3, .bool b4, .bool b5, .int .i64 b6, .int .i64 b7, .bool b8, .int .i64 b9] 28 (0,0))).alloc (.cells #[.int .i64 0] 3 (0,0))=W0 at K0 N0 B0⊢
 have c4:W0.cell? ⟨w.heap.size,4,none⟩=some (.bool b4):=AJ K0.out 4;go_upto_region 4 with (go_at_call 86;refine (KZ b4 1 0 _ _ _ _ N0 B0 G).mono ?_;rintro e w1 ⟨rfl,N1,B1,F1⟩;have K1:=AA.mk (F1 _ _ K0.out (by omega));clear F1)
 clear c4 K0 N0 B0;have c5:w1.cell? ⟨w.heap.size,5,none⟩=some (.bool b5):=AJ K1.out 5;go_upto_region 5 with (go_at_call 86;refine (KZ b5 2 _ _ _ _ _ N1 B1 G).mono ?_;rintro e w2 ⟨rfl,N2,B2,F2⟩;have K2:=AA.mk (F2 _ _ K1.out (by omega));clear F2)
 clear c5 K1 N1 B1;have c8:w2.cell? ⟨w.heap.size,8,none⟩=some (.bool b8):=AJ K2.out 8;cases hv:decide (1<a0);case false=>
  go_upto_region 6 with (go_at_call 86;refine (KZ false 4 _ _ _ _ _ N2 B2 G).mono ?_;rintro e w3 ⟨rfl,N3,B3,F3⟩;clear F3)
  clear c8;have cn:=AJ N3.out 0;go_wp2;go_ret;exact ⟨by rw [<-hr.out,hv];rfl,B3.out⟩
 case true=>
  go_upto_region 6 with (go_at_call 86;refine (KZ b8 4 _ _ _ _ _ N2 B2 G).mono ?_;rintro e w3 ⟨rfl,N3,B3,F3⟩;clear F3)
  clear c8;have cn:=AJ N3.out 0;go_wp2;go_ret;exact ⟨by rw [<-hr.out,hv];rfl,B3.out⟩
end Go.Proofs.YtfggjdkccdkogaaGreatDoor.Print
