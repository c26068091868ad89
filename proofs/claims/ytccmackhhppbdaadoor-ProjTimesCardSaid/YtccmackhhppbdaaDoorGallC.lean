/- (Table).All: it tells its rows' keys and values, in order. -/
import Derived.Test.YtccmackhhppbdaaDoorPrint0
import Derived.Test.YtccmackhhppbdaaDoorGrange
import Derived.OwnWalkIn
import Derived.TacticsInMore
import Derived.LoopNIn
import Derived.LoopIn
import Derived.Shelf.RegionOpen
namespace Go.Proofs.YtccmackhhppbdaaDoor.Print
open Go.RowKit Go.Proofs.YtccmackhhppbdaaDoorW.PrintWords Go.Proofs.YtccmackhhppbdaaDoorW.PrintLast Go.Proofs.YtccmackhhppbdaaDoorW.PrintMore Go.Proofs.YtccmackhhppbdaaDoor.Range
set_option linter.unusedVariables false
set_option linter.unusedSimpArgs false
attribute [local go_sem] Oper.semAt_some

def encRow (x : S76) : Array Value := #[.agg #[.string x.f0.f0, .string x.f0.f1, .string x.f0.f2], .agg #[.string x.f1.f0, .string x.f1.f1, .string x.f1.f2, .string x.f1.f3, .int .i64 x.f1.f4, .int .i64 x.f1.f5, .int .i64 x.f1.f6, .bool x.f1.f7, .bool x.f1.f8, .bool x.f1.f9, .int .i64 x.f1.f10]]
def rowsOf (l : List S76) : List (Array Value) := l.map fun x => encRow x
set_option maxHeartbeats 4000000 in
set_option maxRecDepth 100000 in
theorem all_tells (A0 : Option Addr) (c0 : Nat) (l : List S76) (w0 w : World) (n : Nat) (hr : Kd.C k76 w0 A0 l.length l) (hc : l.length ≤ c0) (hn : l.length ≤ 4611686018427387903) (hb : Below w0.heap.size w0 w) :
    Tells Tryd.prog n 33 #[.agg #[.slice A0 l.length c0]] (rowsOf l) w0.heap.size w := by
  intro lp J Jx W hW hJ hJx hY h0
  have hlen : (rowsOf l).length = l.length := by simp [rowsOf]
  have hu25 := Tryd.underlying42
  have hu27 := Tryd.underlying44
  have huK := Tryd.underlying32
  have huC := Tryd.underlying27
  have hu65 := Tryd.underlying76
  have HB := hb.trans (hW.mono hb.size)
  refine callsIn_of_wp Tryd.func33 rfl trivial ?_ rfl
  simp only [Tryd.ntmps33, List.size_toArray, List.length_cons, List.length_nil, Nat.reduceAdd, Nat.reduceSub, Array.replicate_succ, Array.replicate_zero, List.push_toArray, List.append_toArray, List.nil_append, List.cons_append]
  gi_wp2
  gi_loopw [9] (fun i wr => ∃ k : Nat, k ≤ l.length ∧ i = .int .i64 k ∧ J k wr ∧ Below w0.heap.size w0 wr) (fun i _ => l.length - (intOf i).toNat)
  case atStart => exact ⟨0, Nat.zero_le _, rfl, hJ _ _ _ h0 (World.grownBy_alloc _ _ _), HB.alloc HB.size _⟩
  case round =>
    obtain ⟨k, hk, rfl, hJs, hB⟩ := hrel
    by_cases hlt : k < l.length
    · have e1 : decide ((k : Int) < (l.length : Int)) = true := decide_eq_true (by omega)
      have e1b : decide (k < l.length) = true := decide_eq_true hlt
      obtain ⟨ad, rfl, hh0, hh1, hh2, hh3, hh4, hh5, hh6, hh7, hh8, hh9, hh10, hh11, hh12, hh13⟩ := at_T76 (Kd.C_below hr hB) (k : Int) (by omega) (by omega)
      have p1 := eq_true (show 0 ≤ (k : Int) by omega)
      have q1 := eq_true (show (k : Int) < (l.length : Int) by omega)
      rw [Int.toNat_natCast] at hh0 hh1 hh2 hh3 hh4 hh5 hh6 hh7 hh8 hh9 hh10 hh11 hh12 hh13
      obtain ⟨fn, tmps, assign, body, hy, hR⟩ := hY k #[.agg #[.string (rd_T76 l (k : Int)).f0.f0, .string (rd_T76 l (k : Int)).f0.f1, .string (rd_T76 l (k : Int)).f0.f2], .agg #[.string (rd_T76 l (k : Int)).f1.f0, .string (rd_T76 l (k : Int)).f1.f1, .string (rd_T76 l (k : Int)).f1.f2, .string (rd_T76 l (k : Int)).f1.f3, .int .i64 (rd_T76 l (k : Int)).f1.f4, .int .i64 (rd_T76 l (k : Int)).f1.f5, .int .i64 (rd_T76 l (k : Int)).f1.f6, .bool (rd_T76 l (k : Int)).f1.f7, .bool (rd_T76 l (k : Int)).f1.f8, .bool (rd_T76 l (k : Int)).f1.f9, .int .i64 (rd_T76 l (k : Int)).f1.f10]] (wr.alloc (.cells #[.string (rd_T76 l (k : Int)).f0.f0, .string (rd_T76 l (k : Int)).f0.f1, .string (rd_T76 l (k : Int)).f0.f2, .string (rd_T76 l (k : Int)).f1.f0, .string (rd_T76 l (k : Int)).f1.f1, .string (rd_T76 l (k : Int)).f1.f2, .string (rd_T76 l (k : Int)).f1.f3, .int .i64 (rd_T76 l (k : Int)).f1.f4, .int .i64 (rd_T76 l (k : Int)).f1.f5, .int .i64 (rd_T76 l (k : Int)).f1.f6, .bool (rd_T76 l (k : Int)).f1.f7, .bool (rd_T76 l (k : Int)).f1.f8, .bool (rd_T76 l (k : Int)).f1.f9, .int .i64 (rd_T76 l (k : Int)).f1.f10] 76)) (by simp [rowsOf, encRow, rd_T76, List.getElem?_eq_getElem hlt]) (hJ _ _ _ hJs (World.grownBy_alloc _ _ _))
      gi_wp2
      refine ⟨fun h => by simp [Fence.wide] at h, hR.mono ?_⟩
      rintro e W3 (⟨rfl, hJ3, hk3⟩ | ⟨rfl, hJx3⟩)
      · gi_wp2
        go_roundw
        case rel => exact ⟨k + 1, by omega, by first | rfl | simp | (rw [show wrap64 ((k : Int) + 1) = ((k + 1 : Nat) : Int) by unfold wrap64; omega]), hJ3, (hB.alloc hB.size _).trans hk3⟩
        case measure =>
          show l.length - (((k : Int) + 1)).toNat < l.length - ((k : Int)).toNat
          omega
      · gi_wp2
        refine bodyPost_ret (results_none rfl _ _ _) rfl ?_
        exact ⟨⟨_, rfl⟩, .inr ⟨k, by omega, hJx3⟩⟩
    · obtain rfl : k = l.length := by omega
      have e1 : decide ((l.length : Int) < (l.length : Int)) = false := decide_eq_false (by omega)
      have e1b : decide (l.length < l.length) = false := decide_eq_false hlt
      gi_wp2
      go_end0
      exact ⟨⟨_, rfl⟩, .inl (hlen ▸ hJs)⟩
end Go.Proofs.YtccmackhhppbdaaDoor.Print
