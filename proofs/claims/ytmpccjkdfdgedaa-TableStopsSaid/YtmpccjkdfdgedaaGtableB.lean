/- The generic table's functions that take function literals, walked by hand, under the print's own form of contract: slices.BinarySearchFunc with place's literal, and place itself. -/
import Derived.Test.YtmpccjkdfdgedaaGtable
import Derived.LoopTactic
import Derived.Handy
namespace Go.Proofs.Ytmpccjkdfdgedaa.Print
open Go.RowKit Go.Proofs.YtmpccjkdfdgedaaW.PrintWords Go.Proofs.YtmpccjkdfdgedaaW.PrintLast Go.Proofs.YtmpccjkdfdgedaaW.PrintMore
set_option linter.unusedVariables false
set_option linter.unusedSimpArgs false

def cmpB (a b : Int) : Int := cmpT b a
set_option maxHeartbeats 4000000 in
theorem backCmp (a b : Int) (w : World) : Calls Try.prog 59 #[.int .i64 a, .int .i64 b] w fun e w' => e = .returned (.int .i64 (cmpB a b)) ∧ Drawn0 w w' := by
  go_enter Try.func59, Try.ntmps59
  go_wp2_with (go_at_call 55; refine (intCmp _ _ _).mono ?_; rintro e w' ⟨rfl, ⟨nd, rfl⟩⟩)
  go_ret
  exact ⟨rfl, ⟨_, rfl⟩⟩
set_option maxHeartbeats 4000000 in
set_option maxRecDepth 100000 in
theorem placeCmpB (x y t : Int) (w : World) : Calls Try.prog 38 #[.agg #[.int .i64 x, .int .i64 y], .int .i64 t] w fun e w' => e = .returned (.int .i64 (cmpB x t)) ∧ Below w.heap.size w w' := by
  have hu65 := Try.underlying72
  go_enter Try.func38, Try.ntmps38
  go_wp2_with (go_at_call 59; refine (backCmp _ _ _).mono ?_; rintro e w' ⟨rfl, ⟨nd, rfl⟩⟩)
  go_ret
  exact ⟨rfl, by repeat (first | exact Below.refl _ _ | apply pw_below_drewN | apply below_alloc)⟩

/-! ### the search -/
def keyAtB (l : List S72) (i : Nat) : Int := (rd_T72 l (i : Int)).f0
def bsPB (l : List S72) (t : Int) (i : Nat) : Bool := decide (cmpB (keyAtB l i) t < 0)
def bsIB (l : List S72) (t : Int) : Nat := bsN (bsPB l t) l.length 0 l.length
def bsHitB (l : List S72) (t : Int) : Bool := decide (bsIB l t < l.length) && decide (cmpB (keyAtB l (bsIB l t)) t = 0)
set_option maxHeartbeats 8000000 in
set_option maxRecDepth 100000 in
theorem searchCallsB (A0 : Option Addr) (c0 : Nat) (l : List S72) (t : Int) (w : World) (hr : Kd.C k72 w A0 l.length l) (hc : l.length ≤ c0) (hn : l.length ≤ 4611686018427387903) :
    Calls Try.prog 37 #[.slice A0 l.length c0, .int .i64 t, .func (.func 38) #[] #[]] w fun e w' => e = .returned (.tuple #[.int .i64 (bsIB l t), .bool (bsHitB l t)]) ∧ Below w.heap.size w w' := by
  have hu65 := Try.underlying72
  have HR := Aside0.mk hr
  have HN := Aside0.mk hn
  clear hr hn
  go_enter Try.func37, Try.ntmps37
  go_wp2
  go_loopw [9, 10] (fun v9 v10 wr => ∃ i j n : Nat, i ≤ j ∧ j ≤ l.length ∧ v9 = .int .i64 i ∧ v10 = .int .i64 j ∧ Aside0 (j - i ≤ n ∧ bsN (bsPB l t) n i j = bsIB l t) ∧ Aside0 (Below w.heap.size w wr)) (fun v9 v10 _ => (intOf v10).toNat - (intOf v9).toNat)
  case atStart => exact ⟨0, l.length, l.length, Nat.zero_le _, Nat.le_refl _, rfl, rfl, ⟨by omega, rfl⟩, ⟨Below.refl _ _⟩⟩
  case round =>
    obtain ⟨i, j, n, hij, hj, rfl, rfl, HA, HB⟩ := hrel
    by_cases hlt : i < j
    · have e1 : decide ((i : Int) < (j : Int)) = true := decide_eq_true (by omega)
      have e1b : decide (i < j) = true := decide_eq_true hlt
      obtain ⟨m, hm⟩ : ∃ m, m = (i + j) / 2 := ⟨_, rfl⟩
      have hn := HN.out
      have hm1 : i ≤ m ∧ m < j := by omega
      have hh : wrap64 (IntKind.u64.wrap (wrap64 ((i : Int) + (j : Int))) / 2) = (m : Int) := by
        have a1 : wrap64 ((i : Int) + (j : Int)) = (i : Int) + (j : Int) := by unfold wrap64; omega
        rw [a1, show IntKind.u64.wrap ((i : Int) + (j : Int)) = (i : Int) + (j : Int) by rw [xw_u64]; omega]
        unfold wrap64
        omega
      obtain ⟨ad, rfl, h0, h1⟩ := at_T72 (Kd.C_below HR.out HB.out) (m : Int) (by omega) (by omega)
      have p1 := eq_true (show 0 ≤ (m : Int) by omega)
      have q1 := eq_true (show (m : Int) < (l.length : Int) by omega)
      rw [Int.toNat_natCast] at h0 h1
      have HM := Aside0.mk hm
      have HM1 := Aside0.mk hm1
      clear hm hm1 hn hlt
      by_cases hb : cmpB (rd_T72 l (m : Int)).f0 t < 0
      · have e2 : decide (cmpB (rd_T72 l (m : Int)).f0 t < 0) = true := decide_eq_true hb
        have HBs := Aside0.mk (show bsPB l t m = true from e2)
        obtain ⟨m1, hm1⟩ : ∃ m1 : Nat, m1 = m + 1 := ⟨_, rfl⟩
        have hw : wrap64 ((m : Int) + 1) = (m1 : Int) := by have := HN.out; have := HM1.out; unfold wrap64; omega
        have HM2 := Aside0.mk hm1
        have HW := Aside0.mk hw
        clear hb hm1 hw
        go_wp2_with (go_at_call 38; refine (placeCmpB _ _ _ _).mono ?_; rintro e w2 ⟨rfl, hb⟩)
        go_roundw
        case rel =>
          have hA := HA.out
          have hM := HM1.out
          have hm1 := HM2.out
          cases n with
          | zero => omega
          | succ n =>
            refine ⟨m1, j, n, by omega, hj, congrArg _ HW.out, rfl, ⟨by omega, ?_⟩, ⟨below_step HB.out hb⟩⟩
            rw [hm1, ← hA.2, bsN, if_pos (by omega), ← HM.out, if_pos HBs.out]
        case measure =>
          have hM := HM1.out
          have hm1 := HM2.out
          rw [HW.out]
          show ((j : Int).toNat) - ((m1 : Int)).toNat < (j : Int).toNat - (i : Int).toNat
          omega
      · have e2 : decide (cmpB (rd_T72 l (m : Int)).f0 t < 0) = false := decide_eq_false hb
        have HBs := Aside0.mk (show bsPB l t m = false from e2)
        clear hb
        go_wp2_with (go_at_call 38; refine (placeCmpB _ _ _ _).mono ?_; rintro e w2 ⟨rfl, hb⟩)
        go_roundw
        case rel =>
          have hA := HA.out
          have hM := HM1.out
          cases n with
          | zero => omega
          | succ n =>
            refine ⟨i, m, n, by omega, by omega, rfl, rfl, ⟨by omega, ?_⟩, ⟨below_step HB.out hb⟩⟩
            rw [← hA.2, bsN, if_pos (by omega), ← HM.out, if_neg (by rw [HBs.out]; decide)]
        case measure =>
          have hM := HM1.out
          show ((m : Int).toNat) - ((i : Int)).toNat < (j : Int).toNat - (i : Int).toNat
          omega
    · have e1 : decide ((i : Int) < (j : Int)) = false := decide_eq_false (by omega)
      have e1b : decide (i < j) = false := decide_eq_false hlt
      have hi : i = bsIB l t := by
        have := HA.out.2
        rw [← this]
        cases n with
        | zero => rfl
        | succ n => rw [bsN, if_neg hlt]
      have HI := Aside0.mk hi
      by_cases hl : i < l.length
      · have e2 : decide ((i : Int) < (l.length : Int)) = true := decide_eq_true (by omega)
        have e2b : decide (i < l.length) = true := decide_eq_true hl
        obtain ⟨ad, rfl, h0, h1⟩ := at_T72 (Kd.C_below HR.out HB.out) (i : Int) (by omega) (by omega)
        have p1 := eq_true (show 0 ≤ (i : Int) by omega)
        have q1 := eq_true (show (i : Int) < (l.length : Int) by omega)
        rw [Int.toNat_natCast] at h0 h1
        have HH := Aside0.mk (show bsHitB l t = decide (cmpB (rd_T72 l (i : Int)).f0 t = 0) by unfold bsHitB keyAtB; rw [← hi, decide_eq_true hl, Bool.true_and])
        clear hl hlt hi
        go_wp2_with (go_at_call 38; refine (placeCmpB _ _ _ _).mono ?_; rintro e w2 ⟨rfl, hb⟩)
        go_ret2
        refine ⟨?_, below_step HB.out hb⟩
        rw [HH.out, ← HI.out]
        first | rfl | (congr; done) | (simp; done)
      · have e2 : decide ((i : Int) < (l.length : Int)) = false := decide_eq_false (by omega)
        have e2b : decide (i < l.length) = false := decide_eq_false hl
        have HH := Aside0.mk (show bsHitB l t = false by unfold bsHitB; rw [← hi, decide_eq_false hl, Bool.false_and])
        clear hl hlt hi
        go_wp2
        go_ret2
        refine ⟨?_, HB.out⟩
        rw [HH.out, ← HI.out]
        rfl
def table_place_Back.f (l : List S72) (t : Int) : Option (Int × Bool) := if l.length ≤ 4611686018427387903 then some ((bsIB l t : Int), bsHitB l t) else none
set_option maxHeartbeats 4000000 in
set_option maxRecDepth 100000 in
theorem table_place_Back.calls (A0 : Option Addr) (c0 : Nat) (l : List S72) (a1 : Int) (r1 : Int) (r2 : Bool) (w : World) (hr : Kd.C k72 w A0 l.length l) (hc : l.length ≤ c0) (h : table_place_Back.f l a1 = some (r1, r2)) :
    Calls Try.prog 31 #[.agg #[.slice A0 l.length c0], .int .i64 a1] w fun e w' => e = .returned (.tuple #[.int .i64 r1, .bool r2]) ∧ Below w.heap.size w w' := by
  unfold table_place_Back.f at h
  by_cases hn : l.length ≤ 4611686018427387903
  · rw [if_pos hn] at h
    simp only [Option.some.injEq, Prod.mk.injEq] at h
    obtain ⟨rfl, rfl⟩ := h
    have hu27 := Try.underlying56
    have HR := Aside0.mk hr
    have HC := Aside0.mk hc
    have HN := Aside0.mk hn
    clear hr hc hn
    go_enter Try.func31, Try.ntmps31
    go_wp2_with (go_at_call 37; refine (searchCallsB _ _ l _ _ (Kd.C_alloc HR.out _) HC.out HN.out).mono ?_; rintro e w2 ⟨rfl, hb⟩)
    go_ret2
    exact ⟨rfl, below_step (below_alloc (Below.refl _ _) _) hb⟩
  · rw [if_neg hn] at h; exact absurd h (by simp)
end Go.Proofs.Ytmpccjkdfdgedaa.Print
