/- The generic table's search at rows of cookies: slices.BinarySearchFunc with place's literal, and place itself. -/
import Derived.Test.YtccmackhhppbdaaDoorPrint0
import Derived.Test.YtccmackhhppbdaaDoorGkey
import Derived.LoopTactic
import Derived.Handy
import Derived.RangeFuncSeq
namespace Go.Proofs.YtccmackhhppbdaaDoor.Print
open Go.RowKit Go.Proofs.YtccmackhhppbdaaDoor.Y Go.Proofs.YtccmackhhppbdaaDoorW.PrintWords Go.Proofs.YtccmackhhppbdaaDoorW.PrintLast Go.Proofs.YtccmackhhppbdaaDoorW.PrintMore
set_option linter.unusedVariables false
set_option linter.unusedSimpArgs false

theorem keyCalls (a0 a1 a2 b0 b1 b2 : ByteArray) (w : World) : Calls Tryd.prog 108 #[.agg #[.string a0, .string a1, .string a2], .agg #[.string b0, .string b1, .string b2]] w fun e w' => e = .returned (.int .i64 (cmpK a0 a1 a2 b0 b1 b2)) ∧ Below w.heap.size w w' := by
  obtain ⟨k1, h⟩ := key_at a0 a1 a2 b0 b1 b2
  exact PrintC.cookie_Key_Cmp.calls k1 a0 a1 a2 b0 b1 b2 _ w h
set_option maxHeartbeats 4000000 in
set_option maxRecDepth 100000 in
theorem placeCmp (x : S76) (t0 t1 t2 : ByteArray) (w : World) : Calls Tryd.prog 51 #[.agg #[.string x.f0.f0, .string x.f0.f1, .string x.f0.f2, .string x.f1.f0, .string x.f1.f1, .string x.f1.f2, .string x.f1.f3, .int .i64 x.f1.f4, .int .i64 x.f1.f5, .int .i64 x.f1.f6, .bool x.f1.f7, .bool x.f1.f8, .bool x.f1.f9, .int .i64 x.f1.f10], .agg #[.string t0, .string t1, .string t2]] w fun e w' => e = .returned (.int .i64 (cmpK x.f0.f0 x.f0.f1 x.f0.f2 t0 t1 t2)) ∧ Below w.heap.size w w' := by
  have hu65 := Tryd.underlying76
  have huK := Tryd.underlying32
  go_enter Tryd.func51, Tryd.ntmps51
  go_wp2_with (go_at_call 108; refine (keyCalls _ _ _ _ _ _ _).mono ?_; rintro e w' ⟨rfl, hb⟩)
  go_ret
  refine ⟨rfl, below_step ?_ hb⟩
  repeat (first | exact Below.refl _ _ | apply below_alloc)
def bsN (p : Nat → Bool) : Nat → Nat → Nat → Nat
  | 0, i, _ => i
  | n + 1, i, j => if i < j then (if p ((i + j) / 2) = true then bsN p n ((i + j) / 2 + 1) j else bsN p n i ((i + j) / 2)) else i
def cmpAt (l : List S76) (t0 t1 t2 : ByteArray) (i : Nat) : Int := cmpK (rd_T76 l (i : Int)).f0.f0 (rd_T76 l (i : Int)).f0.f1 (rd_T76 l (i : Int)).f0.f2 t0 t1 t2
def bsP (l : List S76) (t0 t1 t2 : ByteArray) (i : Nat) : Bool := decide (cmpAt l t0 t1 t2 i < 0)
def bsI (l : List S76) (t0 t1 t2 : ByteArray) : Nat := bsN (bsP l t0 t1 t2) l.length 0 l.length
def bsHit (l : List S76) (t0 t1 t2 : ByteArray) : Bool := decide (bsI l t0 t1 t2 < l.length) && decide (cmpAt l t0 t1 t2 (bsI l t0 t1 t2) = 0)
theorem keepCell {W w3 : World} {a : Addr} {v : Value} (hb : Below W.heap.size W w3) (h : W.cell? a = some v) : w3.cell? a = some v := by
  obtain ⟨o, ho, _⟩ := not_walk_of_cell h
  exact (hb.cell (p := a) (Array.getElem?_eq_some_iff.1 ho).1).trans h
theorem bsN_le (p : Nat → Bool) : ∀ n i j, i ≤ j → i ≤ bsN p n i j ∧ bsN p n i j ≤ j
  | 0, i, j, h => ⟨Nat.le_refl _, h⟩
  | n + 1, i, j, h => by
    unfold bsN
    split
    · split
      · have := bsN_le p n ((i + j) / 2 + 1) j (by omega)
        omega
      · have := bsN_le p n i ((i + j) / 2) (by omega)
        omega
    · omega
set_option maxHeartbeats 8000000 in
set_option maxRecDepth 100000 in
theorem searchCalls (A0 : Option Addr) (c0 : Nat) (l : List S76) (t0 t1 t2 : ByteArray) (w : World) (hr : Kd.C k76 w A0 l.length l) (hc : l.length ≤ c0) (hn : l.length ≤ 4611686018427387903) :
    Calls Tryd.prog 50 #[.slice A0 l.length c0, .agg #[.string t0, .string t1, .string t2], .func (.func 51) #[] #[]] w fun e w' => e = .returned (.tuple #[.int .i64 (bsI l t0 t1 t2), .bool (bsHit l t0 t1 t2)]) ∧ Below w.heap.size w w' := by
  have huK := Tryd.underlying32
  have huC := Tryd.underlying27
  have hu65 := Tryd.underlying76
  have HR := Aside0.mk hr
  have HN := Aside0.mk hn
  clear hr hn
  go_enter Tryd.func50, Tryd.ntmps50
  go_wp2
  go_loopw [9, 10] (fun v9 v10 wr => ∃ i j n : Nat, i ≤ j ∧ j ≤ l.length ∧ v9 = .int .i64 i ∧ v10 = .int .i64 j ∧ Aside0 (j - i ≤ n ∧ bsN (bsP l t0 t1 t2) n i j = bsI l t0 t1 t2) ∧ Aside0 (Below w.heap.size w wr) ∧ Aside0 (wr.heap[w.heap.size]? = some (.cells #[.string t0, .string t1, .string t2] 32 (0, 0)))) (fun v9 v10 _ => (intOf v10).toNat - (intOf v9).toNat)
  case atStart => exact ⟨0, l.length, l.length, Nat.zero_le _, Nat.le_refl _, rfl, rfl, ⟨by omega, rfl⟩, ⟨by repeat (first | exact Below.refl _ _ | apply below_alloc)⟩, ⟨blk_new _ _⟩⟩
  case round =>
    obtain ⟨i, j, n, hij, hj, rfl, rfl, HA, HB, HK⟩ := hrel
    have y0 : wr.cell? ⟨w.heap.size, 0, none⟩ = some (.string t0) := blkC HK.out rfl
    have y1 : wr.cell? ⟨w.heap.size, 1, none⟩ = some (.string t1) := blkC HK.out rfl
    have y2 : wr.cell? ⟨w.heap.size, 2, none⟩ = some (.string t2) := blkC HK.out rfl
    by_cases hlt : i < j
    · have e1 : decide ((i : Int) < (j : Int)) = true := decide_eq_true (by omega)
      have e1b : decide (i < j) = true := decide_eq_true hlt
      obtain ⟨m, hm⟩ : ∃ m, m = (i + j) / 2 := ⟨_, rfl⟩
      have hn := HN.out
      have hm1 : i ≤ m ∧ m < j := by omega
      have hh : wrap64 (IntKind.u64.wrap (wrap64 ((i : Int) + (j : Int))) / 2) = (m : Int) := by
        have a1 : wrap64 ((i : Int) + (j : Int)) = (i : Int) + (j : Int) := by unfold wrap64; omega
        rw [a1, show IntKind.u64.wrap ((i : Int) + (j : Int)) = (i : Int) + (j : Int) by rw [xw_u64]; omega]
        unfold wrap64
        omega
      obtain ⟨ad, rfl, h0, h1, h2, h3, h4, h5, h6, h7, h8, h9, h10, h11, h12, h13⟩ := at_T76 (Kd.C_below HR.out HB.out) (m : Int) (by omega) (by omega)
      have p1 := eq_true (show 0 ≤ (m : Int) by omega)
      have q1 := eq_true (show (m : Int) < (l.length : Int) by omega)
      rw [Int.toNat_natCast] at h0 h1 h2 h3 h4 h5 h6 h7 h8 h9 h10 h11 h12 h13
      have HM := Aside0.mk hm
      have HM1 := Aside0.mk hm1
      clear hm hm1 hn hlt
      by_cases hb : (cmpK (rd_T76 l (m : Int)).f0.f0 (rd_T76 l (m : Int)).f0.f1 (rd_T76 l (m : Int)).f0.f2 t0 t1 t2) < 0
      · have e2 : decide ((cmpK (rd_T76 l (m : Int)).f0.f0 (rd_T76 l (m : Int)).f0.f1 (rd_T76 l (m : Int)).f0.f2 t0 t1 t2) < 0) = true := decide_eq_true hb
        have HBs := Aside0.mk (show bsP l t0 t1 t2 m = true from e2)
        obtain ⟨m1, hm1⟩ : ∃ m1 : Nat, m1 = m + 1 := ⟨_, rfl⟩
        have hw : wrap64 ((m : Int) + 1) = (m1 : Int) := by have := HN.out; have := HM1.out; unfold wrap64; omega
        have HM2 := Aside0.mk hm1
        have HW := Aside0.mk hw
        clear hb hm1 hw
        have hS : ∀ w' : World, Below wr.heap.size wr w' → Below wr.heap.size wr w' ∧ w'.cell? (ad.add (m * 14)) = some (.string (rd_T76 l (m : Int)).f0.f0) ∧ w'.cell? ⟨(ad.add (m * 14)).block, (ad.add (m * 14)).off + 1, none⟩ = some (.string (rd_T76 l (m : Int)).f0.f1) ∧ w'.cell? ⟨(ad.add (m * 14)).block, (ad.add (m * 14)).off + 2, none⟩ = some (.string (rd_T76 l (m : Int)).f0.f2) ∧ w'.cell? ⟨(ad.add (m * 14)).block, (ad.add (m * 14)).off + 3, none⟩ = some (.string (rd_T76 l (m : Int)).f1.f0) ∧ w'.cell? ⟨(ad.add (m * 14)).block, (ad.add (m * 14)).off + 4, none⟩ = some (.string (rd_T76 l (m : Int)).f1.f1) ∧ w'.cell? ⟨(ad.add (m * 14)).block, (ad.add (m * 14)).off + 5, none⟩ = some (.string (rd_T76 l (m : Int)).f1.f2) ∧ w'.cell? ⟨(ad.add (m * 14)).block, (ad.add (m * 14)).off + 6, none⟩ = some (.string (rd_T76 l (m : Int)).f1.f3) ∧ w'.cell? ⟨(ad.add (m * 14)).block, (ad.add (m * 14)).off + 7, none⟩ = some (.int .i64 (rd_T76 l (m : Int)).f1.f4) ∧ w'.cell? ⟨(ad.add (m * 14)).block, (ad.add (m * 14)).off + 8, none⟩ = some (.int .i64 (rd_T76 l (m : Int)).f1.f5) ∧ w'.cell? ⟨(ad.add (m * 14)).block, (ad.add (m * 14)).off + 9, none⟩ = some (.int .i64 (rd_T76 l (m : Int)).f1.f6) ∧ w'.cell? ⟨(ad.add (m * 14)).block, (ad.add (m * 14)).off + 10, none⟩ = some (.bool (rd_T76 l (m : Int)).f1.f7) ∧ w'.cell? ⟨(ad.add (m * 14)).block, (ad.add (m * 14)).off + 11, none⟩ = some (.bool (rd_T76 l (m : Int)).f1.f8) ∧ w'.cell? ⟨(ad.add (m * 14)).block, (ad.add (m * 14)).off + 12, none⟩ = some (.bool (rd_T76 l (m : Int)).f1.f9) ∧ w'.cell? ⟨(ad.add (m * 14)).block, (ad.add (m * 14)).off + 13, none⟩ = some (.int .i64 (rd_T76 l (m : Int)).f1.f10) ∧ w'.cell? ⟨w.heap.size, 0, none⟩ = some (.string t0) ∧ w'.cell? ⟨w.heap.size, 1, none⟩ = some (.string t1) ∧ w'.cell? ⟨w.heap.size, 2, none⟩ = some (.string t2) := fun w' hb => ⟨hb, keepCell hb h0, keepCell hb h1, keepCell hb h2, keepCell hb h3, keepCell hb h4, keepCell hb h5, keepCell hb h6, keepCell hb h7, keepCell hb h8, keepCell hb h9, keepCell hb h10, keepCell hb h11, keepCell hb h12, keepCell hb h13, keepCell hb y0, keepCell hb y1, keepCell hb y2⟩
        have hSB := Aside0.mk hS
        clear hS h0 h1 h2 h3 h4 h5 h6 h7 h8 h9 h10 h11 h12 h13 y0 y1 y2
        go_wp2
        go_region_held3 (fun w' => Below wr.heap.size wr w' ∧ w'.cell? (ad.add (m * 14)) = some (.string (rd_T76 l (m : Int)).f0.f0) ∧ w'.cell? ⟨(ad.add (m * 14)).block, (ad.add (m * 14)).off + 1, none⟩ = some (.string (rd_T76 l (m : Int)).f0.f1) ∧ w'.cell? ⟨(ad.add (m * 14)).block, (ad.add (m * 14)).off + 2, none⟩ = some (.string (rd_T76 l (m : Int)).f0.f2) ∧ w'.cell? ⟨(ad.add (m * 14)).block, (ad.add (m * 14)).off + 3, none⟩ = some (.string (rd_T76 l (m : Int)).f1.f0) ∧ w'.cell? ⟨(ad.add (m * 14)).block, (ad.add (m * 14)).off + 4, none⟩ = some (.string (rd_T76 l (m : Int)).f1.f1) ∧ w'.cell? ⟨(ad.add (m * 14)).block, (ad.add (m * 14)).off + 5, none⟩ = some (.string (rd_T76 l (m : Int)).f1.f2) ∧ w'.cell? ⟨(ad.add (m * 14)).block, (ad.add (m * 14)).off + 6, none⟩ = some (.string (rd_T76 l (m : Int)).f1.f3) ∧ w'.cell? ⟨(ad.add (m * 14)).block, (ad.add (m * 14)).off + 7, none⟩ = some (.int .i64 (rd_T76 l (m : Int)).f1.f4) ∧ w'.cell? ⟨(ad.add (m * 14)).block, (ad.add (m * 14)).off + 8, none⟩ = some (.int .i64 (rd_T76 l (m : Int)).f1.f5) ∧ w'.cell? ⟨(ad.add (m * 14)).block, (ad.add (m * 14)).off + 9, none⟩ = some (.int .i64 (rd_T76 l (m : Int)).f1.f6) ∧ w'.cell? ⟨(ad.add (m * 14)).block, (ad.add (m * 14)).off + 10, none⟩ = some (.bool (rd_T76 l (m : Int)).f1.f7) ∧ w'.cell? ⟨(ad.add (m * 14)).block, (ad.add (m * 14)).off + 11, none⟩ = some (.bool (rd_T76 l (m : Int)).f1.f8) ∧ w'.cell? ⟨(ad.add (m * 14)).block, (ad.add (m * 14)).off + 12, none⟩ = some (.bool (rd_T76 l (m : Int)).f1.f9) ∧ w'.cell? ⟨(ad.add (m * 14)).block, (ad.add (m * 14)).off + 13, none⟩ = some (.int .i64 (rd_T76 l (m : Int)).f1.f10) ∧ w'.cell? ⟨w.heap.size, 0, none⟩ = some (.string t0) ∧ w'.cell? ⟨w.heap.size, 1, none⟩ = some (.string t1) ∧ w'.cell? ⟨w.heap.size, 2, none⟩ = some (.string t2))
          ((refine hSB.out _ ?_; with_reducible repeat (first | exact And.left (by assumption) | exact below_undrew (And.left (by assumption)) | exact below_step (And.left (by assumption)) hb | exact Below.refl _ _ | refine below_alloc ?_ _ | refine below_drew1 ?_ | refine pw_below_drewN ?_ _)))
          (first | (go_at_call 51; refine (placeCmp _ _ _ _ _).mono ?_; rintro e w' ⟨rfl, hb⟩))
        have hb := And.left ‹Below wr.heap.size wr _ ∧ _›
        go_wp2
        go_roundw
        case rel =>
          have hA := HA.out
          have hM := HM1.out
          have hm1 := HM2.out
          cases n with
          | zero => omega
          | succ n =>
            refine ⟨m1, j, n, by omega, hj, congrArg _ HW.out, rfl, ⟨by omega, ?_⟩, ⟨below_step HB.out hb⟩, ⟨blk_below HK.out hb⟩⟩
            rw [hm1, ← hA.2, bsN, if_pos (by omega), ← HM.out, if_pos HBs.out]
        case measure =>
          have hM := HM1.out
          have hm1 := HM2.out
          rw [HW.out]
          show ((j : Int).toNat) - ((m1 : Int)).toNat < (j : Int).toNat - (i : Int).toNat
          omega
      · have e2 : decide ((cmpK (rd_T76 l (m : Int)).f0.f0 (rd_T76 l (m : Int)).f0.f1 (rd_T76 l (m : Int)).f0.f2 t0 t1 t2) < 0) = false := decide_eq_false hb
        have HBs := Aside0.mk (show bsP l t0 t1 t2 m = false from e2)
        clear hb
        have hS : ∀ w' : World, Below wr.heap.size wr w' → Below wr.heap.size wr w' ∧ w'.cell? (ad.add (m * 14)) = some (.string (rd_T76 l (m : Int)).f0.f0) ∧ w'.cell? ⟨(ad.add (m * 14)).block, (ad.add (m * 14)).off + 1, none⟩ = some (.string (rd_T76 l (m : Int)).f0.f1) ∧ w'.cell? ⟨(ad.add (m * 14)).block, (ad.add (m * 14)).off + 2, none⟩ = some (.string (rd_T76 l (m : Int)).f0.f2) ∧ w'.cell? ⟨(ad.add (m * 14)).block, (ad.add (m * 14)).off + 3, none⟩ = some (.string (rd_T76 l (m : Int)).f1.f0) ∧ w'.cell? ⟨(ad.add (m * 14)).block, (ad.add (m * 14)).off + 4, none⟩ = some (.string (rd_T76 l (m : Int)).f1.f1) ∧ w'.cell? ⟨(ad.add (m * 14)).block, (ad.add (m * 14)).off + 5, none⟩ = some (.string (rd_T76 l (m : Int)).f1.f2) ∧ w'.cell? ⟨(ad.add (m * 14)).block, (ad.add (m * 14)).off + 6, none⟩ = some (.string (rd_T76 l (m : Int)).f1.f3) ∧ w'.cell? ⟨(ad.add (m * 14)).block, (ad.add (m * 14)).off + 7, none⟩ = some (.int .i64 (rd_T76 l (m : Int)).f1.f4) ∧ w'.cell? ⟨(ad.add (m * 14)).block, (ad.add (m * 14)).off + 8, none⟩ = some (.int .i64 (rd_T76 l (m : Int)).f1.f5) ∧ w'.cell? ⟨(ad.add (m * 14)).block, (ad.add (m * 14)).off + 9, none⟩ = some (.int .i64 (rd_T76 l (m : Int)).f1.f6) ∧ w'.cell? ⟨(ad.add (m * 14)).block, (ad.add (m * 14)).off + 10, none⟩ = some (.bool (rd_T76 l (m : Int)).f1.f7) ∧ w'.cell? ⟨(ad.add (m * 14)).block, (ad.add (m * 14)).off + 11, none⟩ = some (.bool (rd_T76 l (m : Int)).f1.f8) ∧ w'.cell? ⟨(ad.add (m * 14)).block, (ad.add (m * 14)).off + 12, none⟩ = some (.bool (rd_T76 l (m : Int)).f1.f9) ∧ w'.cell? ⟨(ad.add (m * 14)).block, (ad.add (m * 14)).off + 13, none⟩ = some (.int .i64 (rd_T76 l (m : Int)).f1.f10) ∧ w'.cell? ⟨w.heap.size, 0, none⟩ = some (.string t0) ∧ w'.cell? ⟨w.heap.size, 1, none⟩ = some (.string t1) ∧ w'.cell? ⟨w.heap.size, 2, none⟩ = some (.string t2) := fun w' hb => ⟨hb, keepCell hb h0, keepCell hb h1, keepCell hb h2, keepCell hb h3, keepCell hb h4, keepCell hb h5, keepCell hb h6, keepCell hb h7, keepCell hb h8, keepCell hb h9, keepCell hb h10, keepCell hb h11, keepCell hb h12, keepCell hb h13, keepCell hb y0, keepCell hb y1, keepCell hb y2⟩
        have hSB := Aside0.mk hS
        clear hS h0 h1 h2 h3 h4 h5 h6 h7 h8 h9 h10 h11 h12 h13 y0 y1 y2
        go_wp2
        go_region_held3 (fun w' => Below wr.heap.size wr w' ∧ w'.cell? (ad.add (m * 14)) = some (.string (rd_T76 l (m : Int)).f0.f0) ∧ w'.cell? ⟨(ad.add (m * 14)).block, (ad.add (m * 14)).off + 1, none⟩ = some (.string (rd_T76 l (m : Int)).f0.f1) ∧ w'.cell? ⟨(ad.add (m * 14)).block, (ad.add (m * 14)).off + 2, none⟩ = some (.string (rd_T76 l (m : Int)).f0.f2) ∧ w'.cell? ⟨(ad.add (m * 14)).block, (ad.add (m * 14)).off + 3, none⟩ = some (.string (rd_T76 l (m : Int)).f1.f0) ∧ w'.cell? ⟨(ad.add (m * 14)).block, (ad.add (m * 14)).off + 4, none⟩ = some (.string (rd_T76 l (m : Int)).f1.f1) ∧ w'.cell? ⟨(ad.add (m * 14)).block, (ad.add (m * 14)).off + 5, none⟩ = some (.string (rd_T76 l (m : Int)).f1.f2) ∧ w'.cell? ⟨(ad.add (m * 14)).block, (ad.add (m * 14)).off + 6, none⟩ = some (.string (rd_T76 l (m : Int)).f1.f3) ∧ w'.cell? ⟨(ad.add (m * 14)).block, (ad.add (m * 14)).off + 7, none⟩ = some (.int .i64 (rd_T76 l (m : Int)).f1.f4) ∧ w'.cell? ⟨(ad.add (m * 14)).block, (ad.add (m * 14)).off + 8, none⟩ = some (.int .i64 (rd_T76 l (m : Int)).f1.f5) ∧ w'.cell? ⟨(ad.add (m * 14)).block, (ad.add (m * 14)).off + 9, none⟩ = some (.int .i64 (rd_T76 l (m : Int)).f1.f6) ∧ w'.cell? ⟨(ad.add (m * 14)).block, (ad.add (m * 14)).off + 10, none⟩ = some (.bool (rd_T76 l (m : Int)).f1.f7) ∧ w'.cell? ⟨(ad.add (m * 14)).block, (ad.add (m * 14)).off + 11, none⟩ = some (.bool (rd_T76 l (m : Int)).f1.f8) ∧ w'.cell? ⟨(ad.add (m * 14)).block, (ad.add (m * 14)).off + 12, none⟩ = some (.bool (rd_T76 l (m : Int)).f1.f9) ∧ w'.cell? ⟨(ad.add (m * 14)).block, (ad.add (m * 14)).off + 13, none⟩ = some (.int .i64 (rd_T76 l (m : Int)).f1.f10) ∧ w'.cell? ⟨w.heap.size, 0, none⟩ = some (.string t0) ∧ w'.cell? ⟨w.heap.size, 1, none⟩ = some (.string t1) ∧ w'.cell? ⟨w.heap.size, 2, none⟩ = some (.string t2))
          ((refine hSB.out _ ?_; with_reducible repeat (first | exact And.left (by assumption) | exact below_undrew (And.left (by assumption)) | exact below_step (And.left (by assumption)) hb | exact Below.refl _ _ | refine below_alloc ?_ _ | refine below_drew1 ?_ | refine pw_below_drewN ?_ _)))
          (first | (go_at_call 51; refine (placeCmp _ _ _ _ _).mono ?_; rintro e w' ⟨rfl, hb⟩))
        have hb := And.left ‹Below wr.heap.size wr _ ∧ _›
        go_wp2
        go_roundw
        case rel =>
          have hA := HA.out
          have hM := HM1.out
          cases n with
          | zero => omega
          | succ n =>
            refine ⟨i, m, n, by omega, by omega, rfl, rfl, ⟨by omega, ?_⟩, ⟨below_step HB.out hb⟩, ⟨blk_below HK.out hb⟩⟩
            rw [← hA.2, bsN, if_pos (by omega), ← HM.out, if_neg (by rw [HBs.out]; decide)]
        case measure =>
          have hM := HM1.out
          show ((m : Int).toNat) - ((i : Int)).toNat < (j : Int).toNat - (i : Int).toNat
          omega
    · have e1 : decide ((i : Int) < (j : Int)) = false := decide_eq_false (by omega)
      have e1b : decide (i < j) = false := decide_eq_false hlt
      have hi : i = bsI l t0 t1 t2 := by
        have := HA.out.2
        rw [← this]
        cases n with
        | zero => rfl
        | succ n => rw [bsN, if_neg hlt]
      have HI := Aside0.mk hi
      by_cases hl : i < l.length
      · have e2 : decide ((i : Int) < (l.length : Int)) = true := decide_eq_true (by omega)
        have e2b : decide (i < l.length) = true := decide_eq_true hl
        obtain ⟨ad, rfl, h0, h1, h2, h3, h4, h5, h6, h7, h8, h9, h10, h11, h12, h13⟩ := at_T76 (Kd.C_below HR.out HB.out) (i : Int) (by omega) (by omega)
        have p1 := eq_true (show 0 ≤ (i : Int) by omega)
        have q1 := eq_true (show (i : Int) < (l.length : Int) by omega)
        rw [Int.toNat_natCast] at h0 h1 h2 h3 h4 h5 h6 h7 h8 h9 h10 h11 h12 h13
        have HH := Aside0.mk (show bsHit l t0 t1 t2 = decide ((cmpK (rd_T76 l (i : Int)).f0.f0 (rd_T76 l (i : Int)).f0.f1 (rd_T76 l (i : Int)).f0.f2 t0 t1 t2) = 0) by unfold bsHit cmpAt; rw [← hi, decide_eq_true hl, Bool.true_and])
        clear hl hlt hi
        have hS : ∀ w' : World, Below wr.heap.size wr w' → Below wr.heap.size wr w' ∧ w'.cell? (ad.add (i * 14)) = some (.string (rd_T76 l (i : Int)).f0.f0) ∧ w'.cell? ⟨(ad.add (i * 14)).block, (ad.add (i * 14)).off + 1, none⟩ = some (.string (rd_T76 l (i : Int)).f0.f1) ∧ w'.cell? ⟨(ad.add (i * 14)).block, (ad.add (i * 14)).off + 2, none⟩ = some (.string (rd_T76 l (i : Int)).f0.f2) ∧ w'.cell? ⟨(ad.add (i * 14)).block, (ad.add (i * 14)).off + 3, none⟩ = some (.string (rd_T76 l (i : Int)).f1.f0) ∧ w'.cell? ⟨(ad.add (i * 14)).block, (ad.add (i * 14)).off + 4, none⟩ = some (.string (rd_T76 l (i : Int)).f1.f1) ∧ w'.cell? ⟨(ad.add (i * 14)).block, (ad.add (i * 14)).off + 5, none⟩ = some (.string (rd_T76 l (i : Int)).f1.f2) ∧ w'.cell? ⟨(ad.add (i * 14)).block, (ad.add (i * 14)).off + 6, none⟩ = some (.string (rd_T76 l (i : Int)).f1.f3) ∧ w'.cell? ⟨(ad.add (i * 14)).block, (ad.add (i * 14)).off + 7, none⟩ = some (.int .i64 (rd_T76 l (i : Int)).f1.f4) ∧ w'.cell? ⟨(ad.add (i * 14)).block, (ad.add (i * 14)).off + 8, none⟩ = some (.int .i64 (rd_T76 l (i : Int)).f1.f5) ∧ w'.cell? ⟨(ad.add (i * 14)).block, (ad.add (i * 14)).off + 9, none⟩ = some (.int .i64 (rd_T76 l (i : Int)).f1.f6) ∧ w'.cell? ⟨(ad.add (i * 14)).block, (ad.add (i * 14)).off + 10, none⟩ = some (.bool (rd_T76 l (i : Int)).f1.f7) ∧ w'.cell? ⟨(ad.add (i * 14)).block, (ad.add (i * 14)).off + 11, none⟩ = some (.bool (rd_T76 l (i : Int)).f1.f8) ∧ w'.cell? ⟨(ad.add (i * 14)).block, (ad.add (i * 14)).off + 12, none⟩ = some (.bool (rd_T76 l (i : Int)).f1.f9) ∧ w'.cell? ⟨(ad.add (i * 14)).block, (ad.add (i * 14)).off + 13, none⟩ = some (.int .i64 (rd_T76 l (i : Int)).f1.f10) ∧ w'.cell? ⟨w.heap.size, 0, none⟩ = some (.string t0) ∧ w'.cell? ⟨w.heap.size, 1, none⟩ = some (.string t1) ∧ w'.cell? ⟨w.heap.size, 2, none⟩ = some (.string t2) := fun w' hb => ⟨hb, keepCell hb h0, keepCell hb h1, keepCell hb h2, keepCell hb h3, keepCell hb h4, keepCell hb h5, keepCell hb h6, keepCell hb h7, keepCell hb h8, keepCell hb h9, keepCell hb h10, keepCell hb h11, keepCell hb h12, keepCell hb h13, keepCell hb y0, keepCell hb y1, keepCell hb y2⟩
        have hSB := Aside0.mk hS
        clear hS h0 h1 h2 h3 h4 h5 h6 h7 h8 h9 h10 h11 h12 h13 y0 y1 y2
        go_wp2
        go_region_held3 (fun w' => Below wr.heap.size wr w' ∧ w'.cell? (ad.add (i * 14)) = some (.string (rd_T76 l (i : Int)).f0.f0) ∧ w'.cell? ⟨(ad.add (i * 14)).block, (ad.add (i * 14)).off + 1, none⟩ = some (.string (rd_T76 l (i : Int)).f0.f1) ∧ w'.cell? ⟨(ad.add (i * 14)).block, (ad.add (i * 14)).off + 2, none⟩ = some (.string (rd_T76 l (i : Int)).f0.f2) ∧ w'.cell? ⟨(ad.add (i * 14)).block, (ad.add (i * 14)).off + 3, none⟩ = some (.string (rd_T76 l (i : Int)).f1.f0) ∧ w'.cell? ⟨(ad.add (i * 14)).block, (ad.add (i * 14)).off + 4, none⟩ = some (.string (rd_T76 l (i : Int)).f1.f1) ∧ w'.cell? ⟨(ad.add (i * 14)).block, (ad.add (i * 14)).off + 5, none⟩ = some (.string (rd_T76 l (i : Int)).f1.f2) ∧ w'.cell? ⟨(ad.add (i * 14)).block, (ad.add (i * 14)).off + 6, none⟩ = some (.string (rd_T76 l (i : Int)).f1.f3) ∧ w'.cell? ⟨(ad.add (i * 14)).block, (ad.add (i * 14)).off + 7, none⟩ = some (.int .i64 (rd_T76 l (i : Int)).f1.f4) ∧ w'.cell? ⟨(ad.add (i * 14)).block, (ad.add (i * 14)).off + 8, none⟩ = some (.int .i64 (rd_T76 l (i : Int)).f1.f5) ∧ w'.cell? ⟨(ad.add (i * 14)).block, (ad.add (i * 14)).off + 9, none⟩ = some (.int .i64 (rd_T76 l (i : Int)).f1.f6) ∧ w'.cell? ⟨(ad.add (i * 14)).block, (ad.add (i * 14)).off + 10, none⟩ = some (.bool (rd_T76 l (i : Int)).f1.f7) ∧ w'.cell? ⟨(ad.add (i * 14)).block, (ad.add (i * 14)).off + 11, none⟩ = some (.bool (rd_T76 l (i : Int)).f1.f8) ∧ w'.cell? ⟨(ad.add (i * 14)).block, (ad.add (i * 14)).off + 12, none⟩ = some (.bool (rd_T76 l (i : Int)).f1.f9) ∧ w'.cell? ⟨(ad.add (i * 14)).block, (ad.add (i * 14)).off + 13, none⟩ = some (.int .i64 (rd_T76 l (i : Int)).f1.f10) ∧ w'.cell? ⟨w.heap.size, 0, none⟩ = some (.string t0) ∧ w'.cell? ⟨w.heap.size, 1, none⟩ = some (.string t1) ∧ w'.cell? ⟨w.heap.size, 2, none⟩ = some (.string t2))
          ((refine hSB.out _ ?_; with_reducible repeat (first | exact And.left (by assumption) | exact below_undrew (And.left (by assumption)) | exact below_step (And.left (by assumption)) hb | exact Below.refl _ _ | refine below_alloc ?_ _ | refine below_drew1 ?_ | refine pw_below_drewN ?_ _)))
          (first | (go_at_call 51; refine (placeCmp _ _ _ _ _).mono ?_; rintro e w' ⟨rfl, hb⟩))
        have hb := And.left ‹Below wr.heap.size wr _ ∧ _›
        go_wp2
        go_ret2
        refine ⟨?_, below_step HB.out hb⟩
        rw [HH.out, ← HI.out]
        first | rfl | (congr; done) | (simp; done)
      · have e2 : decide ((i : Int) < (l.length : Int)) = false := decide_eq_false (by omega)
        have e2b : decide (i < l.length) = false := decide_eq_false hl
        have HH := Aside0.mk (show bsHit l t0 t1 t2 = false by unfold bsHit; rw [← hi, decide_eq_false hl, Bool.false_and])
        clear hl hlt hi
        go_wp2
        go_quiet (fail)
        go_wp2
        go_ret2
        refine ⟨?_, pw_below_drewN HB.out _⟩
        rw [HH.out, ← HI.out]
        rfl
def table_place_Key.f (l : List S76) (t0 t1 t2 : ByteArray) : Option (Int × Bool) := if l.length ≤ 4611686018427387903 then some ((bsI l t0 t1 t2 : Int), bsHit l t0 t1 t2) else none
set_option maxHeartbeats 4000000 in
set_option maxRecDepth 100000 in
theorem table_place_Key.calls (A0 : Option Addr) (c0 : Nat) (l : List S76) (t0 t1 t2 : ByteArray) (r1 : Int) (r2 : Bool) (w : World) (hr : Kd.C k76 w A0 l.length l) (hc : l.length ≤ c0) (h : table_place_Key.f l t0 t1 t2 = some (r1, r2)) :
    Calls Tryd.prog 43 #[.agg #[.slice A0 l.length c0], .agg #[.string t0, .string t1, .string t2]] w fun e w' => e = .returned (.tuple #[.int .i64 r1, .bool r2]) ∧ Below w.heap.size w w' := by
  unfold table_place_Key.f at h
  by_cases hn : l.length ≤ 4611686018427387903
  · rw [if_pos hn] at h
    simp only [Option.some.injEq, Prod.mk.injEq] at h
    obtain ⟨rfl, rfl⟩ := h
    have hu27 := Tryd.underlying44
    have HR := Aside0.mk hr
    have HC := Aside0.mk hc
    have HN := Aside0.mk hn
    clear hr hc hn
    go_enter Tryd.func43, Tryd.ntmps43
    go_wp2_with (go_at_call 50; refine (searchCalls _ _ l _ _ _ _ (Kd.C_alloc (Kd.C_alloc HR.out _) _) HC.out HN.out).mono ?_; rintro e w2 ⟨rfl, hb⟩)
    go_ret2
    refine ⟨rfl, below_step ?_ hb⟩
    repeat (first | exact Below.refl _ _ | apply below_alloc)
  · rw [if_neg hn] at h; exact absurd h (by simp)
end Go.Proofs.YtccmackhhppbdaaDoor.Print
