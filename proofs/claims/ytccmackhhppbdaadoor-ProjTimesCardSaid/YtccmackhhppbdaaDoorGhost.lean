/- Functions of layers 1 and 11, of the references and of Go's library that are walked by hand, under the print's own form of contract: ascii.Lower, the reference's Lower, strings.Split. The texts are no longer than Go's strings may be. -/
import Derived.Test.YtccmackhhppbdaaDoorGdec
import Derived.LoopTactic
import Derived.Shelf.Strings.Split
import Derived.Shelf.Strings.SplitShaped
namespace Go.Proofs.YtccmackhhppbdaaDoor.Print
open Go.RowKit Go.Proofs.YtccmackhhppbdaaDoorW.PrintWords Go.Proofs.YtccmackhhppbdaaDoorW.PrintLast Go.Proofs.YtccmackhhppbdaaDoorW.PrintMore
set_option linter.unusedVariables false
set_option linter.unusedSimpArgs false

/-! ### a row of bytes of the call's own -/
structure RowAt (W0 w : World) (g n : Nat) (f : Nat → Int) : Prop where
  cell : ∀ j, j < n → w.cell? ⟨g, j, none⟩ = some (.int .u8 (f j))
  frz : ∀ j, j < n → w.frozen? ⟨g, j, none⟩ = false
  below : Below W0.heap.size W0 w
  base : W0.heap.size ≤ g
  lt : g < w.heap.size
theorem RowAt.congr {W0 w : World} {g n : Nat} {f f' : Nat → Int} (h : RowAt W0 w g n f) (e : ∀ j, j < n → f j = f' j) : RowAt W0 w g n f' :=
  ⟨fun j hj => by rw [h.cell j hj, e j hj], h.frz, h.below, h.base, h.lt⟩
theorem RowAt.set {W0 w : World} {g n : Nat} {f : Nat → Int} (h : RowAt W0 w g n f) {k : Nat} (hk : k < n) (x : Int) : RowAt W0 (w.setCell ⟨g, k, none⟩ (.int .u8 x)) g n (fun j => if j = k then x else f j) := by
  refine ⟨fun j hj => ?_, fun j hj => ?_, h.below.setCell h.base _, h.base, by simpa using h.lt⟩
  · by_cases e : j = k
    · subst e
      rw [if_pos rfl]
      exact World.cell?_setCell_same _ _ _ (h.cell j hj)
    · rw [if_neg e]
      exact (World.cell?_setCell_other _ _ _ _ (by intro e2; injection e2 with _ e3; exact e e3.symm)).trans (h.cell j hj)
  · rw [World.frozen?_setCell]
    exact h.frz j hj
theorem row_made (w : World) (e : TypeId) (s : ByteArray) : RowAt w (Lib.bytesWorld w e s) w.heap.size s.size (fun j => (bytesOf s).getD j 0) := by
  refine ⟨fun j hj => ?_, fun j hj => ?_, Lib.bytesWorld_below w e s, Nat.le_refl _, by rw [Lib.bytesWorld_size]; omega⟩
  · rw [Lib.bytesWorld_cell w e s j hj]
    have hj' : j < s.data.size := hj
    simp [bytesOf, List.getD, Array.getElem?_eq_getElem hj']
  · have hb : (Lib.bytesCells w e s).size ≥ s.size := by simp [Lib.bytesCells]
    simp only [World.frozen?, Lib.bytesWorld_at_new]
    simp
    omega
theorem row_reads {W0 w : World} {g n : Nat} {f : Nat → Int} (h : RowAt W0 w g n f) (hn : n ≤ 9223372036854775807) : ReadsInt w .u8 (some ⟨g, 0, none⟩) n ((List.range n).map f) := by
  refine ⟨by simp, hn, fun _ => ⟨_, rfl, fun j hj => ?_⟩⟩
  rw [add_plain, h.cell j (by simpa using hj)]
  have hj' : j < n := by simpa using hj
  simp [hj']

/-! ### Lower -/
def lowL (c : Int) : Int := if 65 ≤ c ∧ c ≤ 90 then c + 32 else c
def lowB (s : ByteArray) : ByteArray := strOfNums ((bytesOf s).map lowL)
theorem lowB_range (s : ByteArray) : (List.range s.size).map (fun j => lowL ((bytesOf s).getD j 0)) = (bytesOf s).map lowL := by
  apply List.ext_getElem?
  intro i
  by_cases h : i < s.size
  · have h' : i < (bytesOf s).length := by rw [bytesOf_length]; exact h
    simp [h, h', List.getD]
  · simp [h, bytesOf_length]
theorem low_step {W0 w : World} {g k : Nat} {s : ByteArray} (h : RowAt W0 w g s.size (fun j => if j < k then lowL ((bytesOf s).getD j 0) else (bytesOf s).getD j 0)) {c : Int} (hk : k < s.size) (hc : c = (bytesOf s).getD k 0) (h0 : 65 ≤ c) (h1 : c ≤ 90) {x : Int} (hx : x = c + 32) :
    RowAt W0 (w.setCell ⟨g, k, none⟩ (.int .u8 x)) g s.size (fun j => if j < k + 1 then lowL ((bytesOf s).getD j 0) else (bytesOf s).getD j 0) := by
  refine (h.set hk x).congr fun j hj => ?_
  by_cases e : j = k
  · subst e
    simp only [if_true, if_pos (Nat.lt_succ_self _), ← hc]
    unfold lowL
    rw [if_pos ⟨h0, h1⟩, hx]
  · simp only [if_neg e]
    by_cases l : j < k
    · rw [if_pos l, if_pos (by omega)]
    · rw [if_neg l, if_neg (by omega)]
theorem low_stay {W0 w : World} {g k : Nat} {s : ByteArray} (h : RowAt W0 w g s.size (fun j => if j < k then lowL ((bytesOf s).getD j 0) else (bytesOf s).getD j 0)) {c : Int} (hk : k < s.size) (hc : c = (bytesOf s).getD k 0) (hn : ¬ (65 ≤ c ∧ c ≤ 90)) :
    RowAt W0 w g s.size (fun j => if j < k + 1 then lowL ((bytesOf s).getD j 0) else (bytesOf s).getD j 0) := by
  refine h.congr fun j hj => ?_
  by_cases e : j = k
  · subst e
    simp only [if_neg (Nat.lt_irrefl _), if_pos (Nat.lt_succ_self _), ← hc]
    unfold lowL
    rw [if_neg hn]
  · by_cases l : j < k
    · rw [if_pos l, if_pos (by omega)]
    · rw [if_neg l, if_neg (by omega)]
theorem low_back {W0 w : World} {g k cap : Nat} {s : ByteArray} (hs : s.size ≤ 9223372036854775806) (h : RowAt W0 w g s.size (fun j => if j < k then lowL ((bytesOf s).getD j 0) else (bytesOf s).getD j 0)) (hk : s.size ≤ k) :
    (convert 78 9 (.slice (some ⟨g, 0, none⟩) s.size cap)).run Tryd.prog w = .ok (.string (lowB s)) w := by
  have hr := row_reads (f := fun j => lowL ((bytesOf s).getD j 0)) (h.congr fun j hj => by rw [if_pos (by omega)]) (by omega)
  rw [lowB_range] at hr
  exact string_of_reads Tryd.underlying78 Tryd.underlying5 Tryd.underlying9 hr
def ascii_Lower.f (a0 : ByteArray) : Option ByteArray := if a0.size ≤ 9223372036854775806 then some (lowB a0) else none
set_option maxHeartbeats 4000000 in
set_option maxRecDepth 100000 in
theorem ascii_Lower.calls (a0 : ByteArray) (r : ByteArray) (w : World) (h : ascii_Lower.f a0 = some r) :
    Calls Tryd.prog 34 #[.string a0] w fun e w' => e = .returned (.string r) ∧ Below w.heap.size w w' := by
  unfold ascii_Lower.f at h
  by_cases hs : a0.size ≤ 9223372036854775806
  · rw [if_pos hs] at h
    obtain rfl := Option.some.inj h
    clear h
    obtain ⟨wB, g, cap, hconv, HR⟩ : ∃ wB g cap, (convert 9 78 (.string a0)).run Tryd.prog w = .ok (.slice (some ⟨g, 0, none⟩) a0.size cap) wB ∧ Aside0 (RowAt w wB g a0.size (fun j => (bytesOf a0).getD j 0)) :=
      ⟨_, _, _, Lib.run_convert_string_bytes w _ _ _ a0 Tryd.underlying9 Tryd.underlying78 Tryd.underlying5, ⟨row_made w _ a0⟩⟩
    go_enter Tryd.func34, Tryd.ntmps34
    go_wp2
    go_loopw [9] (fun v9 wr => ∃ k : Nat, k ≤ a0.size ∧ v9 = .int .i64 k ∧ Aside0 (RowAt w wr g a0.size (fun j => if j < k then lowL ((bytesOf a0).getD j 0) else (bytesOf a0).getD j 0))) (fun v9 _ => a0.size - (intOf v9).toNat)
    case atStart => exact ⟨0, Nat.zero_le _, rfl, ⟨HR.out.congr fun j _ => by simp⟩⟩
    case round =>
      obtain ⟨k, hk, rfl, HK⟩ := hrel
      by_cases hlt : k < a0.size
      · obtain ⟨c, hc⟩ : ∃ c : Int, c = (bytesOf a0).getD k 0 := ⟨_, rfl⟩
        have hcell : wr.cell? ⟨g, k, none⟩ = some (.int .u8 c) := by rw [HK.out.cell k hlt, if_neg (Nat.lt_irrefl _), hc]
        have hfr := HK.out.frz k hlt
        have HC := Aside0.mk hc
        clear hc
        go_wp2
        · go_roundw
          case rel => exact ⟨k + 1, by omega, by go_num, ⟨low_step HK.out hlt HC.out (by assumption) (by assumption) (by omega)⟩⟩
          case measure => simp [intOf]; omega
        · go_roundw
          case rel => exact ⟨k + 1, by omega, by go_num, ⟨low_stay HK.out hlt HC.out (by omega)⟩⟩
          case measure => simp [intOf]; omega
        · go_roundw
          case rel => exact ⟨k + 1, by omega, by go_num, ⟨low_stay HK.out hlt HC.out (by omega)⟩⟩
          case measure => simp [intOf]; omega
      · have hback := low_back (cap := cap) hs HK.out (by omega)
        go_wp2
        go_ret
        exact ⟨rfl, HK.out.below⟩
  · rw [if_neg hs] at h; exact absurd h (by simp)
/-! ### strings.Split, at a text that is not too long and a sep of a byte or more -/
def splitS (s sep : ByteArray) : List ByteArray := Lib.splitB sep 0 (Lib.countB s sep) s
def strings_Split.f (a0 a1 : ByteArray) : Option (List ByteArray) := if a0.size < 4294967281 ∧ 1 ≤ a1.size then some (splitS a0 a1) else none
theorem strings_Split.calls (a0 a1 : ByteArray) (r : List ByteArray) (w : World) (hG : Aside0 (LaidG w)) (h : strings_Split.f a0 a1 = some r) :
    Calls Tryd.prog 36 #[.string a0, .string a1] w fun e w' => ∃ v0_ : Value, e = .returned (v0_) ∧ Kd.R Kd.string 9 w' w.heap.size (fun _ => True) v0_ r ∧ Below w.heap.size w w' := by
  unfold strings_Split.f at h
  by_cases hc : a0.size < 4294967281 ∧ 1 ≤ a1.size
  · rw [if_pos hc] at h
    obtain rfl := Option.some.inj h
    obtain ⟨m, hm⟩ := hG.out.mlen
    have L := Tryd.laysM146
    refine (Any.strings_Split { L with } L.i9 a0 a1 m w hc.1 hm hc.2).mono ?_
    rintro e w' ⟨rfl, rfl⟩
    have hlen : (splitS a0 a1).length = Lib.countB a0 a1 + 1 := Lib.splitB_all a1 hc.2 0 _ a0 rfl
    have hle := Lib.countB_le a1 hc.2 a0.size a0 (Nat.le_refl _)
    refine ⟨_, rfl, Kd.R_of_own (enc := Value.string) ?_ (fun _ _ => trivial), (Below.refl _ _).alloc (Nat.le_refl _) _⟩
    rw [hlen]
    refine ⟨by simp [encs, hlen], .inr ⟨w.heap.size, _, ((splitS a0 a1).map Value.string).toArray, rfl, Nat.le_refl _, ?_, Nat.le_refl _, by unfold maxLen; omega, ?_, ?_⟩⟩
    · exact (show ∀ (w : World) (o : Obj), (w.alloc o).heap[w.heap.size]? = some o from fun w o => Array.getElem?_push_size) w _
    · simp [hlen]
    · rw [← hlen, Nat.mul_one]; exact List.take_of_length_le (by simp)
  · rw [if_neg hc] at h; exact absurd h (by simp)
end Go.Proofs.YtccmackhhppbdaaDoor.Print
