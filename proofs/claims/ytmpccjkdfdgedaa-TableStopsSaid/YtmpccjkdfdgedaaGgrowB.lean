/- slices.Grow at a nil slice, walked by hand, under the print's own form of contract. -/
import Derived.Test.YtmpccjkdfdgedaaPrint0
import Derived.LoopTactic
import Derived.Handy
namespace Go.Proofs.Ytmpccjkdfdgedaa.Print
open Go.RowKit Go.Proofs.YtmpccjkdfdgedaaW.PrintWords Go.Proofs.YtmpccjkdfdgedaaW.PrintLast Go.Proofs.YtmpccjkdfdgedaaW.PrintMore
set_option linter.unusedVariables false
set_option linter.unusedSimpArgs false

set_option maxHeartbeats 4000000 in
set_option maxRecDepth 100000 in
theorem growBack (n : Int) (w : World) (hn : 0 < n) (hm : n ≤ 1099511627776) : Calls Try.prog 39 #[.slice none 0 0, .int .i64 n] w fun e w' => ∃ v0_ : Value, e = .returned v0_ ∧ Kd.R k72 72 w' w.heap.size (fun _ => True) v0_ [] ∧ Below w.heap.size w w' := by
  have e1 : decide (n < 0) = false := decide_eq_false (by omega)
  have e2 : decide (0 < n) = true := decide_eq_true (by omega)
  have e3 : wrap64 n = n := by unfold wrap64; omega
  have hb : Try.t72.bytes = 16 := rfl
  have hns : Builtin.nextslicecap n.toNat 0 = n.toNat := by unfold Builtin.nextslicecap; rw [if_pos (by omega)]
  go_enter Try.func39, Try.ntmps39
  go_wp2
  all_goals (try (exfalso; omega))
  all_goals (try (exfalso; simp only [hb, hns] at *; omega))
  go_ret
  have hge := grownCap_ge w n.toNat 0 72
  have hcap : n.toNat ≤ maxLen := by unfold maxLen; omega
  refine ⟨_, rfl, ⟨fun _ _ => trivial, [], ⟨rfl, .inr ⟨w.heap.size, _, _, rfl, Nat.le_refl _, heap_alloc_new _ _, Nat.zero_le _, grownCap_le_maxLen w n.toNat 0 72 hcap, ?_, rfl⟩⟩, Reps.none _ _⟩, (below_alloc (Below.refl _ _) _).drew⟩
  rw [Array.size_append, size_zeroCells, size_zeroCells]
  have hz : (k72 : Kd S72).sz = 2 := rfl
  rw [hz]
  show n.toNat * 2 + (grownCap w n.toNat 0 72 - n.toNat) * 2 = grownCap w n.toNat 0 72 * 2
  omega
set_option maxHeartbeats 4000000 in
set_option maxRecDepth 100000 in
theorem growBack0 (w : World) : Calls Try.prog 39 #[.slice none 0 0, .int .i64 0] w fun e w' => ∃ v0_ : Value, e = .returned v0_ ∧ Kd.R k72 72 w' w.heap.size (fun _ => True) v0_ [] ∧ Below w.heap.size w w' := by
  go_enter Try.func39, Try.ntmps39
  go_wp2
  go_ret
  exact ⟨_, rfl, Kd.R_nil _ _ _ _ _, Below.refl _ _⟩
def slices_Grow_Back.f (l : List S72) (n : Int) : Option (List S72) := if l = [] ∧ 0 ≤ n ∧ n ≤ 1099511627776 then some [] else none
theorem slices_Grow_Back.calls (A0 : Option Addr) (c0 : Nat) (l : List S72) (n : Int) (r : List S72) (w : World) (hr : Kd.C k72 w A0 l.length l) (hc : l.length ≤ c0) (h : slices_Grow_Back.f l n = some r) (hA : A0 = none ∧ c0 = 0 := by exact ⟨rfl, rfl⟩) :
    Calls Try.prog 39 #[.slice A0 l.length c0, .int .i64 n] w fun e w' => ∃ v0_ : Value, e = .returned v0_ ∧ Kd.R k72 72 w' w.heap.size (fun _ => True) v0_ r ∧ Below w.heap.size w w' := by
  unfold slices_Grow_Back.f at h
  by_cases hh : l = [] ∧ 0 ≤ n ∧ n ≤ 1099511627776
  · rw [if_pos hh] at h
    obtain rfl := Option.some.inj h
    obtain ⟨rfl, rfl⟩ := hA
    obtain ⟨rfl, h0, h1⟩ := hh
    by_cases hz : n = 0
    · subst hz; exact growBack0 w
    · exact growBack n w (by omega) h1
  · rw [if_neg hh] at h; exact absurd h (by simp)
end Go.Proofs.Ytmpccjkdfdgedaa.Print
