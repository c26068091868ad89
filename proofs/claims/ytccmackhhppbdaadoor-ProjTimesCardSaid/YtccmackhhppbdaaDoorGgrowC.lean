/- slices.Grow at a nil slice, walked by hand, under the print's own form of contract. -/
import Derived.Test.YtccmackhhppbdaaDoorPrint0
import Derived.LoopTactic
import Derived.Handy
namespace Go.Proofs.YtccmackhhppbdaaDoor.Print
open Go.RowKit Go.Proofs.YtccmackhhppbdaaDoorW.PrintWords Go.Proofs.YtccmackhhppbdaaDoorW.PrintLast Go.Proofs.YtccmackhhppbdaaDoorW.PrintMore
set_option linter.unusedVariables false
set_option linter.unusedSimpArgs false

set_option maxHeartbeats 4000000 in
set_option maxRecDepth 100000 in
theorem growKey (n : Int) (w : World) (hn : 0 < n) (hm : n ≤ 1099511627776) : Calls Tryd.prog 52 #[.slice none 0 0, .int .i64 n] w fun e w' => ∃ v0_ : Value, e = .returned v0_ ∧ Kd.R k76 76 w' w.heap.size (fun _ => True) v0_ [] ∧ Below w.heap.size w w' := by
  have e1 : decide (n < 0) = false := decide_eq_false (by omega)
  have e2 : decide (0 < n) = true := decide_eq_true (by omega)
  have e3 : wrap64 n = n := by unfold wrap64; omega
  have hb : Tryd.t76.bytes = 152 := rfl
  have hns : Builtin.nextslicecap n.toNat 0 = n.toNat := by unfold Builtin.nextslicecap; rw [if_pos (by omega)]
  go_enter Tryd.func52, Tryd.ntmps52
  go_wp2
  all_goals (try (exfalso; omega))
  all_goals (try (exfalso; simp only [hb, hns] at *; omega))
  go_ret
  have hge := grownCap_ge w n.toNat 0 76
  have hcap : n.toNat ≤ maxLen := by unfold maxLen; omega
  refine ⟨_, rfl, ⟨fun _ _ => trivial, [], ⟨rfl, .inr ⟨w.heap.size, _, _, rfl, Nat.le_refl _, heap_alloc_new _ _, Nat.zero_le _, grownCap_le_maxLen w n.toNat 0 76 hcap, ?_, rfl⟩⟩, Reps.none _ _⟩, (below_alloc (Below.refl _ _) _).drew⟩
  rw [Array.size_append, size_zeroCells, size_zeroCells]
  have hz : (k76 : Kd S76).sz = 14 := rfl
  rw [hz]
  show n.toNat * 14 + (grownCap w n.toNat 0 76 - n.toNat) * 14 = grownCap w n.toNat 0 76 * 14
  omega
set_option maxHeartbeats 4000000 in
set_option maxRecDepth 100000 in
theorem growKey0 (w : World) : Calls Tryd.prog 52 #[.slice none 0 0, .int .i64 0] w fun e w' => ∃ v0_ : Value, e = .returned v0_ ∧ Kd.R k76 76 w' w.heap.size (fun _ => True) v0_ [] ∧ Below w.heap.size w w' := by
  go_enter Tryd.func52, Tryd.ntmps52
  go_wp2
  go_ret
  exact ⟨_, rfl, Kd.R_nil _ _ _ _ _, Below.refl _ _⟩
def slices_Grow_Key.f (l : List S76) (n : Int) : Option (List S76) := if l = [] ∧ 0 ≤ n ∧ n ≤ 1099511627776 then some [] else none
theorem slices_Grow_Key.calls (A0 : Option Addr) (c0 : Nat) (l : List S76) (n : Int) (r : List S76) (w : World) (hr : Kd.C k76 w A0 l.length l) (hc : l.length ≤ c0) (h : slices_Grow_Key.f l n = some r) (hA : A0 = none ∧ c0 = 0 := by exact ⟨rfl, rfl⟩) :
    Calls Tryd.prog 52 #[.slice A0 l.length c0, .int .i64 n] w fun e w' => ∃ v0_ : Value, e = .returned v0_ ∧ Kd.R k76 76 w' w.heap.size (fun _ => True) v0_ r ∧ Below w.heap.size w w' := by
  unfold slices_Grow_Key.f at h
  by_cases hh : l = [] ∧ 0 ≤ n ∧ n ≤ 1099511627776
  · rw [if_pos hh] at h
    obtain rfl := Option.some.inj h
    obtain ⟨rfl, rfl⟩ := hA
    obtain ⟨rfl, h0, h1⟩ := hh
    by_cases hz : n = 0
    · subst hz; exact growKey0 w
    · exact growKey n w (by omega) h1
  · rw [if_neg hh] at h; exact absurd h (by simp)
end Go.Proofs.YtccmackhhppbdaaDoor.Print
