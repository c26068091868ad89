/- (Table).Keys: its keys, in order, as a slice of its own. -/
import Derived.Test.YtmpccjkdfdgedaaGall
namespace Go.Proofs.Ytmpccjkdfdgedaa.Print
open Go.RowKit Go.Proofs.YtmpccjkdfdgedaaW.PrintWords Go.Proofs.YtmpccjkdfdgedaaW.PrintLast Go.Proofs.YtmpccjkdfdgedaaW.PrintMore Go.Proofs.Ytmpccjkdfdgedaa.Range Go.Shelf
set_option linter.unusedVariables false
set_option linter.unusedSimpArgs false
attribute [local go_sem] Oper.semAt_some

theorem reps_ints (xs : List Int) : Reps (fun x cs => cs = [Value.int .i64 x]) 1 xs (xs.map (Value.int .i64)) := by
  refine ⟨by simp, fun j p hj => ?_⟩
  have hlt := (List.getElem?_eq_some_iff.1 hj).1
  rw [Nat.mul_one, ← List.map_drop, ← List.map_take, List.take_one, List.head?_drop, hj]
  rfl
theorem infoI : (Try.prog.info? 35).map (fun i => (i.zero, i.size, i.bytes)) = some (some (.int .i64 0), 1, 8) := by kernel_rfl
def kRow (l : List S65) (j : Nat) : List Value := ((l.map (·.f0)).take j).map (Value.int .i64)
def kLen (l : List S65) (j : Nat) : Nat := ((l.map (·.f0)).take j).length
def table_Keys_Int.f (l : List S65) : Option (List Int) := if l.length ≤ 1099511627776 then some (l.map (·.f0)) else none
set_option maxHeartbeats 4000000 in
set_option maxRecDepth 100000 in
theorem table_Keys_Int.calls (A0 : Option Addr) (c0 : Nat) (l : List S65) (r : List Int) (w : World) (hr : Kd.C k65 w A0 l.length l) (hc : l.length ≤ c0) (h : table_Keys_Int.f l = some r) :
    Calls Try.prog 18 #[.agg #[.slice A0 l.length c0]] w fun e w' => ∃ v0_ : Value, e = .returned v0_ ∧ Kd.R (Kd.int .i64) 35 w' w.heap.size (fun _ => True) v0_ r ∧ Below w.heap.size w w' := by
  unfold table_Keys_Int.f at h
  by_cases hn : l.length ≤ 1099511627776
  case neg => rw [if_neg hn] at h; exact absurd h (by simp)
  rw [if_pos hn] at h
  obtain rfl := Option.some.inj h
  have hu27 := Try.underlying27
  have hu44 := Try.underlying44
  refine calls_of_marks Try.func18 rfl ?_
  simp only [Try.ntmps18, List.size_toArray, List.length_cons, List.length_nil, Nat.reduceAdd, Nat.reduceSub, Array.replicate_succ, Array.replicate_zero, List.push_toArray, List.append_toArray, List.nil_append, List.cons_append]
  obtain ⟨i0, hi, hz0, hz1, hz2⟩ := info_parts infoI
  go_wp2
  have bO := Boxed.new (w.alloc (.cells #[.slice A0 l.length c0] 27)) 44 (.slice none 0 0)
  rw [World.size_alloc] at bO
  have hB0 : Below w.heap.size w ((w.alloc (.cells #[.slice A0 l.length c0] 27)).alloc (.cells #[.slice none 0 0] 44)) := ((Below.refl _ w).alloc (Nat.le_refl _) _).alloc (by simp) _
  refine wp_range (gf := 23) (fb := #[.agg #[.slice A0 l.length c0]]) (n₀ := w.heap.size) (enc := fun x : S65 => #[.int .i64 x.f0, .int .i64 x.f1]) (xs := l) rfl (enters_of Try.func23 (by kernel_rfl) rfl)
    (all_tells A0 c0 l w _ 8 hr hc (by omega) hB0) (by simp; omega) (fun _ _ => rfl)
    (fun j W => (∃ v, Boxed W (w.heap.size + 1) 44 v ∧ W.ownsRow w.heap.size 35 1 v (kLen l j) (kRow l j) ∧ True) ∧ Below w.heap.size w W)
    (fun _ _ _ => False)
    (OwnFrom.and (Own.from (holdsRow_own w.heap.size (w.heap.size + 1) 44 35 1 (kLen l) (kRow l) (fun _ _ => True)) _) (ownFrom_below (Nat.le_refl _) (by simp; omega)))
    (fun _ _ _ _ _ hs _ _ => hs)
    ⟨⟨_, bO, World.ownsRow_nil _ _ _ _, trivial⟩, hB0⟩
    (fun x => { tmps := #[.agg #[.slice A0 l.length c0], .pointer (some ⟨w.heap.size, 0, none⟩), .slice none 0 0, .pointer (some ⟨w.heap.size + 1, 0, none⟩), .int .i64 x.f0, .agg #[.slice A0 l.length c0], .func (.func 23) #[.agg #[.slice A0 l.length c0]] #[], .int .i64 x.f0, .int .i64 x.f1, undef, undef, undef, undef, undef], defers := [] }) ?assign ?body ?done ?stop
  case assign =>
    intro lp x W K hx hK
    gi_wp2
    exact hK
  case body =>
    rintro lp j x W hx ⟨⟨v, hv, hrow, _⟩, hB⟩
    have hc := hv.cell
    have hj : j < l.length := (List.getElem?_eq_some_iff.1 hx).1
    have hpl : kLen l j = j := by unfold kLen; simp; omega
    have hpl1 : kLen l (j + 1) = j + 1 := by unfold kLen; simp; omega
    rw [hpl] at hrow
    have htk : kRow l (j + 1) = kRow l j ++ [.int .i64 x.f0] := by unfold kRow; rw [List.take_add_one, List.getElem?_map, hx, List.map_append]; rfl
    gi_wp2_with (gi_at_builtin; refine wpListIn_append_own _ rfl _ _ 44 rfl w.heap.size 35 i0 (.int .i64 0) 1 8 hu44 hi hz0 hz1 hz2 rfl (by decide) _ _ _ rfl (hrow.alloc _) ⟨W.heap.size, 0, none⟩ 1 1 [.int .i64 x.f0] rfl rfl (cell_one_new _ _ _) (by simp [Value.oneCell']) (by unfold maxLen; omega) (by omega) (by have := hB.size; simp; omega) ?_; intro v' w1 hown' hgrow _; obtain ⟨g', cap', rfl⟩ := ownsRow_succ hown'; obtain ⟨hv1, hv2, hr2, hk2, hb2⟩ := hv.appended (by decide) hrow hB.size (by omega) hown' hgrow; have hc1 := hv1.cell; have hf1 := hv1.frozen)
    exact ⟨hk2.from _, hb2, ⟨_, hv2, by rw [htk, hpl1]; exact ⟨hr2, trivial⟩⟩, hB.trans hb2⟩
  case done =>
    rintro D W hD ⟨⟨v, hv, hrow, _⟩, hB⟩ hK
    have hc := hv.cell
    rw [show kLen l l.length = (l.map (·.f0)).length by unfold kLen; simp, show kRow l l.length = (l.map (·.f0)).map (Value.int .i64) by unfold kRow; rw [List.take_of_length_le (by simp)]] at hrow
    go_wp2
    refine ⟨by simp, .inl ⟨_, _, rfl, run_takeDeferred hK, ?_⟩⟩
    refine ⟨_, results_tmp rfl _ _ _, v, rfl, ?_, hB.trans (belowK_b (w := w) (Nat.le_refl _) W D _ _ (by simp at hD; omega) hK rfl rfl)⟩
    exact ⟨fun _ _ => trivial, _, ownsRow_putObj hrow _ hK rfl, reps_ints _⟩
  case stop =>
    rintro D c j W _ _ h _
    exact h.elim
end Go.Proofs.Ytmpccjkdfdgedaa.Print
