/- (Jar).List: its cookies, in order, as a slice of its own. -/
import Derived.Test.YtccmackhhppbdaaDoorGallC
namespace Go.Proofs.YtccmackhhppbdaaDoor.Print
open Go.RowKit Go.Proofs.YtccmackhhppbdaaDoorW.PrintWords Go.Proofs.YtccmackhhppbdaaDoorW.PrintLast Go.Proofs.YtccmackhhppbdaaDoorW.PrintMore Go.Proofs.YtccmackhhppbdaaDoor.Range Go.Shelf
set_option linter.unusedVariables false
set_option linter.unusedSimpArgs false
attribute [local go_sem] Oper.semAt_some

def cellsC (x : S27) : List Value := [.string x.f0, .string x.f1, .string x.f2, .string x.f3, .int .i64 x.f4, .int .i64 x.f5, .int .i64 x.f6, .bool x.f7, .bool x.f8, .bool x.f9, .int .i64 x.f10]
theorem cells_new (W : World) (cs : List Value) (t : TypeId) : ∀ j u, cs[j]? = some u → (W.alloc (.cells cs.toArray t)).cell? ((⟨W.heap.size, 0, none⟩ : Addr).add j) = some u := by
  intro j u h
  rw [show (⟨W.heap.size, 0, none⟩ : Addr).add j = ⟨W.heap.size, j, none⟩ by simp [Addr.add]; omega, blk_cell (blk_new W (.cells cs.toArray t)) j]
  simpa using h
def cRow (l : List S76) (j : Nat) : List Value := (l.take j).flatMap fun x => cellsC x.f1
def cLen (l : List S76) (j : Nat) : Nat := (l.take j).length
theorem reps_cookies (w : World) (base : Nat) (ok : Nat → Prop) (l : List S76) : ∀ j, j ≤ l.length → Reps (fun x cs => k27.M w base ok x cs) 11 ((l.take j).map (·.f1)) (cRow l j)
  | 0, _ => by simpa [cRow] using Reps.none _ _
  | j + 1, h => by
    have h1 := reps_cookies w base ok l j (by omega)
    have ht : l.take (j + 1) = l.take j ++ [l[j]] := by rw [List.take_add_one, List.getElem?_eq_getElem (by omega)]; rfl
    have h2 := Reps.snoc h1 (k27_mkM w base ok (l[j]).f1) rfl
    unfold cRow at h2 ⊢
    rw [ht, List.map_append, List.flatMap_append]
    exact h2
theorem infoC : (Tryd.prog.info? 27).map (fun i => (i.zero, i.size, i.bytes)) = some (some (.agg #[.string ⟨#[]⟩, .string ⟨#[]⟩, .string ⟨#[]⟩, .string ⟨#[]⟩, .int .i64 0, .int .i64 0, .int .i64 0, .bool false, .bool false, .bool false, .int .i64 0]), 11, 104) := by kernel_rfl
def jar_List.f (l : List S76) : Option (List S27) := if l.length ≤ 1099511627776 then some (l.map (·.f1)) else none
set_option maxHeartbeats 4000000 in
set_option maxRecDepth 100000 in
theorem jar_List.calls (A0 : Option Addr) (c0 : Nat) (l : List S76) (r : List S27) (w : World) (hr : Kd.C k76 w A0 l.length l) (hc : l.length ≤ c0) (h : jar_List.f l = some r) :
    Calls Tryd.prog 21 #[.agg #[.slice A0 l.length c0]] w fun e w' => ∃ v0_ : Value, e = .returned v0_ ∧ Kd.R k27 27 w' w.heap.size (fun _ => True) v0_ r ∧ Below w.heap.size w w' := by
  unfold jar_List.f at h
  by_cases hn : l.length ≤ 1099511627776
  case neg => rw [if_neg hn] at h; exact absurd h (by simp)
  rw [if_pos hn] at h
  obtain rfl := Option.some.inj h
  have huJ := Tryd.underlying48
  have huH := Tryd.underlying46
  have huT := Tryd.underlying44
  have huC := Tryd.underlying27
  have huL := Tryd.underlying52
  refine calls_of_marks Tryd.func21 rfl ?_
  simp only [Tryd.ntmps21, List.size_toArray, List.length_cons, List.length_nil, Nat.reduceAdd, Nat.reduceSub, Array.replicate_succ, Array.replicate_zero, List.push_toArray, List.append_toArray, List.nil_append, List.cons_append]
  obtain ⟨i0, hi, hz0, hz1, hz2⟩ := info_parts infoC
  go_wp2
  have bO := Boxed.new (w.alloc (.cells #[.slice A0 l.length c0] 48)) 52 (.slice none 0 0)
  rw [World.size_alloc] at bO
  have hB0 : Below w.heap.size w ((w.alloc (.cells #[.slice A0 l.length c0] 48)).alloc (.cells #[.slice none 0 0] 52)) := ((Below.refl _ w).alloc (Nat.le_refl _) _).alloc (by simp) _
  have hIown := (OwnFrom.and (Own.from (holdsRow_own w.heap.size (w.heap.size + 1) 52 27 11 (cLen l) (cRow l) (fun _ _ => True)) (((w.alloc (.cells #[.slice A0 l.length c0] 48)).alloc (.cells #[.slice none 0 0] 52)).heap.size)) (ownFrom_below (Nat.le_refl _) (by simp; omega)) : OwnFrom _ (fun j W => (∃ v, Boxed W (w.heap.size + 1) 52 v ∧ W.ownsRow w.heap.size 27 11 v (cLen l j) (cRow l j) ∧ True) ∧ Below w.heap.size w W))
  refine wp_rangeB (gf := 33) (fb := #[.agg #[.slice A0 l.length c0]]) (n₀ := w.heap.size) (enc := encRow) (xs := l) rfl (enters_of Tryd.func33 (by kernel_rfl) rfl)
    (all_tells A0 c0 l w _ 8 hr hc (by omega) hB0) (by simp; omega) (fun _ _ => rfl)
    (fun j W => (∃ v, Boxed W (w.heap.size + 1) 52 v ∧ W.ownsRow w.heap.size 27 11 v (cLen l j) (cRow l j) ∧ True) ∧ Below w.heap.size w W)
    (fun _ _ _ => False)
    hIown
    (fun _ _ _ _ _ hs _ _ => hs)
    ⟨⟨_, bO, World.ownsRow_nil _ _ _ _, trivial⟩, hB0⟩
    (RoundB (fun x g => { tmps := #[.agg #[.slice A0 l.length c0], .pointer (some ⟨w.heap.size, 0, none⟩), .slice none 0 0, .pointer (some ⟨w.heap.size + 1, 0, none⟩), undef, .pointer (some ⟨g, 0, none⟩), .pointer (some ⟨w.heap.size, 0, none⟩), .pointer (some ⟨w.heap.size, 0, none⟩), .agg #[.slice A0 l.length c0], .func (.func 33) #[.agg #[.slice A0 l.length c0]] #[], .agg #[.string x.f0.f0, .string x.f0.f1, .string x.f0.f2], .agg #[.string x.f1.f0, .string x.f1.f1, .string x.f1.f2, .string x.f1.f3, .int .i64 x.f1.f4, .int .i64 x.f1.f5, .int .i64 x.f1.f6, .bool x.f1.f7, .bool x.f1.f8, .bool x.f1.f9, .int .i64 x.f1.f10], undef, undef, undef, undef, undef], defers := [] }) (fun x => #[.string x.f1.f0, .string x.f1.f1, .string x.f1.f2, .string x.f1.f3, .int .i64 x.f1.f4, .int .i64 x.f1.f5, .int .i64 x.f1.f6, .bool x.f1.f7, .bool x.f1.f8, .bool x.f1.f9, .int .i64 x.f1.f10]) 27 (fun j W => (∃ v, Boxed W (w.heap.size + 1) 52 v ∧ W.ownsRow w.heap.size 27 11 v (cLen l j) (cRow l j) ∧ True) ∧ Below w.heap.size w W))
    (RoundB.own hIown) ?assign ?body ?done ?stop
  case assign =>
    intro lp j x W hx hI
    have hS := hI.2.size
    unfold encRow
    gi_wp2
    exact ⟨(KeepsOthers.alloc _ _).from _, (Below.refl _ W).alloc hS _, W.heap.size, rfl, blk_new _ _, hIown.alloc _ hI⟩
  case body =>
    rintro lp j x a1 W hx ⟨g, hq, hg, ⟨v, hv, hrow, _⟩, hB⟩
    dsimp only at hq hg
    subst hq
    have hc := hv.cell
    have g0 := blkC hg (i := 0) rfl
    have g1 := blkC hg (i := 1) rfl
    have g2 := blkC hg (i := 2) rfl
    have g3 := blkC hg (i := 3) rfl
    have g4 := blkC hg (i := 4) rfl
    have g5 := blkC hg (i := 5) rfl
    have g6 := blkC hg (i := 6) rfl
    have g7 := blkC hg (i := 7) rfl
    have g8 := blkC hg (i := 8) rfl
    have g9 := blkC hg (i := 9) rfl
    have g10 := blkC hg (i := 10) rfl
    have hj : j < l.length := (List.getElem?_eq_some_iff.1 hx).1
    have hpl : cLen l j = j := by unfold cLen; simp; omega
    have hpl1 : cLen l (j + 1) = j + 1 := by unfold cLen; simp; omega
    rw [hpl] at hrow
    have htk : cRow l (j + 1) = cRow l j ++ cellsC x.f1 := by unfold cRow; rw [List.take_add_one, hx, List.flatMap_append]; rfl
    gi_wp2_with (gi_at_builtin; refine wpListIn_append_own _ rfl _ _ 52 rfl w.heap.size 27 i0 (.agg #[.string ⟨#[]⟩, .string ⟨#[]⟩, .string ⟨#[]⟩, .string ⟨#[]⟩, .int .i64 0, .int .i64 0, .int .i64 0, .bool false, .bool false, .bool false, .int .i64 0]) 11 104 huL hi hz0 hz1 hz2 rfl (by decide) _ _ _ rfl (hrow.alloc _) ⟨W.heap.size, 0, none⟩ 1 1 (cellsC x.f1) rfl rfl (cells_new W _ 27) (by simp [cellsC, Value.oneCell']) (by unfold maxLen; omega) (by omega) (by have := hB.size; simp; omega) ?_; intro v' w1 hown' hgrow _; obtain ⟨g', cap', rfl⟩ := ownsRow_succ hown'; obtain ⟨hv1, hv2, hr2, hk2, hb2⟩ := hv.appended (by decide) hrow hB.size (by omega) hown' hgrow; have hc1 := hv1.cell; have hf1 := hv1.frozen)
    exact ⟨hk2.from _, hb2, ⟨_, hv2, by rw [htk, hpl1]; first | exact hr2 | exact ⟨hr2, trivial⟩⟩, hB.trans hb2⟩
  case done =>
    rintro D W hD ⟨⟨v, hv, hrow, _⟩, hB⟩ hK
    have hc := hv.cell
    rw [show cLen l l.length = (l.map (·.f1)).length by unfold cLen; simp] at hrow
    go_wp2
    refine ⟨by simp, .inl ⟨_, _, rfl, run_takeDeferred hK, ?_⟩⟩
    refine ⟨_, results_tmp rfl _ _ _, v, rfl, ?_, hB.trans (belowK_b (w := w) (Nat.le_refl _) W D _ _ (by simp at hD; omega) hK rfl rfl)⟩
    have hq := reps_cookies (W.putObj D (.deferred none)) w.heap.size (fun k => True ∧ some k ≠ v.ownBlock) l l.length (Nat.le_refl _)
    rw [List.take_length] at hq
    exact ⟨fun _ _ => trivial, _, ownsRow_putObj hrow _ hK rfl, hq⟩
  case stop =>
    rintro D c j W _ _ h _
    exact h.elim
end Go.Proofs.YtccmackhhppbdaaDoor.Print
