/- An argument that is a slice of structs of three whole numbers: opened as one list. -/
import Derived.Test.YtmpccjkdfdgedaaPrint0
import Derived.Deep.Slices
import Derived.Deep.Fields
import Derived.ChangeSame
import Derived.ChangeArms
import Derived.OpenShut
namespace Go.Proofs.Ytmpccjkdfdgedaa.Print
open Go Go.RowKit Go.ChangeShapes Go.WideShapes Go.Deep Go.Proofs.YtmpccjkdfdgedaaW.PrintWords Go.Proofs.YtmpccjkdfdgedaaW.PrintLast Go.Proofs.YtmpccjkdfdgedaaW.PrintMore
set_option linter.unusedVariables false
section
variable {H : Type} {enc : TypeId × Value → H} {P : Program} {w : World} {base : Nat} {spare : Nat → Bool} {held : Bool}
/-- Of a slice of structs, whatever the number of one-cell fields: where each field lies, and how it reads (after the guide's own). -/
theorem open_fields {t e : TypeId} {fs : Array Field} {fuel : Nat} {cs : List Value} {x : DataW H × List MemPlace} (ht : P.underlying t = some (.slice e)) (he : P.underlying e = some (.struct fs))
    (hone : oneCellFields P fs = true) (hC : P.cellsOf e = fs.size) (h : DataW.trod enc P w base spare held fuel t cs = some x) :
    cs = [.slice none 0 0] ∨ ∃ (a : Addr) (len cap : Nat), cs = [.slice (some a) len cap] ∧ len ≤ cap ∧ cap ≤ maxLen ∧
      ∀ i, i < len → ∀ (j : Nat) (f : Field), fs[j]? = some f → ∃ (v : Value) (y : DataW H × List MemPlace) (n : Nat), w.cell? (a.add (i * fs.size + j)) = some v ∧ DataW.trod enc P w base spare held n f.type [v] = some y := by
  rcases open_slice ht h with h0 | ⟨a, len, cap, m, n, D, Pl, hcs, hb, hl, hm, hmm, hx, hi⟩
  · exact .inl h0.1
  · refine .inr ⟨a, len, cap, hcs, hl, hm, fun i hin j f hj => ?_⟩
    obtain ⟨cs', hc, ht'⟩ := hi i (by rw [hmm]; split <;> omega)
    rw [hC] at hc
    obtain ⟨ys, n', hn', hy, hlen, hyl, hf⟩ := DataW.trod_struct he ht'
    obtain ⟨_, hcl, hat⟩ := World.cells?_some hc
    obtain ⟨ho, hk⟩ := hone_of hone j f hj
    have hjl : j < fs.size := (Array.getElem?_eq_some_iff.1 hj).1
    have hcell := hat j hjl
    have hv : cs'[j]? = some (cs'[j]'(by omega)) := List.getElem?_eq_getElem (by omega)
    have h1 := hf j f hj
    rw [ho, hk] at h1
    have hone' : (cs'.drop j).take 1 = [cs'[j]'(by omega)] := by
      rw [List.drop_eq_getElem_cons (by omega)]
      rfl
    rw [hone'] at h1
    have hys : ys[j]? = some (ys[j]'(by omega)) := List.getElem?_eq_getElem (by omega)
    refine ⟨_, _, n', ?_, h1.trans hys⟩
    rw [← Go.Deep.add_add, hcell, hv]
end
theorem choose_list {α : Type} {Q : Nat → α → Prop} : ∀ (n : Nat), (∀ i, i < n → ∃ x, Q i x) → ∃ l : List α, l.length = n ∧ ∀ j x, l[j]? = some x → Q j x
  | 0, _ => ⟨[], rfl, fun j x h => by simp at h⟩
  | n + 1, h => by
    obtain ⟨l, hl, hq⟩ := choose_list n (fun i hi => h i (by omega))
    obtain ⟨x, hx⟩ := h n (by omega)
    refine ⟨l ++ [x], by simp [hl], fun j y hj => ?_⟩
    rcases Nat.lt_or_ge j l.length with hlt | hge
    · rw [List.getElem?_append_left hlt] at hj; exact hq j y hj
    · rw [List.getElem?_append_right hge] at hj
      have h0 : j - l.length = 0 := by
        cases hz : j - l.length with
        | zero => rfl
        | succ m => rw [hz] at hj; simp at hj
      rw [h0] at hj
      obtain rfl : x = y := by simpa using hj
      have : j = n := by omega
      subst this; exact hx
theorem openRow43 {H : Type} {enc : TypeId × Value → H} {w : World} {base : Nat} {spare : Nat → Bool} {held : Bool} {r : Reach} {b0 : Nat} {v : Value} {d : DataW H} {ps : List MemPlace}
    (hv : Value.okWide Try.prog w r b0 22 v) (h : DataW.Trod enc Try.prog w base spare held 22 v d ps) :
    ∃ (a : Option Addr) (c : Nat) (l : List S43), v = .slice a l.length c ∧ Kd.C k43 w a l.length l ∧ l.length ≤ c ∧ ∀ x ∈ l, (Lit.int .i64 x.f0).wf = true ∧ (Lit.int .i64 x.f1).wf = true ∧ (Lit.int .i64 x.f2).wf = true := by
  have hu := Try.underlying22
  have he := Try.underlying43
  have hi := Try.underlying3
  obtain ⟨a, len, cap, rfl⟩ := okWide_slice hu hv
  obtain ⟨fuel, hf⟩ := h
  rcases open_fields hu he (by kernel_rfl) (by kernel_rfl) hf with hcs | ⟨x, len', cap', hcs, hl, hm, hall⟩
  · simp [Value.cells] at hcs
    obtain ⟨rfl, rfl, rfl⟩ := hcs
    exact ⟨none, 0, [], rfl, ⟨rfl, by simp, fun h => by simp at h⟩, Nat.le_refl _, fun x hx => by simp at hx⟩
  · simp [Value.cells] at hcs
    obtain ⟨rfl, rfl, rfl⟩ := hcs
    have key : ∀ i, i < len → ∃ y : S43, (w.cell? (x.add (i * 3 + 0)) = some (.int .i64 y.f0) ∧ w.cell? (x.add (i * 3 + 1)) = some (.int .i64 y.f1) ∧ w.cell? (x.add (i * 3 + 2)) = some (.int .i64 y.f2)) ∧ (Lit.int .i64 y.f0).wf = true ∧ (Lit.int .i64 y.f1).wf = true ∧ (Lit.int .i64 y.f2).wf = true := by
      intro i hlt
      obtain ⟨v0, y0, n0, c0, t0⟩ := hall i hlt 0 _ rfl
      obtain ⟨v1, y1, n1, c1, t1⟩ := hall i hlt 1 _ rfl
      obtain ⟨v2, y2, n2, c2, t2⟩ := hall i hlt 2 _ rfl
      obtain ⟨m0, e0, _, w0⟩ := DataW.trod_int hi t0
      obtain ⟨m1, e1, _, w1⟩ := DataW.trod_int hi t1
      obtain ⟨m2, e2, _, w2⟩ := DataW.trod_int hi t2
      obtain rfl := (List.cons.inj e0).1
      obtain rfl := (List.cons.inj e1).1
      obtain rfl := (List.cons.inj e2).1
      exact ⟨⟨m0, m1, m2⟩, ⟨c0, c1, c2⟩, w0, w1, w2⟩
    obtain ⟨l, hlen, hq⟩ := choose_list len key
    subst hlen
    refine ⟨some x, cap, l, rfl, ⟨rfl, by unfold maxLen at hm; omega, fun _ => ⟨x, rfl, fun j p hj => ⟨_, rfl, k43_mk w p, fun i u hu => ?_⟩⟩⟩, hl, fun y hy => ?_⟩
    · obtain ⟨⟨h0, h1, h2⟩, _⟩ := hq j p hj
      match i, hu with
      | 0, hu => obtain rfl := Option.some.inj hu; exact h0
      | 1, hu => obtain rfl := Option.some.inj hu; exact h1
      | 2, hu => obtain rfl := Option.some.inj hu; exact h2
      | i + 3, hu => simp at hu
    · obtain ⟨j, hj⟩ := List.getElem?_of_mem hy
      exact (hq j y hj).2
/-- An array of three whole numbers, by value. -/
theorem openArr32 {H : Type} {enc : TypeId × Value → H} {w : World} {base : Nat} {spare : Nat → Bool} {held : Bool} {r : Reach} {b0 : Nat} {v : Value} {d : DataW H} {ps : List MemPlace}
    (hv : Value.okWide Try.prog w r b0 32 v) (h : DataW.Trod enc Try.prog w base spare held 32 v d ps) :
    ∃ x0 x1 x2 : Int, v = .agg #[.int .i64 x0, .int .i64 x1, .int .i64 x2] ∧ (Lit.int .i64 x0).wf = true ∧ (Lit.int .i64 x1).wf = true ∧ (Lit.int .i64 x2).wf = true := by
  have hu := Try.underlying32
  have hi := Try.underlying3
  simp only [Value.okWide, hu] at hv
  obtain ⟨cs, rfl, hsz, _⟩ := hv
  rw [show Try.prog.cellsOf 32 = 3 by kernel_rfl] at hsz
  obtain ⟨fuel, hf⟩ := h
  obtain ⟨xs, m, _, _, hlen, hx, hg⟩ := DataW.trod_array hu hf
  obtain ⟨l⟩ := cs
  match l, hsz with
  | [c0, c1, c2], _ =>
    have g0 := hg 0 (by omega)
    have g1 := hg 1 (by omega)
    have g2 := hg 2 (by omega)
    rw [show Try.prog.cellsOf 3 = 1 by kernel_rfl] at g0 g1 g2
    simp [Value.cells] at g0 g1 g2
    rw [List.getElem?_eq_getElem (by omega)] at g0 g1 g2
    obtain ⟨m0, e0, _, w0⟩ := DataW.trod_int hi g0
    obtain ⟨m1, e1, _, w1⟩ := DataW.trod_int hi g1
    obtain ⟨m2, e2, _, w2⟩ := DataW.trod_int hi g2
    obtain rfl := (List.cons.inj e0).1
    obtain rfl := (List.cons.inj e1).1
    obtain rfl := (List.cons.inj e2).1
    exact ⟨m0, m1, m2, rfl, w0, w1, w2⟩
end Go.Proofs.Ytmpccjkdfdgedaa.Print
