/- A range over a METHOD VALUE ('for k, v := range t.All'): the function's value bears its receiver, of which the library's laws on ranges do not speak. The law of the statement, under plain walks; the function's contract is one over the values that it tells, in order. -/
import Derived.RangeFuncBox
import Derived.RangeFuncBound
import Derived.RangeFuncLeaves
import Derived.RangeFuncCalls
import Derived.Shelf.Abstract
import Derived.WalkKit
namespace Go.Proofs.YtccmackhhppbdaaDoor.Range
open Go Go.RowKit

/-- What a function that holds a range over a function is left with: no panic. -/
def lastM (P : Program) (fn : Func) (R : Ending → World → Prop) : Exit → Act → World → Prop
  | .normal, a, w => bodyPostM Fence.wide 9 P fn R .normal a w
  | .ret, a, w => bodyPostM Fence.wide 9 P fn R .ret a w
  | _, _, _ => False
/-- A function that holds a range over a function: its plain contract out of its plain walk. -/
theorem calls_of_marks {P : Program} {f : FuncId} {fn : Func} {c : Code} {args : Array Value} {w : World} {R : Ending → World → Prop} (hf : P.funcs[f]? = some fn) (hb : fn.body = some c)
    (h : c.wp P (lastM P fn R) { tmps := args ++ Array.replicate (fn.ntmps - args.size) undef, defers := [] } w) : Calls P f args w R :=
  callsIn_wide.1 (callsIn_of_wp_marks (n := 9) (F := Fence.wide) hf hb trivial (wpIn_mono (wpIn_wide.2 h) (by rintro (_ | _ | _ | _ | _ | _) a w' hh <;> first | exact hh | exact hh.elim)))

/-- What a function that tells the values xs, one row of arguments after the other, comes to at any loop whose body keeps what lay below n₀. -/
def Tells (P : Program) (n : Nat) (gf : Nat) (fb : Array Value) (xs : List (Array Value)) (n₀ : Nat) (w : World) : Prop :=
  ∀ (l : Nat) (J Jx : Nat → World → Prop) (W : World), Below w.heap.size w W →
    (∀ j A B, J j A → A.grownBy B none → J j B) → (∀ j A B, Jx j A → A.grownBy B none → Jx j B) →
    (∀ j x W1, xs[j]? = some x → J j W1 → YieldAt Fence.wide (n - 1) P l x W1 fun e W' => (e = .returned (.bool true) ∧ J (j + 1) W' ∧ Below n₀ W1 W') ∨ (e = .returned (.bool false) ∧ Jx j W')) →
    J 0 W →
    CallsIn Fence.wide n P gf (fb ++ #[.func (.yield l) #[] #[]]) W fun e W' => (∃ v, e = .returned v) ∧ (J xs.length W' ∨ ∃ j, j < xs.length ∧ Jx j W')

/-- How a round's body may be left. -/
def endOf (B n₀ : Nat) (I : Nat → World → Prop) (Ix : Code → Nat → World → Prop) (j : Nat) (W : World) : Exit → Act → World → Prop
  | .normal, _, W' => KeepsFrom B W W' ∧ Below n₀ W W' ∧ I (j + 1) W'
  | .ret, _, W' => KeepsFrom B W W' ∧ Ix .ret j W'
  | .exit id, _, W' => KeepsFrom B W W' ∧ Ix (.exit id) j W'
  | .goto t, _, W' => KeepsFrom B W W' ∧ Ix (.goto t) j W'
  | .panic _, _, _ => False
  | .outgrown, _, _ => False

theorem wp_range {P : Program} {g : Operand} {ps : Array Tmp} {assign body : Code} {Q : Exit → Act → World → Prop} {a : Act} {w : World} {gf : Nat} {fb : Array Value} {α : Type} {enc : α → Array Value} {xs : List α} {n₀ : Nat}
    (hg : a.eval g = .func (.func gf) fb #[]) (eg : ∀ args w, (callFunc gf args).run P w = .ok (.enter gf args) w) (hseq : Tells P 8 gf fb (xs.map enc) n₀ w) (hn : n₀ ≤ w.heap.size) (hps : ∀ x ∈ xs, (enc x).size = ps.size)
    (I : Nat → World → Prop) (Ix : Code → Nat → World → Prop) (hI : OwnFrom w.heap.size I) (hIx : ∀ c, OwnFrom w.heap.size (Ix c)) (h0 : I 0 w) (a₁ : α → Act)
    (hassign : ∀ (l : Nat) (x : α) (W : World) (K : Act → World → Prop), x ∈ xs → K (a₁ x) W →
      assign.wpIn (Fence.wide.inRound l) 7 P (Exit.then K (fun _ _ _ => False)) { tmps := (ps.zip (enc x)).foldl (fun t (p, v) => t.setIfInBounds p v) a.tmps, defers := [] } W)
    (hbody : ∀ (l j : Nat) (x : α) (W : World), xs[j]? = some x → I j W → body.wpIn (Fence.wide.inRound l) 7 P (endOf w.heap.size n₀ I Ix j W) (a₁ x) W)
    (hdone : ∀ (D : Nat) (W : World), w.heap.size ≤ D → I xs.length W → W.heap[D]? = some (.deferred (some [])) → Q .normal { a with defers := { target := .collected D, args := #[] } :: a.defers } W)
    (hstop : ∀ (D : Nat) (c : Code) (j : Nat) (W : World), w.heap.size ≤ D → j < xs.length → Ix c j W → W.heap[D]? = some (.deferred (some [])) → c.wp P Q { a with defers := { target := .collected D, args := #[] } :: a.defers } W) :
    (Code.rangeFunc g ps assign body).wp P Q a w := by
  refine (wpIn_wide (n := 9)).1 (wpIn_rangeFunc ?_)
  intro fn _
  -- the record and the block that the statement lays
  generalize hR : (fun (st : LoopState) (pe : Option Code) => ({ state := st, pending := pe, fn := fn, tmps := a.tmps, params := ps, assign := assign, body := body, defers := w.heap.size } : Loop)) = rec
  have eR : ∀ st pe, rec st pe = { state := st, pending := pe, fn := fn, tmps := a.tmps, params := ps, assign := assign, body := body, defers := w.heap.size } := fun st pe => by rw [← hR]
  generalize hW1 : (w.alloc (.deferred (some []))).alloc (.loop (rec .ready none)) = W1
  have b1 : Below w.heap.size w W1 := by rw [← hW1]; exact ((Below.refl _ w).alloc (Nat.le_refl _) _).alloc (by simp) _
  have s1 : W1.heap.size = w.heap.size + 1 + 1 := by rw [← hW1]; simp
  have l1 : W1.heap[w.heap.size + 1]? = some (.loop (rec .ready none)) := by
    rw [← hW1]
    have := World.alloc_heap_new (w.alloc (.deferred (some []))) (.loop (rec .ready none))
    rwa [World.size_alloc] at this
  have k1 : W1.heap[w.heap.size]? = some (.deferred (some [])) := by
    rw [← hW1]
    exact (Below.heap_alloc _ _ _ (by simp)).trans (World.alloc_heap_new w _)
  have i1 : I 0 W1 := by rw [← hW1]; exact hI.alloc _ (hI.alloc _ h0)
  refine ⟨w.heap.size + 1, [{ target := .collected w.heap.size, args := #[] }], W1, { target := .fn (.func gf) #[], args := fb ++ #[.func (.yield (w.heap.size + 1)) #[] #[]] }, W1, gf, fb ++ #[.func (.yield (w.heap.size + 1)) #[] #[]], W1, ?_, ?_, fun _ _ => trivial, ?_, fun h => by simp [Fence.wide] at h, ?_⟩
  · rw [← hW1, eR]; exact run_enterLoop_outer _ _ _ _ _
  · simp only [resolve, hg]
    simp [go_sem, Deferred.ofValue]
  · simp [invoke, go_sem, eg]
  have keepN : ∀ {A B : World} {k : Nat} {o : Obj}, A.grownBy B none → A.heap[k]? = some o → B.heap[k]? = some o := fun hg hk => (hg.block _ (Array.getElem?_eq_some_iff.1 hk).1 (by simp)).trans hk
  refine (hseq (w.heap.size + 1)
    (fun j W => I j W ∧ W.heap[w.heap.size + 1]? = some (.loop (rec .ready none)) ∧ W.heap[w.heap.size]? = some (.deferred (some [])))
    (fun j W => ∃ c, Ix c j W ∧ W.heap[w.heap.size + 1]? = some (.loop (rec .done (some c))) ∧ W.heap[w.heap.size]? = some (.deferred (some [])))
    W1 b1
    (fun j A B h hg => ⟨hI j A B none h.1 hg (fun r e => by cases e), keepN hg h.2.1, keepN hg h.2.2⟩)
    (fun j A B h hg => by obtain ⟨c, h1, h2, h3⟩ := h; exact ⟨c, hIx c j A B none h1 hg (fun r e => by cases e), keepN hg h2, keepN hg h3⟩)
    ?_ ⟨i1, l1, k1⟩).mono ?_
  · rintro j x' W hx' ⟨hi, hl, hk⟩
    rw [List.getElem?_map] at hx'
    obtain ⟨x, hx, rfl⟩ := Option.map_eq_some_iff.1 hx'
    have hlt : w.heap.size + 1 < W.heap.size := (Array.getElem?_eq_some_iff.1 hl).1
    have hy := run_yield (P := P) (args := enc x) hl (by rw [eR]; exact hps x (List.mem_of_getElem? hx))
    rw [eR] at hy
    refine ⟨fn, _, assign, body, hy, roundIn_of_wpIn trivial (hassign _ x W _ (List.mem_of_getElem? hx) ⟨_, run_beginRound hl (by rw [eR]), ?_⟩)⟩
    generalize hW2 : W.putObj (w.heap.size + 1) (.loop { rec .ready none with state := .busy }) = W2
    have l2 : W2.heap[w.heap.size + 1]? = some (.loop { rec .ready none with state := .busy }) := by rw [← hW2]; exact World.putObj_heap_same hlt
    have k2 : W2.heap[w.heap.size]? = some (.deferred (some [])) := by rw [← hW2]; exact (World.putObj_heap_other (by omega)).trans hk
    have b2 : Below n₀ W W2 := by rw [← hW2]; exact belowK_b (w := w) hn _ _ _ _ (by omega) hl rfl rfl
    have i2 : I j W2 := by rw [← hW2]; exact hI.putObj _ hi (by omega) hl rfl
    refine wpIn_mono (hbody _ j x W2 hx i2) ?_
    have out : ∀ (jump : Option Code) (W3 : World), KeepsFrom w.heap.size W2 W3 → ∃ W4, (Instr.endRound (w.heap.size + 1) jump).run P W3 = .ok (.bool jump.isNone) W4 ∧ W4 = W3.putObj (w.heap.size + 1) (.loop (rec (if jump.isNone then .ready else .done) jump)) ∧ W3.heap[w.heap.size + 1]? = some (.loop { rec .ready none with state := .busy }) ∧
        W4.heap[w.heap.size + 1]? = some (.loop (rec (if jump.isNone then .ready else .done) jump)) ∧ W4.heap[w.heap.size]? = some (.deferred (some [])) := fun jump W3 h3 => by
      have l3 := h3.same _ _ (by omega) l2 rfl
      have k3 := h3.same _ _ (Nat.le_refl _) k2 rfl
      have hr := run_endRound (P := P) jump l3
      rw [eR] at hr
      exact ⟨_, by rw [hr, eR], rfl, l3, World.putObj_heap_same (Array.getElem?_eq_some_iff.1 l3).1, (World.putObj_heap_other (by omega)).trans k3⟩
    rintro e a3 W3 hp
    cases e with
    | normal =>
      obtain ⟨h1, h2, h3⟩ := hp
      obtain ⟨W4, hr, rfl, l3, l4, k4⟩ := out none W3 h1
      exact ⟨_, _, hr, .inl ⟨rfl, ⟨hI.putObj _ h3 (by omega) l3 rfl, l4, k4⟩, (b2.trans h2).trans (belowK_b (w := w) hn _ _ _ _ (by omega) l3 rfl rfl)⟩⟩
    | ret =>
      obtain ⟨h1, h3⟩ := hp
      obtain ⟨W4, hr, rfl, l3, l4, k4⟩ := out (some .ret) W3 h1
      exact ⟨_, _, hr, .inr ⟨rfl, .ret, (hIx _).putObj _ h3 (by omega) l3 rfl, l4, k4⟩⟩
    | exit id =>
      obtain ⟨h1, h3⟩ := hp
      obtain ⟨W4, hr, rfl, l3, l4, k4⟩ := out (some (.exit id)) W3 h1
      exact ⟨_, _, hr, .inr ⟨rfl, .exit id, (hIx _).putObj _ h3 (by omega) l3 rfl, l4, k4⟩⟩
    | goto t =>
      obtain ⟨h1, h3⟩ := hp
      obtain ⟨W4, hr, rfl, l3, l4, k4⟩ := out (some (.goto t)) W3 h1
      exact ⟨_, _, hr, .inr ⟨rfl, .goto t, (hIx _).putObj _ h3 (by omega) l3 rfl, l4, k4⟩⟩
    | panic ch => exact hp.elim
    | outgrown => exact hp.elim
  · rw [List.length_map]
    rintro e W2 ⟨⟨v, rfl⟩, (⟨hi, hl, hk⟩ | ⟨j, hj, c, hi, hl, hk⟩)⟩
    · exact ⟨none, _, by have := run_endLoop (P := P) hl (by rw [eR]; simp); rw [eR] at this; exact this, hdone _ _ (Nat.le_refl _) (hI.putObj _ hi (by omega) hl rfl) ((World.putObj_heap_other (by omega)).trans hk)⟩
    · exact ⟨some c, _, by have := run_endLoop (P := P) hl (by rw [eR]; simp); rw [eR] at this; exact this, wpIn_wide.2 (hstop _ c j _ (Nat.le_refl _) hj ((hIx c).putObj _ hi (by omega) hl rfl) ((World.putObj_heap_other (by omega)).trans hk))⟩

/-- The same where the assignment to the loop's variables lays blocks of its own (a variable that is a struct): A1 says what the body begins with. -/
theorem wp_rangeB {P : Program} {g : Operand} {ps : Array Tmp} {assign body : Code} {Q : Exit → Act → World → Prop} {a : Act} {w : World} {gf : Nat} {fb : Array Value} {α : Type} {enc : α → Array Value} {xs : List α} {n₀ : Nat}
    (hg : a.eval g = .func (.func gf) fb #[]) (eg : ∀ args w, (callFunc gf args).run P w = .ok (.enter gf args) w) (hseq : Tells P 8 gf fb (xs.map enc) n₀ w) (hn : n₀ ≤ w.heap.size) (hps : ∀ x ∈ xs, (enc x).size = ps.size)
    (I : Nat → World → Prop) (Ix : Code → Nat → World → Prop) (hI : OwnFrom w.heap.size I) (hIx : ∀ c, OwnFrom w.heap.size (Ix c)) (h0 : I 0 w) (A1 : Nat × α × Act → World → Prop) (hA1 : OwnFrom w.heap.size A1)
    (hassign : ∀ (l j : Nat) (x : α) (W : World), xs[j]? = some x → I j W →
      assign.wpIn (Fence.wide.inRound l) 7 P (Exit.then (fun a1 W1 => KeepsFrom w.heap.size W W1 ∧ Below n₀ W W1 ∧ A1 (j, x, a1) W1) (fun _ _ _ => False)) { tmps := (ps.zip (enc x)).foldl (fun t (p, v) => t.setIfInBounds p v) a.tmps, defers := [] } W)
    (hbody : ∀ (l j : Nat) (x : α) (a1 : Act) (W : World), xs[j]? = some x → A1 (j, x, a1) W → body.wpIn (Fence.wide.inRound l) 7 P (endOf w.heap.size n₀ I Ix j W) a1 W)
    (hdone : ∀ (D : Nat) (W : World), w.heap.size ≤ D → I xs.length W → W.heap[D]? = some (.deferred (some [])) → Q .normal { a with defers := { target := .collected D, args := #[] } :: a.defers } W)
    (hstop : ∀ (D : Nat) (c : Code) (j : Nat) (W : World), w.heap.size ≤ D → j < xs.length → Ix c j W → W.heap[D]? = some (.deferred (some [])) → c.wp P Q { a with defers := { target := .collected D, args := #[] } :: a.defers } W) :
    (Code.rangeFunc g ps assign body).wp P Q a w := by
  refine (wpIn_wide (n := 9)).1 (wpIn_rangeFunc ?_)
  intro fn _
  -- the record and the block that the statement lays
  generalize hR : (fun (st : LoopState) (pe : Option Code) => ({ state := st, pending := pe, fn := fn, tmps := a.tmps, params := ps, assign := assign, body := body, defers := w.heap.size } : Loop)) = rec
  have eR : ∀ st pe, rec st pe = { state := st, pending := pe, fn := fn, tmps := a.tmps, params := ps, assign := assign, body := body, defers := w.heap.size } := fun st pe => by rw [← hR]
  generalize hW1 : (w.alloc (.deferred (some []))).alloc (.loop (rec .ready none)) = W1
  have b1 : Below w.heap.size w W1 := by rw [← hW1]; exact ((Below.refl _ w).alloc (Nat.le_refl _) _).alloc (by simp) _
  have s1 : W1.heap.size = w.heap.size + 1 + 1 := by rw [← hW1]; simp
  have l1 : W1.heap[w.heap.size + 1]? = some (.loop (rec .ready none)) := by
    rw [← hW1]
    have := World.alloc_heap_new (w.alloc (.deferred (some []))) (.loop (rec .ready none))
    rwa [World.size_alloc] at this
  have k1 : W1.heap[w.heap.size]? = some (.deferred (some [])) := by
    rw [← hW1]
    exact (Below.heap_alloc _ _ _ (by simp)).trans (World.alloc_heap_new w _)
  have i1 : I 0 W1 := by rw [← hW1]; exact hI.alloc _ (hI.alloc _ h0)
  refine ⟨w.heap.size + 1, [{ target := .collected w.heap.size, args := #[] }], W1, { target := .fn (.func gf) #[], args := fb ++ #[.func (.yield (w.heap.size + 1)) #[] #[]] }, W1, gf, fb ++ #[.func (.yield (w.heap.size + 1)) #[] #[]], W1, ?_, ?_, fun _ _ => trivial, ?_, fun h => by simp [Fence.wide] at h, ?_⟩
  · rw [← hW1, eR]; exact run_enterLoop_outer _ _ _ _ _
  · simp only [resolve, hg]
    simp [go_sem, Deferred.ofValue]
  · simp [invoke, go_sem, eg]
  have keepN : ∀ {A B : World} {k : Nat} {o : Obj}, A.grownBy B none → A.heap[k]? = some o → B.heap[k]? = some o := fun hg hk => (hg.block _ (Array.getElem?_eq_some_iff.1 hk).1 (by simp)).trans hk
  refine (hseq (w.heap.size + 1)
    (fun j W => I j W ∧ W.heap[w.heap.size + 1]? = some (.loop (rec .ready none)) ∧ W.heap[w.heap.size]? = some (.deferred (some [])))
    (fun j W => ∃ c, Ix c j W ∧ W.heap[w.heap.size + 1]? = some (.loop (rec .done (some c))) ∧ W.heap[w.heap.size]? = some (.deferred (some [])))
    W1 b1
    (fun j A B h hg => ⟨hI j A B none h.1 hg (fun r e => by cases e), keepN hg h.2.1, keepN hg h.2.2⟩)
    (fun j A B h hg => by obtain ⟨c, h1, h2, h3⟩ := h; exact ⟨c, hIx c j A B none h1 hg (fun r e => by cases e), keepN hg h2, keepN hg h3⟩)
    ?_ ⟨i1, l1, k1⟩).mono ?_
  · rintro j x' W hx' ⟨hi, hl, hk⟩
    rw [List.getElem?_map] at hx'
    obtain ⟨x, hx, rfl⟩ := Option.map_eq_some_iff.1 hx'
    have hlt : w.heap.size + 1 < W.heap.size := (Array.getElem?_eq_some_iff.1 hl).1
    have hy := run_yield (P := P) (args := enc x) hl (by rw [eR]; exact hps x (List.mem_of_getElem? hx))
    rw [eR] at hy
    refine ⟨fn, _, assign, body, hy, roundIn_of_wpIn trivial (wpIn_mono (hassign _ j x W hx hi) ?_)⟩
    rintro (_ | _ | _ | _ | _ | _) a1 W1 hq <;> (try exact hq.elim)
    obtain ⟨q1, q2, q3⟩ := hq
    have l1' := q1.same _ _ (by omega) hl rfl
    have k1' := q1.same _ _ (Nat.le_refl _) hk rfl
    have hlt1 : w.heap.size + 1 < W1.heap.size := (Array.getElem?_eq_some_iff.1 l1').1
    refine ⟨_, run_beginRound l1' (by rw [eR]), ?_⟩
    generalize hW2 : W1.putObj (w.heap.size + 1) (.loop { rec .ready none with state := .busy }) = W2
    have l2 : W2.heap[w.heap.size + 1]? = some (.loop { rec .ready none with state := .busy }) := by rw [← hW2]; exact World.putObj_heap_same hlt1
    have k2 : W2.heap[w.heap.size]? = some (.deferred (some [])) := by rw [← hW2]; exact (World.putObj_heap_other (by omega)).trans k1'
    have b2 : Below n₀ W W2 := by rw [← hW2]; exact q2.trans (belowK_b (w := w) hn _ _ _ _ (by omega) l1' rfl rfl)
    have i2 : A1 (j, x, a1) W2 := by rw [← hW2]; exact hA1.putObj _ q3 (by omega) l1' rfl
    refine wpIn_mono (hbody _ j x a1 W2 hx i2) ?_
    have out : ∀ (jump : Option Code) (W3 : World), KeepsFrom w.heap.size W2 W3 → ∃ W4, (Instr.endRound (w.heap.size + 1) jump).run P W3 = .ok (.bool jump.isNone) W4 ∧ W4 = W3.putObj (w.heap.size + 1) (.loop (rec (if jump.isNone then .ready else .done) jump)) ∧ W3.heap[w.heap.size + 1]? = some (.loop { rec .ready none with state := .busy }) ∧
        W4.heap[w.heap.size + 1]? = some (.loop (rec (if jump.isNone then .ready else .done) jump)) ∧ W4.heap[w.heap.size]? = some (.deferred (some [])) := fun jump W3 h3 => by
      have l3 := h3.same _ _ (by omega) l2 rfl
      have k3 := h3.same _ _ (Nat.le_refl _) k2 rfl
      have hr := run_endRound (P := P) jump l3
      rw [eR] at hr
      exact ⟨_, by rw [hr, eR], rfl, l3, World.putObj_heap_same (Array.getElem?_eq_some_iff.1 l3).1, (World.putObj_heap_other (by omega)).trans k3⟩
    rintro e a3 W3 hp
    cases e with
    | normal =>
      obtain ⟨h1, h2, h3⟩ := hp
      obtain ⟨W4, hr, rfl, l3, l4, k4⟩ := out none W3 h1
      exact ⟨_, _, hr, .inl ⟨rfl, ⟨hI.putObj _ h3 (by omega) l3 rfl, l4, k4⟩, (b2.trans h2).trans (belowK_b (w := w) hn _ _ _ _ (by omega) l3 rfl rfl)⟩⟩
    | ret =>
      obtain ⟨h1, h3⟩ := hp
      obtain ⟨W4, hr, rfl, l3, l4, k4⟩ := out (some .ret) W3 h1
      exact ⟨_, _, hr, .inr ⟨rfl, .ret, (hIx _).putObj _ h3 (by omega) l3 rfl, l4, k4⟩⟩
    | exit id =>
      obtain ⟨h1, h3⟩ := hp
      obtain ⟨W4, hr, rfl, l3, l4, k4⟩ := out (some (.exit id)) W3 h1
      exact ⟨_, _, hr, .inr ⟨rfl, .exit id, (hIx _).putObj _ h3 (by omega) l3 rfl, l4, k4⟩⟩
    | goto t =>
      obtain ⟨h1, h3⟩ := hp
      obtain ⟨W4, hr, rfl, l3, l4, k4⟩ := out (some (.goto t)) W3 h1
      exact ⟨_, _, hr, .inr ⟨rfl, .goto t, (hIx _).putObj _ h3 (by omega) l3 rfl, l4, k4⟩⟩
    | panic ch => exact hp.elim
    | outgrown => exact hp.elim
  · rw [List.length_map]
    rintro e W2 ⟨⟨v, rfl⟩, (⟨hi, hl, hk⟩ | ⟨j, hj, c, hi, hl, hk⟩)⟩
    · exact ⟨none, _, by have := run_endLoop (P := P) hl (by rw [eR]; simp); rw [eR] at this; exact this, hdone _ _ (Nat.le_refl _) (hI.putObj _ hi (by omega) hl rfl) ((World.putObj_heap_other (by omega)).trans hk)⟩
    · exact ⟨some c, _, by have := run_endLoop (P := P) hl (by rw [eR]; simp); rw [eR] at this; exact this, wpIn_wide.2 (hstop _ c j _ (Nat.le_refl _) hj ((hIx c).putObj _ hi (by omega) hl rfl) ((World.putObj_heap_other (by omega)).trans hk))⟩

/-- All that lay when the loop began lies as it lay, but for the block g. -/
structure But (g : Nat) (w W : World) : Prop where
  os : W.os = w.os
  tape : W.tape = w.tape
  output : W.output = w.output
  size : w.heap.size ≤ W.heap.size
  same : ∀ k, k < w.heap.size → k ≠ g → W.heap[k]? = w.heap[k]?
theorem But.refl (g : Nat) (w : World) : But g w w := ⟨rfl, rfl, rfl, Nat.le_refl _, fun _ _ _ => rfl⟩
theorem But.at {g : Nat} {w W : World} (h : But g w W) {k : Nat} {o : Obj} (hk : w.heap[k]? = some o) (hne : k ≠ g) : W.heap[k]? = some o := (h.same k (Array.getElem?_eq_some_iff.1 hk).1 hne).trans hk
theorem But.below {g : Nat} {w W : World} (h : But g w W) {n₀ : Nat} (hn : n₀ ≤ w.heap.size) (hg : n₀ ≤ g) : Below n₀ w W := ⟨h.os, h.tape, h.output, h.size, fun k hk => h.same k (by omega) (by omega)⟩
theorem But.set {g : Nat} {w W : World} (h : But g w W) (v : Value) : But g w (W.setCell ⟨g, 0, none⟩ v) :=
  ⟨h.os, h.tape, h.output, by have := (KeepsWalks.setCell W ⟨g, 0, none⟩ v).size; have := h.size; omega, fun k hk hne => (Below.heap_setCell W ⟨g, 0, none⟩ v k hne).trans (h.same k hk hne)⟩
theorem But.own {g : Nat} {w : World} : OwnFrom w.heap.size (fun (_ : Nat) W => But g w W) := fun _ W W' row h hg hr =>
  ⟨hg.os.trans h.os, hg.tape.trans h.tape, hg.output.trans h.output, Nat.le_trans h.size hg.size, fun k hk hne => (hg.block k (Nat.lt_of_lt_of_le hk h.size) (fun e => by have := (hr k e.symm).1; omega)).trans (h.same k hk hne)⟩
theorem boxed_own {B g : Nat} {t : TypeId} (f : Nat → Value) : OwnFrom B (fun (j : Nat) W => Boxed W g t (f j)) := fun j W W' row h hg hr =>
  h.kept hg (fun e => by obtain ⟨_, o, ho, hc⟩ := hr g e.symm; rw [show W.heap[g]? = _ from h] at ho; cases ho; cases hc)
/-- What a round's assignment leaves where the loop's variable is laid in a block of its own. -/
def RoundB {α : Type} (a : α → Nat → Act) (o : α → Array Value) (t : TypeId) (I : Nat → World → Prop) : Nat × α × Act → World → Prop := fun s W => ∃ g, s.2.2 = a s.2.1 g ∧ W.heap[g]? = some (.cells (o s.2.1) t (0, 0)) ∧ I s.1 W
theorem RoundB.own {α : Type} {a : α → Nat → Act} {o : α → Array Value} {t : TypeId} {I : Nat → World → Prop} {B : Nat} (hI : OwnFrom B I) : OwnFrom B (RoundB a o t I) := by
  rintro ⟨j, x, a1⟩ W W' row ⟨g, e, hc, hi⟩ hg hr
  refine ⟨g, e, (hg.block g (Array.getElem?_eq_some_iff.1 hc).1 (fun e' => ?_)).trans hc, hI j W W' row hi hg hr⟩
  obtain ⟨_, o', ho, hl⟩ := hr g e'.symm
  rw [hc] at ho; cases ho; cases hl
end Go.Proofs.YtccmackhhppbdaaDoor.Range
