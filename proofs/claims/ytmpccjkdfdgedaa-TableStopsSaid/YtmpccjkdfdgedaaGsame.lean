/- same: is a table the document's? Told where it is. -/
import Derived.Test.YtmpccjkdfdgedaaGkeys
namespace Go.Proofs.Ytmpccjkdfdgedaa.Print
open Go.RowKit Go.Proofs.YtmpccjkdfdgedaaW.PrintWords Go.Proofs.YtmpccjkdfdgedaaW.PrintLast Go.Proofs.YtmpccjkdfdgedaaW.PrintMore Go.Proofs.Ytmpccjkdfdgedaa.Range Go.Shelf
set_option linter.unusedVariables false
set_option linter.unusedSimpArgs false
attribute [local go_sem] Oper.semAt_some

set_option maxHeartbeats 4000000 in
theorem lenCalls (A0 : Option Addr) (c0 n : Nat) (w : World) : Calls Try.prog 27 #[.agg #[.slice A0 n c0]] w fun e w' => e = .returned (.int .i64 n) ∧ Below w.heap.size w w' := by
  have hu27 := Try.underlying27
  go_enter Try.func27, Try.ntmps27
  go_wp2
  go_ret
  exact ⟨rfl, by repeat (first | exact Below.refl _ _ | apply pw_below_drewN | apply below_alloc)⟩
theorem keepCell {W w3 : World} {a : Addr} {v : Value} (hb : Below W.heap.size W w3) (h : W.cell? a = some v) : w3.cell? a = some v := by
  obtain ⟨o, ho, _⟩ := not_walk_of_cell h
  exact (hb.cell (p := a) (Array.getElem?_eq_some_iff.1 ho).1).trans h
def law14_same.f (l : List S65) (m : List S53) : Option Bool := if l.length ≤ 1099511627776 ∧ l.map (fun x => (x.f0, x.f1)) = m.map (fun x => (x.f0, x.f1)) then some true else none
theorem keepBox {W w3 : World} {B : Nat} {ty : TypeId} {v : Value} (hb : Below W.heap.size W w3) (h : Boxed W B ty v) : Boxed w3 B ty v := (hb.block B h.lt).trans h
theorem keysN (A0 : Option Addr) (c0 n : Nat) (l : List S65) (w : World) (hl : l.length = n) (hn : n ≤ 1099511627776) (hc : n ≤ c0) (hr : Kd.C k65 w A0 n l) :
    Calls Try.prog 18 #[.agg #[.slice A0 n c0]] w fun e w' => ∃ A2 c2, e = .returned (.slice A2 n c2) ∧ Kd.C (Kd.int .i64) w' A2 n (l.map (·.f0)) ∧ Below w.heap.size w w' := by
  subst hl
  refine (table_Keys_Int.calls A0 c0 l (l.map (·.f0)) w hr hc (by unfold table_Keys_Int.f; rw [if_pos hn])).mono ?_
  rintro e w' ⟨v, rfl, ho, hb⟩
  obtain ⟨A2, c2, rfl, _, hr2⟩ := Kd.R_reads ho
  rw [List.length_map] at hr2 ⊢
  exact ⟨A2, c2, rfl, hr2, hb⟩
theorem allN (A0 : Option Addr) (c0 n : Nat) (l : List S65) (w0 w : World) (hl : l.length = n) (hr : Kd.C k65 w0 A0 n l) (hc : n ≤ c0) (hn : n ≤ 1099511627776) (hb : Below w0.heap.size w0 w) :
    Tells Try.prog 8 23 #[.agg #[.slice A0 n c0]] (rowsOf l) w0.heap.size w := by
  subst hl
  exact all_tells A0 c0 l w0 w 8 hr hc (by omega) hb
def sameQ (W : World) (a0 : Act) : Exit → Act → World → Prop
  | .normal, a, w' => a = a0 ∧ Below W.heap.size W w'
  | _, _, _ => False
set_option maxHeartbeats 8000000 in
set_option maxRecDepth 100000 in
theorem sameWalk (A0 : Option Addr) (c0 n : Nat) (l : List S65) (A1 : Option Addr) (c1 : Nat) (m : List S53) (w : World) (hl : Aside0 (l.length = n)) (hm : Aside0 (m.length = n)) (HR : Aside0 (Kd.C k65 w A0 n l)) (HC : Aside0 (n ≤ c0)) (HR1 : Aside0 (Kd.C k53 w A1 n m)) (HN : Aside0 (n ≤ 1099511627776)) (HE : Aside0 (l.map (fun x => (x.f0, x.f1)) = m.map (fun x => (x.f0, x.f1)))) :
    Calls Try.prog 10 #[.agg #[.slice A0 n c0], .slice A1 n c1] w fun e w' => e = .returned (.bool true) ∧ Below w.heap.size w w' := by
  have hu27 := Try.underlying27
  have hu29 := Try.underlying29
  have hu53 := Try.underlying53
  have hu44 := Try.underlying44
  refine calls_of_marks Try.func10 rfl ?_
  simp only [Try.ntmps10, List.size_toArray, List.length_cons, List.length_nil, Nat.reduceAdd, Nat.reduceSub, Array.replicate_succ, Array.replicate_zero, List.push_toArray, List.append_toArray, List.nil_append, List.cons_append]
  go_wp2_with (first | ((with_reducible refine gate_callee (f := 18) rfl ?_); refine goesL_ (some 10) rfl rfl Try.func18 (by kernel_rfl) rfl #[.agg #[.slice A0 n c0]] rfl xg ?_; (with_reducible refine (keysN _ _ n l _ hl.out HN.out HC.out ?side1).mono ?_); (case side1 => repeat (first | exact HR.out | (with_reducible refine Kd.C_alloc ?_ _))); rintro e w2 ⟨A2, c2, rfl, hr2, hb⟩; refine ⟨_, rfl, ?_⟩; have HR2 := Aside0.mk hr2; clear hr2))
  have d1 : w2.cell? ⟨w.heap.size, 0, none⟩ = some (.slice A0 n c0) := keepCell hb (((Boxed.new w _ _).alloc _).alloc _).cell
  have d2 : w2.cell? ⟨w.heap.size + 1, 0, none⟩ = some (.slice A1 n c1) := keepCell hb (by have := ((Boxed.new (w.alloc (.cells #[.slice A0 n c0] 27)) 29 (.slice A1 n c1)).alloc (.cells #[.bool false] 4)).cell; rwa [World.size_alloc] at this)
  obtain ⟨W1, hW1⟩ : ∃ W1, w2.alloc (.cells #[.slice A2 n c2] 44) = W1 := ⟨_, rfl⟩
  have x4 : Boxed w2 (w.heap.size + 1 + 1) 4 (.bool false) := keepBox hb (by have := Boxed.new ((w.alloc (.cells #[.slice A0 n c0] 27)).alloc (.cells #[.slice A1 n c1] 29)) 4 (.bool false); rw [World.size_alloc, World.size_alloc] at this; exact this)
  have x3 : Boxed w2 (w.heap.size + 1) 29 (.slice A1 n c1) := keepBox hb (by have := ((Boxed.new (w.alloc (.cells #[.slice A0 n c0] 27)) 29 (.slice A1 n c1)).alloc (.cells #[.bool false] 4)); rwa [World.size_alloc] at this)
  have x5 : Boxed W1 w2.heap.size 44 (.slice A2 n c2) := by rw [← hW1]; exact Boxed.new w2 _ _
  have B0 : Below w.heap.size w w2 := (((((Below.refl _ w).alloc (Nat.le_refl _) _).alloc (by simp) _).alloc (by simp; omega) _).trans (hb.mono (by simp; omega)))
  have B1 : Below w2.heap.size w2 W1 := by rw [← hW1]; exact (Below.refl _ _).alloc (Nat.le_refl _) _
  have X3 := Aside0.mk (keepBox B1 x3)
  have X4 := Aside0.mk (keepBox B1 x4)
  have X5 := Aside0.mk x5
  have BB0 := Aside0.mk B0
  have BB1 := Aside0.mk B1
  clear x3 x4 x5 B0 B1
  have g1 : W1.cell? ⟨w.heap.size, 0, none⟩ = some (.slice A0 n c0) := by rw [← hW1]; exact keepCell ((Below.refl _ _).alloc (Nat.le_refl _) _) d1
  have g2 : W1.cell? ⟨w.heap.size + 1, 0, none⟩ = some (.slice A1 n c1) := by rw [← hW1]; exact keepCell ((Below.refl _ _).alloc (Nat.le_refl _) _) d2
  have g5 : W1.cell? ⟨w2.heap.size, 0, none⟩ = some (.slice A2 n c2) := by rw [← hW1]; exact (Boxed.new w2 _ _).cell
  rw [hW1]
  have HW1 := Aside0.mk hW1
  clear hW1 d1 d2
  refine Code.wp_mono (Q := sameQ W1 ({ tmps := #[.agg #[.slice A0 n c0], .slice A1 n c1, .pointer (some ⟨w.heap.size, 0, none⟩), .pointer (some ⟨w.heap.size + 1, 0, none⟩), .pointer (some ⟨w.heap.size + 1 + 1, 0, none⟩), .pointer (some ⟨w2.heap.size, 0, none⟩), undef, undef, undef, .agg #[.slice A0 n c0], .slice A2 n c2, .slice A2 n c2, .int .i64 n, .slice A1 n c1, .int .i64 n, .bool false, .bool false, .agg #[.slice A0 n c0], .int .i64 n, .slice A1 n c1, .int .i64 n, .bool false, .bool false] ++ Array.replicate 40 undef, defers := [] })) ?next ?region
  case region =>
    simp only [Nat.reduceAdd, Nat.reduceSub, Array.replicate_succ, Array.replicate_zero, List.push_toArray, List.append_toArray, List.nil_append, List.cons_append]
    go_region_with (go_at_call 27; refine (lenCalls _ _ _ _).mono ?_; rintro e w3 ⟨rfl, hb3⟩; have k1 := keepCell hb3 g1; have k2 := keepCell hb3 g2; have k5 := keepCell hb3 g5)
    all_goals exact ⟨rfl, (Below.refl W1.heap.size W1).drew.trans hb3⟩
  case next =>
    rintro (_ | _ | _ | _ | _ | _) a3 w3 ⟨⟩
    rename_i e3 b3
    subst e3
    simp only [Nat.reduceAdd, Nat.reduceSub, Array.replicate_succ, Array.replicate_zero, List.push_toArray, List.append_toArray, List.nil_append, List.cons_append]
    have k1 := keepCell b3 g1
    have k2 := keepCell b3 g2
    have k5 := keepCell b3 g5
    clear g1 g2 g5
    have a1 := keepCell ((Below.refl _ w3).alloc (Nat.le_refl _) (.cells #[.int .i64 0] 3)) k1
    have a2 := keepCell ((Below.refl _ w3).alloc (Nat.le_refl _) (.cells #[.int .i64 0] 3)) k2
    have a5 := keepCell ((Below.refl _ w3).alloc (Nat.le_refl _) (.cells #[.int .i64 0] 3)) k5
    go_wp2
    obtain ⟨Wl, hWl⟩ : ∃ Wl, w3.alloc (.cells #[.int .i64 0] 3) = Wl := ⟨_, rfl⟩
    have xb : Boxed Wl w3.heap.size 3 (.int .i64 0) := by rw [← hWl]; exact Boxed.new w3 _ _
    have B3 : Below w3.heap.size w3 Wl := by rw [← hWl]; exact (Below.refl _ _).alloc (Nat.le_refl _) _
    have sz : Wl.heap.size = w3.heap.size + 1 := by rw [← hWl]; simp
    have bw2 : Below w2.heap.size w2 w3 := BB1.out.trans (b3.mono BB1.out.size)
    have bw : Below w.heap.size w w3 := BB0.out.trans (bw2.mono BB0.out.size)
    have y3 := keepBox B3 (keepBox b3 X3.out)
    have y4 := keepBox B3 (keepBox b3 X4.out)
    have y5 := keepBox B3 (keepBox b3 X5.out)
    have l4 : w.heap.size + 1 + 1 < w3.heap.size := (keepBox b3 X4.out).lt
    have l5 : w2.heap.size < w3.heap.size := (keepBox b3 X5.out).lt
    have s2 := BB0.out.size
    have s3 := bw2.size
    rw [hWl]
    clear a1 a2 a5 k1 k2 k5
    have stay : ∀ W, But w3.heap.size Wl W → Below w2.heap.size w2 W := fun W hb => (bw2.trans (B3.mono s3)).trans (hb.below (by omega) (by omega))
    have stay0 : ∀ W, But w3.heap.size Wl W → Below w.heap.size w W := fun W hb => BB0.out.trans ((stay W hb).mono s2)
    refine wp_range (gf := 23) (fb := #[.agg #[.slice A0 n c0]]) (n₀ := w.heap.size) (enc := fun x : S65 => #[.int .i64 x.f0, .int .i64 x.f1]) (xs := l) rfl (enters_of Try.func23 (by kernel_rfl) rfl)
      (allN A0 c0 n l w Wl hl.out HR.out HC.out HN.out (bw.trans (B3.mono (by omega)))) (by omega) (fun _ _ => rfl)
      (fun j W => But w3.heap.size Wl W ∧ Boxed W w3.heap.size 3 (.int .i64 (j : Int)))
      (fun _ _ _ => False)
      (OwnFrom.and But.own (boxed_own _))
      (fun _ _ _ _ _ hs _ _ => hs)
      ⟨But.refl _ _, xb⟩
      (fun x => { tmps := #[.agg #[.slice A0 n c0], .slice A1 n c1, .pointer (some ⟨w.heap.size, 0, none⟩), .pointer (some ⟨w.heap.size + 1, 0, none⟩), .pointer (some ⟨w.heap.size + 1 + 1, 0, none⟩), .pointer (some ⟨w2.heap.size, 0, none⟩), .pointer (some ⟨w3.heap.size, 0, none⟩), .int .i64 x.f0, .int .i64 x.f1, .agg #[.slice A0 n c0], .slice A2 n c2, .slice A2 n c2, .int .i64 n, .slice A1 n c1, .int .i64 n, .bool false, .bool false, .agg #[.slice A0 n c0], .int .i64 n, .slice A1 n c1, .int .i64 n, .bool false, .bool false, .agg #[.slice A0 n c0], .func (.func 23) #[.agg #[.slice A0 n c0]] #[], .int .i64 x.f0, .int .i64 x.f1] ++ Array.replicate 36 undef, defers := [] }) ?assign ?body ?done ?stop
    case assign =>
      intro lp x W K hx hK
      simp only [Nat.reduceAdd, Nat.reduceSub, Array.replicate_succ, Array.replicate_zero, List.push_toArray, List.append_toArray, List.nil_append, List.cons_append] at hK
      gi_wp2
      exact hK
    case body =>
      rintro lp j x W hx ⟨hbut, hbox⟩
      simp only [Nat.reduceAdd, Nat.reduceSub, Array.replicate_succ, Array.replicate_zero, List.push_toArray, List.append_toArray, List.nil_append, List.cons_append]
      have hj : j < n := by rw [← hl.out]; exact (List.getElem?_eq_some_iff.1 hx).1
      have hmx : (m.map (fun y => (y.f0, y.f1)))[j]? = some (x.f0, x.f1) := by rw [← HE.out, List.getElem?_map, hx]; rfl
      have hkx : rd (l.map (·.f0)) (j : Int) = x.f0 := by simp [rd, List.getD_eq_getElem?_getD, List.getElem?_map, hx]
      obtain ⟨y, hy, hyx⟩ := Option.map_eq_some_iff.1 (by rw [List.getElem?_map] at hmx; exact hmx)
      have hrd : rd_T53 m (j : Int) = y := by unfold rd_T53; rw [Int.toNat_natCast, List.getD_eq_getElem?_getD, hy]; rfl
      obtain ⟨ad, rfl, h0, h1⟩ := at_T53 (Kd.C_below HR1.out (stay0 W hbut)) (j : Int) (by omega) (by omega)
      obtain ⟨ad2, rfl, h2⟩ := Kd.at_int (Kd.C_below HR2.out (stay W hbut)) (j : Int) (by omega) (by omega)
      rw [hkx] at h2
      rw [hrd] at h0 h1
      rw [show y.f0 = x.f0 from (Prod.mk.inj hyx).1] at h0
      rw [show y.f1 = x.f1 from (Prod.mk.inj hyx).2] at h1
      rw [Int.toNat_natCast] at h0 h1 h2
      have z3 := (show Boxed W _ _ _ from hbut.at y3 (by omega)).cell
      have z5 := (show Boxed W _ _ _ from hbut.at y5 (by omega)).cell
      have zb := hbox.cell
      have zf := hbox.frozen
      have p1 := eq_true (show 0 ≤ (j : Int) by omega)
      have q1 := eq_true (show (j : Int) < (n : Int) by omega)
      have q2 : decide ((n : Int) ≤ (j : Int)) = false := decide_eq_false (by omega)
      have q3 : decide (n ≤ j) = false := decide_eq_false (by omega)
      have HJ := Aside0.mk hj
      clear hrd hyx hy hmx hkx hj stay stay0 hx
      gi_wp2
      have hj := HJ.out
      have hn := HN.out
      have hw : wrap64 ((j : Int) + 1) = ((j + 1 : Nat) : Int) := by unfold wrap64; omega
      rw [hw]
      exact ⟨(KeepsOthers.setCell _ _ _).from _, (Below.refl w.heap.size W).setCell (p := ⟨w3.heap.size, 0, none⟩) (by show w.heap.size ≤ w3.heap.size; omega) _, hbut.set _, hbox.set _⟩
    case done =>
      rintro D W hD ⟨hbut, hbox⟩ hK
      rw [hl.out] at hbox
      have z3 := (show Boxed W _ _ _ from hbut.at y3 (by omega)).cell
      have w4 : Boxed W _ _ _ := hbut.at y4 (by omega)
      have z4 := w4.cell
      have zf := w4.frozen
      have zb := hbox.cell
      have hB := stay0 W hbut
      clear stay stay0 y3 y4 y5 hbut
      go_wp2
      have hK' := (KeepsOthers.setCell W ⟨w.heap.size + 1 + 1, 0, none⟩ (.bool true)).same D _ hK rfl
      refine ⟨by simp, .inl ⟨_, _, rfl, run_takeDeferred hK', ?_⟩⟩
      have hc5 := cell_kept (World.cell?_setCell_same' W ⟨w.heap.size + 1 + 1, 0, none⟩ (.bool true) (by rw [z4]; rfl)) (grownBy_putObj' _ D (.deferred none)) (fun r e => by cases e; exact ⟨_, hK', rfl⟩)
      refine ⟨.bool true, ?_, rfl, (hB.setCell (p := ⟨w.heap.size + 1 + 1, 0, none⟩) (by show w.heap.size ≤ w.heap.size + 1 + 1; omega) _).trans (belowK_b (w := w) (Nat.le_refl _) _ D _ _ (by omega) hK' rfl rfl)⟩
      simp [results, Try.f10, go_sem, hc5]
    case stop =>
      rintro D c j W _ _ h _
      exact h.elim
theorem law14_same.calls (A0 : Option Addr) (c0 : Nat) (l : List S65) (A1 : Option Addr) (c1 : Nat) (m : List S53) (r : Bool) (w : World) (hr : Kd.C k65 w A0 l.length l) (hc : l.length ≤ c0) (hr1 : Kd.C k53 w A1 m.length m) (hc1 : m.length ≤ c1) (h : law14_same.f l m = some r) :
    Calls Try.prog 10 #[.agg #[.slice A0 l.length c0], .slice A1 m.length c1] w fun e w' => e = .returned (.bool r) ∧ Below w.heap.size w w' := by
  unfold law14_same.f at h
  by_cases hh : l.length ≤ 1099511627776 ∧ l.map (fun x => (x.f0, x.f1)) = m.map (fun x => (x.f0, x.f1))
  case neg => rw [if_neg hh] at h; exact absurd h (by simp)
  rw [if_pos hh] at h
  obtain rfl := Option.some.inj h
  obtain ⟨hn, he⟩ := hh
  have hlm : m.length = l.length := by have := congrArg List.length he; simpa using this.symm
  rw [hlm] at hr1 ⊢
  exact sameWalk A0 c0 l.length l A1 c1 m w ⟨rfl⟩ ⟨hlm⟩ ⟨hr⟩ ⟨hc⟩ ⟨hr1⟩ ⟨hn⟩ ⟨he⟩
end Go.Proofs.Ytmpccjkdfdgedaa.Print
