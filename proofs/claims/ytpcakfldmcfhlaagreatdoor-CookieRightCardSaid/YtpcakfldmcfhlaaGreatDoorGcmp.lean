/- cookie.Cmp, walked by hand, under the print's own form of contract. -/
import Derived.Test.YtpcakfldmcfhlaaGreatDoorGhost
import Derived.Test.YtpcakfldmcfhlaaGreatDoorPrintC
import Derived.LoopTactic
import Derived.Laws.EntriesVeiled
import Derived.Test.YtpcakfldmcfhlaaGreatDoorYa
import Derived.Deep.RegionHeld3
namespace Go.Proofs.YtpcakfldmcfhlaaGreatDoor.Print
open Go.RowKit Go.Proofs.YtpcakfldmcfhlaaGreatDoor.Y Go.Proofs.YtpcakfldmcfhlaaGreatDoorW.PrintWords Go.Proofs.YtpcakfldmcfhlaaGreatDoorW.PrintLast Go.Proofs.YtpcakfldmcfhlaaGreatDoorW.PrintMore
set_option linter.unusedVariables false
set_option linter.unusedSimpArgs false

def tl (b : Bool) : Int := if b = true then 1 else 0
theorem cmp1_f (b : Bool) : PrintC.cookie_Cmp_1.f b = some (tl b) := by cases b <;> rfl
set_option maxHeartbeats 8000000 in
set_option maxRecDepth 100000 in
theorem cmp_tail (g : Nat) (c0 c1 c2 c3 : ByteArray) (c4 c5 c6 : Int) (c7 c8 c9 : Bool) (c10 : Int) (w : World) (hg : w.cell? ⟨g, 0, none⟩ = some (.func (.func 27) #[] #[])) :
    Calls Tryz.prog 28 #[.agg #[.string c0, .string c1, .string c2, .string c3, .int .i64 c4, .int .i64 c5, .int .i64 c6, .bool c7, .bool c8, .bool c9, .int .i64 c10], .pointer (some ⟨g, 0, none⟩)] w fun e w' =>
      e = .returned (.agg #[.int .i64 c6, .int .i64 (tl c7), .int .i64 (tl c8), .int .i64 (tl c9), .int .i64 c10]) ∧ Below w.heap.size w w' := by
  have hu23 := Tryz.underlying23
  have hu48 := Tryz.underlying45
  have hlt : g < w.heap.size := by
    rcases Nat.lt_or_ge g w.heap.size with h | h
    · exact h
    · simp [World.cell?, Array.getElem?_eq_none h] at hg
  go_enter Tryz.func28, Tryz.ntmps28
  go_wp2
  obtain ⟨w1, hw1⟩ : ∃ w1 : World, w1 = (w.alloc (.cells #[.string c0, .string c1, .string c2, .string c3, .int .i64 c4, .int .i64 c5, .int .i64 c6, .bool c7, .bool c8, .bool c9, .int .i64 c10] 23)).alloc (.cells #[.int .i64 0, .int .i64 0, .int .i64 0, .int .i64 0, .int .i64 0] 45) := ⟨_, rfl⟩
  rw [← hw1]
  have hz1 : w1.heap.size = w.heap.size + 2 := by rw [hw1]; simp
  have hB1 : Below w.heap.size w w1 := by rw [hw1]; exact below_alloc (below_alloc (Below.refl _ _) _) _
  have hk : w1.cell? ⟨g, 0, none⟩ = some (.func (.func 27) #[] #[]) := (hB1.cell hlt).trans hg
  have h6 : w1.cell? ⟨w.heap.size, 6, none⟩ = some (.int .i64 c6) := by rw [hw1]; go_simp
  have h7 : w1.cell? ⟨w.heap.size, 7, none⟩ = some (.bool c7) := by rw [hw1]; go_simp
  have h8 : w1.cell? ⟨w.heap.size, 8, none⟩ = some (.bool c8) := by rw [hw1]; go_simp
  have h9 : w1.cell? ⟨w.heap.size, 9, none⟩ = some (.bool c9) := by rw [hw1]; go_simp
  have h10 : w1.cell? ⟨w.heap.size, 10, none⟩ = some (.int .i64 c10) := by rw [hw1]; go_simp
  have hr : ∀ j, j < 5 → w1.cell? ⟨w.heap.size + 1, j, none⟩ = some (.int .i64 0) := by
    intro j hj
    rw [hw1]
    match j, hj with
    | 0, _ => go_simp
    | 1, _ => go_simp
    | 2, _ => go_simp
    | 3, _ => go_simp
    | 4, _ => go_simp
  have hf : ∀ j, w1.frozen? ⟨w.heap.size + 1, j, none⟩ = false := by
    intro j
    rw [hw1]
    go_simp
  have hrow : w1.heap[w.heap.size + 1]? = some (.cells #[.int .i64 0, .int .i64 0, .int .i64 0, .int .i64 0, .int .i64 0] 45 (0, 0)) := by
    rw [hw1]
    exact (show ∀ (v : World) (o : Obj), v.heap.size = w.heap.size + 1 → (v.alloc o).heap[w.heap.size + 1]? = some o from fun v o h => by rw [← h]; exact heap_alloc_new v o) _ _ (by simp)
  have hne1 : ¬ w.heap.size + 1 = g := by omega
  have hne2 : ¬ g = w.heap.size + 1 := by omega
  clear hw1
  go_region_held3 (fun w' => w'.cell? ⟨g, 0, none⟩ = some (.func (.func 27) #[] #[]) ∧ w'.cell? ⟨w.heap.size, 6, none⟩ = some (.int .i64 c6) ∧ w'.cell? ⟨w.heap.size, 7, none⟩ = some (.bool c7) ∧ w'.cell? ⟨w.heap.size, 8, none⟩ = some (.bool c8) ∧ w'.cell? ⟨w.heap.size, 9, none⟩ = some (.bool c9) ∧ w'.cell? ⟨w.heap.size, 10, none⟩ = some (.int .i64 c10)) (go_keep)
    (first | (go_at_call 27; refine (PrintC.cookie_Cmp_1.calls _ _ _ (cmp1_f _)).mono ?_; rintro e w' ⟨rfl, nd, rfl⟩))
  go_wp2
  refine bodyPost_ret (results_cell_row rfl _ _ (w.heap.size + 1) 45 #[.int .i64 c6, .int .i64 (tl c7), .int .i64 (tl c8), .int .i64 (tl c9), .int .i64 c10] (0, 0) _ rfl (blk_put (cs' := #[.int .i64 c6, .int .i64 (tl c7), .int .i64 (tl c8), .int .i64 (tl c9), .int .i64 c10]) (blk_put (cs' := #[.int .i64 c6, .int .i64 (tl c7), .int .i64 (tl c8), .int .i64 (tl c9), .int .i64 0]) (blk_put (cs' := #[.int .i64 c6, .int .i64 (tl c7), .int .i64 (tl c8), .int .i64 0, .int .i64 0]) (blk_put (cs' := #[.int .i64 c6, .int .i64 (tl c7), .int .i64 0, .int .i64 0, .int .i64 0]) (blk_put (cs' := #[.int .i64 c6, .int .i64 0, .int .i64 0, .int .i64 0, .int .i64 0]) (blk_drewN hrow _) 0 _ rfl) 1 _ rfl) 2 _ rfl) 3 _ rfl) 4 _ rfl) hu48 rfl (by kernel_rfl)) rfl ?_
  refine ⟨rfl, ?_⟩
  repeat (first | exact hB1 | refine below_set ?_ (Nat.le_succ _) | refine pw_below_drewN ?_ _)

/-! ### what it comes to, plainly -/
def cmpI (a b : Int) : Int := if a < b then -1 else if a > b then 1 else 0
def cmpS (a b : ByteArray) : Int := if Op.bytesLess a.toList b.toList = true then -1 else if Op.bytesLess b.toList a.toList = true then 1 else 0
def orL : List Int → Int
  | [] => 0
  | x :: l => if x = 0 then orL l else x
def lexI : List Int → List Int → Int
  | [], [] => 0
  | [], _ :: _ => -1
  | _ :: _, [] => 1
  | x :: l, y :: m => if cmpI x y = 0 then lexI l m else cmpI x y
def cmpK (a0 a1 a2 b0 b1 b2 : ByteArray) : Int := orL [cmpS a0 b0, cmpS a1 b1, cmpS a2 b2]
theorem cmpI_f (a b : Int) : PrintC.cmp_Compare_int.f a b = some (cmpI a b) := by
  unfold PrintC.cmp_Compare_int.f PrintC.cmp_isNaN_int.f cmpI
  simp only [bne_self_eq_false, Option.bind_some, if_neg (show ¬ (false = true) by decide)]
  split
  · rfl
  · split <;> rfl
theorem cmpS_f (a b : ByteArray) : PrintC.cmp_Compare_string.f a b = some (cmpS a b) := by
  unfold PrintC.cmp_Compare_string.f PrintC.cmp_isNaN_string.f cmpS
  simp only [bne_self_eq_false, Option.bind_some, if_neg (show ¬ (false = true) by decide)]
  split
  · rfl
  · split <;> rfl
theorem rd_drop {l : List Int} {i : Nat} {c : Int} {r : List Int} (h : l.drop i = c :: r) : rd l (i : Int) = c := by
  unfold rd
  have := congrArg (fun x => x[0]?) h
  simp only [List.getElem?_drop, Nat.add_zero, List.getElem?_cons_zero] at this
  rw [Int.toNat_natCast, List.getD_eq_getElem?_getD, this]
  rfl
theorem drop_casesI (l : List Int) {i : Nat} (h : i ≤ l.length) : (i = l.length ∧ l.drop i = []) ∨ (∃ c, i < l.length ∧ l.drop i = c :: l.drop (i + 1)) := by
  rcases Nat.lt_or_ge i l.length with h1 | h1
  · exact .inr ⟨l[i], h1, List.drop_eq_getElem_cons h1⟩
  · exact .inl ⟨by omega, List.drop_eq_nil_of_le h1⟩
theorem or_loop (l : List Int) (hl : l.length ≤ 4294967296) (d : Nat) : ∀ i : Nat, i + d = l.length → Ev (fun k => PrintC.cmp_Or_int.l0 k 0 l (l.length : Int) i) (orL (l.drop i)) := by
  induction d with
  | zero =>
    intro i hi
    apply ev_succ
    simp only [PrintC.cmp_Or_int.l0]
    exact ev_neg (by omega) (ev_eq (ev_now _) (by rw [List.drop_eq_nil_of_le (by omega)]; rfl))
  | succ d ih =>
    intro i hi
    apply ev_succ
    simp only [PrintC.cmp_Or_int.l0]
    have hw : wrap64 ((i : Int) + 1) = ((i + 1 : Nat) : Int) := by rw [w64 (by omega) (by omega)]; omega
    rw [hw]
    refine ev_pos (by omega) (ev_pos (by omega) (ev_pos (by omega) ?_))
    rcases drop_casesI l (i := i) (by omega) with ⟨h1, _⟩ | ⟨c, h1, h2⟩
    · omega
    · rw [rd_drop h2, h2, orL]
      by_cases hc : c = 0
      · rw [if_pos hc]; exact ev_pos hc (ih (i + 1) (by omega))
      · rw [if_neg hc]; exact ev_neg hc (ev_now _)
theorem or_ev {l : List Int} (hl : l.length ≤ 4294967296) : Ev (fun k => PrintC.cmp_Or_int.f k l) (orL l) := by
  have := or_loop l hl l.length 0 (by omega)
  simpa [PrintC.cmp_Or_int.f] using this
theorem lex_loop (l m : List Int) (hl : l.length ≤ 4294967296) (hm : m.length = l.length) (d : Nat) : ∀ i : Nat, i + d = l.length → Ev (fun k => PrintC.slices_Compare_int_int.l0 k l m l (l.length : Int) i) (lexI (l.drop i) (m.drop i)) := by
  induction d with
  | zero =>
    intro i hi
    apply ev_succ
    simp only [PrintC.slices_Compare_int_int.l0]
    exact ev_neg (by omega) (ev_neg (by omega) (ev_eq (ev_now _) (by rw [List.drop_eq_nil_of_le (by omega), List.drop_eq_nil_of_le (by omega)]; rfl)))
  | succ d ih =>
    intro i hi
    apply ev_succ
    simp only [PrintC.slices_Compare_int_int.l0]
    have hw : wrap64 ((i : Int) + 1) = ((i + 1 : Nat) : Int) := by rw [w64 (by omega) (by omega)]; omega
    rw [hw]
    refine ev_pos (by omega) (ev_pos (by omega) (ev_pos (by omega) (ev_neg (by omega) (ev_pos (by omega) ?_))))
    rcases drop_casesI l (i := i) (by omega) with ⟨h1, _⟩ | ⟨c, h1, h2⟩
    · omega
    · rcases drop_casesI m (i := i) (by omega) with ⟨h3, _⟩ | ⟨e, h3, h4⟩
      · omega
      · rw [rd_drop h2, rd_drop h4, h2, h4, lexI, cmpI_f]
        refine ev_bind (ev_now _) ?_
        by_cases hc : cmpI c e = 0
        · rw [if_pos hc]; exact ev_pos hc (ih (i + 1) (by omega))
        · rw [if_neg hc]; exact ev_neg hc (ev_now _)
theorem lex_ev {l m : List Int} (hl : l.length ≤ 4294967296) (hm : m.length = l.length) : Ev (fun k => PrintC.slices_Compare_int_int.f k l m) (lexI l m) := by
  have := lex_loop l m hl hm l.length 0 (by omega)
  simpa [PrintC.slices_Compare_int_int.f] using this
theorem key_ev (a0 a1 a2 b0 b1 b2 : ByteArray) : Ev (fun k => PrintC.cookie_Key_Cmp.f k a0 a1 a2 b0 b1 b2) (cmpK a0 a1 a2 b0 b1 b2) := by
  simp only [PrintC.cookie_Key_Cmp.f, cmpS_f, Option.bind_some]
  exact ev_bind (or_ev (by simp)) (ev_now _)
theorem or_at {l : List Int} (hl : l.length ≤ 4294967296) : ∃ k, PrintC.cmp_Or_int.f k l = some (orL l) := (or_ev hl).rounds
theorem lex_at {l m : List Int} (hl : l.length ≤ 4294967296) (hm : m.length = l.length) : ∃ k, PrintC.slices_Compare_int_int.f k l m = some (lexI l m) := (lex_ev hl hm).rounds
theorem key_at (a0 a1 a2 b0 b1 b2 : ByteArray) : ∃ k, PrintC.cookie_Key_Cmp.f k a0 a1 a2 b0 b1 b2 = some (cmpK a0 a1 a2 b0 b1 b2) := (key_ev a0 a1 a2 b0 b1 b2).rounds
def cmpC (a0 a1 a2 a3 : ByteArray) (a4 a5 a6 : Int) (a7 a8 a9 : Bool) (a10 : Int) (b0 b1 b2 b3 : ByteArray) (b4 b5 b6 : Int) (b7 b8 b9 : Bool) (b10 : Int) : Int := orL [cmpK a0 a1 a2 b0 b1 b2, cmpI a4 b4, cmpI a5 b5, cmpS a3 b3, lexI [a6, tl a7, tl a8, tl a9, a10] [b6, tl b7, tl b8, tl b9, b10]]
def cookie_Cmp.f (a0 a1 a2 a3 : ByteArray) (a4 a5 a6 : Int) (a7 a8 a9 : Bool) (a10 : Int) (b0 b1 b2 b3 : ByteArray) (b4 b5 b6 : Int) (b7 b8 b9 : Bool) (b10 : Int) : Option Int := some (cmpC a0 a1 a2 a3 a4 a5 a6 a7 a8 a9 a10 b0 b1 b2 b3 b4 b5 b6 b7 b8 b9 b10)
def cmp_T3 : Bool × List (List Nat × List Nat) := (true, [([], []), ([], []), ([0, 1], [0, 1]), ([], []), ([], []), ([3, 4, 2], [3, 4]), ([], []), ([], []), ([6, 2, 5, 0, 1, 2, 5, 6, 7], [2, 6]), ([7, 5, 8, 0, 1, 2, 3, 4, 5, 6, 7, 8], [5, 7])])
def cmp_B3 : List Nat := [0, 0, 3, 0, 0, 31, 0, 0, 255, 511]
theorem cmp_tab3 : rtab .any (opsOf Tryz.f10 3) = cmp_T3 := by kernel_rfl
theorem cmp_bits3 : waitsOk cmp_T3.2 cmp_B3 = true := by kernel_rfl
theorem below_undrew {B : Nat} {a W : World} {n : Nat} (h : Below B a (W.drewN n)) : Below B a W := ⟨h.os, h.tape, h.output, h.size, h.block⟩
theorem reads5 {W : World} {g : Nat} {t : TypeId} {x0 x1 x2 x3 x4 : Int} (h : W.heap[g]? = some (.cells #[.int .i64 x0, .int .i64 x1, .int .i64 x2, .int .i64 x3, .int .i64 x4] t (0, 0))) : Kd.C (Kd.int .i64) W (some ⟨g, 0, none⟩) ([x0, x1, x2, x3, x4] : List Int).length [x0, x1, x2, x3, x4] := by
  have hr : ReadsInt W .i64 (some ⟨g, 0, none⟩) ([x0, x1, x2, x3, x4] : List Int).length [x0, x1, x2, x3, x4] := by
    refine ⟨rfl, by simp, fun _ => ⟨_, rfl, fun j hj => ?_⟩⟩
    rw [add_plain]
    match j, hj with
    | 0, _ => exact (blk_cell h 0).trans rfl
    | 1, _ => exact (blk_cell h 1).trans rfl
    | 2, _ => exact (blk_cell h 2).trans rfl
    | 3, _ => exact (blk_cell h 3).trans rfl
    | 4, _ => exact (blk_cell h 4).trans rfl
  exact Kd.C_of_reads (d := (0 : Int)) (h1 := fun _ => rfl) hr
theorem five {w : World} {g : Nat} (h : w.heap[g]? = some (.cells #[.int .i64 0, .int .i64 0, .int .i64 0, .int .i64 0, .int .i64 0] 45 (0, 0))) : w.cell? ⟨g, 0, none⟩ = some (.int .i64 0) ∧ w.frozen? ⟨g, 0, none⟩ = false ∧ w.cell? ⟨g, 1, none⟩ = some (.int .i64 0) ∧ w.frozen? ⟨g, 1, none⟩ = false ∧ w.cell? ⟨g, 2, none⟩ = some (.int .i64 0) ∧ w.frozen? ⟨g, 2, none⟩ = false ∧ w.cell? ⟨g, 3, none⟩ = some (.int .i64 0) ∧ w.frozen? ⟨g, 3, none⟩ = false ∧ w.cell? ⟨g, 4, none⟩ = some (.int .i64 0) ∧ w.frozen? ⟨g, 4, none⟩ = false :=
  ⟨(blk_cell h 0).trans rfl, blk_frozen h 0, (blk_cell h 1).trans rfl, blk_frozen h 1, (blk_cell h 2).trans rfl, blk_frozen h 2, (blk_cell h 3).trans rfl, blk_frozen h 3, (blk_cell h 4).trans rfl, blk_frozen h 4⟩
theorem below_un {w1 W : World} {o : Obj} (h : Below w1.heap.size w1 (W.alloc o)) (hs : w1.heap.size ≤ W.heap.size) : Below w1.heap.size w1 W :=
  ⟨h.os, h.tape, h.output, hs, fun k hk => (Below.heap_alloc W o k (by omega)).symm.trans (h.block k hk)⟩
set_option maxHeartbeats 16000000 in
set_option maxRecDepth 100000 in
theorem cookie_Cmp.calls (a0 a1 a2 a3 : ByteArray) (a4 a5 a6 : Int) (a7 a8 a9 : Bool) (a10 : Int) (b0 b1 b2 b3 : ByteArray) (b4 b5 b6 : Int) (b7 b8 b9 : Bool) (b10 : Int) (r : Int) (w : World) (h : cookie_Cmp.f a0 a1 a2 a3 a4 a5 a6 a7 a8 a9 a10 b0 b1 b2 b3 b4 b5 b6 b7 b8 b9 b10 = some r) :
    Calls Tryz.prog 10 #[.agg #[.string a0, .string a1, .string a2, .string a3, .int .i64 a4, .int .i64 a5, .int .i64 a6, .bool a7, .bool a8, .bool a9, .int .i64 a10], .agg #[.string b0, .string b1, .string b2, .string b3, .int .i64 b4, .int .i64 b5, .int .i64 b6, .bool b7, .bool b8, .bool b9, .int .i64 b10]] w fun e w' => e = .returned (.int .i64 r) ∧ Below w.heap.size w w' := by
  obtain rfl := Option.some.inj h
  clear h
  have hu23 := Tryz.underlying23
  have hu48 := Tryz.underlying45
  have hmf : ∀ (fn : Fn) (first cap : Array Value) (w : World), (Instr.makeFunc fn first cap).run Tryz.prog w = .ok (.func fn first cap) w := fun _ _ _ _ => rfl
  go_enter Tryz.func10, Tryz.ntmps10
  go_wp2
  obtain ⟨w1, hw1⟩ : ∃ w1 : World, w1 = ((w.alloc (.cells #[.string a0, .string a1, .string a2, .string a3, .int .i64 a4, .int .i64 a5, .int .i64 a6, .bool a7, .bool a8, .bool a9, .int .i64 a10] 23)).alloc (.cells #[.string b0, .string b1, .string b2, .string b3, .int .i64 b4, .int .i64 b5, .int .i64 b6, .bool b7, .bool b8, .bool b9, .int .i64 b10] 23)).alloc (.cells #[.func (.func 27) #[] #[]] 44) := ⟨_, rfl⟩
  rw [← hw1]
  have hz1 : w1.heap.size = w.heap.size + 3 := by rw [hw1]; simp
  have hB1 : Below w.heap.size w w1 := by rw [hw1]; exact below_alloc (below_alloc (below_alloc (Below.refl _ _) _) _) _
  have ca0 : w1.cell? ⟨w.heap.size, 0, none⟩ = some (.string a0) := by rw [hw1]; go_simp
  have ca1 : w1.cell? ⟨w.heap.size, 1, none⟩ = some (.string a1) := by rw [hw1]; go_simp
  have ca2 : w1.cell? ⟨w.heap.size, 2, none⟩ = some (.string a2) := by rw [hw1]; go_simp
  have ca3 : w1.cell? ⟨w.heap.size, 3, none⟩ = some (.string a3) := by rw [hw1]; go_simp
  have ca4 : w1.cell? ⟨w.heap.size, 4, none⟩ = some (.int .i64 a4) := by rw [hw1]; go_simp
  have ca5 : w1.cell? ⟨w.heap.size, 5, none⟩ = some (.int .i64 a5) := by rw [hw1]; go_simp
  have ca6 : w1.cell? ⟨w.heap.size, 6, none⟩ = some (.int .i64 a6) := by rw [hw1]; go_simp
  have ca7 : w1.cell? ⟨w.heap.size, 7, none⟩ = some (.bool a7) := by rw [hw1]; go_simp
  have ca8 : w1.cell? ⟨w.heap.size, 8, none⟩ = some (.bool a8) := by rw [hw1]; go_simp
  have ca9 : w1.cell? ⟨w.heap.size, 9, none⟩ = some (.bool a9) := by rw [hw1]; go_simp
  have ca10 : w1.cell? ⟨w.heap.size, 10, none⟩ = some (.int .i64 a10) := by rw [hw1]; go_simp
  have cb0 : w1.cell? ⟨w.heap.size + 1, 0, none⟩ = some (.string b0) := by rw [hw1]; go_simp
  have cb1 : w1.cell? ⟨w.heap.size + 1, 1, none⟩ = some (.string b1) := by rw [hw1]; go_simp
  have cb2 : w1.cell? ⟨w.heap.size + 1, 2, none⟩ = some (.string b2) := by rw [hw1]; go_simp
  have cb3 : w1.cell? ⟨w.heap.size + 1, 3, none⟩ = some (.string b3) := by rw [hw1]; go_simp
  have cb4 : w1.cell? ⟨w.heap.size + 1, 4, none⟩ = some (.int .i64 b4) := by rw [hw1]; go_simp
  have cb5 : w1.cell? ⟨w.heap.size + 1, 5, none⟩ = some (.int .i64 b5) := by rw [hw1]; go_simp
  have cb6 : w1.cell? ⟨w.heap.size + 1, 6, none⟩ = some (.int .i64 b6) := by rw [hw1]; go_simp
  have cb7 : w1.cell? ⟨w.heap.size + 1, 7, none⟩ = some (.bool b7) := by rw [hw1]; go_simp
  have cb8 : w1.cell? ⟨w.heap.size + 1, 8, none⟩ = some (.bool b8) := by rw [hw1]; go_simp
  have cb9 : w1.cell? ⟨w.heap.size + 1, 9, none⟩ = some (.bool b9) := by rw [hw1]; go_simp
  have cb10 : w1.cell? ⟨w.heap.size + 1, 10, none⟩ = some (.int .i64 b10) := by rw [hw1]; go_simp
  have cf : w1.cell? ⟨w.heap.size + 1 + 1, 0, none⟩ = some (.func (.func 27) #[] #[]) := by rw [hw1]; go_simp
  clear hw1
  have hS : ∀ w' : World, Below w1.heap.size w1 w' → Below w1.heap.size w1 w' ∧ w'.cell? ⟨w.heap.size + 1 + 1, 0, none⟩ = some (.func (.func 27) #[] #[]) ∧ w'.cell? ⟨w.heap.size, 0, none⟩ = some (.string a0) ∧ w'.cell? ⟨w.heap.size, 1, none⟩ = some (.string a1) ∧ w'.cell? ⟨w.heap.size, 2, none⟩ = some (.string a2) ∧ w'.cell? ⟨w.heap.size, 3, none⟩ = some (.string a3) ∧ w'.cell? ⟨w.heap.size, 4, none⟩ = some (.int .i64 a4) ∧ w'.cell? ⟨w.heap.size, 5, none⟩ = some (.int .i64 a5) ∧ w'.cell? ⟨w.heap.size, 6, none⟩ = some (.int .i64 a6) ∧ w'.cell? ⟨w.heap.size, 7, none⟩ = some (.bool a7) ∧ w'.cell? ⟨w.heap.size, 8, none⟩ = some (.bool a8) ∧ w'.cell? ⟨w.heap.size, 9, none⟩ = some (.bool a9) ∧ w'.cell? ⟨w.heap.size, 10, none⟩ = some (.int .i64 a10) ∧ w'.cell? ⟨w.heap.size + 1, 0, none⟩ = some (.string b0) ∧ w'.cell? ⟨w.heap.size + 1, 1, none⟩ = some (.string b1) ∧ w'.cell? ⟨w.heap.size + 1, 2, none⟩ = some (.string b2) ∧ w'.cell? ⟨w.heap.size + 1, 3, none⟩ = some (.string b3) ∧ w'.cell? ⟨w.heap.size + 1, 4, none⟩ = some (.int .i64 b4) ∧ w'.cell? ⟨w.heap.size + 1, 5, none⟩ = some (.int .i64 b5) ∧ w'.cell? ⟨w.heap.size + 1, 6, none⟩ = some (.int .i64 b6) ∧ w'.cell? ⟨w.heap.size + 1, 7, none⟩ = some (.bool b7) ∧ w'.cell? ⟨w.heap.size + 1, 8, none⟩ = some (.bool b8) ∧ w'.cell? ⟨w.heap.size + 1, 9, none⟩ = some (.bool b9) ∧ w'.cell? ⟨w.heap.size + 1, 10, none⟩ = some (.int .i64 b10) := fun w' hb => ⟨hb, (hb.cell (by show w.heap.size + 1 + 1 < _; omega)).trans cf, (hb.cell (by show w.heap.size < _; omega)).trans ca0, (hb.cell (by show w.heap.size < _; omega)).trans ca1, (hb.cell (by show w.heap.size < _; omega)).trans ca2, (hb.cell (by show w.heap.size < _; omega)).trans ca3, (hb.cell (by show w.heap.size < _; omega)).trans ca4, (hb.cell (by show w.heap.size < _; omega)).trans ca5, (hb.cell (by show w.heap.size < _; omega)).trans ca6, (hb.cell (by show w.heap.size < _; omega)).trans ca7, (hb.cell (by show w.heap.size < _; omega)).trans ca8, (hb.cell (by show w.heap.size < _; omega)).trans ca9, (hb.cell (by show w.heap.size < _; omega)).trans ca10, (hb.cell (by show w.heap.size + 1 < _; omega)).trans cb0, (hb.cell (by show w.heap.size + 1 < _; omega)).trans cb1, (hb.cell (by show w.heap.size + 1 < _; omega)).trans cb2, (hb.cell (by show w.heap.size + 1 < _; omega)).trans cb3, (hb.cell (by show w.heap.size + 1 < _; omega)).trans cb4, (hb.cell (by show w.heap.size + 1 < _; omega)).trans cb5, (hb.cell (by show w.heap.size + 1 < _; omega)).trans cb6, (hb.cell (by show w.heap.size + 1 < _; omega)).trans cb7, (hb.cell (by show w.heap.size + 1 < _; omega)).trans cb8, (hb.cell (by show w.heap.size + 1 < _; omega)).trans cb9, (hb.cell (by show w.heap.size + 1 < _; omega)).trans cb10⟩
  have hSA := Aside0.mk hS
  clear hS
  go_cut [7, 8] (fun v7 v8 wc => ∃ gx gy : Nat, v7 = .pointer (some ⟨gx, 0, none⟩) ∧ v8 = .pointer (some ⟨gy, 0, none⟩) ∧ Aside0 (Below w1.heap.size w1 wc) ∧ Aside0 (wc.heap[gx]? = some (.cells #[.int .i64 a6, .int .i64 (tl a7), .int .i64 (tl a8), .int .i64 (tl a9), .int .i64 a10] 45 (0, 0))) ∧ Aside0 (wc.heap[gy]? = some (.cells #[.int .i64 b6, .int .i64 (tl b7), .int .i64 (tl b8), .int .i64 (tl b9), .int .i64 b10] 45 (0, 0))))
  case first =>
    refine start_ (n := 10) (S := fun w' => Below w1.heap.size w1 w' ∧ w'.cell? ⟨w.heap.size + 1 + 1, 0, none⟩ = some (.func (.func 27) #[] #[]) ∧ w'.cell? ⟨w.heap.size, 0, none⟩ = some (.string a0) ∧ w'.cell? ⟨w.heap.size, 1, none⟩ = some (.string a1) ∧ w'.cell? ⟨w.heap.size, 2, none⟩ = some (.string a2) ∧ w'.cell? ⟨w.heap.size, 3, none⟩ = some (.string a3) ∧ w'.cell? ⟨w.heap.size, 4, none⟩ = some (.int .i64 a4) ∧ w'.cell? ⟨w.heap.size, 5, none⟩ = some (.int .i64 a5) ∧ w'.cell? ⟨w.heap.size, 6, none⟩ = some (.int .i64 a6) ∧ w'.cell? ⟨w.heap.size, 7, none⟩ = some (.bool a7) ∧ w'.cell? ⟨w.heap.size, 8, none⟩ = some (.bool a8) ∧ w'.cell? ⟨w.heap.size, 9, none⟩ = some (.bool a9) ∧ w'.cell? ⟨w.heap.size, 10, none⟩ = some (.int .i64 a10) ∧ w'.cell? ⟨w.heap.size + 1, 0, none⟩ = some (.string b0) ∧ w'.cell? ⟨w.heap.size + 1, 1, none⟩ = some (.string b1) ∧ w'.cell? ⟨w.heap.size + 1, 2, none⟩ = some (.string b2) ∧ w'.cell? ⟨w.heap.size + 1, 3, none⟩ = some (.string b3) ∧ w'.cell? ⟨w.heap.size + 1, 4, none⟩ = some (.int .i64 b4) ∧ w'.cell? ⟨w.heap.size + 1, 5, none⟩ = some (.int .i64 b5) ∧ w'.cell? ⟨w.heap.size + 1, 6, none⟩ = some (.int .i64 b6) ∧ w'.cell? ⟨w.heap.size + 1, 7, none⟩ = some (.bool b7) ∧ w'.cell? ⟨w.heap.size + 1, 8, none⟩ = some (.bool b8) ∧ w'.cell? ⟨w.heap.size + 1, 9, none⟩ = some (.bool b9) ∧ w'.cell? ⟨w.heap.size + 1, 10, none⟩ = some (.int .i64 b10)) (ds := []) #[false, false, false, false, false, false, false, false, false, false] (by kernel_rfl) rfl rfl (hSA.out _ (below_drew1 (Below.refl _ _))) (fun hHeld => ?_); refine with_tabW cmp_tab3 cmp_bits3 (fun HT_ HW_ => ?_)
    have hB := below_drew1 (Below.refl w1.heap.size w1)
    generalize w1.drew = W at hHeld hB ⊢
    refine pure_ (i := 0) (N := some 10) (v := ?_) (a' := ?_) #[true, false, false, false, false, false, false, false, false, false] rfl rfl (any_of HT_.out (by kernel_rfl)) (fun _ _ _ h => h) (Or.inl ⟨by rfl, ?_⟩) ?_ ?_
    rotate_left
    · intro w'
      go_simp
      with_reducible rfl
    rotate_left
    · simp only [Act.put, List.setIfInBounds_toArray, List.set_cons_zero, List.set_cons_succ, i64_w, i32_w]
      rfl
    refine pure_ (i := 3) (N := some 13) (v := ?_) (a' := ?_) #[true, false, false, true, false, false, false, false, false, false] rfl rfl (any_of HT_.out (by kernel_rfl)) (fun _ _ _ h => h) (Or.inl ⟨by rfl, ?_⟩) ?_ ?_
    rotate_left
    · intro w'
      go_simp
      with_reducible rfl
    rotate_left
    · simp only [Act.put, List.setIfInBounds_toArray, List.set_cons_zero, List.set_cons_succ, i64_w, i32_w]
      rfl
    refine take_ (i := 1) (N := some 11) (v := ?_) (a' := ?_) #[true, true, false, true, false, false, false, false, false, false] rfl rfl (take_ofW HT_.out HW_.out (by kernel_rfl)) (fun _ _ _ h => h) (Or.inl ⟨by rfl, ?_⟩) hHeld ?_ ?_
    rotate_left
    · rintro w' ⟨sb, sf, sa0, sa1, sa2, sa3, sa4, sa5, sa6, sa7, sa8, sa9, sa10, sc0, sc1, sc2, sc3, sc4, sc5, sc6, sc7, sc8, sc9, sc10⟩
      go_simp
      with_reducible rfl
    rotate_left
    · simp only [Act.put, List.setIfInBounds_toArray, List.set_cons_zero, List.set_cons_succ, i64_w, i32_w]
      rfl
    refine take_ (i := 4) (N := some 14) (v := ?_) (a' := ?_) #[true, true, false, true, true, false, false, false, false, false] rfl rfl (take_ofW HT_.out HW_.out (by kernel_rfl)) (fun _ _ _ h => h) (Or.inl ⟨by rfl, ?_⟩) hHeld ?_ ?_
    rotate_left
    · rintro w' ⟨sb, sf, sa0, sa1, sa2, sa3, sa4, sa5, sa6, sa7, sa8, sa9, sa10, sc0, sc1, sc2, sc3, sc4, sc5, sc6, sc7, sc8, sc9, sc10⟩
      go_simp
      with_reducible rfl
    rotate_left
    · simp only [Act.put, List.setIfInBounds_toArray, List.set_cons_zero, List.set_cons_succ, i64_w, i32_w]
      rfl
    refine join_ (σ := Nat × Nat) 2 #[true, true, true, true, true, true, true, true, false, false] (fun s_ => [(12, .agg #[.int .i64 a6, .int .i64 (tl a7), .int .i64 (tl a8), .int .i64 (tl a9), .int .i64 a10]), (15, .agg #[.int .i64 b6, .int .i64 (tl b7), .int .i64 (tl b8), .int .i64 (tl b9), .int .i64 b10]), (7, .pointer (some ⟨s_.1, 0, none⟩)), (8, .pointer (some ⟨s_.2, 0, none⟩))]) (fun s_ w' => Below w1.heap.size w1 w' ∧ w'.heap[s_.1]? = some (.cells #[.int .i64 0, .int .i64 0, .int .i64 0, .int .i64 0, .int .i64 0] 45 (0, 0)) ∧ w1.heap.size ≤ s_.1 ∧ w'.heap[s_.2]? = some (.cells #[.int .i64 0, .int .i64 0, .int .i64 0, .int .i64 0, .int .i64 0] 45 (0, 0)) ∧ w1.heap.size ≤ s_.2 ∧ s_.1 ≠ s_.2) ?_ ?_
    · rintro s_ W ⟨hB, hx, lx, hy, ly, hne⟩
      have hHeld := hSA.out W hB
      refine norm_ (a' := ?_) ?_ ?_
      rotate_left
      · simp only [putAll, Act.put, List.setIfInBounds_toArray, List.set_cons_zero, List.set_cons_succ]
        rfl
      refine one_ (i := 8) (N := none) #[true, true, true, true, true, true, true, true, true, false] rfl rfl (one_of HT_.out (by kernel_rfl)) (by decide) (fun K hK => ?_)
      have q0 : W.cell? ⟨s_.1, 0, none⟩ = some (.int .i64 0) := (blk_cell hx 0).trans rfl
      have z0 := blk_frozen hx 0
      have q1 : W.cell? ⟨s_.1, 1, none⟩ = some (.int .i64 0) := (blk_cell hx 1).trans rfl
      have z1 := blk_frozen hx 1
      have q2 : W.cell? ⟨s_.1, 2, none⟩ = some (.int .i64 0) := (blk_cell hx 2).trans rfl
      have z2 := blk_frozen hx 2
      have q3 : W.cell? ⟨s_.1, 3, none⟩ = some (.int .i64 0) := (blk_cell hx 3).trans rfl
      have z3 := blk_frozen hx 3
      have q4 : W.cell? ⟨s_.1, 4, none⟩ = some (.int .i64 0) := (blk_cell hx 4).trans rfl
      have z4 := blk_frozen hx 4
      refine skip_ (w1 := ?_) (by rfl) rfl ?_ ?_
      rotate_left
      · go_simp
        rfl
      have p0 : (((((W.setCell ⟨s_.1, 0, none⟩ (.int .i64 a6)).setCell ⟨s_.1, 1, none⟩ (.int .i64 (tl a7))).setCell ⟨s_.1, 2, none⟩ (.int .i64 (tl a8))).setCell ⟨s_.1, 3, none⟩ (.int .i64 (tl a9))).setCell ⟨s_.1, 4, none⟩ (.int .i64 a10)).heap[s_.1]? = some (.cells #[.int .i64 a6, .int .i64 (tl a7), .int .i64 (tl a8), .int .i64 (tl a9), .int .i64 a10] 45 (0, 0)) := blk_put (cs' := #[.int .i64 a6, .int .i64 (tl a7), .int .i64 (tl a8), .int .i64 (tl a9), .int .i64 a10]) (blk_put (cs' := #[.int .i64 a6, .int .i64 (tl a7), .int .i64 (tl a8), .int .i64 (tl a9), .int .i64 0]) (blk_put (cs' := #[.int .i64 a6, .int .i64 (tl a7), .int .i64 (tl a8), .int .i64 0, .int .i64 0]) (blk_put (cs' := #[.int .i64 a6, .int .i64 (tl a7), .int .i64 0, .int .i64 0, .int .i64 0]) (blk_put (cs' := #[.int .i64 a6, .int .i64 0, .int .i64 0, .int .i64 0, .int .i64 0]) (hx) 0 _ rfl) 1 _ rfl) 2 _ rfl) 3 _ rfl) 4 _ rfl
      have o0 : (((((W.setCell ⟨s_.1, 0, none⟩ (.int .i64 a6)).setCell ⟨s_.1, 1, none⟩ (.int .i64 (tl a7))).setCell ⟨s_.1, 2, none⟩ (.int .i64 (tl a8))).setCell ⟨s_.1, 3, none⟩ (.int .i64 (tl a9))).setCell ⟨s_.1, 4, none⟩ (.int .i64 a10)).heap[s_.2]? = some (.cells #[.int .i64 0, .int .i64 0, .int .i64 0, .int .i64 0, .int .i64 0] 45 (0, 0)) := (Below.heap_setCell _ _ _ _ (hne.symm)).trans ((Below.heap_setCell _ _ _ _ (hne.symm)).trans ((Below.heap_setCell _ _ _ _ (hne.symm)).trans ((Below.heap_setCell _ _ _ _ (hne.symm)).trans ((Below.heap_setCell _ _ _ _ (hne.symm)).trans (hy)))))
      have b0_ : Below w1.heap.size w1 (((((W.setCell ⟨s_.1, 0, none⟩ (.int .i64 a6)).setCell ⟨s_.1, 1, none⟩ (.int .i64 (tl a7))).setCell ⟨s_.1, 2, none⟩ (.int .i64 (tl a8))).setCell ⟨s_.1, 3, none⟩ (.int .i64 (tl a9))).setCell ⟨s_.1, 4, none⟩ (.int .i64 a10)) := below_set (below_set (below_set (below_set (below_set hB lx) lx) lx) lx) lx
      refine hK.out _ _ (hSA.out _ b0_) (fun _ => ?_)
      clear hK K q0 z0 q1 z1 q2 z2 q3 z3 q4 z4
      generalize (((((W.setCell ⟨s_.1, 0, none⟩ (.int .i64 a6)).setCell ⟨s_.1, 1, none⟩ (.int .i64 (tl a7))).setCell ⟨s_.1, 2, none⟩ (.int .i64 (tl a8))).setCell ⟨s_.1, 3, none⟩ (.int .i64 (tl a9))).setCell ⟨s_.1, 4, none⟩ (.int .i64 a10)) = W3 at p0 o0 b0_ ⊢
      refine one_ (i := 9) (N := none) #[true, true, true, true, true, true, true, true, true, true] rfl rfl (one_of HT_.out (by kernel_rfl)) (by decide) (fun K hK => ?_)
      have q0 : W3.cell? ⟨s_.2, 0, none⟩ = some (.int .i64 0) := (blk_cell o0 0).trans rfl
      have z0 := blk_frozen o0 0
      have q1 : W3.cell? ⟨s_.2, 1, none⟩ = some (.int .i64 0) := (blk_cell o0 1).trans rfl
      have z1 := blk_frozen o0 1
      have q2 : W3.cell? ⟨s_.2, 2, none⟩ = some (.int .i64 0) := (blk_cell o0 2).trans rfl
      have z2 := blk_frozen o0 2
      have q3 : W3.cell? ⟨s_.2, 3, none⟩ = some (.int .i64 0) := (blk_cell o0 3).trans rfl
      have z3 := blk_frozen o0 3
      have q4 : W3.cell? ⟨s_.2, 4, none⟩ = some (.int .i64 0) := (blk_cell o0 4).trans rfl
      have z4 := blk_frozen o0 4
      refine skip_ (w1 := ?_) (by rfl) rfl ?_ ?_
      rotate_left
      · go_simp
        rfl
      have p1 : (((((W3.setCell ⟨s_.2, 0, none⟩ (.int .i64 b6)).setCell ⟨s_.2, 1, none⟩ (.int .i64 (tl b7))).setCell ⟨s_.2, 2, none⟩ (.int .i64 (tl b8))).setCell ⟨s_.2, 3, none⟩ (.int .i64 (tl b9))).setCell ⟨s_.2, 4, none⟩ (.int .i64 b10)).heap[s_.2]? = some (.cells #[.int .i64 b6, .int .i64 (tl b7), .int .i64 (tl b8), .int .i64 (tl b9), .int .i64 b10] 45 (0, 0)) := blk_put (cs' := #[.int .i64 b6, .int .i64 (tl b7), .int .i64 (tl b8), .int .i64 (tl b9), .int .i64 b10]) (blk_put (cs' := #[.int .i64 b6, .int .i64 (tl b7), .int .i64 (tl b8), .int .i64 (tl b9), .int .i64 0]) (blk_put (cs' := #[.int .i64 b6, .int .i64 (tl b7), .int .i64 (tl b8), .int .i64 0, .int .i64 0]) (blk_put (cs' := #[.int .i64 b6, .int .i64 (tl b7), .int .i64 0, .int .i64 0, .int .i64 0]) (blk_put (cs' := #[.int .i64 b6, .int .i64 0, .int .i64 0, .int .i64 0, .int .i64 0]) (o0) 0 _ rfl) 1 _ rfl) 2 _ rfl) 3 _ rfl) 4 _ rfl
      have o1 : (((((W3.setCell ⟨s_.2, 0, none⟩ (.int .i64 b6)).setCell ⟨s_.2, 1, none⟩ (.int .i64 (tl b7))).setCell ⟨s_.2, 2, none⟩ (.int .i64 (tl b8))).setCell ⟨s_.2, 3, none⟩ (.int .i64 (tl b9))).setCell ⟨s_.2, 4, none⟩ (.int .i64 b10)).heap[s_.1]? = some (.cells #[.int .i64 a6, .int .i64 (tl a7), .int .i64 (tl a8), .int .i64 (tl a9), .int .i64 a10] 45 (0, 0)) := (Below.heap_setCell _ _ _ _ (hne)).trans ((Below.heap_setCell _ _ _ _ (hne)).trans ((Below.heap_setCell _ _ _ _ (hne)).trans ((Below.heap_setCell _ _ _ _ (hne)).trans ((Below.heap_setCell _ _ _ _ (hne)).trans (p0)))))
      have b1_ : Below w1.heap.size w1 (((((W3.setCell ⟨s_.2, 0, none⟩ (.int .i64 b6)).setCell ⟨s_.2, 1, none⟩ (.int .i64 (tl b7))).setCell ⟨s_.2, 2, none⟩ (.int .i64 (tl b8))).setCell ⟨s_.2, 3, none⟩ (.int .i64 (tl b9))).setCell ⟨s_.2, 4, none⟩ (.int .i64 b10)) := below_set (below_set (below_set (below_set (below_set b0_ ly) ly) ly) ly) ly
      refine hK.out _ _ (hSA.out _ b1_) (fun _ => ?_)
      clear hK K q0 z0 q1 z1 q2 z2 q3 z3 q4 z4
      generalize (((((W3.setCell ⟨s_.2, 0, none⟩ (.int .i64 b6)).setCell ⟨s_.2, 1, none⟩ (.int .i64 (tl b7))).setCell ⟨s_.2, 2, none⟩ (.int .i64 (tl b8))).setCell ⟨s_.2, 3, none⟩ (.int .i64 (tl b9))).setCell ⟨s_.2, 4, none⟩ (.int .i64 b10)) = W4 at p1 o1 b1_ ⊢
      refine done_ (done_of HT_.out (by kernel_rfl)) ?_
      try go_wp2
      go_meet
      case rel => exact ⟨s_.1, s_.2, rfl, rfl, ⟨b1_⟩, ⟨o1⟩, ⟨p1⟩⟩
    intro J2567
    refine join_ (σ := Nat) 3 #[true, true, true, true, true, true, true, false, false, false] (fun s_ => [(12, .agg #[.int .i64 a6, .int .i64 (tl a7), .int .i64 (tl a8), .int .i64 (tl a9), .int .i64 a10]), (15, .agg #[.int .i64 b6, .int .i64 (tl b7), .int .i64 (tl b8), .int .i64 (tl b9), .int .i64 b10]), (7, .pointer (some ⟨s_, 0, none⟩))]) (fun s_ w' => Below w1.heap.size w1 w' ∧ w'.heap[s_]? = some (.cells #[.int .i64 0, .int .i64 0, .int .i64 0, .int .i64 0, .int .i64 0] 45 (0, 0)) ∧ w1.heap.size ≤ s_) ?_ ?_
    · rintro s_ W ⟨hB, hx, lx⟩
      have hHeld := hSA.out W hB
      refine norm_ (a' := ?_) ?_ ?_
      rotate_left
      · simp only [putAll, Act.put, List.setIfInBounds_toArray, List.set_cons_zero, List.set_cons_succ]
        rfl
      refine one_ (i := 7) (N := some 8) #[true, true, true, true, true, true, true, true, false, false] rfl rfl (one_of HT_.out (by kernel_rfl)) (by decide) (fun K hK => ?_)
      refine box_step ?hg (N := 8) ?hd (cs := #[.int .i64 0, .int .i64 0, .int .i64 0, .int .i64 0, .int .i64 0]) (t := 45) ?hr ?_; (case hd => rfl); (case hg => rfl); (case hr => first | (go_simp; done) | (go_simp; rfl))
      intro g hg W2 hbox hb
      have hB2 := below_step hB hb
      have lg : w1.heap.size ≤ g := by rw [hg]; exact hB.size
      have hx2 := blk_below hx hb
      have ne2 : s_ ≠ g := by rw [hg]; exact Nat.ne_of_lt (blk_lt hx)
      exact hK.out _ _ (hSA.out _ hB2) (fun _ => J2567 (s_, g) _ ⟨hB2, hx2, lx, hbox, lg, ne2⟩)
    intro J256
    refine join_ (σ := Nat) 3 #[true, true, true, true, true, true, false, true, false, false] (fun s_ => [(12, .agg #[.int .i64 a6, .int .i64 (tl a7), .int .i64 (tl a8), .int .i64 (tl a9), .int .i64 a10]), (15, .agg #[.int .i64 b6, .int .i64 (tl b7), .int .i64 (tl b8), .int .i64 (tl b9), .int .i64 b10]), (8, .pointer (some ⟨s_, 0, none⟩))]) (fun s_ w' => Below w1.heap.size w1 w' ∧ w'.heap[s_]? = some (.cells #[.int .i64 0, .int .i64 0, .int .i64 0, .int .i64 0, .int .i64 0] 45 (0, 0)) ∧ w1.heap.size ≤ s_) ?_ ?_
    · rintro s_ W ⟨hB, hy, ly⟩
      have hHeld := hSA.out W hB
      refine norm_ (a' := ?_) ?_ ?_
      rotate_left
      · simp only [putAll, Act.put, List.setIfInBounds_toArray, List.set_cons_zero, List.set_cons_succ]
        rfl
      refine one_ (i := 6) (N := some 7) #[true, true, true, true, true, true, true, true, false, false] rfl rfl (one_of HT_.out (by kernel_rfl)) (by decide) (fun K hK => ?_)
      refine box_step ?hg (N := 7) ?hd (cs := #[.int .i64 0, .int .i64 0, .int .i64 0, .int .i64 0, .int .i64 0]) (t := 45) ?hr ?_; (case hd => rfl); (case hg => rfl); (case hr => first | (go_simp; done) | (go_simp; rfl))
      intro g hg W2 hbox hb
      have hB2 := below_step hB hb
      have lg : w1.heap.size ≤ g := by rw [hg]; exact hB.size
      have hy2 := blk_below hy hb
      have ne2 : g ≠ s_ := by rw [hg]; exact Nat.ne_of_gt (blk_lt hy)
      exact hK.out _ _ (hSA.out _ hB2) (fun _ => J2567 (g, s_) _ ⟨hB2, hbox, lg, hy2, ly, ne2⟩)
    intro J257
    refine join_ (σ := Nat × Nat) 3 #[true, true, true, true, true, false, true, true, false, false] (fun s_ => [(12, .agg #[.int .i64 a6, .int .i64 (tl a7), .int .i64 (tl a8), .int .i64 (tl a9), .int .i64 a10]), (7, .pointer (some ⟨s_.1, 0, none⟩)), (8, .pointer (some ⟨s_.2, 0, none⟩))]) (fun s_ w' => Below w1.heap.size w1 w' ∧ w'.heap[s_.1]? = some (.cells #[.int .i64 0, .int .i64 0, .int .i64 0, .int .i64 0, .int .i64 0] 45 (0, 0)) ∧ w1.heap.size ≤ s_.1 ∧ w'.heap[s_.2]? = some (.cells #[.int .i64 0, .int .i64 0, .int .i64 0, .int .i64 0, .int .i64 0] 45 (0, 0)) ∧ w1.heap.size ≤ s_.2 ∧ s_.1 ≠ s_.2) ?_ ?_
    · rintro s_ W ⟨hB, hx, lx, hy, ly, hne⟩
      have hHeld := hSA.out W hB
      refine norm_ (a' := ?_) ?_ ?_
      rotate_left
      · simp only [putAll, Act.put, List.setIfInBounds_toArray, List.set_cons_zero, List.set_cons_succ]
        rfl
      refine one_ (i := 5) (N := some 15) #[true, true, true, true, true, true, true, true, false, false] rfl rfl (one_of HT_.out (by kernel_rfl)) (by decide) (fun K hK => ?_)
      refine call_ 28 #[.agg #[.string b0, .string b1, .string b2, .string b3, .int .i64 b4, .int .i64 b5, .int .i64 b6, .bool b7, .bool b8, .bool b9, .int .i64 b10], .pointer (some ⟨w.heap.size + 1 + 1, 0, none⟩)] (by rfl) rfl (by have he := enters_ Tryz.func28 (by kernel_rfl) rfl #[.agg #[.string b0, .string b1, .string b2, .string b3, .int .i64 b4, .int .i64 b5, .int .i64 b6, .bool b7, .bool b8, .bool b9, .int .i64 b10], .pointer (some ⟨w.heap.size + 1 + 1, 0, none⟩)] W; unfold execOp; simp [resolve, Deferred.ofValue, invoke, Act.eval, he]) ?_
      refine (cmp_tail (w.heap.size + 1 + 1) _ _ _ _ _ _ _ _ _ _ _ _ hHeld.2.1).mono ?_
      rintro e W2 ⟨rfl, hb⟩
      refine ⟨_, rfl, ?_⟩
      have hB2 := below_step hB hb
      have hx2 := blk_below hx hb
      have hy2 := blk_below hy hb
      exact hK.out _ _ (hSA.out _ hB2) (fun _ => J2567 (s_.1, s_.2) _ ⟨hB2, hx2, lx, hy2, ly, hne⟩)
    intro J267
    refine join_ (σ := Unit) 4 #[true, true, true, true, true, true, false, false, false, false] (fun s_ => [(12, .agg #[.int .i64 a6, .int .i64 (tl a7), .int .i64 (tl a8), .int .i64 (tl a9), .int .i64 a10]), (15, .agg #[.int .i64 b6, .int .i64 (tl b7), .int .i64 (tl b8), .int .i64 (tl b9), .int .i64 b10])]) (fun s_ w' => Below w1.heap.size w1 w') ?_ ?_
    · rintro s_ W hB
      have hHeld := hSA.out W hB
      refine norm_ (a' := ?_) ?_ ?_
      rotate_left
      · simp only [putAll, Act.put, List.setIfInBounds_toArray, List.set_cons_zero, List.set_cons_succ]
        rfl
      refine two_ (i := 6) (j := 7) (Ni := some 7) (Nj := some 8) #[true, true, true, true, true, true, true, false, false, false] #[true, true, true, true, true, true, false, true, false, false] rfl rfl rfl rfl (two_of HT_.out (by kernel_rfl)) (by decide) (by decide) (fun K hK => ?_) (fun K hK => ?_)
      · have _u := trivial
        refine box_step ?hg (N := 7) ?hd (cs := #[.int .i64 0, .int .i64 0, .int .i64 0, .int .i64 0, .int .i64 0]) (t := 45) ?hr ?_; (case hd => rfl); (case hg => rfl); (case hr => first | (go_simp; done) | (go_simp; rfl))
        intro g hg W2 hbox hb
        have hB2 := below_step hB hb
        have lg : w1.heap.size ≤ g := by rw [hg]; exact hB.size
        exact hK.out _ _ (hSA.out _ hB2) (fun _ => J256 g _ ⟨hB2, hbox, lg⟩)
      · have _u := trivial
        refine box_step ?hg (N := 8) ?hd (cs := #[.int .i64 0, .int .i64 0, .int .i64 0, .int .i64 0, .int .i64 0]) (t := 45) ?hr ?_; (case hd => rfl); (case hg => rfl); (case hr => first | (go_simp; done) | (go_simp; rfl))
        intro g hg W2 hbox hb
        have hB2 := below_step hB hb
        have lg : w1.heap.size ≤ g := by rw [hg]; exact hB.size
        exact hK.out _ _ (hSA.out _ hB2) (fun _ => J257 g _ ⟨hB2, hbox, lg⟩)
    intro J25
    refine join_ (σ := Nat) 4 #[true, true, true, true, true, false, true, false, false, false] (fun s_ => [(12, .agg #[.int .i64 a6, .int .i64 (tl a7), .int .i64 (tl a8), .int .i64 (tl a9), .int .i64 a10]), (7, .pointer (some ⟨s_, 0, none⟩))]) (fun s_ w' => Below w1.heap.size w1 w' ∧ w'.heap[s_]? = some (.cells #[.int .i64 0, .int .i64 0, .int .i64 0, .int .i64 0, .int .i64 0] 45 (0, 0)) ∧ w1.heap.size ≤ s_) ?_ ?_
    · rintro s_ W ⟨hB, hx, lx⟩
      have hHeld := hSA.out W hB
      refine norm_ (a' := ?_) ?_ ?_
      rotate_left
      · simp only [putAll, Act.put, List.setIfInBounds_toArray, List.set_cons_zero, List.set_cons_succ]
        rfl
      refine two_ (i := 5) (j := 7) (Ni := some 15) (Nj := some 8) #[true, true, true, true, true, true, true, false, false, false] #[true, true, true, true, true, false, true, true, false, false] rfl rfl rfl rfl (two_of HT_.out (by kernel_rfl)) (by decide) (by decide) (fun K hK => ?_) (fun K hK => ?_)
      · have _u := trivial
        refine call_ 28 #[.agg #[.string b0, .string b1, .string b2, .string b3, .int .i64 b4, .int .i64 b5, .int .i64 b6, .bool b7, .bool b8, .bool b9, .int .i64 b10], .pointer (some ⟨w.heap.size + 1 + 1, 0, none⟩)] (by rfl) rfl (by have he := enters_ Tryz.func28 (by kernel_rfl) rfl #[.agg #[.string b0, .string b1, .string b2, .string b3, .int .i64 b4, .int .i64 b5, .int .i64 b6, .bool b7, .bool b8, .bool b9, .int .i64 b10], .pointer (some ⟨w.heap.size + 1 + 1, 0, none⟩)] W; unfold execOp; simp [resolve, Deferred.ofValue, invoke, Act.eval, he]) ?_
        refine (cmp_tail (w.heap.size + 1 + 1) _ _ _ _ _ _ _ _ _ _ _ _ hHeld.2.1).mono ?_
        rintro e W2 ⟨rfl, hb⟩
        refine ⟨_, rfl, ?_⟩
        have hB2 := below_step hB hb
        have hx2 := blk_below hx hb
        exact hK.out _ _ (hSA.out _ hB2) (fun _ => J256 s_ _ ⟨hB2, hx2, lx⟩)
      · have _u := trivial
        refine box_step ?hg (N := 8) ?hd (cs := #[.int .i64 0, .int .i64 0, .int .i64 0, .int .i64 0, .int .i64 0]) (t := 45) ?hr ?_; (case hd => rfl); (case hg => rfl); (case hr => first | (go_simp; done) | (go_simp; rfl))
        intro g hg W2 hbox hb
        have hB2 := below_step hB hb
        have lg : w1.heap.size ≤ g := by rw [hg]; exact hB.size
        have hx2 := blk_below hx hb
        have ne2 : s_ ≠ g := by rw [hg]; exact Nat.ne_of_lt (blk_lt hx)
        exact hK.out _ _ (hSA.out _ hB2) (fun _ => J267 (s_, g) _ ⟨hB2, hx2, lx, hbox, lg, ne2⟩)
    intro J26
    refine join_ (σ := Nat) 4 #[true, true, true, true, true, false, false, true, false, false] (fun s_ => [(12, .agg #[.int .i64 a6, .int .i64 (tl a7), .int .i64 (tl a8), .int .i64 (tl a9), .int .i64 a10]), (8, .pointer (some ⟨s_, 0, none⟩))]) (fun s_ w' => Below w1.heap.size w1 w' ∧ w'.heap[s_]? = some (.cells #[.int .i64 0, .int .i64 0, .int .i64 0, .int .i64 0, .int .i64 0] 45 (0, 0)) ∧ w1.heap.size ≤ s_) ?_ ?_
    · rintro s_ W ⟨hB, hy, ly⟩
      have hHeld := hSA.out W hB
      refine norm_ (a' := ?_) ?_ ?_
      rotate_left
      · simp only [putAll, Act.put, List.setIfInBounds_toArray, List.set_cons_zero, List.set_cons_succ]
        rfl
      refine two_ (i := 5) (j := 6) (Ni := some 15) (Nj := some 7) #[true, true, true, true, true, true, false, true, false, false] #[true, true, true, true, true, false, true, true, false, false] rfl rfl rfl rfl (two_of HT_.out (by kernel_rfl)) (by decide) (by decide) (fun K hK => ?_) (fun K hK => ?_)
      · have _u := trivial
        refine call_ 28 #[.agg #[.string b0, .string b1, .string b2, .string b3, .int .i64 b4, .int .i64 b5, .int .i64 b6, .bool b7, .bool b8, .bool b9, .int .i64 b10], .pointer (some ⟨w.heap.size + 1 + 1, 0, none⟩)] (by rfl) rfl (by have he := enters_ Tryz.func28 (by kernel_rfl) rfl #[.agg #[.string b0, .string b1, .string b2, .string b3, .int .i64 b4, .int .i64 b5, .int .i64 b6, .bool b7, .bool b8, .bool b9, .int .i64 b10], .pointer (some ⟨w.heap.size + 1 + 1, 0, none⟩)] W; unfold execOp; simp [resolve, Deferred.ofValue, invoke, Act.eval, he]) ?_
        refine (cmp_tail (w.heap.size + 1 + 1) _ _ _ _ _ _ _ _ _ _ _ _ hHeld.2.1).mono ?_
        rintro e W2 ⟨rfl, hb⟩
        refine ⟨_, rfl, ?_⟩
        have hB2 := below_step hB hb
        have hy2 := blk_below hy hb
        exact hK.out _ _ (hSA.out _ hB2) (fun _ => J257 s_ _ ⟨hB2, hy2, ly⟩)
      · have _u := trivial
        refine box_step ?hg (N := 7) ?hd (cs := #[.int .i64 0, .int .i64 0, .int .i64 0, .int .i64 0, .int .i64 0]) (t := 45) ?hr ?_; (case hd => rfl); (case hg => rfl); (case hr => first | (go_simp; done) | (go_simp; rfl))
        intro g hg W2 hbox hb
        have hB2 := below_step hB hb
        have lg : w1.heap.size ≤ g := by rw [hg]; exact hB.size
        have hy2 := blk_below hy hb
        have ne2 : g ≠ s_ := by rw [hg]; exact Nat.ne_of_gt (blk_lt hy)
        exact hK.out _ _ (hSA.out _ hB2) (fun _ => J267 (g, s_) _ ⟨hB2, hbox, lg, hy2, ly, ne2⟩)
    intro J27
    refine join_ (σ := Nat × Nat) 4 #[true, true, false, true, true, false, true, true, false, false] (fun s_ => [(7, .pointer (some ⟨s_.1, 0, none⟩)), (8, .pointer (some ⟨s_.2, 0, none⟩))]) (fun s_ w' => Below w1.heap.size w1 w' ∧ w'.heap[s_.1]? = some (.cells #[.int .i64 0, .int .i64 0, .int .i64 0, .int .i64 0, .int .i64 0] 45 (0, 0)) ∧ w1.heap.size ≤ s_.1 ∧ w'.heap[s_.2]? = some (.cells #[.int .i64 0, .int .i64 0, .int .i64 0, .int .i64 0, .int .i64 0] 45 (0, 0)) ∧ w1.heap.size ≤ s_.2 ∧ s_.1 ≠ s_.2) ?_ ?_
    · rintro s_ W ⟨hB, hx, lx, hy, ly, hne⟩
      have hHeld := hSA.out W hB
      refine norm_ (a' := ?_) ?_ ?_
      rotate_left
      · simp only [putAll, Act.put, List.setIfInBounds_toArray, List.set_cons_zero, List.set_cons_succ]
        rfl
      refine one_ (i := 2) (N := some 12) #[true, true, true, true, true, false, true, true, false, false] rfl rfl (one_of HT_.out (by kernel_rfl)) (by decide) (fun K hK => ?_)
      refine call_ 28 #[.agg #[.string a0, .string a1, .string a2, .string a3, .int .i64 a4, .int .i64 a5, .int .i64 a6, .bool a7, .bool a8, .bool a9, .int .i64 a10], .pointer (some ⟨w.heap.size + 1 + 1, 0, none⟩)] (by rfl) rfl (by have he := enters_ Tryz.func28 (by kernel_rfl) rfl #[.agg #[.string a0, .string a1, .string a2, .string a3, .int .i64 a4, .int .i64 a5, .int .i64 a6, .bool a7, .bool a8, .bool a9, .int .i64 a10], .pointer (some ⟨w.heap.size + 1 + 1, 0, none⟩)] W; unfold execOp; simp [resolve, Deferred.ofValue, invoke, Act.eval, he]) ?_
      refine (cmp_tail (w.heap.size + 1 + 1) _ _ _ _ _ _ _ _ _ _ _ _ hHeld.2.1).mono ?_
      rintro e W2 ⟨rfl, hb⟩
      refine ⟨_, rfl, ?_⟩
      have hB2 := below_step hB hb
      have hx2 := blk_below hx hb
      have hy2 := blk_below hy hb
      exact hK.out _ _ (hSA.out _ hB2) (fun _ => J267 (s_.1, s_.2) _ ⟨hB2, hx2, lx, hy2, ly, hne⟩)
    intro J67
    refine join_ (σ := Unit) 5 #[true, true, true, true, true, false, false, false, false, false] (fun s_ => [(12, .agg #[.int .i64 a6, .int .i64 (tl a7), .int .i64 (tl a8), .int .i64 (tl a9), .int .i64 a10])]) (fun s_ w' => Below w1.heap.size w1 w') ?_ ?_
    · rintro s_ W hB
      have hHeld := hSA.out W hB
      refine norm_ (a' := ?_) ?_ ?_
      rotate_left
      · simp only [putAll, Act.put, List.setIfInBounds_toArray, List.set_cons_zero, List.set_cons_succ]
        rfl
      refine three_ (i := 5) (j := 6) (k := 7) (Ni := some 15) (Nj := some 7) (Nk := some 8) #[true, true, true, true, true, true, false, false, false, false] #[true, true, true, true, true, false, true, false, false, false] #[true, true, true, true, true, false, false, true, false, false] rfl rfl rfl rfl rfl rfl (three_of HT_.out (by kernel_rfl)) (by decide) (by decide) (by decide) (fun K hK => ?_) (fun K hK => ?_) (fun K hK => ?_)
      · have _u := trivial
        refine call_ 28 #[.agg #[.string b0, .string b1, .string b2, .string b3, .int .i64 b4, .int .i64 b5, .int .i64 b6, .bool b7, .bool b8, .bool b9, .int .i64 b10], .pointer (some ⟨w.heap.size + 1 + 1, 0, none⟩)] (by rfl) rfl (by have he := enters_ Tryz.func28 (by kernel_rfl) rfl #[.agg #[.string b0, .string b1, .string b2, .string b3, .int .i64 b4, .int .i64 b5, .int .i64 b6, .bool b7, .bool b8, .bool b9, .int .i64 b10], .pointer (some ⟨w.heap.size + 1 + 1, 0, none⟩)] W; unfold execOp; simp [resolve, Deferred.ofValue, invoke, Act.eval, he]) ?_
        refine (cmp_tail (w.heap.size + 1 + 1) _ _ _ _ _ _ _ _ _ _ _ _ hHeld.2.1).mono ?_
        rintro e W2 ⟨rfl, hb⟩
        refine ⟨_, rfl, ?_⟩
        have hB2 := below_step hB hb
        exact hK.out _ _ (hSA.out _ hB2) (fun _ => J25 () _ hB2)
      · have _u := trivial
        refine box_step ?hg (N := 7) ?hd (cs := #[.int .i64 0, .int .i64 0, .int .i64 0, .int .i64 0, .int .i64 0]) (t := 45) ?hr ?_; (case hd => rfl); (case hg => rfl); (case hr => first | (go_simp; done) | (go_simp; rfl))
        intro g hg W2 hbox hb
        have hB2 := below_step hB hb
        have lg : w1.heap.size ≤ g := by rw [hg]; exact hB.size
        exact hK.out _ _ (hSA.out _ hB2) (fun _ => J26 g _ ⟨hB2, hbox, lg⟩)
      · have _u := trivial
        refine box_step ?hg (N := 8) ?hd (cs := #[.int .i64 0, .int .i64 0, .int .i64 0, .int .i64 0, .int .i64 0]) (t := 45) ?hr ?_; (case hd => rfl); (case hg => rfl); (case hr => first | (go_simp; done) | (go_simp; rfl))
        intro g hg W2 hbox hb
        have hB2 := below_step hB hb
        have lg : w1.heap.size ≤ g := by rw [hg]; exact hB.size
        exact hK.out _ _ (hSA.out _ hB2) (fun _ => J27 g _ ⟨hB2, hbox, lg⟩)
    intro J2
    refine join_ (σ := Nat) 5 #[true, true, false, true, true, false, true, false, false, false] (fun s_ => [(7, .pointer (some ⟨s_, 0, none⟩))]) (fun s_ w' => Below w1.heap.size w1 w' ∧ w'.heap[s_]? = some (.cells #[.int .i64 0, .int .i64 0, .int .i64 0, .int .i64 0, .int .i64 0] 45 (0, 0)) ∧ w1.heap.size ≤ s_) ?_ ?_
    · rintro s_ W ⟨hB, hx, lx⟩
      have hHeld := hSA.out W hB
      refine norm_ (a' := ?_) ?_ ?_
      rotate_left
      · simp only [putAll, Act.put, List.setIfInBounds_toArray, List.set_cons_zero, List.set_cons_succ]
        rfl
      refine two_ (i := 2) (j := 7) (Ni := some 12) (Nj := some 8) #[true, true, true, true, true, false, true, false, false, false] #[true, true, false, true, true, false, true, true, false, false] rfl rfl rfl rfl (two_of HT_.out (by kernel_rfl)) (by decide) (by decide) (fun K hK => ?_) (fun K hK => ?_)
      · have _u := trivial
        refine call_ 28 #[.agg #[.string a0, .string a1, .string a2, .string a3, .int .i64 a4, .int .i64 a5, .int .i64 a6, .bool a7, .bool a8, .bool a9, .int .i64 a10], .pointer (some ⟨w.heap.size + 1 + 1, 0, none⟩)] (by rfl) rfl (by have he := enters_ Tryz.func28 (by kernel_rfl) rfl #[.agg #[.string a0, .string a1, .string a2, .string a3, .int .i64 a4, .int .i64 a5, .int .i64 a6, .bool a7, .bool a8, .bool a9, .int .i64 a10], .pointer (some ⟨w.heap.size + 1 + 1, 0, none⟩)] W; unfold execOp; simp [resolve, Deferred.ofValue, invoke, Act.eval, he]) ?_
        refine (cmp_tail (w.heap.size + 1 + 1) _ _ _ _ _ _ _ _ _ _ _ _ hHeld.2.1).mono ?_
        rintro e W2 ⟨rfl, hb⟩
        refine ⟨_, rfl, ?_⟩
        have hB2 := below_step hB hb
        have hx2 := blk_below hx hb
        exact hK.out _ _ (hSA.out _ hB2) (fun _ => J26 s_ _ ⟨hB2, hx2, lx⟩)
      · have _u := trivial
        refine box_step ?hg (N := 8) ?hd (cs := #[.int .i64 0, .int .i64 0, .int .i64 0, .int .i64 0, .int .i64 0]) (t := 45) ?hr ?_; (case hd => rfl); (case hg => rfl); (case hr => first | (go_simp; done) | (go_simp; rfl))
        intro g hg W2 hbox hb
        have hB2 := below_step hB hb
        have lg : w1.heap.size ≤ g := by rw [hg]; exact hB.size
        have hx2 := blk_below hx hb
        have ne2 : s_ ≠ g := by rw [hg]; exact Nat.ne_of_lt (blk_lt hx)
        exact hK.out _ _ (hSA.out _ hB2) (fun _ => J67 (s_, g) _ ⟨hB2, hx2, lx, hbox, lg, ne2⟩)
    intro J6
    refine join_ (σ := Nat) 5 #[true, true, false, true, true, false, false, true, false, false] (fun s_ => [(8, .pointer (some ⟨s_, 0, none⟩))]) (fun s_ w' => Below w1.heap.size w1 w' ∧ w'.heap[s_]? = some (.cells #[.int .i64 0, .int .i64 0, .int .i64 0, .int .i64 0, .int .i64 0] 45 (0, 0)) ∧ w1.heap.size ≤ s_) ?_ ?_
    · rintro s_ W ⟨hB, hy, ly⟩
      have hHeld := hSA.out W hB
      refine norm_ (a' := ?_) ?_ ?_
      rotate_left
      · simp only [putAll, Act.put, List.setIfInBounds_toArray, List.set_cons_zero, List.set_cons_succ]
        rfl
      refine two_ (i := 2) (j := 6) (Ni := some 12) (Nj := some 7) #[true, true, true, true, true, false, false, true, false, false] #[true, true, false, true, true, false, true, true, false, false] rfl rfl rfl rfl (two_of HT_.out (by kernel_rfl)) (by decide) (by decide) (fun K hK => ?_) (fun K hK => ?_)
      · have _u := trivial
        refine call_ 28 #[.agg #[.string a0, .string a1, .string a2, .string a3, .int .i64 a4, .int .i64 a5, .int .i64 a6, .bool a7, .bool a8, .bool a9, .int .i64 a10], .pointer (some ⟨w.heap.size + 1 + 1, 0, none⟩)] (by rfl) rfl (by have he := enters_ Tryz.func28 (by kernel_rfl) rfl #[.agg #[.string a0, .string a1, .string a2, .string a3, .int .i64 a4, .int .i64 a5, .int .i64 a6, .bool a7, .bool a8, .bool a9, .int .i64 a10], .pointer (some ⟨w.heap.size + 1 + 1, 0, none⟩)] W; unfold execOp; simp [resolve, Deferred.ofValue, invoke, Act.eval, he]) ?_
        refine (cmp_tail (w.heap.size + 1 + 1) _ _ _ _ _ _ _ _ _ _ _ _ hHeld.2.1).mono ?_
        rintro e W2 ⟨rfl, hb⟩
        refine ⟨_, rfl, ?_⟩
        have hB2 := below_step hB hb
        have hy2 := blk_below hy hb
        exact hK.out _ _ (hSA.out _ hB2) (fun _ => J27 s_ _ ⟨hB2, hy2, ly⟩)
      · have _u := trivial
        refine box_step ?hg (N := 7) ?hd (cs := #[.int .i64 0, .int .i64 0, .int .i64 0, .int .i64 0, .int .i64 0]) (t := 45) ?hr ?_; (case hd => rfl); (case hg => rfl); (case hr => first | (go_simp; done) | (go_simp; rfl))
        intro g hg W2 hbox hb
        have hB2 := below_step hB hb
        have lg : w1.heap.size ≤ g := by rw [hg]; exact hB.size
        have hy2 := blk_below hy hb
        have ne2 : g ≠ s_ := by rw [hg]; exact Nat.ne_of_gt (blk_lt hy)
        exact hK.out _ _ (hSA.out _ hB2) (fun _ => J67 (g, s_) _ ⟨hB2, hbox, lg, hy2, ly, ne2⟩)
    intro J7
    refine three_ (i := 2) (j := 6) (k := 7) (Ni := some 12) (Nj := some 7) (Nk := some 8) #[true, true, true, true, true, false, false, false, false, false] #[true, true, false, true, true, false, true, false, false, false] #[true, true, false, true, true, false, false, true, false, false] rfl rfl rfl rfl rfl rfl (three_of HT_.out (by kernel_rfl)) (by decide) (by decide) (by decide) (fun K hK => ?_) (fun K hK => ?_) (fun K hK => ?_)
    · have _u := trivial
      refine call_ 28 #[.agg #[.string a0, .string a1, .string a2, .string a3, .int .i64 a4, .int .i64 a5, .int .i64 a6, .bool a7, .bool a8, .bool a9, .int .i64 a10], .pointer (some ⟨w.heap.size + 1 + 1, 0, none⟩)] (by rfl) rfl (by have he := enters_ Tryz.func28 (by kernel_rfl) rfl #[.agg #[.string a0, .string a1, .string a2, .string a3, .int .i64 a4, .int .i64 a5, .int .i64 a6, .bool a7, .bool a8, .bool a9, .int .i64 a10], .pointer (some ⟨w.heap.size + 1 + 1, 0, none⟩)] W; unfold execOp; simp [resolve, Deferred.ofValue, invoke, Act.eval, he]) ?_
      refine (cmp_tail (w.heap.size + 1 + 1) _ _ _ _ _ _ _ _ _ _ _ _ hHeld.2.1).mono ?_
      rintro e W2 ⟨rfl, hb⟩
      refine ⟨_, rfl, ?_⟩
      have hB2 := below_step hB hb
      exact hK.out _ _ (hSA.out _ hB2) (fun _ => J2 () _ hB2)
    · have _u := trivial
      refine box_step ?hg (N := 7) ?hd (cs := #[.int .i64 0, .int .i64 0, .int .i64 0, .int .i64 0, .int .i64 0]) (t := 45) ?hr ?_; (case hd => rfl); (case hg => rfl); (case hr => first | (go_simp; done) | (go_simp; rfl))
      intro g hg W2 hbox hb
      have hB2 := below_step hB hb
      have lg : w1.heap.size ≤ g := by rw [hg]; exact hB.size
      exact hK.out _ _ (hSA.out _ hB2) (fun _ => J6 g _ ⟨hB2, hbox, lg⟩)
    · have _u := trivial
      refine box_step ?hg (N := 8) ?hd (cs := #[.int .i64 0, .int .i64 0, .int .i64 0, .int .i64 0, .int .i64 0]) (t := 45) ?hr ?_; (case hd => rfl); (case hg => rfl); (case hr => first | (go_simp; done) | (go_simp; rfl))
      intro g hg W2 hbox hb
      have hB2 := below_step hB hb
      have lg : w1.heap.size ≤ g := by rw [hg]; exact hB.size
      exact hK.out _ _ (hSA.out _ hB2) (fun _ => J7 g _ ⟨hB2, hbox, lg⟩)
  case rest =>
    obtain ⟨gx, gy, rfl, rfl, HB2, HX, HY⟩ := hcut
    obtain ⟨hb0, hc0, hcells⟩ := hSA.out wc HB2.out
    have hlt : w.heap.size + 1 < wc.heap.size := by have := HB2.out.size; omega
    clear hc0
    have hS : ∀ w' : World, Below wc.heap.size wc w' → Below wc.heap.size wc w' ∧ w'.cell? ⟨w.heap.size, 0, none⟩ = some (.string a0) ∧ w'.cell? ⟨w.heap.size, 1, none⟩ = some (.string a1) ∧ w'.cell? ⟨w.heap.size, 2, none⟩ = some (.string a2) ∧ w'.cell? ⟨w.heap.size, 3, none⟩ = some (.string a3) ∧ w'.cell? ⟨w.heap.size, 4, none⟩ = some (.int .i64 a4) ∧ w'.cell? ⟨w.heap.size, 5, none⟩ = some (.int .i64 a5) ∧ w'.cell? ⟨w.heap.size, 6, none⟩ = some (.int .i64 a6) ∧ w'.cell? ⟨w.heap.size, 7, none⟩ = some (.bool a7) ∧ w'.cell? ⟨w.heap.size, 8, none⟩ = some (.bool a8) ∧ w'.cell? ⟨w.heap.size, 9, none⟩ = some (.bool a9) ∧ w'.cell? ⟨w.heap.size, 10, none⟩ = some (.int .i64 a10) ∧ w'.cell? ⟨w.heap.size + 1, 0, none⟩ = some (.string b0) ∧ w'.cell? ⟨w.heap.size + 1, 1, none⟩ = some (.string b1) ∧ w'.cell? ⟨w.heap.size + 1, 2, none⟩ = some (.string b2) ∧ w'.cell? ⟨w.heap.size + 1, 3, none⟩ = some (.string b3) ∧ w'.cell? ⟨w.heap.size + 1, 4, none⟩ = some (.int .i64 b4) ∧ w'.cell? ⟨w.heap.size + 1, 5, none⟩ = some (.int .i64 b5) ∧ w'.cell? ⟨w.heap.size + 1, 6, none⟩ = some (.int .i64 b6) ∧ w'.cell? ⟨w.heap.size + 1, 7, none⟩ = some (.bool b7) ∧ w'.cell? ⟨w.heap.size + 1, 8, none⟩ = some (.bool b8) ∧ w'.cell? ⟨w.heap.size + 1, 9, none⟩ = some (.bool b9) ∧ w'.cell? ⟨w.heap.size + 1, 10, none⟩ = some (.int .i64 b10) := by
      intro w' hb
      obtain ⟨pa0, pa1, pa2, pa3, pa4, pa5, pa6, pa7, pa8, pa9, pa10, pb0, pb1, pb2, pb3, pb4, pb5, pb6, pb7, pb8, pb9, pb10⟩ := hcells
      exact ⟨hb, (hb.cell (by show w.heap.size < _; omega)).trans pa0, (hb.cell (by show w.heap.size < _; omega)).trans pa1, (hb.cell (by show w.heap.size < _; omega)).trans pa2, (hb.cell (by show w.heap.size < _; omega)).trans pa3, (hb.cell (by show w.heap.size < _; omega)).trans pa4, (hb.cell (by show w.heap.size < _; omega)).trans pa5, (hb.cell (by show w.heap.size < _; omega)).trans pa6, (hb.cell (by show w.heap.size < _; omega)).trans pa7, (hb.cell (by show w.heap.size < _; omega)).trans pa8, (hb.cell (by show w.heap.size < _; omega)).trans pa9, (hb.cell (by show w.heap.size < _; omega)).trans pa10, (hb.cell (by show w.heap.size + 1 < _; omega)).trans pb0, (hb.cell (by show w.heap.size + 1 < _; omega)).trans pb1, (hb.cell (by show w.heap.size + 1 < _; omega)).trans pb2, (hb.cell (by show w.heap.size + 1 < _; omega)).trans pb3, (hb.cell (by show w.heap.size + 1 < _; omega)).trans pb4, (hb.cell (by show w.heap.size + 1 < _; omega)).trans pb5, (hb.cell (by show w.heap.size + 1 < _; omega)).trans pb6, (hb.cell (by show w.heap.size + 1 < _; omega)).trans pb7, (hb.cell (by show w.heap.size + 1 < _; omega)).trans pb8, (hb.cell (by show w.heap.size + 1 < _; omega)).trans pb9, (hb.cell (by show w.heap.size + 1 < _; omega)).trans pb10⟩
    have hSB := Aside0.mk hS
    clear hS hcells hb0
    obtain ⟨k1, hk1⟩ := key_at a0 a1 a2 b0 b1 b2
    obtain ⟨k2, hk2⟩ := lex_at (l := [a6, tl a7, tl a8, tl a9, a10]) (m := [b6, tl b7, tl b8, tl b9, b10]) (by simp) rfl
    obtain ⟨k3, hk3⟩ := or_at (l := [cmpK a0 a1 a2 b0 b1 b2, cmpI a4 b4, cmpI a5 b5, cmpS a3 b3, lexI [a6, tl a7, tl a8, tl a9, a10] [b6, tl b7, tl b8, tl b9, b10]]) (by simp)
    have K1 := Aside0.mk hk1
    have K2 := Aside0.mk hk2
    have K3 := Aside0.mk hk3
    clear hk1 hk2 hk3
    go_wp2
    go_region_held3 (fun w' => Below wc.heap.size wc w' ∧ w'.cell? ⟨w.heap.size, 0, none⟩ = some (.string a0) ∧ w'.cell? ⟨w.heap.size, 1, none⟩ = some (.string a1) ∧ w'.cell? ⟨w.heap.size, 2, none⟩ = some (.string a2) ∧ w'.cell? ⟨w.heap.size, 3, none⟩ = some (.string a3) ∧ w'.cell? ⟨w.heap.size, 4, none⟩ = some (.int .i64 a4) ∧ w'.cell? ⟨w.heap.size, 5, none⟩ = some (.int .i64 a5) ∧ w'.cell? ⟨w.heap.size, 6, none⟩ = some (.int .i64 a6) ∧ w'.cell? ⟨w.heap.size, 7, none⟩ = some (.bool a7) ∧ w'.cell? ⟨w.heap.size, 8, none⟩ = some (.bool a8) ∧ w'.cell? ⟨w.heap.size, 9, none⟩ = some (.bool a9) ∧ w'.cell? ⟨w.heap.size, 10, none⟩ = some (.int .i64 a10) ∧ w'.cell? ⟨w.heap.size + 1, 0, none⟩ = some (.string b0) ∧ w'.cell? ⟨w.heap.size + 1, 1, none⟩ = some (.string b1) ∧ w'.cell? ⟨w.heap.size + 1, 2, none⟩ = some (.string b2) ∧ w'.cell? ⟨w.heap.size + 1, 3, none⟩ = some (.string b3) ∧ w'.cell? ⟨w.heap.size + 1, 4, none⟩ = some (.int .i64 b4) ∧ w'.cell? ⟨w.heap.size + 1, 5, none⟩ = some (.int .i64 b5) ∧ w'.cell? ⟨w.heap.size + 1, 6, none⟩ = some (.int .i64 b6) ∧ w'.cell? ⟨w.heap.size + 1, 7, none⟩ = some (.bool b7) ∧ w'.cell? ⟨w.heap.size + 1, 8, none⟩ = some (.bool b8) ∧ w'.cell? ⟨w.heap.size + 1, 9, none⟩ = some (.bool b9) ∧ w'.cell? ⟨w.heap.size + 1, 10, none⟩ = some (.int .i64 b10))
      ((refine hSB.out _ ?_; with_reducible repeat (first | exact And.left (by assumption) | exact below_undrew (And.left (by assumption)) | exact below_step (And.left (by assumption)) hb | exact Below.refl _ _ | refine below_alloc ?_ _ | refine below_drew1 ?_ | refine pw_below_drewN ?_ _)))
      (first | (go_at_call 8; refine (PrintC.cookie_Of.calls _ _ _ _ _ _ _ _ _ _ _ _ _ _ _ rfl).mono ?_; rintro e w' ⟨rfl, hb⟩)
             | (go_at_call 9; refine (PrintC.cookie_Key_Cmp.calls k1 _ _ _ _ _ _ _ _ K1.out).mono ?_; rintro e w' ⟨rfl, hb⟩; have HL := And.left ‹Below wc.heap.size wc _ ∧ _›; have HX2 := Aside0.mk (blk_below HX.out (below_step HL hb)); have HY2 := Aside0.mk (blk_below HY.out (below_step HL hb)))
             | (go_at_call 29; refine (PrintC.cmp_Compare_int.calls _ _ _ _ (cmpI_f _ _)).mono ?_; rintro e w' ⟨rfl, nd, rfl⟩)
             | (go_at_call 26; refine (PrintC.cmp_Compare_string.calls _ _ _ _ (cmpS_f _ _)).mono ?_; rintro e w' ⟨rfl, nd, rfl⟩)
             | (go_at_call 30; refine (PrintC.slices_Compare_int_int.calls k2 _ _ [a6, tl a7, tl a8, tl a9, a10] _ _ [b6, tl b7, tl b8, tl b9, b10] _ _ (reads5 (blk_drewN HX2.out _)) (Nat.le_refl 5) (reads5 (blk_drewN HY2.out _)) (Nat.le_refl 5) K2.out).mono ?_; rintro e w' ⟨rfl, nd, rfl⟩)
             | (go_at_call 25; refine (PrintC.cmp_Or_int.calls k3 _ _ [_, _, _, _, _] _ _ (reads5 (heap_alloc_new _ _)) (Nat.le_refl 5) K3.out).mono ?_; rintro e w' ⟨rfl, nd, rfl⟩))
    go_wp2
    go_ret
    exact ⟨rfl, below_weaken hB1 hB1.size (below_weaken HB2.out HB2.out.size (by with_reducible repeat (first | exact And.left (by assumption) | exact below_undrew (And.left (by assumption)) | refine pw_below_drewN ?_ _ | refine below_alloc ?_ _)))⟩
end Go.Proofs.YtpcakfldmcfhlaaGreatDoor.Print
