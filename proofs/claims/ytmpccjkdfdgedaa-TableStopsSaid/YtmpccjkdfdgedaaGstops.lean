/- TableStops, walked by hand: a range over All that is left early; a table whose keys fall. -/
import Derived.Test.YtmpccjkdfdgedaaGalive14
import Derived.Test.YtmpccjkdfdgedaaGkeysB
import Derived.Test.YtmpccjkdfdgedaaYtabS
import Derived.Test.YtmpccjkdfdgedaaPrint2
namespace Go.Proofs.Ytmpccjkdfdgedaa.Print
open Go.RowKit Go.Proofs.YtmpccjkdfdgedaaW.PrintWords Go.Proofs.YtmpccjkdfdgedaaW.PrintLast Go.Proofs.YtmpccjkdfdgedaaW.PrintMore Go.Proofs.Ytmpccjkdfdgedaa.Range Go.Shelf Go.Proofs.Ytmpccjkdfdgedaa.Y
set_option linter.unusedVariables false
set_option linter.unusedSimpArgs false
attribute [local go_sem] Oper.semAt_some max2_int min2_int max_two min_two

theorem madeT {l : List SO} {T : List SR} {m k : Nat} (hf : cracknellaw14_made.f k l = some T) (hm : T.length = m) (A0 : Option Addr) (c0 n : Nat) (W : World) (hn : l.length = n) (hr : Kd.C k43 W A0 n l) (hc : n ≤ c0) :
    Calls Try.prog 11 #[.slice A0 n c0] W fun e w' => ∃ A' c', e = .returned (.agg #[.slice A' m c']) ∧ Tb w' A' m c' T ∧ Below W.heap.size W w' := by
  subst hn
  refine (cracknellaw14_made.calls k A0 c0 l T W hr hc hf).mono ?_
  rintro e w' ⟨v, rfl, ho, hb⟩
  obtain ⟨A', c', rfl, ht⟩ := Tb.ofV ho hm
  exact ⟨A', c', rfl, ht, hb⟩
theorem modelT {l : List SO} {M : List SD} {m k : Nat} (hf : cracknellaw14_model.f k l = some M) (hm : M.length = m) (A0 : Option Addr) (c0 n : Nat) (W : World) (hn : l.length = n) (hr : Kd.C k43 W A0 n l) (hc : n ≤ c0) :
    Calls Try.prog 12 #[.slice A0 n c0] W fun e w' => ∃ A' c', e = .returned (.slice A' m c') ∧ Kd.C k53 w' A' m M ∧ m ≤ c' ∧ Below W.heap.size W w' := by
  subst hn
  subst hm
  refine (cracknellaw14_model.calls k A0 c0 l M W hr hc hf).mono ?_
  rintro e w' ⟨v, rfl, ho, hb⟩
  obtain ⟨A', c', rfl, hc', hr'⟩ := Kd.R_reads ho
  exact ⟨A', c', rfl, hr', hc', hb⟩
/-- A table's rows at Back. -/
def TbB (W : World) (A : Option Addr) (n c : Nat) (l : List SB) : Prop := l.length = n ∧ Kd.R k72 72 W 0 (fun _ => True) (.slice A n c) l
theorem TbB.below {W w1 : World} {A : Option Addr} {n c : Nat} {l : List SB} (h : TbB W A n c l) (hb : Below W.heap.size W w1) : TbB w1 A n c l := ⟨h.1, Kd.R_below h.2 hb⟩
theorem TbB.alloc {W : World} {A : Option Addr} {n c : Nat} {l : List SB} (h : TbB W A n c l) (o : Obj) : TbB (W.alloc o) A n c l := ⟨h.1, Kd.R_alloc h.2 o⟩
theorem putB {k : Nat} {l r : List SB} {a b : Int} {n m c : Nat} {A : Option Addr} {W : World} (hf : cracknellaw14_Back_int_Put.f k l a b = some r) (hm : r.length = m) (h : TbB W A n c l) :
    Calls Try.prog 24 #[.agg #[.slice A n c], .int .i64 a, .int .i64 b] W fun e w' => ∃ A' c', e = .returned (.agg #[.slice A' m c']) ∧ TbB w' A' m c' r ∧ Below W.heap.size W w' := by
  obtain ⟨rfl, h⟩ := h
  refine (cracknellaw14_Back_int_Put.calls k (fun _ => True) A c l a b r W (Kd.R_V h) hf).mono ?_
  rintro e w' ⟨v, rfl, ho, hb⟩
  obtain ⟨A', c', rfl⟩ := Kd.R_slice ho
  subst hm
  exact ⟨A', c', rfl, ⟨rfl, Kd.R_mono (Kd.R_lower ho (Nat.zero_le _)) (fun _ _ => trivial)⟩, hb⟩
theorem keysB {l : List SB} {n c : Nat} {A : Option Addr} {W : World} (hn : n ≤ 1099511627776) (h : TbB W A n c l) :
    Calls Try.prog 25 #[.agg #[.slice A n c]] W fun e w' => ∃ A2 c2, e = .returned (.slice A2 n c2) ∧ Kd.C (Kd.int .i64) w' A2 n (l.map (·.f0)) ∧ Below W.heap.size W w' := by
  obtain ⟨rfl, h⟩ := h
  refine (table_Keys_Back.calls A c l (l.map (·.f0)) W (Kd.R_reads' h).2.2 (Kd.R_reads' h).2.1 (by unfold table_Keys_Back.f; rw [if_pos hn])).mono ?_
  rintro e w' ⟨v, rfl, ho, hb⟩
  obtain ⟨A2, c2, rfl, _, hr2⟩ := Kd.R_reads ho
  rw [List.length_map] at hr2 ⊢
  exact ⟨A2, c2, rfl, hr2, hb⟩
/-- What the range leaves: all have come, or it has been left. -/
def stopQ (Wl : World) (g len : Nat) (most : Int) (tm : Array Value) (e : Exit) (a : Act) (W : World) : Prop :=
  (e = .normal ∨ e = .exit 0) ∧ ∃ D, Wl.heap.size ≤ D ∧ W.heap[D]? = some (.deferred (some [])) ∧ But g Wl W ∧ Boxed W g 3 (.int .i64 (if (len : Int) < most then (len : Int) else most)) ∧ a = { tmps := tm, defers := [{ target := .collected D, args := #[] }] }
set_option maxHeartbeats 4000000 in
set_option maxRecDepth 100000 in
theorem stopsWalk (A0 : Option Addr) (c0 n : Nat) (l : List SO) (most : Int) (w : World) (hl : Aside0 (l.length = n)) (HR : Aside0 (Kd.C k43 w A0 n l)) (HC : Aside0 (n ≤ c0)) (HM : Aside0 ((Lit.int .i64 most).wf = true)) :
    Calls Try.prog 8 #[.slice A0 n c0, .int .i64 most] w fun e w' => e = .returned (.bool true) ∧ Below w.heap.size w w' := by
  have hu27 := Try.underlying27
  have hu56 := Try.underlying56
  have hu29 := Try.underlying29
  have hu53 := Try.underlying53
  have hu59 := Try.underlying59
  refine calls_of_marks Try.func8 rfl ?_
  simp only [Try.ntmps8, List.size_toArray, List.length_cons, List.length_nil, Nat.reduceAdd, Nat.reduceSub, Array.replicate_succ, Array.replicate_zero, List.push_toArray, List.append_toArray, List.nil_append, List.cons_append]
  by_cases hb : (60 : Int) < (n : Int)
  · have e1 : decide ((60 : Int) < (n : Int)) = true := decide_eq_true hb
    have e1b : decide (60 < n) = true := decide_eq_true (by omega)
    clear hb
    go_wp2_with (first | ((with_reducible refine gate_dst (N := 21) rfl ?_); refine goesL_ (some 21) rfl rfl Try.func9 (by kernel_rfl) rfl #[] rfl xg ?_; refine (law14_alive.calls true _ rfl).mono ?_; rintro e w2 ⟨rfl, hb2⟩; refine ⟨_, rfl, ?_⟩; have x4 := keepBox hb2 (by have := Boxed.new (w.alloc (.cells #[.int .i64 most] 3)) 4 (.bool false); rw [World.size_alloc] at this; exact this); have z4 := x4.cell; have f4 := x4.frozen))
    have hB := below_step (below_alloc (below_alloc (Below.refl _ w) _) _) hb2
    have hc5 : (w2.setCell ⟨w.heap.size + 1, 0, none⟩ (.bool true)).cell? ⟨w.heap.size + 1, 0, none⟩ = some (.bool true) := World.cell?_setCell_same' _ _ _ (by rw [z4]; rfl)
    refine ⟨.bool true, ?_, rfl, hB.setCell (p := ⟨w.heap.size + 1, 0, none⟩) (by show w.heap.size ≤ w.heap.size + 1; omega) _⟩
    simp [results, Try.f8, go_sem, hc5]
  by_cases hb1 : most < 1
  · have e1 : decide ((60 : Int) < (n : Int)) = false := decide_eq_false hb
    have e1b : decide (60 < n) = false := decide_eq_false (by omega)
    have e2 : decide (most < 1) = true := decide_eq_true hb1
    clear hb hb1
    go_wp2_with (first | ((with_reducible refine gate_dst (N := 21) rfl ?_); refine goesL_ (some 21) rfl rfl Try.func9 (by kernel_rfl) rfl #[] rfl xg ?_; refine (law14_alive.calls true _ rfl).mono ?_; rintro e w2 ⟨rfl, hb2⟩; refine ⟨_, rfl, ?_⟩; have x4 := keepBox hb2 (by have := Boxed.new (w.alloc (.cells #[.int .i64 most] 3)) 4 (.bool false); rw [World.size_alloc] at this; exact this); have z4 := x4.cell; have f4 := x4.frozen))
    have hB := below_step (below_alloc (below_alloc (Below.refl _ w) _) _) hb2
    have hc5 : (w2.setCell ⟨w.heap.size + 1, 0, none⟩ (.bool true)).cell? ⟨w.heap.size + 1, 0, none⟩ = some (.bool true) := World.cell?_setCell_same' _ _ _ (by rw [z4]; rfl)
    refine ⟨.bool true, ?_, rfl, hB.setCell (p := ⟨w.heap.size + 1, 0, none⟩) (by show w.heap.size ≤ w.heap.size + 1; omega) _⟩
    simp [results, Try.f8, go_sem, hc5]
  have e1 : decide ((60 : Int) < (n : Int)) = false := decide_eq_false hb
  have e1b : decide (60 < n) = false := decide_eq_false (by omega)
  have e2 : decide (most < 1) = false := decide_eq_false hb1
  have hn60 : n ≤ 60 := by omega
  have hpos : 1 ≤ most := by omega
  clear hb hb1
  obtain ⟨T, hT⟩ : ∃ T, T = behind l := ⟨_, rfl⟩
  have hTr : Rises ordI kR T := by rw [hT]; exact behind_rises l
  have hTl : T.length ≤ 60 := by have := behind_len l; have := hl.out; rw [hT]; omega
  obtain ⟨k1, hf1⟩ : ∃ k, cracknellaw14_made.f k l = some T := by
    obtain ⟨K, h⟩ := made_ev l (by have := hl.out; omega)
    exact ⟨K, by rw [hT]; exact h K (Nat.le_refl _)⟩
  obtain ⟨k2, hf2⟩ : ∃ k, cracknellaw14_model.f k l = some (T.map cv) := by
    obtain ⟨K, h⟩ := model_ev l (by have := hl.out; omega)
    exact ⟨K, by rw [hT]; exact h K (Nat.le_refl _)⟩
  have HT := Aside0.mk hT
  have HTr := Aside0.mk hTr
  have HTl := Aside0.mk hTl
  have HN60 := Aside0.mk hn60
  have HP := Aside0.mk hpos
  clear hT hTr hTl hn60 hpos
  go_wp2_with (first | ((with_reducible refine gate_dst (N := 23) rfl ?_); refine goesL_ (some 23) rfl rfl Try.func11 (by kernel_rfl) rfl #[.slice A0 n c0] rfl xg ?_; refine (madeT hf1 rfl A0 c0 n _ hl.out ?side1 HC.out).mono ?_; (case side1 => repeat (first | exact HR.out | (with_reducible refine Kd.C_alloc ?_ _))); rintro e w2 ⟨A2, c2, rfl, t2, hb2⟩; refine ⟨_, rfl, ?_⟩) | ((with_reducible refine gate_dst (N := 25) rfl ?_); refine goesL_ (some 25) rfl rfl Try.func12 (by kernel_rfl) rfl #[.slice A0 n c0] rfl xg ?_; refine (modelT hf2 (m := T.length) (by rw [List.length_map]) A0 c0 n _ hl.out ?side1 HC.out).mono ?_; (case side1 => exact Kd.C_below HR.out (below_step (below_alloc (below_alloc (Below.refl _ w) _) _) hb2)); rintro e w3 ⟨A3, c3, rfl, r3, hc3, hb3⟩; refine ⟨_, rfl, ?_⟩))
  have sz2 := hb2.size
  have sz3 := hb3.size
  have bw2 := below_step (below_alloc (below_alloc (Below.refl _ w) (.cells #[.int .i64 most] 3)) (.cells #[.bool false] 4)) hb2
  have bw3 := below_step bw2 hb3
  have xm3 : Boxed w3 w.heap.size 3 (.int .i64 most) := keepBox hb3 (keepBox hb2 ((Boxed.new w _ _).alloc _))
  have x43 : Boxed w3 (w.heap.size + 1) 4 (.bool false) := keepBox hb3 (keepBox hb2 (by have := Boxed.new (w.alloc (.cells #[.int .i64 most] 3)) 4 (.bool false); rw [World.size_alloc] at this; exact this))
  have l4 := x43.lt
  have t3 := t2.below hb3
  obtain ⟨Wl, hWl⟩ : ∃ Wl, ((w3.alloc (.cells #[.slice A2 T.length c2] 27)).alloc (.cells #[.slice A3 T.length c3] 29)).alloc (.cells #[.int .i64 0] 3) = Wl := ⟨_, rfl⟩
  have B3 : Below w3.heap.size w3 Wl := by rw [← hWl]; exact below_alloc (below_alloc (below_alloc (Below.refl _ _) _) _) _
  have sz : Wl.heap.size = w3.heap.size + 1 + 1 + 1 := by rw [← hWl]; simp
  have xm := keepBox B3 xm3
  have x4 := keepBox B3 x43
  have x6 : Boxed Wl (w3.heap.size + 1) 29 (.slice A3 T.length c3) := by
    have := (Boxed.new (w3.alloc (.cells #[.slice A2 T.length c2] 27)) 29 (.slice A3 T.length c3)).alloc (.cells #[.int .i64 0] 3)
    rw [World.size_alloc] at this
    rw [← hWl]
    exact this
  have x7 : Boxed Wl (w3.heap.size + 1 + 1) 3 (.int .i64 0) := by
    have := Boxed.new ((w3.alloc (.cells #[.slice A2 T.length c2] 27)).alloc (.cells #[.slice A3 T.length c3] 29)) 3 (.int .i64 0)
    rw [World.size_alloc, World.size_alloc] at this
    rw [← hWl]
    exact this
  have hrd := Kd.V_reads' t3.2
  have stay : ∀ W, But (w3.heap.size + 1 + 1) Wl W → Below w3.heap.size w3 W := fun W hb => B3.trans (hb.below (by omega) (by omega))
  rw [hWl]
  have HPos := HP.out
  have HTlen := HTl.out
  clear hb2 hb3 hWl bw2 t2 xm3 x43
  refine Code.wp_mono (Q := stopQ Wl (w3.heap.size + 1 + 1) T.length most (#[.slice A0 n c0, .int .i64 most, undef, .pointer (some ⟨w.heap.size, 0, none⟩), .pointer (some ⟨w.heap.size + 1, 0, none⟩), .pointer (some ⟨w3.heap.size, 0, none⟩), .pointer (some ⟨w3.heap.size + 1, 0, none⟩), .pointer (some ⟨w3.heap.size + 1 + 1, 0, none⟩), undef, undef, undef, undef, undef, undef, .slice A0 n c0, .int .i64 n, .bool false, .bool false, .int .i64 most, .bool false, .bool false, undef, .slice A0 n c0, .agg #[.slice A2 T.length c2], .slice A0 n c0, .slice A3 T.length c3, .agg #[.slice A2 T.length c2], .func (.func 23) #[.agg #[.slice A2 T.length c2]] #[]] ++ Array.replicate 69 undef)) ?next ?loop
  case loop =>
    rename_i q0 k0 a0
    clear a0 k0
    simp only [Nat.reduceAdd, Nat.reduceSub, Array.replicate_succ, Array.replicate_zero, List.push_toArray, List.append_toArray, List.nil_append, List.cons_append]
    refine wp_range (gf := 23) (fb := #[.agg #[.slice A2 T.length c2]]) (n₀ := w3.heap.size) (enc := fun x : S65 => #[.int .i64 x.f0, .int .i64 x.f1]) (xs := T) rfl (enters_of Try.func23 (by kernel_rfl) rfl)
      (allN A2 c2 T.length T w3 Wl rfl hrd.2.2 hrd.2.1 (by omega) B3) (by omega) (fun _ _ => rfl)
      (fun j W => (But (w3.heap.size + 1 + 1) Wl W ∧ Boxed W (w3.heap.size + 1 + 1) 3 (.int .i64 (j : Int))) ∧ (j : Int) < most)
      (fun c j W => ((But (w3.heap.size + 1 + 1) Wl W ∧ Boxed W (w3.heap.size + 1 + 1) 3 (.int .i64 most)) ∧ ((j : Int) + 1 = most)) ∧ c = .exit 0)
      (OwnFrom.and (OwnFrom.and But.own (boxed_own _)) (fun _ _ _ _ h _ _ => h))
      (fun c => OwnFrom.and (OwnFrom.and (OwnFrom.and But.own (boxed_own (fun _ => .int .i64 most))) (fun _ _ _ _ h _ _ => h)) (fun _ _ _ _ h _ _ => h))
      ⟨⟨But.refl _ _, x7⟩, by show (0 : Int) < most; omega⟩ (fun x => { tmps := #[.slice A0 n c0, .int .i64 most, undef, .pointer (some ⟨w.heap.size, 0, none⟩), .pointer (some ⟨w.heap.size + 1, 0, none⟩), .pointer (some ⟨w3.heap.size, 0, none⟩), .pointer (some ⟨w3.heap.size + 1, 0, none⟩), .pointer (some ⟨w3.heap.size + 1 + 1, 0, none⟩), .int .i64 x.f0, undef, undef, undef, undef, undef, .slice A0 n c0, .int .i64 n, .bool false, .bool false, .int .i64 most, .bool false, .bool false, undef, .slice A0 n c0, .agg #[.slice A2 T.length c2], .slice A0 n c0, .slice A3 T.length c3, .agg #[.slice A2 T.length c2], .func (.func 23) #[.agg #[.slice A2 T.length c2]] #[], .int .i64 x.f0, .int .i64 x.f1] ++ Array.replicate 67 undef, defers := [] }) ?assign ?body ?done ?stop
    case assign =>
      intro lp x W K hx hK
      clear stay x7 x6 x4 xm B3 hrd hx r3 t3 bw3 hf1 hf2 HT HTr HTl HN60 HP HPos HTlen
      simp only [Nat.reduceAdd, Nat.reduceSub, Array.replicate_succ, Array.replicate_zero, List.push_toArray, List.append_toArray, List.nil_append, List.cons_append] at hK
      gi_wp2
      exact hK
    case body =>
      rintro lp j x W hx ⟨⟨hbut, hbox⟩, hjm⟩
      simp only [Nat.reduceAdd, Nat.reduceSub, Array.replicate_succ, Array.replicate_zero, List.push_toArray, List.append_toArray, List.nil_append, List.cons_append]
      have hj : j < T.length := (List.getElem?_eq_some_iff.1 hx).1
      have hrdm : rd_T53 (T.map cv) (j : Int) = cv x := by unfold rd_T53; rw [Int.toNat_natCast, List.getD_eq_getElem?_getD, List.getElem?_map, hx]; rfl
      obtain ⟨ad, rfl, h0, h1⟩ := at_T53 (Kd.C_below r3 (stay W hbut)) (j : Int) (by omega) (by omega)
      rw [hrdm] at h0
      rw [Int.toNat_natCast] at h0
      have h0' : W.cell? (ad.add (j * 2)) = some (.int .i64 x.f0) := h0
      have z6 := (show Boxed W _ _ _ from hbut.at x6 (by omega)).cell
      have zm := (show Boxed W _ _ _ from hbut.at xm (by omega)).cell
      have zb := hbox.cell
      have zf := hbox.frozen
      have p1 := eq_true (show 0 ≤ (j : Int) by omega)
      have q1 := eq_true (show (j : Int) < (T.length : Int) by omega)
      have q2 : decide ((T.length : Int) ≤ (j : Int)) = false := decide_eq_false (by omega)
      have q3 : decide (T.length ≤ j) = false := decide_eq_false (by omega)
      have hw : ((j + 1 : Nat) : Int) = (j : Int) + 1 := by omega
      have zc : (W.setCell ⟨w3.heap.size + 1 + 1, 0, none⟩ (.int .i64 ((j : Int) + 1))).cell? ⟨w3.heap.size + 1 + 1, 0, none⟩ = some (.int .i64 ((j : Int) + 1)) := World.cell?_setCell_same' _ _ _ (by rw [zb]; rfl)
      have zmc : (W.setCell ⟨w3.heap.size + 1 + 1, 0, none⟩ (.int .i64 ((j : Int) + 1))).cell? ⟨w.heap.size, 0, none⟩ = some (.int .i64 most) := (show Boxed _ _ _ _ from (hbut.set _).at xm (by omega)).cell
      clear h0 h1 hrdm hx stay x7 x6 x4 xm B3 hrd r3 t3 bw3 hf1 hf2 HT HTr HTl
      by_cases hmm : most ≤ (j : Int) + 1
      · have q4 : decide (most ≤ (j : Int) + 1) = true := decide_eq_true hmm
        have he : (j : Int) + 1 = most := by omega
        have HE := Aside0.mk he
        have HB := Aside0.mk hbut
        have HX := Aside0.mk hbox
        have HS := Aside0.mk sz
        clear he hjm hw hbut hbox sz HPos
        gi_wp2
        all_goals (try (exfalso; omega))
        refine ⟨(KeepsOthers.setCell _ _ _).from _, ⟨⟨HB.out.set _, ?_⟩, HE.out⟩, rfl⟩
        rw [← HE.out]
        exact HX.out.set _
      · have q4 : decide (most ≤ (j : Int) + 1) = false := decide_eq_false hmm
        have HW := Aside0.mk hw
        have HB := Aside0.mk hbut
        have HX := Aside0.mk hbox
        have HS := Aside0.mk sz
        clear hw hbut hbox sz HPos
        gi_wp2
        all_goals (try (exfalso; omega))
        refine ⟨(KeepsOthers.setCell _ _ _).from _, (Below.refl w3.heap.size W).setCell (p := ⟨w3.heap.size + 1 + 1, 0, none⟩) (by show w3.heap.size ≤ w3.heap.size + 1 + 1; omega) _, ⟨HB.out.set _, ?_⟩, ?_⟩
        · rw [HW.out]; exact HX.out.set _
        · rw [HW.out]; omega
    case done =>
      rintro D W hD ⟨⟨hbut, hbox⟩, hjm⟩ hK
      refine ⟨.inl rfl, D, hD, hK, hbut, ?_, rfl⟩
      rw [if_pos hjm]
      exact hbox
    case stop =>
      rintro D c j W hD hj ⟨⟨⟨hbut, hbox⟩, hjm⟩, rfl⟩ hK
      go_wp2
      refine ⟨.inr rfl, D, hD, hK, hbut, ?_, rfl⟩
      rw [if_neg (by omega)]
      exact hbox
  case next =>
    rintro e a3 W ⟨he, D, hD, hK, hbut, hbox, rfl⟩
    simp only [Nat.reduceAdd, Nat.reduceSub, Array.replicate_succ, Array.replicate_zero, List.push_toArray, List.append_toArray, List.nil_append, List.cons_append]
    obtain ⟨mn, hmn⟩ : ∃ mn, (if (T.length : Int) < most then (T.length : Int) else most) = mn := ⟨_, rfl⟩
    rw [hmn] at hbox
    have sW := hbut.size
    have hBw := stay W hbut
    have z6 : Boxed W (w3.heap.size + 1) 29 (.slice A3 T.length c3) := hbut.at x6 (by omega)
    have zm : Boxed W w.heap.size 3 (.int .i64 most) := hbut.at xm (by omega)
    have z4 : Boxed W (w.heap.size + 1) 4 (.bool false) := hbut.at x4 (by omega)
    have rW := Kd.C_below r3 hBw
    have HB0 := Aside0.mk (bw3.trans (hBw.mono bw3.size))
    have y6 := (z6.alloc (.cells #[.slice none 0 0] 56)).cell
    have R0 := Aside0.mk rW
    have D0 := Aside0.mk hK
    have D1 := Aside0.mk hD
    have M0 := Aside0.mk hmn
    have S0 := Aside0.mk sz
    have l6 := z6.lt
    have l7 := hbox.lt
    clear x6 xm x4 x7 stay hbut r3 hBw rW bw3 hK hD B3 sz t3 hrd hf1 hf2 HPos sW
    rcases he with rfl | rfl
    · go_wp2
      go_loopw [50] (fun v50 wr => ∃ (j : Nat) (A : Option Addr) (c : Nat), j ≤ T.length ∧ v50 = .int .i64 j ∧ Aside0 (Boxed wr W.heap.size 56 (.slice A j c)) ∧ Aside0 (TbB wr A j c (BK T j)) ∧ Aside0 (Below W.heap.size W wr)) (fun v _ => T.length - (intOf v).toNat)
      case atStart => exact ⟨0, none, 0, Nat.zero_le _, rfl, ⟨Boxed.new W _ _⟩, ⟨⟨rfl, Kd.R_nil _ _ _ _ _⟩⟩, ⟨below_alloc (Below.refl _ _) _⟩⟩
      case round =>
        obtain ⟨j, A, c, hj, rfl, X9, TB, HBW⟩ := hrel
        by_cases hlt : j < T.length
        · have e3 : decide ((j : Int) < (T.length : Int)) = true := decide_eq_true (by omega)
          have e3b : decide (j < T.length) = true := decide_eq_true hlt
          obtain ⟨x, hx⟩ : ∃ x, T[j]? = some x := ⟨_, List.getElem?_eq_getElem hlt⟩
          obtain ⟨kk, hput⟩ := BK_put HTr.out (by have := HTl.out; omega) hx
          have hrdm : rd_T53 (T.map cv) (j : Int) = cv x := by unfold rd_T53; rw [Int.toNat_natCast, List.getD_eq_getElem?_getD, List.getElem?_map, hx]; rfl
          obtain ⟨ad, rfl, h0, h1⟩ := at_T53 (Kd.C_below R0.out HBW.out) (j : Int) (by omega) (by omega)
          rw [hrdm] at h0 h1
          rw [Int.toNat_natCast] at h0 h1
          have h0' : wr.cell? (ad.add (j * 2)) = some (.int .i64 x.f0) := h0
          have h1' : wr.cell? ⟨(ad.add (j * 2)).block, (ad.add (j * 2)).off + 1, none⟩ = some (.int .i64 x.f1) := h1
          have p1 := eq_true (show 0 ≤ (j : Int) by omega)
          have q1 := eq_true (show (j : Int) < (T.length : Int) by omega)
          have y9 := (X9.out.alloc (.cells #[.int .i64 x.f0, .int .i64 x.f1] 53)).cell
          have HPUT := Aside0.mk hput
          have HJ := Aside0.mk hlt
          clear h0 h1 hrdm hx hput hlt
          go_wp2_with (first | ((with_reducible refine gate_dst (N := 59) rfl ?_); refine goesL_ (some 59) rfl rfl Try.func24 (by kernel_rfl) rfl #[.agg #[.slice A j c], .int .i64 x.f0, .int .i64 x.f1] rfl xg ?_; refine (putB HPUT.out (m := j + 1) (BK_len T (j + 1) (by have := HJ.out; omega)) (TB.out.alloc _)).mono ?_; rintro e w5 ⟨A', c', rfl, tb, hb5⟩; refine ⟨_, rfl, ?_⟩; have X5 := Aside0.mk (keepBox hb5 (X9.out.alloc _)); have z5 := X5.out.cell; have f5 := X5.out.frozen; have TB5 := Aside0.mk tb; have HB5 := Aside0.mk hb5; clear tb hb5))
          go_roundw
          case rel =>
            have hlt := HJ.out
            have hTl := HTl.out
            refine ⟨j + 1, A', c', by omega, ?_, ⟨X5.out.set _⟩, ⟨⟨TB5.out.1, Kd.R_set TB5.out.2 X5.out (by decide) 0 _⟩⟩, ⟨(below_step (below_alloc HBW.out _) HB5.out).setCell (p := ⟨W.heap.size, 0, none⟩) (Nat.le_refl _) _⟩⟩
            first | rfl | (congr 1; unfold wrap64; omega) | (simp; done)
          case measure =>
            have hlt := HJ.out
            have hTl := HTl.out
            first | (show T.length - (((j : Int) + 1)).toNat < T.length - ((j : Int)).toNat; omega) | (rw [show wrap64 ((j : Int) + 1) = ((j + 1 : Nat) : Int) by unfold wrap64; omega]; show T.length - (((j + 1 : Nat) : Int)).toNat < T.length - ((j : Int)).toNat; omega)
        · obtain rfl : j = T.length := by omega
          have e3 : decide ((T.length : Int) < (T.length : Int)) = false := decide_eq_false (by omega)
          have e3b : decide (T.length < T.length) = false := decide_eq_false (by omega)
          have y9 := X9.out.cell
          have hTl := HTl.out
          have HTl2 : T.length ≤ 1099511627776 := by omega
          go_wp2_with (first | ((with_reducible refine gate_dst (N := 62) rfl ?_); refine goesL_ (some 62) rfl rfl Try.func25 (by kernel_rfl) rfl #[.agg #[.slice A T.length c]] rfl xg ?_; refine (keysB HTl2 TB.out).mono ?_; rintro e w6 ⟨A7, c7, rfl, k7, hb7⟩; refine ⟨_, rfl, ?_⟩; have BW6 := below_step HBW.out hb7; have v7 := (keepBox BW6 hbox).cell; have vm := (keepBox BW6 zm).cell; have v6 := (keepBox BW6 z6).cell; have K7 := Aside0.mk k7; have HB7 := Aside0.mk BW6; clear k7 hb7 BW6))
          go_loopw [78] (fun v78 wr2 => ∃ i : Nat, i ≤ T.length ∧ v78 = .int .i64 i ∧ Aside0 (Below w6.heap.size w6 wr2)) (fun v _ => T.length - (intOf v).toNat)
          case atStart => exact ⟨0, Nat.zero_le _, rfl, ⟨Below.refl _ _⟩⟩
          case round =>
            obtain ⟨i, hi, rfl, HB8⟩ := hrel
            by_cases hlt : i < T.length
            · have e4 : decide ((i : Int) < (T.length : Int)) = true := decide_eq_true (by omega)
              have e4b : decide (i < T.length) = true := decide_eq_true hlt
              obtain ⟨mI, hmI⟩ : ∃ mI, mI = T.length - 1 - i := ⟨_, rfl⟩
              have hmlt : mI < (T.map cv).length := by rw [List.length_map]; omega
              obtain ⟨y, hy⟩ : ∃ y, (T.map cv)[mI]? = some y := ⟨_, List.getElem?_eq_getElem hmlt⟩
              have hk := BK_key hlt
              rw [← hmI, hy] at hk
              have hr1 : rd ((BK T T.length).map (·.f0)) (i : Int) = y.f0 := by unfold rd; rw [Int.toNat_natCast, List.getD_eq_getElem?_getD, hk]; rfl
              have hr2 : rd_T53 (T.map cv) (mI : Int) = y := by unfold rd_T53; rw [Int.toNat_natCast, List.getD_eq_getElem?_getD, hy]; rfl
              rw [List.length_map] at hmlt
              obtain ⟨ad2, rfl, h2⟩ := Kd.at_int (Kd.C_below K7.out HB8.out) (i : Int) (by omega) (by omega)
              obtain ⟨ad, rfl, h0, _⟩ := at_T53 (Kd.C_below R0.out (below_step HB7.out HB8.out)) (mI : Int) (by omega) (by omega)
              rw [hr2] at h0
              rw [hr1] at h2
              rw [Int.toNat_natCast] at h0 h2
              have s6 := keepCell HB8.out v6
              have p1 := eq_true (show 0 ≤ (i : Int) by omega)
              have q1 := eq_true (show (i : Int) < (T.length : Int) by omega)
              have p2 := eq_true (show 0 ≤ (mI : Int) by omega)
              have q2 := eq_true (show (mI : Int) < (T.length : Int) by omega)
              have hx1 : wrap64 (wrap64 ((T.length : Int) - 1) - (i : Int)) = (mI : Int) := by unfold wrap64; omega
              have hx2 : (T.length : Int) - 1 - (i : Int) = (mI : Int) := by omega
              have HLT := Aside0.mk hlt
              clear hk hr1 hr2 hy hmlt hlt hmI
              go_wp2
              go_region
              all_goals (try go_wp2)
              have hlt := HLT.out
              refine ⟨⟨i + 1, by omega, by first | rfl | (congr 1), ⟨HB8.out.drew⟩⟩, ?_⟩
              show T.length - ((i : Int) + 1).toNat < T.length - ((i : Int)).toNat
              omega
            · obtain rfl : i = T.length := by omega
              have e4 : decide ((T.length : Int) < (T.length : Int)) = false := decide_eq_false (by omega)
              have e4b : decide (T.length < T.length) = false := decide_eq_false (by omega)
              have BF := below_step HB7.out HB8.out
              have xr := keepBox BF z4
              have DR := Aside0.mk (keepObj BF D0.out)
              have BFA := Aside0.mk (below_step HB0.out BF)
              clear BF
              go_wp2_with (first | ((with_reducible refine gate_dst (N := 96) rfl ?_); refine goesL_ (some 96) rfl rfl Try.func9 (by kernel_rfl) rfl #[] rfl xg ?_; refine (law14_alive.calls true _ rfl).mono ?_; rintro e w9 ⟨rfl, hb9⟩; refine ⟨_, rfl, ?_⟩; have x9 := keepBox hb9 xr; have z9 := x9.cell; have f9 := x9.frozen))
              have hK9 := keepObj hb9 DR.out
              have hB9 := below_step BFA.out hb9
              have hK' := (KeepsOthers.setCell w9 ⟨w.heap.size + 1, 0, none⟩ (.bool true)).same D _ hK9 rfl
              refine ⟨by simp, .inl ⟨_, _, rfl, run_takeDeferred hK', ?_⟩⟩
              have hc5 := cell_kept (World.cell?_setCell_same' w9 ⟨w.heap.size + 1, 0, none⟩ (.bool true) (by rw [z9]; rfl)) (grownBy_putObj' _ D (.deferred none)) (fun r e => by cases e; exact ⟨_, hK', rfl⟩)
              refine ⟨.bool true, ?_, rfl, (hB9.setCell (p := ⟨w.heap.size + 1, 0, none⟩) (by show w.heap.size ≤ w.heap.size + 1; omega) _).trans (belowK_b (w := w) (Nat.le_refl _) _ D _ _ (by have := D1.out; have := S0.out; omega) hK' rfl rfl)⟩
              simp [results, Try.f8, go_sem, hc5]
    · go_wp2
      go_loopw [50] (fun v50 wr => ∃ (j : Nat) (A : Option Addr) (c : Nat), j ≤ T.length ∧ v50 = .int .i64 j ∧ Aside0 (Boxed wr W.heap.size 56 (.slice A j c)) ∧ Aside0 (TbB wr A j c (BK T j)) ∧ Aside0 (Below W.heap.size W wr)) (fun v _ => T.length - (intOf v).toNat)
      case atStart => exact ⟨0, none, 0, Nat.zero_le _, rfl, ⟨Boxed.new W _ _⟩, ⟨⟨rfl, Kd.R_nil _ _ _ _ _⟩⟩, ⟨below_alloc (Below.refl _ _) _⟩⟩
      case round =>
        obtain ⟨j, A, c, hj, rfl, X9, TB, HBW⟩ := hrel
        by_cases hlt : j < T.length
        · have e3 : decide ((j : Int) < (T.length : Int)) = true := decide_eq_true (by omega)
          have e3b : decide (j < T.length) = true := decide_eq_true hlt
          obtain ⟨x, hx⟩ : ∃ x, T[j]? = some x := ⟨_, List.getElem?_eq_getElem hlt⟩
          obtain ⟨kk, hput⟩ := BK_put HTr.out (by have := HTl.out; omega) hx
          have hrdm : rd_T53 (T.map cv) (j : Int) = cv x := by unfold rd_T53; rw [Int.toNat_natCast, List.getD_eq_getElem?_getD, List.getElem?_map, hx]; rfl
          obtain ⟨ad, rfl, h0, h1⟩ := at_T53 (Kd.C_below R0.out HBW.out) (j : Int) (by omega) (by omega)
          rw [hrdm] at h0 h1
          rw [Int.toNat_natCast] at h0 h1
          have h0' : wr.cell? (ad.add (j * 2)) = some (.int .i64 x.f0) := h0
          have h1' : wr.cell? ⟨(ad.add (j * 2)).block, (ad.add (j * 2)).off + 1, none⟩ = some (.int .i64 x.f1) := h1
          have p1 := eq_true (show 0 ≤ (j : Int) by omega)
          have q1 := eq_true (show (j : Int) < (T.length : Int) by omega)
          have y9 := (X9.out.alloc (.cells #[.int .i64 x.f0, .int .i64 x.f1] 53)).cell
          have HPUT := Aside0.mk hput
          have HJ := Aside0.mk hlt
          clear h0 h1 hrdm hx hput hlt
          go_wp2_with (first | ((with_reducible refine gate_dst (N := 59) rfl ?_); refine goesL_ (some 59) rfl rfl Try.func24 (by kernel_rfl) rfl #[.agg #[.slice A j c], .int .i64 x.f0, .int .i64 x.f1] rfl xg ?_; refine (putB HPUT.out (m := j + 1) (BK_len T (j + 1) (by have := HJ.out; omega)) (TB.out.alloc _)).mono ?_; rintro e w5 ⟨A', c', rfl, tb, hb5⟩; refine ⟨_, rfl, ?_⟩; have X5 := Aside0.mk (keepBox hb5 (X9.out.alloc _)); have z5 := X5.out.cell; have f5 := X5.out.frozen; have TB5 := Aside0.mk tb; have HB5 := Aside0.mk hb5; clear tb hb5))
          go_roundw
          case rel =>
            have hlt := HJ.out
            have hTl := HTl.out
            refine ⟨j + 1, A', c', by omega, ?_, ⟨X5.out.set _⟩, ⟨⟨TB5.out.1, Kd.R_set TB5.out.2 X5.out (by decide) 0 _⟩⟩, ⟨(below_step (below_alloc HBW.out _) HB5.out).setCell (p := ⟨W.heap.size, 0, none⟩) (Nat.le_refl _) _⟩⟩
            first | rfl | (congr 1; unfold wrap64; omega) | (simp; done)
          case measure =>
            have hlt := HJ.out
            have hTl := HTl.out
            first | (show T.length - (((j : Int) + 1)).toNat < T.length - ((j : Int)).toNat; omega) | (rw [show wrap64 ((j : Int) + 1) = ((j + 1 : Nat) : Int) by unfold wrap64; omega]; show T.length - (((j + 1 : Nat) : Int)).toNat < T.length - ((j : Int)).toNat; omega)
        · obtain rfl : j = T.length := by omega
          have e3 : decide ((T.length : Int) < (T.length : Int)) = false := decide_eq_false (by omega)
          have e3b : decide (T.length < T.length) = false := decide_eq_false (by omega)
          have y9 := X9.out.cell
          have hTl := HTl.out
          have HTl2 : T.length ≤ 1099511627776 := by omega
          go_wp2_with (first | ((with_reducible refine gate_dst (N := 62) rfl ?_); refine goesL_ (some 62) rfl rfl Try.func25 (by kernel_rfl) rfl #[.agg #[.slice A T.length c]] rfl xg ?_; refine (keysB HTl2 TB.out).mono ?_; rintro e w6 ⟨A7, c7, rfl, k7, hb7⟩; refine ⟨_, rfl, ?_⟩; have BW6 := below_step HBW.out hb7; have v7 := (keepBox BW6 hbox).cell; have vm := (keepBox BW6 zm).cell; have v6 := (keepBox BW6 z6).cell; have K7 := Aside0.mk k7; have HB7 := Aside0.mk BW6; clear k7 hb7 BW6))
          go_loopw [78] (fun v78 wr2 => ∃ i : Nat, i ≤ T.length ∧ v78 = .int .i64 i ∧ Aside0 (Below w6.heap.size w6 wr2)) (fun v _ => T.length - (intOf v).toNat)
          case atStart => exact ⟨0, Nat.zero_le _, rfl, ⟨Below.refl _ _⟩⟩
          case round =>
            obtain ⟨i, hi, rfl, HB8⟩ := hrel
            by_cases hlt : i < T.length
            · have e4 : decide ((i : Int) < (T.length : Int)) = true := decide_eq_true (by omega)
              have e4b : decide (i < T.length) = true := decide_eq_true hlt
              obtain ⟨mI, hmI⟩ : ∃ mI, mI = T.length - 1 - i := ⟨_, rfl⟩
              have hmlt : mI < (T.map cv).length := by rw [List.length_map]; omega
              obtain ⟨y, hy⟩ : ∃ y, (T.map cv)[mI]? = some y := ⟨_, List.getElem?_eq_getElem hmlt⟩
              have hk := BK_key hlt
              rw [← hmI, hy] at hk
              have hr1 : rd ((BK T T.length).map (·.f0)) (i : Int) = y.f0 := by unfold rd; rw [Int.toNat_natCast, List.getD_eq_getElem?_getD, hk]; rfl
              have hr2 : rd_T53 (T.map cv) (mI : Int) = y := by unfold rd_T53; rw [Int.toNat_natCast, List.getD_eq_getElem?_getD, hy]; rfl
              rw [List.length_map] at hmlt
              obtain ⟨ad2, rfl, h2⟩ := Kd.at_int (Kd.C_below K7.out HB8.out) (i : Int) (by omega) (by omega)
              obtain ⟨ad, rfl, h0, _⟩ := at_T53 (Kd.C_below R0.out (below_step HB7.out HB8.out)) (mI : Int) (by omega) (by omega)
              rw [hr2] at h0
              rw [hr1] at h2
              rw [Int.toNat_natCast] at h0 h2
              have s6 := keepCell HB8.out v6
              have p1 := eq_true (show 0 ≤ (i : Int) by omega)
              have q1 := eq_true (show (i : Int) < (T.length : Int) by omega)
              have p2 := eq_true (show 0 ≤ (mI : Int) by omega)
              have q2 := eq_true (show (mI : Int) < (T.length : Int) by omega)
              have hx1 : wrap64 (wrap64 ((T.length : Int) - 1) - (i : Int)) = (mI : Int) := by unfold wrap64; omega
              have hx2 : (T.length : Int) - 1 - (i : Int) = (mI : Int) := by omega
              have HLT := Aside0.mk hlt
              clear hk hr1 hr2 hy hmlt hlt hmI
              go_wp2
              go_region
              all_goals (try go_wp2)
              have hlt := HLT.out
              refine ⟨⟨i + 1, by omega, by first | rfl | (congr 1), ⟨HB8.out.drew⟩⟩, ?_⟩
              show T.length - ((i : Int) + 1).toNat < T.length - ((i : Int)).toNat
              omega
            · obtain rfl : i = T.length := by omega
              have e4 : decide ((T.length : Int) < (T.length : Int)) = false := decide_eq_false (by omega)
              have e4b : decide (T.length < T.length) = false := decide_eq_false (by omega)
              have BF := below_step HB7.out HB8.out
              have xr := keepBox BF z4
              have DR := Aside0.mk (keepObj BF D0.out)
              have BFA := Aside0.mk (below_step HB0.out BF)
              clear BF
              go_wp2_with (first | ((with_reducible refine gate_dst (N := 96) rfl ?_); refine goesL_ (some 96) rfl rfl Try.func9 (by kernel_rfl) rfl #[] rfl xg ?_; refine (law14_alive.calls true _ rfl).mono ?_; rintro e w9 ⟨rfl, hb9⟩; refine ⟨_, rfl, ?_⟩; have x9 := keepBox hb9 xr; have z9 := x9.cell; have f9 := x9.frozen))
              have hK9 := keepObj hb9 DR.out
              have hB9 := below_step BFA.out hb9
              have hK' := (KeepsOthers.setCell w9 ⟨w.heap.size + 1, 0, none⟩ (.bool true)).same D _ hK9 rfl
              refine ⟨by simp, .inl ⟨_, _, rfl, run_takeDeferred hK', ?_⟩⟩
              have hc5 := cell_kept (World.cell?_setCell_same' w9 ⟨w.heap.size + 1, 0, none⟩ (.bool true) (by rw [z9]; rfl)) (grownBy_putObj' _ D (.deferred none)) (fun r e => by cases e; exact ⟨_, hK', rfl⟩)
              refine ⟨.bool true, ?_, rfl, (hB9.setCell (p := ⟨w.heap.size + 1, 0, none⟩) (by show w.heap.size ≤ w.heap.size + 1; omega) _).trans (belowK_b (w := w) (Nat.le_refl _) _ D _ _ (by have := D1.out; have := S0.out; omega) hK' rfl rfl)⟩
              simp [results, Try.f8, go_sem, hc5]
end Go.Proofs.Ytmpccjkdfdgedaa.Print
