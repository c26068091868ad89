/- alive of layer 14: closed: walked over its callees' contracts. -/
import Derived.Test.YtmpccjkdfdgedaaGsame
import Derived.Test.YtmpccjkdfdgedaaGpick
import Derived.Test.YtmpccjkdfdgedaaPrint1
import Derived.Test.YtmpccjkdfdgedaaPrint4
import Derived.Test.YtmpccjkdfdgedaaPrint7
namespace Go.Proofs.Ytmpccjkdfdgedaa.Print
open Go.RowKit Go.Proofs.YtmpccjkdfdgedaaW.PrintWords Go.Proofs.YtmpccjkdfdgedaaW.PrintLast Go.Proofs.YtmpccjkdfdgedaaW.PrintMore Go.Proofs.Ytmpccjkdfdgedaa.Range Go.Shelf
set_option linter.unusedVariables false
set_option linter.unusedSimpArgs false
attribute [local go_sem] Oper.semAt_some

theorem keepObj {W w3 : World} {D : Nat} {o : Obj} (hb : Below W.heap.size W w3) (h : W.heap[D]? = some o) : w3.heap[D]? = some o := (hb.block D (Array.getElem?_eq_some_iff.1 h).1).trans h
/-- A table's rows, to be read from now on. -/
def Tb (W : World) (A : Option Addr) (n c : Nat) (l : List S65) : Prop := l.length = n ∧ Kd.V k65 65 W 0 (fun _ => True) (.slice A n c) l
theorem Tb.below {W w1 : World} {A : Option Addr} {n c : Nat} {l : List S65} (h : Tb W A n c l) (hb : Below W.heap.size W w1) : Tb w1 A n c l := ⟨h.1, Kd.V_below h.2 hb⟩
theorem Tb.alloc {W : World} {A : Option Addr} {n c : Nat} {l : List S65} (h : Tb W A n c l) (o : Obj) : Tb (W.alloc o) A n c l := ⟨h.1, Kd.V_alloc h.2 o⟩
theorem Tb.ofR {W : World} {base : Nat} {ok : Nat → Prop} {v : Value} {l : List S65} {m : Nat} (h : Kd.R k65 65 W base ok v l) (hm : l.length = m) : ∃ A c, v = .slice A m c ∧ Tb W A m c l := by
  obtain ⟨A, c, rfl⟩ := Kd.R_slice h
  subst hm
  exact ⟨A, c, rfl, rfl, Kd.V_mono (Kd.R_V h) (fun _ _ => trivial)⟩
theorem Tb.ofV {W : World} {base : Nat} {ok : Nat → Prop} {v : Value} {l : List S65} {m : Nat} (h : Kd.V k65 65 W base ok v l) (hm : l.length = m) : ∃ A c, v = .slice A m c ∧ Tb W A m c l := by
  obtain ⟨A, c, rfl⟩ := Kd.V_slice h
  subst hm
  exact ⟨A, c, rfl, rfl, Kd.V_mono h (fun _ _ => trivial)⟩
theorem putT {k : Nat} {l r : List S65} {a b : Int} {n m c : Nat} {A : Option Addr} {W : World} (hf : cracknellaw14_Int_int_Put.f k l a b = some r) (hm : r.length = m) (h : Tb W A n c l) :
    Calls Try.prog 16 #[.agg #[.slice A n c], .int .i64 a, .int .i64 b] W fun e w' => ∃ A' c', e = .returned (.agg #[.slice A' m c']) ∧ Tb w' A' m c' r ∧ Below W.heap.size W w' := by
  obtain ⟨rfl, h⟩ := h
  refine (cracknellaw14_Int_int_Put.calls k (fun _ => True) A c l a b r W h hf).mono ?_
  rintro e w' ⟨v, rfl, ho, hb⟩
  obtain ⟨A', c', rfl, ht⟩ := Tb.ofR ho hm
  exact ⟨A', c', rfl, ht, hb⟩
theorem getT {l : List S65} {a r1 : Int} {r2 : Bool} {n c : Nat} {A : Option Addr} {W : World} (hf : cracknellaw14_Int_int_Get.f l a = some (r1, r2)) (h : Tb W A n c l) :
    Calls Try.prog 13 #[.agg #[.slice A n c], .int .i64 a] W fun e w' => e = .returned (.tuple #[.int .i64 r1, .bool r2]) ∧ Below W.heap.size W w' := by
  obtain ⟨rfl, h⟩ := h
  exact cracknellaw14_Int_int_Get.calls A c l a r1 r2 W (Kd.V_reads' h).2.2 (Kd.V_reads' h).2.1 hf
theorem dropT {k : Nat} {l r : List S65} {a : Int} {r2 : Bool} {n m c : Nat} {A : Option Addr} {W : World} (hf : cracknellaw14_Int_int_Drop.f k l a = some (r, r2)) (hm : r.length = m) (h : Tb W A n c l) :
    Calls Try.prog 15 #[.agg #[.slice A n c], .int .i64 a] W fun e w' => ∃ A' c', e = .returned (.tuple #[.agg #[.slice A' m c'], .bool r2]) ∧ Tb w' A' m c' r ∧ Below W.heap.size W w' := by
  obtain ⟨rfl, h⟩ := h
  refine (cracknellaw14_Int_int_Drop.calls k (fun _ => True) A c l a r r2 W h hf).mono ?_
  rintro e w' ⟨v, rfl, ho, hb⟩
  obtain ⟨A', c', rfl, ht⟩ := Tb.ofV ho hm
  exact ⟨A', c', rfl, ht, hb⟩
theorem keysT {l : List S65} {n c : Nat} {A : Option Addr} {W : World} (hn : n ≤ 1099511627776) (h : Tb W A n c l) :
    Calls Try.prog 18 #[.agg #[.slice A n c]] W fun e w' => ∃ A2 c2, e = .returned (.slice A2 n c2) ∧ Kd.C (Kd.int .i64) w' A2 n (l.map (·.f0)) ∧ Below W.heap.size W w' := by
  obtain ⟨hl, h⟩ := h
  have hr := Kd.V_reads' h
  exact keysN A c n l W hl hn hr.2.1 (hl ▸ hr.2.2)
theorem mergeT {k : Nat} {l l2 r : List S65} {n n2 m c c2 : Nat} {A A2 : Option Addr} {W : World} (hf : @cracknellaw14_Int_int_21.f pick_26 k l l2 = some r) (hm : r.length = m) (h : Tb W A n c l) (h2 : Tb W A2 n2 c2 l2) :
    Calls Try.prog 21 #[.agg #[.slice A n c], .agg #[.slice A2 n2 c2], .func (.func 26) #[] #[]] W fun e w' => ∃ A' c', e = .returned (.agg #[.slice A' m c']) ∧ Tb w' A' m c' r ∧ Below W.heap.size W w' := by
  obtain ⟨rfl, h⟩ := h
  obtain ⟨rfl, h2⟩ := h2
  refine (@cracknellaw14_Int_int_21.calls pick_26 k (fun _ => True) A c l (fun _ => True) A2 c2 l2 r W h h2 hf).mono ?_
  rintro e w' ⟨v, rfl, ho, hb⟩
  obtain ⟨A', c', rfl, ht⟩ := Tb.ofR ho hm
  exact ⟨A', c', rfl, ht, hb⟩
def law14_alive.f : Option Bool := some true
abbrev AR (k v : Int) : S65 := ⟨k, v⟩
theorem af1 : cracknellaw14_Int_int_Put.f 40 [] 3 9 = some [AR 3 9] := by kernel_rfl
theorem af2 : cracknellaw14_Int_int_Put.f 40 [AR 3 9] 1 7 = some [AR 1 7, AR 3 9] := by kernel_rfl
theorem af3 : cracknellaw14_Int_int_Put.f 40 [AR 1 7, AR 3 9] 3 8 = some [AR 1 7, AR 3 8] := by kernel_rfl
theorem af4 : cracknellaw14_Int_int_Get.f [AR 1 7, AR 3 8] 3 = some (8, true) := by kernel_rfl
theorem af5 : cracknellaw14_Int_int_Drop.f 40 [AR 1 7, AR 3 8] 1 = some ([AR 3 8], true) := by kernel_rfl
theorem af6 : @cracknellaw14_Int_int_21.f pick_26 40 [AR 1 7, AR 3 8] [AR 3 8] = some [AR 1 7, AR 3 16] := by kernel_rfl
theorem af7 : cracknellaw14_Int_int_Get.f [AR 1 7, AR 3 16] 3 = some (16, true) := by kernel_rfl
theorem add0 (ad : Addr) : ad.add 0 = ad := by cases ad; rfl
def accA : Nat → Int
  | 0 => 0
  | 1 => 107
  | _ => 415
set_option maxHeartbeats 4000000 in
set_option maxRecDepth 100000 in
theorem aliveWalk (w : World) : Calls Try.prog 9 #[] w fun e w' => e = .returned (.bool true) ∧ Below w.heap.size w w' := by
  have hu27 := Try.underlying27
  have hu44 := Try.underlying44
  have T0 : ∀ W, Tb W none 0 0 [] := fun W => ⟨rfl, Kd.V_nil _ _ _ _ _⟩
  refine calls_of_marks Try.func9 rfl ?_
  simp only [Try.ntmps9, List.size_toArray, List.length_cons, List.length_nil, Nat.reduceAdd, Nat.reduceSub, Array.replicate_succ, Array.replicate_zero, List.push_toArray, List.append_toArray, List.nil_append, List.cons_append]
  go_wp2_with (first | ((with_reducible refine gate_dst (N := 15) rfl ?_); refine goesL_ (some 15) rfl rfl Try.func16 (by kernel_rfl) rfl #[.agg #[.slice none 0 0], .int .i64 3, .int .i64 9] rfl xg ?_; refine (putT af1 (m := 1) rfl (T0 _)).mono ?_; rintro e w1 ⟨A1, c1, rfl, t1, hb1⟩; refine ⟨_, rfl, ?_⟩) | ((with_reducible refine gate_dst (N := 16) rfl ?_); refine goesL_ (some 16) rfl rfl Try.func16 (by kernel_rfl) rfl #[.agg #[.slice A1 1 c1], .int .i64 1, .int .i64 7] rfl xg ?_; refine (putT af2 (m := 2) rfl t1).mono ?_; rintro e w2 ⟨A2, c2, rfl, t2, hb2⟩; refine ⟨_, rfl, ?_⟩) | ((with_reducible refine gate_dst (N := 17) rfl ?_); refine goesL_ (some 17) rfl rfl Try.func16 (by kernel_rfl) rfl #[.agg #[.slice A2 2 c2], .int .i64 3, .int .i64 8] rfl xg ?_; refine (putT af3 (m := 2) rfl t2).mono ?_; rintro e w3 ⟨A3, c3, rfl, t3, hb3⟩; refine ⟨_, rfl, ?_⟩) | ((with_reducible refine gate_dst (N := 20) rfl ?_); refine goesL_ (some 20) rfl rfl Try.func13 (by kernel_rfl) rfl #[.agg #[.slice A3 2 c3], .int .i64 3] rfl xg ?_; refine (getT af4 (t3.alloc _)).mono ?_; rintro e w4 ⟨rfl, hb4⟩; refine ⟨_, rfl, ?_⟩; have x2 : Boxed w4 w3.heap.size 27 (.slice A3 2 c3) := keepBox hb4 (Boxed.new w3 _ _); have y2 := x2.cell; have t4 := (t3.alloc _).below hb4) | ((with_reducible refine gate_dst (N := 25) rfl ?_); refine goesL_ (some 25) rfl rfl Try.func15 (by kernel_rfl) rfl #[.agg #[.slice A3 2 c3], .int .i64 1] rfl xg ?_; refine (dropT af5 (m := 1) rfl t4).mono ?_; rintro e w5 ⟨A5, c5, rfl, t5, hb5⟩; refine ⟨_, rfl, ?_⟩; have x25 := keepBox hb5 x2; have y25 := (x25.alloc (.cells #[.slice A5 1 c5] 27)).cell; have t45 := t4.below hb5) | ((with_reducible refine gate_dst (N := 29) rfl ?_); refine goesL_ (some 29) rfl rfl Try.func18 (by kernel_rfl) rfl #[.agg #[.slice A3 2 c3]] rfl xg ?_; refine (keysT (by omega) (t45.alloc _)).mono ?_; rintro e w6 ⟨A6, c6, rfl, k6, hb6⟩; refine ⟨_, rfl, ?_⟩; have x26 := keepBox hb6 (x25.alloc _); have x56 : Boxed w6 w5.heap.size 27 (.slice A5 1 c5) := keepBox hb6 (Boxed.new w5 _ _); have y26 := (x26.alloc (.cells #[.int .i64 0] 3)).cell; have t46 := (t45.alloc _).below hb6; have t56 := (t5.alloc _).below hb6))
  obtain ⟨Wl, hWl⟩ : ∃ Wl, w6.alloc (.cells #[.int .i64 0] 3) = Wl := ⟨_, rfl⟩
  have xb : Boxed Wl w6.heap.size 3 (.int .i64 0) := by rw [← hWl]; exact Boxed.new w6 _ _
  have B6 : Below w6.heap.size w6 Wl := by rw [← hWl]; exact (Below.refl _ _).alloc (Nat.le_refl _) _
  have sz : Wl.heap.size = w6.heap.size + 1 := by rw [← hWl]; simp
  have b1 := below_step (below_alloc (Below.refl _ w) _) hb1
  have b3 := below_step (below_step b1 hb2) hb3
  have b5 := below_step (below_step (below_alloc b3 _) hb4) hb5
  have b6 := below_step (below_alloc b5 _) hb6
  have x1 : Boxed w6 w.heap.size 27 (.slice none 0 0) := keepBox hb6 ((keepBox hb5 (keepBox hb4 ((keepBox hb3 (keepBox hb2 (keepBox hb1 (Boxed.new w _ _)))).alloc _))).alloc _)
  have hrd := Kd.V_reads' t46.2
  have B66 := b6.size
  have l2 := x26.lt
  have l5 := x56.lt
  have l1 := x1.lt
  rw [hWl]
  clear hb1 hb2 hb3 hb4 hb5 hb6 y26 y25 y2 x2 x25 t45 t4 t3 t2 t1 t5 hWl
  refine wp_range (gf := 23) (fb := #[.agg #[.slice A3 2 c3]]) (n₀ := w6.heap.size) (enc := fun x : S65 => #[.int .i64 x.f0, .int .i64 x.f1]) (xs := [AR 1 7, AR 3 8]) rfl (enters_of Try.func23 (by kernel_rfl) rfl)
    (allN A3 c3 2 [AR 1 7, AR 3 8] w6 Wl rfl hrd.2.2 hrd.2.1 (by omega) B6) (by omega) (fun _ _ => rfl)
    (fun j W => But w6.heap.size Wl W ∧ Boxed W w6.heap.size 3 (.int .i64 (accA j)))
    (fun _ _ _ => False)
    (OwnFrom.and But.own (boxed_own _))
    (fun _ _ _ _ _ hs _ _ => hs)
    ⟨But.refl _ _, xb⟩ ?a1 ?assign ?body ?done ?stop
  case assign =>
    intro lp x W K hx hK
    gi_wp2
    exact hK
  case body =>
    rintro lp j x W hx ⟨hbut, hbox⟩
    have zb := hbox.cell
    have zf := hbox.frozen
    have hj : j < 2 := (List.getElem?_eq_some_iff.1 hx).1
    obtain rfl | rfl : j = 0 ∨ j = 1 := by omega
    · obtain rfl : AR 1 7 = x := Option.some.inj hx
      have zb' : W.cell? ⟨w6.heap.size, 0, none⟩ = some (.int .i64 0) := zb
      clear zb
      gi_wp2
      exact ⟨(KeepsOthers.setCell _ _ _).from _, (Below.refl w6.heap.size W).setCell (p := ⟨w6.heap.size, 0, none⟩) (Nat.le_refl _) _, hbut.set _, hbox.set _⟩
    · obtain rfl : AR 3 8 = x := Option.some.inj hx
      have zb' : W.cell? ⟨w6.heap.size, 0, none⟩ = some (.int .i64 107) := zb
      clear zb
      gi_wp2
      exact ⟨(KeepsOthers.setCell _ _ _).from _, (Below.refl w6.heap.size W).setCell (p := ⟨w6.heap.size, 0, none⟩) (Nat.le_refl _) _, hbut.set _, hbox.set _⟩
  case done =>
    rintro D W hD ⟨hbut, hbox0⟩ hK
    have hbox : Boxed W w6.heap.size 3 (.int .i64 415) := hbox0
    have b7 : Below w6.heap.size w6 W := B6.trans (hbut.below (by omega) (Nat.le_refl _))
    have tu := t46.below b7
    have tw := t56.below b7
    have z1 := keepBox b7 x1
    have z2 := keepBox b7 x26
    have z5 := keepBox b7 x56
    have kk := Kd.C_below k6 b7
    have BW := Aside0.mk (below_step b6 b7)
    have y2 := z2.cell
    have y5 := z5.cell
    clear hbox0 hbut b7 t46 t56 x1 x26 x56 k6 xb B6 b6 b5 b3 b1
    go_wp2_with (first | ((with_reducible refine gate_dst (N := 42) rfl ?_); refine goesL_ (some 42) rfl rfl Try.func21 (by kernel_rfl) rfl #[.agg #[.slice A3 2 c3], .agg #[.slice A5 1 c5], .func (.func 26) #[] #[]] rfl xg ?_; refine (mergeT af6 (m := 2) rfl tu tw).mono ?_; rintro e w8 ⟨A8, c8, rfl, t8, hb8⟩; refine ⟨_, rfl, ?_⟩; have HK8 := Aside0.mk (keepObj hb8 hK); have X8 := Aside0.mk (⟨keepBox hb8 z1, keepBox hb8 z2, keepBox hb8 z5, keepBox hb8 hbox, Kd.C_below kk hb8⟩ : _ ∧ _ ∧ _ ∧ _ ∧ _)) | ((with_reducible refine gate_dst (N := 45) rfl ?_); refine goesL_ (some 45) rfl rfl Try.func13 (by kernel_rfl) rfl #[.agg #[.slice A8 2 c8], .int .i64 3] rfl xg ?_; refine (getT af7 (t8.alloc _)).mono ?_; rintro e w9 ⟨rfl, hb9⟩; refine ⟨_, rfl, ?_⟩; have bb := below_step (below_alloc (Below.refl _ w8) _) hb9; have HK9 := Aside0.mk (keepObj bb HK8.out); have X9 := Aside0.mk (⟨keepBox bb X8.out.1, keepBox bb X8.out.2.1, keepBox bb X8.out.2.2.1, keepBox bb X8.out.2.2.2.1, Kd.C_below X8.out.2.2.2.2 bb⟩ : _ ∧ _ ∧ _ ∧ _ ∧ _); have X11 : Aside0 (Boxed w9 w8.heap.size 27 (.slice A8 2 c8)) := ⟨keepBox hb9 (Boxed.new w8 _ _)⟩; have v9 := X9.out.1.cell; have BB9 := Aside0.mk bb; clear bb) | (go_at_call 27; refine (lenCalls none 0 0 _).mono ?_; rintro e w10 ⟨rfl, hb10⟩; have v10 := (keepBox hb10 X9.out.2.1).cell) | (go_at_call 27; refine (lenCalls A3 c3 2 _).mono ?_; rintro e w11 ⟨rfl, hb11⟩; have v11 := (keepBox hb11 (keepBox hb10 X9.out.2.2.1)).cell) | (go_at_call 27; refine (lenCalls A5 c5 1 _).mono ?_; rintro e w12 ⟨rfl, hb12⟩; have bb12 := below_step (below_step hb10 hb11) hb12; have v12 := (keepBox bb12 X9.out.2.2.2.1).cell; have u12 := (keepBox bb12 X11.out).cell; obtain ⟨ad, rfl, h0⟩ := Kd.at_int (Kd.C_below X9.out.2.2.2.2 bb12) 0 (by omega) (by omega); have h1 : w12.cell? (ad.add 0) = some (.int .i64 1) := h0; have h2 : w12.cell? ad = some (.int .i64 1) := (congrArg w12.cell? (add0 ad).symm).trans h1) | (go_at_call 27; refine (lenCalls A8 c8 2 _).mono ?_; rintro e w13 ⟨rfl, hb13⟩))
    have bb13 := below_step bb12 hb13
    have hK13 := keepObj bb13 HK9.out
    have BF := below_step (below_step (below_step BW.out hb8) BB9.out) bb13
    refine ⟨by simp, .inl ⟨_, _, rfl, run_takeDeferred hK13, ?_⟩⟩
    exact ⟨_, results_tmp rfl _ _ _, rfl, BF.trans (belowK_b (w := w) (Nat.le_refl _) _ D _ _ (by omega) hK13 rfl rfl)⟩
  case stop =>
    rintro D c j W _ _ h _
    exact h.elim
theorem law14_alive.calls (r : Bool) (w : World) (h : law14_alive.f = some r) : Calls Try.prog 9 #[] w fun e w' => e = .returned (.bool r) ∧ Below w.heap.size w w' := by
  obtain rfl := Option.some.inj h
  exact aliveWalk w
end Go.Proofs.Ytmpccjkdfdgedaa.Print
