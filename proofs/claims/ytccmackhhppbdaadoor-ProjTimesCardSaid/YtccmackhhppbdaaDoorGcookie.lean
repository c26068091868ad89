/- Functions of layers 1 and 13 that are walked by hand, under the print's own form of contract: ascii.Token, Octets, Plain (each byte of a text asked by a function literal; the literals themselves are printed), cookie.within, cookie.Cmp. -/
import Derived.Test.YtccmackhhppbdaaDoorGhost
import Derived.Test.YtccmackhhppbdaaDoorPrintC
import Derived.LoopTactic
namespace Go.Proofs.YtccmackhhppbdaaDoor.Print
open Go.RowKit Go.Proofs.YtccmackhhppbdaaDoorW.PrintWords Go.Proofs.YtccmackhhppbdaaDoorW.PrintLast Go.Proofs.YtccmackhhppbdaaDoorW.PrintMore
set_option linter.unusedVariables false
set_option linter.unusedSimpArgs false

def tokC (c : Int) : Bool := decide (97 ≤ c ∧ c ≤ 122) || decide (65 ≤ c ∧ c ≤ 90) || decide (48 ≤ c ∧ c ≤ 57) || decide (c = 33) || decide (35 ≤ c ∧ c ≤ 39) || decide (c = 42) || decide (c = 43) || decide (c = 45) || decide (c = 46) || decide (94 ≤ c ∧ c ≤ 96) || decide (c = 124) || decide (c = 126)
def octC (c : Int) : Bool := decide (33 ≤ c ∧ c ≤ 126) && !(decide (c = 34) || decide (c = 44) || decide (c = 59) || decide (c = 92))
def plainC (c : Int) : Bool := decide (33 ≤ c ∧ c ≤ 126) && !decide (c = 59)
theorem of_fin {P : Int → Prop} (h : ∀ n : Fin 256, P (n.val : Int)) {c : Int} (h0 : 0 ≤ c) (h1 : c < 256) : P c := by
  have := h ⟨c.toNat, by omega⟩
  rwa [show ((⟨c.toNat, by omega⟩ : Fin 256).val : Int) = c by simp; omega] at this
theorem tok_f {c : Int} (h0 : 0 ≤ c) (h1 : c < 256) : PrintC.ascii_Token_1.f 3 c = some (tokC c) := of_fin (P := fun c => PrintC.ascii_Token_1.f 3 c = some (tokC c)) (by decide +kernel) h0 h1
theorem oct_f {c : Int} (h0 : 0 ≤ c) (h1 : c < 256) : PrintC.ascii_Octets_1.f c = some (octC c) := of_fin (P := fun c => PrintC.ascii_Octets_1.f c = some (octC c)) (by decide +kernel) h0 h1
theorem plain_f {c : Int} (h0 : 0 ≤ c) (h1 : c < 256) : PrintC.ascii_Plain_1.f c = some (plainC c) := of_fin (P := fun c => PrintC.ascii_Plain_1.f c = some (plainC c)) (by decide +kernel) h0 h1

theorem bt_byte (s : ByteArray) (i : Int) : 0 ≤ bt s i ∧ bt s i < 256 := by
  unfold bt
  split
  · have := (s[i.toNat]'(by assumption)).toNat_lt
    omega
  · omega
theorem take_bt {s : ByteArray} {k : Nat} (h : k < s.size) : (bytesOf s).take (k + 1) = (bytesOf s).take k ++ [bt s k] := by
  have hl : k < (bytesOf s).length := by rw [bytesOf_length]; exact h
  rw [List.take_add_one, List.getElem?_eq_getElem hl]
  congr 1
  rw [← rd_bytesOf]
  unfold rd
  rw [Int.toNat_natCast, List.getD_eq_getElem?_getD, List.getElem?_eq_getElem hl]
  rfl
theorem all_yes {s : ByteArray} {k : Nat} {g : Int → Bool} (h : k < s.size) (ha : ((bytesOf s).take k).all g = true) (hc : g (bt s k) = true) : ((bytesOf s).take (k + 1)).all g = true := by
  rw [take_bt h, List.all_append, ha, List.all_cons, hc]; rfl
theorem all_no {s : ByteArray} {k : Nat} {g : Int → Bool} (h : k < s.size) (hc : g (bt s k) = false) : (bytesOf s).all g = false := by
  have e := take_bt h
  rw [← List.take_append_drop (k + 1) (bytesOf s), List.all_append, e, List.all_append, List.all_cons, hc]
  simp
theorem all_end {s : ByteArray} {k : Nat} {g : Int → Bool} (h : s.size ≤ k) (ha : ((bytesOf s).take k).all g = true) : (bytesOf s).all g = true := by
  rwa [List.take_of_length_le (by rw [bytesOf_length]; exact h)] at ha

set_option maxHeartbeats 4000000 in
set_option maxRecDepth 100000 in
theorem all_plain (a0 : ByteArray) (w : World) (hs : a0.size ≤ 9223372036854775806) :
    Calls Tryd.prog 39 #[.string a0, .func (.func 49) #[] #[]] w fun e w' => e = .returned (.bool ((bytesOf a0).all plainC)) ∧ Drawn0 w w' := by
  go_enter Tryd.func39, Tryd.ntmps39
  go_wp2
  go_loopw [8] (fun v8 wr => ∃ k : Nat, k ≤ a0.size ∧ v8 = .int .i64 k ∧ Aside0 (((bytesOf a0).take k).all plainC = true) ∧ Drawn0 w wr) (fun v8 _ => a0.size - (intOf v8).toNat)
  case atStart => exact ⟨0, Nat.zero_le _, rfl, ⟨rfl⟩, by repeat (first | exact Drawn0.refl _ | apply Drawn0.step)⟩
  case round =>
    obtain ⟨k, hk, rfl, HA, ⟨m1, rfl⟩⟩ := hrel
    by_cases hlt : k < a0.size
    · have hb := bt_byte a0 k
      have p1 := eq_true (show 0 ≤ (k : Int) by omega)
      have q1 := eq_true (show (k : Int) < (a0.size : Int) by omega)
      have ec : bt a0 (k : Int) = ((a0[k]'hlt).toNat : Int) := by simp [bt, hlt]
      have HF := Aside0.mk (plain_f hb.1 hb.2)
      clear hb
      cases hg : plainC (bt a0 k) with
      | true =>
        rw [hg, ec] at HF
        have HY := Aside0.mk (all_yes hlt HA.out hg)
        clear hg
        go_wp2_with (go_at_call 49; refine (PrintC.ascii_Plain_1.calls (((a0[k]'hlt).toNat : Int)) true _ HF.out).mono ?_; rintro e w2 ⟨rfl, ⟨nd, rfl⟩⟩)
        go_roundw
        case rel => exact ⟨k + 1, by omega, by go_num, HY, by repeat (first | exact Drawn0.refl _ | apply Drawn0.step)⟩
        case measure => simp [intOf]; omega
      | false =>
        rw [hg, ec] at HF
        have HY := Aside0.mk (all_no hlt hg)
        clear hg
        go_wp2_with (go_at_call 49; refine (PrintC.ascii_Plain_1.calls (((a0[k]'hlt).toNat : Int)) false _ HF.out).mono ?_; rintro e w2 ⟨rfl, ⟨nd, rfl⟩⟩)
        go_ret
        exact ⟨by rw [HY.out]; rfl, by repeat (first | exact Drawn0.refl _ | apply Drawn0.step)⟩
    · have HY := Aside0.mk (all_end (by omega) HA.out)
      have hl2 : decide ((k : Int) < (a0.size : Int)) = false := decide_eq_false (by omega)
      have hl3 : decide (k < a0.size) = false := decide_eq_false (by omega)
      go_wp2
      go_ret
      exact ⟨by rw [HY.out]; rfl, by repeat (first | exact Drawn0.refl _ | apply Drawn0.step)⟩
def ascii_Plain.f (a0 : ByteArray) : Option Bool := if a0.size ≤ 9223372036854775806 then some ((bytesOf a0).all plainC) else none
theorem ascii_Plain.calls (a0 : ByteArray) (r : Bool) (w : World) (h : ascii_Plain.f a0 = some r) :
    Calls Tryd.prog 38 #[.string a0] w fun e w' => e = .returned (.bool r) ∧ Drawn0 w w' := by
  unfold ascii_Plain.f at h
  by_cases hs : a0.size ≤ 9223372036854775806
  · rw [if_pos hs] at h
    obtain rfl := Option.some.inj h
    clear h
    have HS := Aside0.mk hs
    clear hs
    go_enter Tryd.func38, Tryd.ntmps38
    go_wp2_with (go_at_call 39; refine (all_plain a0 _ HS.out).mono ?_; rintro e w2 ⟨rfl, ⟨nd, rfl⟩⟩)
    go_ret
    exact ⟨rfl, by repeat (first | exact Drawn0.refl _ | apply Drawn0.step)⟩
  · rw [if_neg hs] at h; exact absurd h (by simp)

set_option maxHeartbeats 4000000 in
set_option maxRecDepth 100000 in
theorem all_oct (a0 : ByteArray) (w : World) (hs : a0.size ≤ 9223372036854775806) :
    Calls Tryd.prog 39 #[.string a0, .func (.func 42) #[] #[]] w fun e w' => e = .returned (.bool ((bytesOf a0).all octC)) ∧ Drawn0 w w' := by
  go_enter Tryd.func39, Tryd.ntmps39
  go_wp2
  go_loopw [8] (fun v8 wr => ∃ k : Nat, k ≤ a0.size ∧ v8 = .int .i64 k ∧ Aside0 (((bytesOf a0).take k).all octC = true) ∧ Drawn0 w wr) (fun v8 _ => a0.size - (intOf v8).toNat)
  case atStart => exact ⟨0, Nat.zero_le _, rfl, ⟨rfl⟩, by repeat (first | exact Drawn0.refl _ | apply Drawn0.step)⟩
  case round =>
    obtain ⟨k, hk, rfl, HA, ⟨m1, rfl⟩⟩ := hrel
    by_cases hlt : k < a0.size
    · have hb := bt_byte a0 k
      have p1 := eq_true (show 0 ≤ (k : Int) by omega)
      have q1 := eq_true (show (k : Int) < (a0.size : Int) by omega)
      have ec : bt a0 (k : Int) = ((a0[k]'hlt).toNat : Int) := by simp [bt, hlt]
      have HF := Aside0.mk (oct_f hb.1 hb.2)
      clear hb
      cases hg : octC (bt a0 k) with
      | true =>
        rw [hg, ec] at HF
        have HY := Aside0.mk (all_yes hlt HA.out hg)
        clear hg
        go_wp2_with (go_at_call 42; refine (PrintC.ascii_Octets_1.calls (((a0[k]'hlt).toNat : Int)) true _ HF.out).mono ?_; rintro e w2 ⟨rfl, ⟨nd, rfl⟩⟩)
        go_roundw
        case rel => exact ⟨k + 1, by omega, by go_num, HY, by repeat (first | exact Drawn0.refl _ | apply Drawn0.step)⟩
        case measure => simp [intOf]; omega
      | false =>
        rw [hg, ec] at HF
        have HY := Aside0.mk (all_no hlt hg)
        clear hg
        go_wp2_with (go_at_call 42; refine (PrintC.ascii_Octets_1.calls (((a0[k]'hlt).toNat : Int)) false _ HF.out).mono ?_; rintro e w2 ⟨rfl, ⟨nd, rfl⟩⟩)
        go_ret
        exact ⟨by rw [HY.out]; rfl, by repeat (first | exact Drawn0.refl _ | apply Drawn0.step)⟩
    · have HY := Aside0.mk (all_end (by omega) HA.out)
      have hl2 : decide ((k : Int) < (a0.size : Int)) = false := decide_eq_false (by omega)
      have hl3 : decide (k < a0.size) = false := decide_eq_false (by omega)
      go_wp2
      go_ret
      exact ⟨by rw [HY.out]; rfl, by repeat (first | exact Drawn0.refl _ | apply Drawn0.step)⟩
def ascii_Octets.f (a0 : ByteArray) : Option Bool := if a0.size ≤ 9223372036854775806 then some ((bytesOf a0).all octC) else none
theorem ascii_Octets.calls (a0 : ByteArray) (r : Bool) (w : World) (h : ascii_Octets.f a0 = some r) :
    Calls Tryd.prog 28 #[.string a0] w fun e w' => e = .returned (.bool r) ∧ Drawn0 w w' := by
  unfold ascii_Octets.f at h
  by_cases hs : a0.size ≤ 9223372036854775806
  · rw [if_pos hs] at h
    obtain rfl := Option.some.inj h
    clear h
    have HS := Aside0.mk hs
    clear hs
    go_enter Tryd.func28, Tryd.ntmps28
    go_wp2_with (go_at_call 39; refine (all_oct a0 _ HS.out).mono ?_; rintro e w2 ⟨rfl, ⟨nd, rfl⟩⟩)
    go_ret
    exact ⟨rfl, by repeat (first | exact Drawn0.refl _ | apply Drawn0.step)⟩
  · rw [if_neg hs] at h; exact absurd h (by simp)

set_option maxHeartbeats 4000000 in
set_option maxRecDepth 100000 in
theorem all_tok (a0 : ByteArray) (w : World) (hs : a0.size ≤ 9223372036854775806) :
    Calls Tryd.prog 39 #[.string a0, .func (.func 40) #[] #[]] w fun e w' => e = .returned (.bool ((bytesOf a0).all tokC)) ∧ Drawn0 w w' := by
  go_enter Tryd.func39, Tryd.ntmps39
  go_wp2
  go_loopw [8] (fun v8 wr => ∃ k : Nat, k ≤ a0.size ∧ v8 = .int .i64 k ∧ Aside0 (((bytesOf a0).take k).all tokC = true) ∧ Drawn0 w wr) (fun v8 _ => a0.size - (intOf v8).toNat)
  case atStart => exact ⟨0, Nat.zero_le _, rfl, ⟨rfl⟩, by repeat (first | exact Drawn0.refl _ | apply Drawn0.step)⟩
  case round =>
    obtain ⟨k, hk, rfl, HA, ⟨m1, rfl⟩⟩ := hrel
    by_cases hlt : k < a0.size
    · have hb := bt_byte a0 k
      have p1 := eq_true (show 0 ≤ (k : Int) by omega)
      have q1 := eq_true (show (k : Int) < (a0.size : Int) by omega)
      have ec : bt a0 (k : Int) = ((a0[k]'hlt).toNat : Int) := by simp [bt, hlt]
      have HF := Aside0.mk (tok_f hb.1 hb.2)
      clear hb
      cases hg : tokC (bt a0 k) with
      | true =>
        rw [hg, ec] at HF
        have HY := Aside0.mk (all_yes hlt HA.out hg)
        clear hg
        go_wp2_with (go_at_call 40; refine (PrintC.ascii_Token_1.calls 3 (((a0[k]'hlt).toNat : Int)) true _ HF.out).mono ?_; rintro e w2 ⟨rfl, ⟨nd, rfl⟩⟩)
        go_roundw
        case rel => exact ⟨k + 1, by omega, by go_num, HY, by repeat (first | exact Drawn0.refl _ | apply Drawn0.step)⟩
        case measure => simp [intOf]; omega
      | false =>
        rw [hg, ec] at HF
        have HY := Aside0.mk (all_no hlt hg)
        clear hg
        go_wp2_with (go_at_call 40; refine (PrintC.ascii_Token_1.calls 3 (((a0[k]'hlt).toNat : Int)) false _ HF.out).mono ?_; rintro e w2 ⟨rfl, ⟨nd, rfl⟩⟩)
        go_ret
        exact ⟨by rw [HY.out]; rfl, by repeat (first | exact Drawn0.refl _ | apply Drawn0.step)⟩
    · have HY := Aside0.mk (all_end (by omega) HA.out)
      have hl2 : decide ((k : Int) < (a0.size : Int)) = false := decide_eq_false (by omega)
      have hl3 : decide (k < a0.size) = false := decide_eq_false (by omega)
      go_wp2
      go_ret
      exact ⟨by rw [HY.out]; rfl, by repeat (first | exact Drawn0.refl _ | apply Drawn0.step)⟩
def ascii_Token.f (a0 : ByteArray) : Option Bool := if a0.size ≤ 9223372036854775806 then some (!decide (a0.toList = ([] : List UInt8)) && (bytesOf a0).all tokC) else none
theorem ascii_Token.calls (a0 : ByteArray) (r : Bool) (w : World) (h : ascii_Token.f a0 = some r) :
    Calls Tryd.prog 27 #[.string a0] w fun e w' => e = .returned (.bool r) ∧ Drawn0 w w' := by
  unfold ascii_Token.f at h
  by_cases hs : a0.size ≤ 9223372036854775806
  · rw [if_pos hs] at h
    obtain rfl := Option.some.inj h
    clear h
    have HS := Aside0.mk hs
    clear hs
    by_cases hz : a0.toList = ([] : List UInt8)
    · have h1 : (a0.toList != ([] : List UInt8)) = false := by rw [hz]; rfl
      go_enter Tryd.func27, Tryd.ntmps27
      go_wp2
      go_ret
      exact ⟨by rw [decide_eq_true hz]; rfl, by repeat (first | exact Drawn0.refl _ | apply Drawn0.step)⟩
    · have h1 : (a0.toList != ([] : List UInt8)) = true := by simpa using hz
      have h2 : a0.toList.isEmpty = false := by simpa using hz
      go_enter Tryd.func27, Tryd.ntmps27
      go_wp2_with (go_at_call 39; refine (all_tok a0 _ HS.out).mono ?_; rintro e w2 ⟨rfl, ⟨nd, rfl⟩⟩)
      go_ret
      exact ⟨by rw [decide_eq_false hz]; simp [h2], by repeat (first | exact Drawn0.refl _ | apply Drawn0.step)⟩
  · rw [if_neg hs] at h; exact absurd h (by simp)


/-! ### cookie.within -/
def inN (m x : Int) : Bool := decide (0 ≤ x) && decide (x ≤ m)
theorem inN_yes {m x : Int} (h : 0 ≤ x ∧ x ≤ m) : inN m x = true := by unfold inN; rw [decide_eq_true h.1, decide_eq_true h.2]; rfl
theorem inN_no {m x : Int} (h : ¬ (0 ≤ x ∧ x ≤ m)) : inN m x = false := by
  unfold inN
  by_cases a : 0 ≤ x
  · rw [decide_eq_false (p := x ≤ m) (fun b => h ⟨a, b⟩)]; simp
  · rw [decide_eq_false a]; rfl
theorem inN_no3 {m x a b c : Int} (hx : x = a ∨ x = b ∨ x = c) (h : ¬ (0 ≤ x ∧ x ≤ m)) : (inN m a && (inN m b && inN m c)) = false := by
  have := inN_no h
  rcases hx with rfl | rfl | rfl <;> rw [this] <;> simp
def cookie_within.f (m a b c : Int) : Option Bool := some (inN m a && (inN m b && inN m c))
set_option maxHeartbeats 4000000 in
set_option maxRecDepth 100000 in
theorem cookie_within.calls (m a b c : Int) (r : Bool) (w : World) (h : cookie_within.f m a b c = some r) :
    Calls Tryd.prog 29 #[.int .i64 m, .agg #[.int .i64 a, .int .i64 b, .int .i64 c]] w fun e w' => e = .returned (.bool r) ∧ Below w.heap.size w w' := by
  obtain rfl := Option.some.inj h
  clear h
  have hu := Tryd.underlying61
  have hi0 : ∀ W : World, (Instr.index 61 (.agg #[.int .i64 a, .int .i64 b, .int .i64 c]) (.int .i64 0)).run Tryd.prog W = .ok (.int .i64 a) W := fun W => by rfl
  have hi1 : ∀ W : World, (Instr.index 61 (.agg #[.int .i64 a, .int .i64 b, .int .i64 c]) (.int .i64 1)).run Tryd.prog W = .ok (.int .i64 b) W := fun W => by rfl
  have hi2 : ∀ W : World, (Instr.index 61 (.agg #[.int .i64 a, .int .i64 b, .int .i64 c]) (.int .i64 2)).run Tryd.prog W = .ok (.int .i64 c) W := fun W => by rfl
  go_enter Tryd.func29, Tryd.ntmps29
  go_wp2
  go_loopw [8] (fun v8 wr => ∃ k : Nat, v8 = .int .i64 k ∧ Aside0 (k ≤ 3) ∧ Aside0 ((0 < k → 0 ≤ a ∧ a ≤ m) ∧ (1 < k → 0 ≤ b ∧ b ≤ m) ∧ (2 < k → 0 ≤ c ∧ c ≤ m)) ∧ wr = w.alloc (.cells #[.int .i64 a, .int .i64 b, .int .i64 c] 61)) (fun v8 _ => 3 - (intOf v8).toNat)
  case atStart => exact ⟨0, rfl, ⟨by omega⟩, ⟨by omega⟩, rfl⟩
  case round =>
    obtain ⟨k, rfl, HK, HA, rfl⟩ := hrel
    have hk := HK.out
    match k, hk, HK, HA with
    | 0, _, HK, HA =>
      by_cases h0 : a < 0
      · have d0 : decide (a < 0) = true := decide_eq_true h0
        have HY := Aside0.mk (inN_no3 (m := m) (x := a) (a := a) (b := b) (c := c) (by exact .inl rfl) (by omega))
        clear h0
        go_wp2
        go_ret
        exact ⟨by rw [HY.out]; rfl, below_alloc (Below.refl _ _) _⟩
      · by_cases h1 : m < a
        · have d0 : decide (a < 0) = false := decide_eq_false h0
          have d1 : decide (m < a) = true := decide_eq_true h1
          have HY := Aside0.mk (inN_no3 (m := m) (x := a) (a := a) (b := b) (c := c) (by exact .inl rfl) (by omega))
          clear h0 h1
          go_wp2
          go_ret
          exact ⟨by rw [HY.out]; rfl, below_alloc (Below.refl _ _) _⟩
        · have d0 : decide (a < 0) = false := decide_eq_false h0
          have d1 : decide (m < a) = false := decide_eq_false h1
          have HY := Aside0.mk (show 0 ≤ a ∧ a ≤ m by omega)
          clear h0 h1
          go_wp2
          go_roundw
          case rel => exact ⟨1, rfl, ⟨by omega⟩, ⟨⟨fun _ => HY.out, by omega, by omega⟩⟩, by first | rfl | trivial⟩
          case measure => simp [intOf]
    | 1, _, HK, HA =>
      by_cases h0 : b < 0
      · have d0 : decide (b < 0) = true := decide_eq_true h0
        have HY := Aside0.mk (inN_no3 (m := m) (x := b) (a := a) (b := b) (c := c) (by exact .inr (.inl rfl)) (by omega))
        clear h0
        go_wp2
        go_ret
        exact ⟨by rw [HY.out]; rfl, below_alloc (Below.refl _ _) _⟩
      · by_cases h1 : m < b
        · have d0 : decide (b < 0) = false := decide_eq_false h0
          have d1 : decide (m < b) = true := decide_eq_true h1
          have HY := Aside0.mk (inN_no3 (m := m) (x := b) (a := a) (b := b) (c := c) (by exact .inr (.inl rfl)) (by omega))
          clear h0 h1
          go_wp2
          go_ret
          exact ⟨by rw [HY.out]; rfl, below_alloc (Below.refl _ _) _⟩
        · have d0 : decide (b < 0) = false := decide_eq_false h0
          have d1 : decide (m < b) = false := decide_eq_false h1
          have HY := Aside0.mk (show 0 ≤ b ∧ b ≤ m by omega)
          clear h0 h1
          go_wp2
          go_roundw
          case rel => exact ⟨2, rfl, ⟨by omega⟩, ⟨⟨fun _ => HA.out.1 (by omega), fun _ => HY.out, by omega⟩⟩, by first | rfl | trivial⟩
          case measure => simp [intOf]
    | 2, _, HK, HA =>
      by_cases h0 : c < 0
      · have d0 : decide (c < 0) = true := decide_eq_true h0
        have HY := Aside0.mk (inN_no3 (m := m) (x := c) (a := a) (b := b) (c := c) (by exact .inr (.inr rfl)) (by omega))
        clear h0
        go_wp2
        go_ret
        exact ⟨by rw [HY.out]; rfl, below_alloc (Below.refl _ _) _⟩
      · by_cases h1 : m < c
        · have d0 : decide (c < 0) = false := decide_eq_false h0
          have d1 : decide (m < c) = true := decide_eq_true h1
          have HY := Aside0.mk (inN_no3 (m := m) (x := c) (a := a) (b := b) (c := c) (by exact .inr (.inr rfl)) (by omega))
          clear h0 h1
          go_wp2
          go_ret
          exact ⟨by rw [HY.out]; rfl, below_alloc (Below.refl _ _) _⟩
        · have d0 : decide (c < 0) = false := decide_eq_false h0
          have d1 : decide (m < c) = false := decide_eq_false h1
          have HY := Aside0.mk (show 0 ≤ c ∧ c ≤ m by omega)
          clear h0 h1
          go_wp2
          go_roundw
          case rel => exact ⟨3, rfl, ⟨by omega⟩, ⟨⟨fun _ => HA.out.1 (by omega), fun _ => HA.out.2.1 (by omega), fun _ => HY.out⟩⟩, by first | rfl | trivial⟩
          case measure => simp [intOf]
    | 3, _, HK, HA =>
      have HY := Aside0.mk (show (inN m a && (inN m b && inN m c)) = true by rw [inN_yes (HA.out.1 (by omega)), inN_yes (HA.out.2.1 (by omega)), inN_yes (HA.out.2.2 (by omega))]; rfl)
      go_wp2
      go_ret
      exact ⟨by rw [HY.out]; rfl, below_alloc (Below.refl _ _) _⟩
end Go.Proofs.YtccmackhhppbdaaDoor.Print
