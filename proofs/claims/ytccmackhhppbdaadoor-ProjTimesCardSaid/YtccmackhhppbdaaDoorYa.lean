/- Plain words used by all laws of this seat: "eventually" (enough rounds), bytes as whole numbers. No condition. -/
import Derived.Test.YtccmackhhppbdaaDoorWMore
import Derived.Laws.BitsLemmas
import Derived.Laws.Strings
namespace Go.Proofs.YtccmackhhppbdaaDoor.Y
set_option linter.unusedVariables false
set_option linter.unusedSimpArgs false
open Go.RowKit Go.Proofs.YtccmackhhppbdaaDoorW.PrintWords Go.Proofs.YtccmackhhppbdaaDoorW.PrintLast Go.Proofs.YtccmackhhppbdaaDoorW.PrintMore

section
variable {α β : Type} {f g : Nat → Option α} {r : α} {c : Prop} [Decidable c]
theorem ev_pos (hc : c) (h : Ev f r) : Ev (fun k => if c then f k else g k) r := by simpa only [if_pos hc] using h
theorem ev_neg (hc : ¬ c) (h : Ev g r) : Ev (fun k => if c then f k else g k) r := by simpa only [if_neg hc] using h
theorem ev_now (r : α) : Ev (fun _ => some r) r := ⟨0, fun _ _ => rfl⟩
theorem ev_succ (h : Ev (fun k => g (k + 1)) r) : Ev g r := by
  obtain ⟨K, h⟩ := h
  refine ⟨K + 1, fun k hk => ?_⟩
  obtain ⟨j, rfl⟩ : ∃ j, k = j + 1 := ⟨k - 1, by omega⟩
  exact h j (by omega)
theorem ev_bind {h : Nat → α → Option β} {q : β} (hg : Ev g r) (k : Ev (fun n => h n r) q) : Ev (fun n => (g n).bind fun x => h n x) q := Ev.bind hg k
theorem ev_bind_some {h : Nat → Option β} {q : β} {x : α} {p : Nat → α → Option β} (hp : ∀ n, p n x = h n) (k : Ev h q) : Ev (fun n => (some x).bind (p n)) q := by
  obtain ⟨K, k⟩ := k
  refine ⟨K, fun n hn => ?_⟩
  show (some x).bind (p n) = some q
  rw [Option.bind_some, hp]
  exact k n hn
theorem ev_unique {r' : α} (h : Ev g r) (h' : Ev g r') : r = r' := by
  obtain ⟨K, h⟩ := h
  obtain ⟨K', h'⟩ := h'
  have a := h (K + K') (by omega)
  have b := h' (K + K') (by omega)
  rw [a] at b
  exact Option.some.inj b
theorem ev_eq {r' : α} (h : Ev g r) (e : r = r') : Ev g r' := e ▸ h
end

/-! ### bytes -/
theorem bytesOf_eq (s : ByteArray) : bytesOf s = s.data.toList.map fun b => (b.toNat : Int) := rfl
theorem bytesOf_range {s : ByteArray} {c : Int} (h : c ∈ bytesOf s) : 0 ≤ c ∧ c < 256 := by
  rw [bytesOf_eq] at h
  obtain ⟨b, _, rfl⟩ := List.mem_map.mp h
  have := b.toNat_lt
  omega
theorem map_nat_inj {a b : List UInt8} (h : (a.map fun x => (x.toNat : Int)) = b.map fun x => (x.toNat : Int)) : a = b := by
  induction a generalizing b with
  | nil => cases b with
    | nil => rfl
    | cons _ _ => simp at h
  | cons x a ih => cases b with
    | nil => simp at h
    | cons y b =>
      simp only [List.map_cons, List.cons.injEq] at h
      have : x = y := UInt8.toNat_inj.mp (by omega)
      rw [this, ih h.2]
theorem bytesOf_inj {a b : ByteArray} (h : bytesOf a = bytesOf b) : a = b := by
  have h' := map_nat_inj (show a.data.toList.map _ = b.data.toList.map _ from h)
  cases a; cases b
  simp only at h'
  rw [ByteArray.mk.injEq]
  exact Array.toList_inj.mp h'
theorem toList_data (s : ByteArray) : s.toList = s.data.toList := ByteArray.toList_eq s
theorem toList_inj {a b : ByteArray} : a.toList = b.toList ↔ a = b := by
  constructor
  · intro h
    rw [toList_data, toList_data] at h
    cases a; cases b
    rw [ByteArray.mk.injEq]
    exact Array.toList_inj.mp h
  · rintro rfl; rfl
theorem toList_eq_iff {a b : ByteArray} : a.toList = b.toList ↔ bytesOf a = bytesOf b := ⟨fun h => by rw [toList_inj.mp h], fun h => by rw [bytesOf_inj h]⟩
theorem toList_beq (a b : ByteArray) : (a.toList == b.toList) = decide (bytesOf a = bytesOf b) := by
  rw [Bool.eq_iff_iff, decide_eq_true_iff, beq_iff_eq, toList_eq_iff]
theorem bytesOf_append (a b : ByteArray) : bytesOf (a ++ b) = bytesOf a ++ bytesOf b := by
  simp [bytesOf_eq, ByteArray.data_append]
theorem bytesOf_str {xs : List Int} (h : ∀ x ∈ xs, 0 ≤ x ∧ x < 256) : bytesOf (strOfNums xs) = xs := by
  rw [bytesOf_eq, strOfNums_data, List.map_map]
  conv => rhs; rw [← List.map_id xs]
  apply List.map_congr_left
  intro x hx
  have := h x hx
  simp only [Function.comp, id, UInt8.toNat_ofNat']
  omega
theorem str_bytesOf (s : ByteArray) : strOfNums (bytesOf s) = s := bytesOf_inj (bytesOf_str fun _ h => bytesOf_range h)
theorem bytesOf_extract (s : ByteArray) (a b : Nat) : bytesOf (s.extract a b) = ((bytesOf s).drop a).take (b - a) := by
  rw [bytesOf_eq, bytesOf_eq, ByteArray.data_extract, Array.toList_extract, List.extract_eq_take_drop, List.map_take, List.map_drop]
theorem bytesOf_empty : bytesOf (⟨#[]⟩ : ByteArray) = [] := rfl
theorem bytesOf_nil_iff {s : ByteArray} : bytesOf s = [] ↔ s.size = 0 := by
  rw [← List.length_eq_zero_iff, bytesOf_length]
theorem bt_eq (s : ByteArray) (i : Int) : bt s i = (bytesOf s).getD i.toNat 0 := by rw [← rd_bytesOf]; rfl
theorem bt_drop {s : ByteArray} {i : Nat} {c : Int} {l : List Int} (h : (bytesOf s).drop i = c :: l) : bt s i = c := by
  rw [bt_eq, List.getD_eq_getElem?_getD]
  have : (bytesOf s)[i]? = some c := by
    have := congrArg (fun x => x[0]?) h
    simpa [List.getElem?_drop] using this
  simp [this]
theorem bt_range (s : ByteArray) (i : Int) : 0 ≤ bt s i ∧ bt s i < 256 := by
  unfold bt
  split
  · have := (s[i.toNat]'(by assumption)).toNat_lt
    omega
  · omega
theorem drop_cases (s : ByteArray) {i : Nat} (h : i ≤ s.size) : (i = s.size ∧ (bytesOf s).drop i = []) ∨ (i < s.size ∧ (bytesOf s).drop i = bt s i :: (bytesOf s).drop (i + 1)) := by
  have hl := bytesOf_length s
  rcases Nat.lt_or_ge i s.size with h1 | h1
  · right
    refine ⟨h1, ?_⟩
    rw [List.drop_eq_getElem_cons (by omega)]
    congr 1
    rw [bt_eq, List.getD_eq_getElem?_getD, Int.toNat_natCast, List.getElem?_eq_getElem (by omega)]
    rfl
  · left
    exact ⟨by omega, List.drop_eq_nil_of_le (by omega)⟩

/-! ### whole numbers -/
theorem w64 {n : Int} (h : -9223372036854775808 ≤ n) (h' : n ≤ 9223372036854775807) : wrap64 n = n := by unfold wrap64; omega
theorem wu64 (n : Int) : IntKind.u64.wrap n = n % 18446744073709551616 := by simp [IntKind.wrap, IntKind.bits, IntKind.signed]
theorem u64_id {n : Int} (h : 0 ≤ n) (h' : n ≤ 18446744073709551615) : IntKind.u64.wrap n = n := by rw [wu64]; omega
theorem wraps_u64 (n : Int) (h₀ : 0 ≤ n) (h₁ : n < 2 ^ 64) : IntKind.u64.wrap n = n := by rw [wu64]; omega
theorem wf_u64 {n : Int} (h : (Lit.int .u64 n).wf = true) : 0 ≤ n ∧ n ≤ 18446744073709551615 := by
  simp only [Lit.wf, Bool.and_eq_true, decide_eq_true_eq] at h
  exact h
theorem wf_i64 {n : Int} (h : (Lit.int .i64 n).wf = true) : -9223372036854775808 ≤ n ∧ n ≤ 9223372036854775807 := by
  simp only [Lit.wf, Bool.and_eq_true, decide_eq_true_eq] at h
  exact h
end Go.Proofs.YtccmackhhppbdaaDoor.Y
