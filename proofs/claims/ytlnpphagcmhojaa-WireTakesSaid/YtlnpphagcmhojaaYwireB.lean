/- Texts as bytes (PutText, TakeText), Zig and Zag of layer 3, and its statements' own answers. The numbers are of 64 bits, the texts no longer than a row may be. -/
import Derived.Test.YtlnpphagcmhojaaYwire
namespace Go.Proofs.Ytlnpphagcmhojaa.Y
set_option linter.unusedVariables false
set_option linter.unusedSimpArgs false
open Go.RowKit Go.Proofs.Ytlnpphagcmhojaa.Print Go.Proofs.YtlnpphagcmhojaaW.PrintWords Go.Proofs.YtlnpphagcmhojaaW.PrintLast Go.Proofs.YtlnpphagcmhojaaW.PrintMore

theorem alive03_ev : Ev (fun k => cracknellaw03_alive.f k) true := Ev.of (fun k => cracknellaw03_alive.mono k) (k := 20) (by decide +kernel)

/-! ### texts -/
theorem toList_nil : (⟨#[]⟩ : ByteArray).toList = [] := by rw [toList_data]
theorem natCast_eta (n : Int) (h : 0 ≤ n) : n = (n.toNat : Int) := by omega
def putT (t : ByteArray) : ByteArray := strOfNums (dig t.size ++ bytesOf t)
theorem putT_range (t : ByteArray) : ∀ x ∈ dig t.size ++ bytesOf t, 0 ≤ x ∧ x < 256 := by
  intro x hx
  rcases List.mem_append.mp hx with h | h
  · exact dig_range _ x h
  · exact bytesOf_range h
theorem bytesOf_putT (t : ByteArray) : bytesOf (putT t) = dig t.size ++ bytesOf t := bytesOf_str (putT_range t)
theorem putT_size (t : ByteArray) : (putT t).size = (dig t.size).length + t.size := by rw [putT, strOfNums_size, List.length_append, bytesOf_length]
theorem putText_ev {t : ByteArray} (h : t.size ≤ 140737488351232) : Ev (fun k => wire_PutText.f k t) (putT t) := by
  have h10 := dig_len10 (n := t.size) (by omega)
  simp only [wire_PutText.f, wire_lay_int.f]
  rw [u64_id (by omega) (by omega)]
  refine ev_bind (lay_int_ev t.size [] (by omega) (by simp; omega)) (ev_pos ?_ (ev_now _))
  simp only [List.nil_append]
  omega
theorem ref_putText_ev {t : ByteArray} (h : t.size ≤ 140737488351232) : Ev (fun k => cracknelref03_PutText.f k t) (putT t) := by
  have h10 := dig_len10 (n := t.size) (by omega)
  simp only [cracknelref03_PutText.f]
  rw [u64_id (by omega) (by omega)]
  refine ev_bind (ref_put_ev (n := t.size) (by omega)) (ev_pos ?_ (ev_eq (ev_now _) ?_))
  · rw [put_size]; omega
  · apply bytesOf_inj
    rw [bytesOf_append, bytesOf_put, bytesOf_putT]
/-- what a text's bytes tell -/
def tkT (s : ByteArray) (most : Int) : ByteArray × Int × Int :=
  if (tk s).2.2 = 0 then
    if (tk s).1 > mx most 0 then (⟨#[]⟩, 0, 31)
    else if (tk s).1 > (s.size : Int) - (tk s).2.1 then (⟨#[]⟩, 0, 30)
    else (s.extract (tk s).2.1.toNat ((tk s).2.1 + (tk s).1).toNat, (tk s).2.1 + (tk s).1, 0)
  else (⟨#[]⟩, 0, (tk s).2.2)
theorem tk_good {s : ByteArray} (h : (tk s).2.2 = 0) : 0 ≤ (tk s).1 ∧ (tk s).1 < 18446744073709551616 ∧ 0 < (tk s).2.1 ∧ (tk s).2.1 ≤ s.size := by
  obtain ⟨m, e1, e2, _, e4, e5⟩ := tk_back (s := s) (n := (tk s).1) (a := (tk s).2.1) (Prod.ext rfl (Prod.ext rfl h))
  have := dig_pos m
  omega
theorem mx_range {a : Int} (h : a ≤ 9223372036854775807) : 0 ≤ mx a 0 ∧ mx a 0 ≤ 9223372036854775807 := by
  unfold mx; split <;> omega
theorem takeText_ev {s : ByteArray} {most : Int} (hz : s.size ≤ 281474976710656) (hm : most ≤ 9223372036854775807) : Ev (fun k => wire_TakeText.f k s most) (tkT s most) := by
  simp only [wire_TakeText.f]
  refine ev_bind (take_ev (by omega)) ?_
  unfold tkT
  obtain ⟨m0, m1⟩ := mx_range hm
  by_cases h0 : (tk s).2.2 = 0
  · obtain ⟨a0, a1, a2, a3⟩ := tk_good h0
    rw [u64_id m0 (by omega), w64 (n := (s.size : Int) - (tk s).2.1) (by omega) (by omega), u64_id (n := (s.size : Int) - (tk s).2.1) (by omega) (by omega)]
    simp only [h0, if_true]
    by_cases h1 : (tk s).1 > mx most 0
    · simp only [h1, if_true]; exact ev_now _
    · simp only [h1, if_false]
      by_cases h2 : (tk s).1 > (s.size : Int) - (tk s).2.1
      · simp only [h2, if_true]; exact ev_now _
      · simp only [h2, if_false]
        rw [w64 (n := (tk s).1) (by omega) (by omega), w64 (n := (tk s).2.1 + (tk s).1) (by omega) (by omega)]
        exact ev_pos (by omega) (ev_pos (by omega) (ev_pos (by omega) (ev_now _)))
  · simp only [h0, if_false]; exact ev_now _
theorem ref_takeText_ev {s : ByteArray} {most : Int} (hz : s.size ≤ 281474976710656) (hm : most ≤ 9223372036854775807) : Ev (fun k => cracknelref03_TakeText.f k s most) (tkT s most) := by
  have hj : ∀ q : Int, 0 ≤ q → q ≤ 9223372036854775807 → q = mx most 0 → Ev (fun k => cracknelref03_TakeText.j0 k s q) (tkT s most) := by
    intro q q0 q1 e
    apply ev_succ
    simp only [cracknelref03_TakeText.j0]
    refine ev_bind (ref_take_ev (by omega)) ?_
    unfold tkT
    rw [← e]
    by_cases h0 : (tk s).2.2 = 0
    · obtain ⟨a0, a1, a2, a3⟩ := tk_good h0
      rw [u64_id q0 (by omega), w64 (n := (s.size : Int) - (tk s).2.1) (by omega) (by omega), u64_id (n := (s.size : Int) - (tk s).2.1) (by omega) (by omega)]
      simp only [h0, if_true]
      by_cases h1 : (tk s).1 > q
      · simp only [h1, if_true]; exact ev_now _
      · simp only [h1, if_false]
        by_cases h2 : (tk s).1 > (s.size : Int) - (tk s).2.1
        · simp only [h2, if_true]; exact ev_now _
        · simp only [h2, if_false]
          rw [w64 (n := (tk s).1) (by omega) (by omega), w64 (n := (tk s).2.1 + (tk s).1) (by omega) (by omega)]
          exact ev_pos (by omega) (ev_pos (by omega) (ev_pos (by omega) (ev_now _)))
    · simp only [h0, if_false]; exact ev_now _
  simp only [cracknelref03_TakeText.f]
  by_cases h : most < 0
  · exact ev_pos h (hj 0 (by omega) (by omega) (by unfold mx; rw [if_pos h]))
  · exact ev_neg h (hj most (by omega) hm (by unfold mx; rw [if_neg h]))
theorem tkT_back {s u : ByteArray} {most a : Int} (h : tkT s most = (u, a, 0)) : a ≤ s.size ∧ 0 ≤ a ∧ bytesOf (putT u) = (bytesOf s).take a.toNat ∧ u.size ≤ s.size := by
  unfold tkT at h
  by_cases h0 : (tk s).2.2 = 0
  · rw [if_pos h0] at h
    obtain ⟨a0, a1, a2, a3⟩ := tk_good h0
    by_cases h1 : (tk s).1 > mx most 0
    · rw [if_pos h1] at h; simp at h
    rw [if_neg h1] at h
    by_cases h2 : (tk s).1 > (s.size : Int) - (tk s).2.1
    · rw [if_pos h2] at h; simp at h
    rw [if_neg h2] at h
    simp only [Prod.mk.injEq, and_true] at h
    obtain ⟨hu, ha⟩ := h
    obtain ⟨m, e1, e2, e3, e4, e5⟩ := tk_back (s := s) (n := (tk s).1) (a := (tk s).2.1) (Prod.ext rfl (Prod.ext rfl h0))
    rw [e1, e2] at hu ha h2
    have hus : u.size = m := by
      rw [← hu, ByteArray.size_extract]
      omega
    refine ⟨by omega, by omega, ?_, by omega⟩
    rw [bytesOf_putT, hus, ← ha, ← hu, bytesOf_extract, show (((dig m).length : Int) + (m : Int)).toNat = (dig m).length + m by omega, Int.toNat_natCast, show (dig m).length + m - (dig m).length = m by omega, List.take_add, e3]
  · rw [if_neg h0] at h
    simp only [Prod.mk.injEq] at h
    exact absurd h.2.2 h0
theorem tkT_put {t s : ByteArray} {most : Int} {rest : List Int} (ht : t.size ≤ 140737488351232) (hs : bytesOf s = dig t.size ++ (bytesOf t ++ rest)) : tkT s most = if (t.size : Int) > mx most 0 then (⟨#[]⟩, 0, 31) else (t, ((dig t.size).length : Int) + t.size, 0) := by
  have h := tk_put (n := t.size) (by omega) hs
  unfold tkT
  rw [h]
  simp only [if_true]
  have hsz : s.size = (dig t.size).length + (t.size + rest.length) := by rw [← bytesOf_length, hs]; simp [bytesOf_length]
  split
  · rfl
  · rw [if_neg (by omega)]
    refine Prod.ext ?_ rfl
    apply bytesOf_inj
    simp only
    rw [bytesOf_extract, hs, Int.toNat_natCast, show (((dig t.size).length : Int) + (t.size : Int)).toNat - (dig t.size).length = t.size by omega, List.drop_left]
    rw [← bytesOf_length t, List.take_left]

/-! ### Zig, Zag -/
theorem bits_xor_0 (k : IntKind) {x : Int} (h : k.wrap (BitVec.ofInt k.bits x).toNat = x) : Go.bits .xor k x 0 = x := by
  unfold Go.bits
  have e : BitVec.ofInt k.bits 0 = 0#k.bits := by simp [BitVec.ofInt, ← BitVec.ofNat_eq_ofNat]
  simp only [e, BitVec.xor_zero]
  exact h
theorem u64_ofInt {x : Int} (h0 : 0 ≤ x) (h1 : x < 18446744073709551616) : ((BitVec.ofInt 64 x).toNat : Int) = x := by
  rw [BitVec.toNat_ofInt]
  omega
theorem xor_u64_0 {x : Int} (h0 : 0 ≤ x) (h1 : x < 18446744073709551616) : Go.bits .xor .u64 x 0 = x := by
  apply bits_xor_0
  show IntKind.u64.wrap ((BitVec.ofInt 64 x).toNat : Int) = x
  rw [u64_ofInt h0 h1, u64_id h0 (by omega)]
theorem xor_u64_ones {x : Int} (h0 : 0 ≤ x) (h1 : x < 18446744073709551616) : Go.bits .xor .u64 x 18446744073709551615 = 18446744073709551615 - x := by
  unfold Go.bits
  show IntKind.u64.wrap (((BitVec.ofInt 64 x) ^^^ (BitVec.ofInt 64 18446744073709551615)).toNat : Int) = _
  rw [show BitVec.ofInt 64 18446744073709551615 = BitVec.allOnes 64 by decide, BitVec.xor_allOnes, BitVec.toNat_not]
  have := u64_ofInt h0 h1
  rw [u64_id (by omega) (by omega)]
  omega
theorem wrap_i64_eq (n : Int) : IntKind.i64.wrap n = wrap64 n := by rw [IntKind.wrap_i64]; unfold wrap64; rfl
theorem xor_i64_0 {x : Int} (h0 : 0 ≤ x) (h1 : x < 9223372036854775808) : Go.bits .xor .i64 x 0 = x := by
  apply bits_xor_0
  show IntKind.i64.wrap ((BitVec.ofInt 64 x).toNat : Int) = x
  rw [u64_ofInt h0 (by omega), wrap_i64_eq, w64 (by omega) (by omega)]
theorem xor_i64_neg {x : Int} (h0 : 0 ≤ x) (h1 : x < 9223372036854775808) : Go.bits .xor .i64 x (-1) = -x - 1 := by
  unfold Go.bits
  show IntKind.i64.wrap (((BitVec.ofInt 64 x) ^^^ (BitVec.ofInt 64 (-1))).toNat : Int) = _
  rw [show BitVec.ofInt 64 (-1) = BitVec.allOnes 64 by decide, BitVec.xor_allOnes, BitVec.toNat_not]
  have := u64_ofInt h0 (by omega)
  rw [wrap_i64_eq]
  unfold wrap64
  omega
def zig (n : Int) : Int := if 0 ≤ n then 2 * n else -2 * n - 1
def zag (u : Int) : Int := if u % 2 = 0 then u / 2 else -(u / 2) - 1
theorem zig_f {n : Int} (h0 : -9223372036854775808 ≤ n) (h1 : n ≤ 9223372036854775807) : wire_Zig.f n = some (zig n) := by
  unfold wire_Zig.f zig
  congr 1
  simp only [wu64]
  by_cases h : 0 ≤ n
  · rw [if_pos h, show n / 9223372036854775808 % 18446744073709551616 = 0 by omega, xor_u64_0 (by omega) (by omega)]
    omega
  · rw [if_neg h, show n / 9223372036854775808 % 18446744073709551616 = 18446744073709551615 by omega, xor_u64_ones (by omega) (by omega)]
    omega
theorem ref_zig_f {n : Int} (h0 : -9223372036854775808 ≤ n) (h1 : n ≤ 9223372036854775807) : cracknelref03_Zig.f n = some (zig n) := by
  unfold cracknelref03_Zig.f zig wrap64
  simp only [wu64]
  by_cases h : 0 ≤ n
  · rw [if_pos (by omega), if_pos h]; congr 1; omega
  · rw [if_neg (by omega), if_neg h]; congr 1; omega
theorem and_u64_1 {u : Int} (h0 : 0 ≤ u) (h1 : u ≤ 18446744073709551615) : Go.bits .and .u64 u 1 = u % 2 := by
  have := bits_mask .u64 64 (by decide) wraps_u64 1 (by decide) u h0 (by omega)
  simpa using this
theorem zag_f {u : Int} (h0 : 0 ≤ u) (h1 : u ≤ 18446744073709551615) : wire_Zag.f u = some (zag u) := by
  unfold wire_Zag.f zag
  congr 1
  rw [and_u64_1 h0 h1, w64 (n := u / 2) (by omega) (by omega), w64 (n := u % 2) (by omega) (by omega), w64 (n := -(u % 2)) (by omega) (by omega)]
  by_cases h : u % 2 = 0
  · rw [if_pos h, h]; exact xor_i64_0 (by omega) (by omega)
  · rw [if_neg h, show -(u % 2) = -1 by omega]; exact xor_i64_neg (by omega) (by omega)
theorem ref_zag_f {u : Int} (h0 : 0 ≤ u) (h1 : u ≤ 18446744073709551615) : cracknelref03_Zag.f u = some (zag u) := by
  unfold cracknelref03_Zag.f zag wrap64
  simp only [wu64]
  rw [Int.tmod_eq_emod_of_nonneg h0, Int.tdiv_eq_ediv_of_nonneg h0]
  by_cases h : u % 2 = 0
  · rw [if_pos h, if_pos h]; congr 1; omega
  · rw [if_neg h, if_neg h]; congr 1; omega
theorem zag_zig (n : Int) : zag (zig n) = n := by unfold zag zig; split <;> split <;> omega
theorem zig_zag {u : Int} (h : 0 ≤ u) : zig (zag u) = u := by unfold zag zig; split <;> split <;> omega
theorem zig_range {n : Int} (h0 : -9223372036854775808 ≤ n) (h1 : n ≤ 9223372036854775807) : 0 ≤ zig n ∧ zig n ≤ 18446744073709551615 := by unfold zig; split <;> omega
theorem zag_range {u : Int} (h0 : 0 ≤ u) (h1 : u ≤ 18446744073709551615) : -9223372036854775808 ≤ zag u ∧ zag u ≤ 9223372036854775807 := by unfold zag; split <;> omega
end Go.Proofs.Ytlnpphagcmhojaa.Y
