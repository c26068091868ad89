/- Rows that rise, put one by one into a table whose keys fall: what it has then. -/
import Derived.Test.YtmpccjkdfdgedaaYtabK
import Derived.Test.YtmpccjkdfdgedaaYtabB
namespace Go.Proofs.Ytmpccjkdfdgedaa.Y
open Go.RowKit Go.Proofs.Ytmpccjkdfdgedaa.Print Go.Proofs.YtmpccjkdfdgedaaW.PrintWords Go.Proofs.YtmpccjkdfdgedaaW.PrintLast Go.Proofs.YtmpccjkdfdgedaaW.PrintMore
set_option linter.unusedVariables false

def toB (x : SR) : SB := ⟨x.f0, x.f1⟩
def BK (T : List SR) (j : Nat) : List SB := ((T.take j).reverse).map toB
theorem BK_succ {T : List SR} {j : Nat} {x : SR} (h : T[j]? = some x) : BK T (j + 1) = toB x :: BK T j := by
  unfold BK
  rw [List.take_add_one, h]
  simp
theorem BK_len (T : List SR) (j : Nat) (h : j ≤ T.length) : (BK T j).length = j := by unfold BK; simp; omega
theorem BK_rises {T : List SR} (h : Rises ordI kR T) (j : Nat) : Rises ordB kB (BK T j) := by
  refine List.pairwise_map.2 (List.pairwise_reverse.2 ?_)
  exact List.Pairwise.sublist (List.take_sublist _ _) h
theorem BK_put {T : List SR} (h : Rises ordI kR T) (hl : T.length ≤ 100) {j : Nat} {x : SR} (hj : T[j]? = some x) : ∃ k, cracknellaw14_Back_int_Put.f k (BK T j) x.f0 x.f1 = some (BK T (j + 1)) := by
  have hlt : j < T.length := (List.getElem?_eq_some_iff.1 hj).1
  obtain ⟨K, hK⟩ := put_evB x.f0 x.f1 (BK_rises h j) (by rw [BK_len T j (by omega)]; omega)
  refine ⟨K, (hK K (Nat.le_refl _)).trans ?_⟩
  rw [BK_succ hj]
  have hall : ∀ y ∈ BK T j, ordB.lt x.f0 (kB y) := by
    intro y hy
    unfold BK at hy
    obtain ⟨z, hz, rfl⟩ := List.mem_map.1 hy
    have hz' := List.mem_reverse.1 hz
    obtain ⟨i, hi, e⟩ := List.mem_take_iff_getElem.1 hz'
    have hp := List.pairwise_iff_getElem.1 h i j (by omega) hlt (by omega)
    rw [List.getElem?_eq_getElem hlt] at hj
    obtain rfl := Option.some.inj hj
    rw [e] at hp
    exact hp
  unfold putR
  rw [less_all hall, more_all hall]
  rfl
theorem BK_key {T : List SR} {i : Nat} (h : i < T.length) : ((BK T T.length).map (·.f0))[i]? = ((T.map cv)[T.length - 1 - i]?).map (·.f0) := by
  unfold BK
  rw [List.take_length, List.map_map, List.getElem?_map, List.getElem?_reverse h, List.getElem?_map]
  cases T[T.length - 1 - i]? <;> rfl
end Go.Proofs.Ytmpccjkdfdgedaa.Y
