/- How two keys compare: (cookie.Key).Cmp at the printed text. -/
import Derived.Test.YtccmackhhppbdaaDoorPrintC
import Derived.LoopTactic
import Derived.Test.YtccmackhhppbdaaDoorYa
namespace Go.Proofs.YtccmackhhppbdaaDoor.Print
open Go.RowKit Go.Proofs.YtccmackhhppbdaaDoor.Y Go.Proofs.YtccmackhhppbdaaDoorW.PrintWords Go.Proofs.YtccmackhhppbdaaDoorW.PrintLast Go.Proofs.YtccmackhhppbdaaDoorW.PrintMore
set_option linter.unusedVariables false
set_option linter.unusedSimpArgs false
def cmpS (a b : ByteArray) : Int := if Op.bytesLess a.toList b.toList = true then -1 else if Op.bytesLess b.toList a.toList = true then 1 else 0
def orL : List Int → Int
  | [] => 0
  | x :: l => if x = 0 then orL l else x
def cmpK (a0 a1 a2 b0 b1 b2 : ByteArray) : Int := orL [cmpS a0 b0, cmpS a1 b1, cmpS a2 b2]
theorem cmpS_f (a b : ByteArray) : PrintC.cmp_Compare_string.f a b = some (cmpS a b) := by
  unfold PrintC.cmp_Compare_string.f PrintC.cmp_isNaN_string.f cmpS
  simp only [bne_self_eq_false, Option.bind_some, if_neg (show ¬ (false = true) by decide)]
  split
  · rfl
  · split <;> rfl
theorem rd_drop {l : List Int} {i : Nat} {c : Int} {r : List Int} (h : l.drop i = c :: r) : rd l (i : Int) = c := by
  unfold rd
  have := congrArg (fun x => x[0]?) h
  simp only [List.getElem?_drop, Nat.add_zero, List.getElem?_cons_zero] at this
  rw [Int.toNat_natCast, List.getD_eq_getElem?_getD, this]
  rfl
theorem drop_casesI (l : List Int) {i : Nat} (h : i ≤ l.length) : (i = l.length ∧ l.drop i = []) ∨ (∃ c, i < l.length ∧ l.drop i = c :: l.drop (i + 1)) := by
  rcases Nat.lt_or_ge i l.length with h1 | h1
  · exact .inr ⟨l[i], h1, List.drop_eq_getElem_cons h1⟩
  · exact .inl ⟨by omega, List.drop_eq_nil_of_le h1⟩
theorem or_loop (l : List Int) (hl : l.length ≤ 4294967296) (d : Nat) : ∀ i : Nat, i + d = l.length → Ev (fun k => PrintC.cmp_Or_int.l0 k 0 l (l.length : Int) i) (orL (l.drop i)) := by
  induction d with
  | zero =>
    intro i hi
    apply ev_succ
    simp only [PrintC.cmp_Or_int.l0]
    exact ev_neg (by omega) (ev_eq (ev_now _) (by rw [List.drop_eq_nil_of_le (by omega)]; rfl))
  | succ d ih =>
    intro i hi
    apply ev_succ
    simp only [PrintC.cmp_Or_int.l0]
    have hw : wrap64 ((i : Int) + 1) = ((i + 1 : Nat) : Int) := by rw [w64 (by omega) (by omega)]; omega
    rw [hw]
    refine ev_pos (by omega) (ev_pos (by omega) (ev_pos (by omega) ?_))
    rcases drop_casesI l (i := i) (by omega) with ⟨h1, _⟩ | ⟨c, h1, h2⟩
    · omega
    · rw [rd_drop h2, h2, orL]
      by_cases hc : c = 0
      · rw [if_pos hc]; exact ev_pos hc (ih (i + 1) (by omega))
      · rw [if_neg hc]; exact ev_neg hc (ev_now _)
theorem or_ev {l : List Int} (hl : l.length ≤ 4294967296) : Ev (fun k => PrintC.cmp_Or_int.f k l) (orL l) := by
  have := or_loop l hl l.length 0 (by omega)
  simpa [PrintC.cmp_Or_int.f] using this
theorem key_ev (a0 a1 a2 b0 b1 b2 : ByteArray) : Ev (fun k => PrintC.cookie_Key_Cmp.f k a0 a1 a2 b0 b1 b2) (cmpK a0 a1 a2 b0 b1 b2) := by
  simp only [PrintC.cookie_Key_Cmp.f, cmpS_f, Option.bind_some]
  exact ev_bind (or_ev (by simp)) (ev_now _)
theorem key_at (a0 a1 a2 b0 b1 b2 : ByteArray) : ∃ k, PrintC.cookie_Key_Cmp.f k a0 a1 a2 b0 b1 b2 = some (cmpK a0 a1 a2 b0 b1 b2) := (key_ev a0 a1 a2 b0 b1 b2).rounds
end Go.Proofs.YtccmackhhppbdaaDoor.Print
