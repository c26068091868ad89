/- DecJoins: the digits of two numbers, one behind the other, are those of the first one, moved up by as many places as the second one has, and the second one. -/
import Derived.Test.YtngjfibaaoaphaaDoorPrint4
import Derived.Test.YtngjfibaaoaphaaDoorYdecB
namespace Go.Proofs.YtngjfibaaoaphaaDoor.Pure
open Go.RowKit Go.Proofs.YtngjfibaaoaphaaDoor.Print Go.Proofs.YtngjfibaaoaphaaDoorW.PrintWords Go.Proofs.YtngjfibaaoaphaaDoorW.PrintLast Go.Proofs.YtngjfibaaoaphaaDoorW.PrintMore Go.Proofs.YtngjfibaaoaphaaDoor.Y

theorem join_loop (w : Int) (hw : 1 ≤ w ∧ w ≤ 9) (a b : Nat) (x y : ByteArray) (ha : a < 10 ^ 9) (r : Bool) (K : Ev (fun k => if x.size + y.size ≤ 9223372036854775807 then ((dec_Unfixed.f k (x ++ y)).bind fun bt133 => ((cracknellaw02_alive.f k).bind fun t135 => (if t135 = true then (if bt133.2 = true then (some (bt133.1 == (wrap64 (((a * 10 ^ w.toNat : Nat) : Int) + b)))) else (some false)) else (some false)))) else (none)) r) (d : Nat) : ∀ i : Nat, (i : Int) + d = w → Ev (fun k => cracknellaw02_DecJoins.l0 k b x y ((a * 10 ^ i : Nat) : Int) w i) r := by
  induction d with
  | zero =>
    intro i hi
    apply ev_succ
    simp only [cracknellaw02_DecJoins.l0]
    have e : w.toNat = i := by omega
    rw [e] at K
    exact ev_neg (by omega) K
  | succ d ih =>
    intro i hi
    apply ev_succ
    simp only [cracknellaw02_DecJoins.l0]
    refine ev_pos (by omega) ?_
    have h9 : (10 : Nat) ^ i ≤ 10 ^ 8 := Nat.pow_le_pow_right (by decide) (by omega)
    have e9 : (10 : Nat) ^ 9 = 1000000000 := by decide
    have e8 : (10 : Nat) ^ 8 = 100000000 := by decide
    have hm : a * 10 ^ i ≤ 1000000000 * 100000000 := Nat.mul_le_mul (by omega) (by omega)
    rw [w64 (n := ((a * 10 ^ i : Nat) : Int) * 10) (by omega) (by omega), w64 (n := (i : Int) + 1) (by omega) (by omega), show ((a * 10 ^ i : Nat) : Int) * 10 = ((a * 10 ^ (i + 1) : Nat) : Int) by rw [Nat.pow_succ, ← Nat.mul_assoc]; omega, show (i : Int) + 1 = ((i + 1 : Nat) : Int) by omega]
    exact ih (i + 1) (by omega)
theorem DecJoins : cracknellaw02_DecJoins.Pure := by
  intro a b w ha hb hw
  have h : InI a := wf_i64 ha
  have h' : InI b := wf_i64 hb
  apply Ev.rounds
  simp only [cracknellaw02_DecJoins.f]
  refine ev_bind (fixed_ev h) (ev_bind (fixed_ev h') ?_)
  have hno : ∀ x y : ByteArray, Ev (fun k => cracknellaw02_DecJoins.j0 k a b w x y true) true := by
    intro x y
    apply ev_succ
    simp only [cracknellaw02_DecJoins.j0]
    exact ev_pos (by trivial) (ev_bind alive02_ev (ev_now _))
  by_cases hk : fixOk a 9
  · refine ev_neg (fun e => fix_nil.mp e hk) ?_
    by_cases hk' : fixOk b w
    · refine ev_neg (fun e => fix_nil.mp e hk') ?_
      by_cases h9 : w > 9
      · rw [decide_eq_true h9]; exact hno _ _
      · rw [decide_eq_false h9]
        apply ev_succ
        simp only [cracknellaw02_DecJoins.j0]
        refine ev_neg (by simp) ?_
        have k1 := hk.2.2.1
        have k2 := hk.2.2.2
        have k3 := hk'.1
        have k4 := hk'.2.2.1
        have k5 := hk'.2.2.2
        have e9 : (10 : Nat) ^ (9 : Int).toNat = 1000000000 := by decide
        have hw9 : (10 : Nat) ^ w.toNat ≤ 10 ^ 9 := Nat.pow_le_pow_right (by decide) (by omega)
        have e9' : (10 : Nat) ^ 9 = 1000000000 := by decide
        have hm : a.toNat * 10 ^ w.toNat ≤ 1000000000 * 1000000000 := Nat.mul_le_mul (by omega) (by omega)
        have hb9 : bytesOf (fixB a 9 ++ fixB b w) = fixD 9 a.toNat ++ fixD w.toNat b.toNat := by
          rw [bytesOf_append, bytesOf_fix hk, bytesOf_fix hk']; rfl
        have hsz : (fixB a 9 ++ fixB b w).size = 9 + w.toNat := by
          rw [ByteArray.size_append, fix_size hk, fix_size hk']; rfl
        have hu : unfB (fixB a 9 ++ fixB b w) = (((a.toNat * 10 ^ w.toNat + b.toNat : Nat) : Int), true) := by
          unfold unfB valB
          rw [hsz, hb9, valD_append, valD_fixD, if_pos (by omega)]
          simp only [Option.bind_some, valD_fixD]
          rw [Nat.zero_mul, Nat.zero_add, Nat.mod_eq_of_lt (by omega), Nat.mod_eq_of_lt k5]
        have hl := join_loop w (by omega) a.toNat b.toNat (fixB a 9) (fixB b w) (by omega) true ?_ w.toNat 0 (by omega)
        · rw [Nat.pow_zero, Nat.mul_one, show ((a.toNat : Nat) : Int) = a by omega, show ((b.toNat : Nat) : Int) = b by omega] at hl
          exact hl
        · refine ev_pos (by rw [fix_size hk, fix_size hk']; omega) (ev_bind (unfixed_ev _) (ev_bind alive02_ev (ev_pos rfl ?_)))
          rw [hu]
          refine ev_pos rfl (ev_eq (ev_now _) ?_)
          rw [beq_iff_eq, w64 (by omega) (by omega)]
          simp only
          omega
    · rw [fix_no hk']
      exact ev_pos toList_nil (hno _ _)
  · rw [fix_no hk]
    exact ev_pos toList_nil (hno _ _)

end Go.Proofs.YtngjfibaaoaphaaDoor.Pure
