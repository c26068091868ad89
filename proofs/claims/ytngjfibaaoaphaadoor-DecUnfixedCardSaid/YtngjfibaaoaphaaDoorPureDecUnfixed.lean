/- DecUnfixed: any text is read as the number, or as none, that the reference tells; in as many digits the number is that text. -/
import Derived.Test.YtngjfibaaoaphaaDoorPrint10
import Derived.Test.YtngjfibaaoaphaaDoorYdecB
namespace Go.Proofs.YtngjfibaaoaphaaDoor.Pure
open Go.RowKit Go.Proofs.YtngjfibaaoaphaaDoor.Print Go.Proofs.YtngjfibaaoaphaaDoorW.PrintWords Go.Proofs.YtngjfibaaoaphaaDoorW.PrintLast Go.Proofs.YtngjfibaaoaphaaDoorW.PrintMore Go.Proofs.YtngjfibaaoaphaaDoor.Y

theorem DecUnfixed : cracknellaw02_DecUnfixed.Pure := by
  intro s hs
  apply Ev.rounds
  simp only [cracknellaw02_DecUnfixed.f]
  refine ev_bind (unfixed_ev s) (ev_bind (ref_unfixed_ev s) (ev_bind alive02_ev (ev_pos rfl (ev_pos rfl (ev_pos (by simp) ?_)))))
  by_cases h : (unfB s).2 = true
  · obtain ⟨hk, hb⟩ := unf_yes h
    refine ev_pos h (ev_bind (fixed_ev ?_) (ev_eq (ev_now _) ?_))
    · unfold fixOk at hk
      have h18 : (10 : Nat) ^ (s.size : Int).toNat ≤ 10 ^ 18 := Nat.pow_le_pow_right (by decide) (by omega)
      have e18 : (10 : Nat) ^ 18 = 1000000000000000000 := by decide
      unfold InI
      omega
    · rw [beq_iff_eq, toList_eq_iff, hb]
  · exact ev_neg h (ev_now _)

end Go.Proofs.YtngjfibaaoaphaaDoor.Pure
