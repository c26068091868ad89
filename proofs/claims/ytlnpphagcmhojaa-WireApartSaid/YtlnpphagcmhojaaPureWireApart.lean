/- WireApart: the bytes of a number begin with those of another one just if they are the same number. -/
import Derived.Test.YtlnpphagcmhojaaPrint3
import Derived.Test.YtlnpphagcmhojaaYwireB
namespace Go.Proofs.Ytlnpphagcmhojaa.Pure
open Go.RowKit Go.Proofs.Ytlnpphagcmhojaa.Print Go.Proofs.YtlnpphagcmhojaaW.PrintWords Go.Proofs.YtlnpphagcmhojaaW.PrintLast Go.Proofs.YtlnpphagcmhojaaW.PrintMore Go.Proofs.Ytlnpphagcmhojaa.Y

theorem WireApart : cracknellaw03_WireApart.Pure := by
  intro a b ha hb
  obtain ⟨a0, a1⟩ := wf_u64 ha
  obtain ⟨b0, b1⟩ := wf_u64 hb
  obtain ⟨a, rfl⟩ := Int.eq_ofNat_of_zero_le a0
  obtain ⟨b, rfl⟩ := Int.eq_ofNat_of_zero_le b0
  apply Ev.rounds
  simp only [cracknellaw03_WireApart.f]
  refine ev_bind (put_ev (by omega)) (ev_bind (put_ev (by omega)) (ev_bind alive03_ev (ev_pos rfl ?_)))
  by_cases h : ((put b).size : Int) ≤ ((put a).size : Int)
  · refine ev_pos h (ev_pos (by omega) (ev_eq (ev_now _) ?_))
    rw [toList_beq, bytesOf_extract, bytesOf_put, bytesOf_put, Nat.sub_zero, List.drop_zero, Int.toNat_natCast, put_size, beq_iff_eq, Bool.eq_iff_iff, decide_eq_true_iff, beq_iff_eq]
    constructor
    · intro e
      have := dig_apart (a := a) (b := b) (by omega) (by omega) e
      omega
    · intro e
      obtain rfl : a = b := by omega
      exact List.take_length
  · refine ev_neg h (ev_eq (ev_now _) ?_)
    rw [beq_iff_eq, eq_comm, beq_eq_false_iff_ne]
    intro e
    obtain rfl : a = b := by omega
    omega

end Go.Proofs.Ytlnpphagcmhojaa.Pure
