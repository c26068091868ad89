/- WireTakes: any bytes begin with the number, or the error, that the reference tells; and they begin with that number's bytes. -/
import Derived.Test.YtlnpphagcmhojaaPrint8
import Derived.Test.YtlnpphagcmhojaaYwireB
namespace Go.Proofs.Ytlnpphagcmhojaa.Pure
open Go.RowKit Go.Proofs.Ytlnpphagcmhojaa.Print Go.Proofs.YtlnpphagcmhojaaW.PrintWords Go.Proofs.YtlnpphagcmhojaaW.PrintLast Go.Proofs.YtlnpphagcmhojaaW.PrintMore Go.Proofs.Ytlnpphagcmhojaa.Y

theorem WireTakes : cracknellaw03_WireTakes.Pure := by
  intro s hs
  apply Ev.rounds
  simp only [cracknellaw03_WireTakes.f]
  refine ev_bind (take_ev (by omega)) (ev_bind (ref_take_ev (by omega)) (ev_bind alive03_ev (ev_pos rfl (ev_pos rfl (ev_pos rfl (ev_pos rfl ?_))))))
  by_cases h0 : (tk s).2.2 = 0
  · obtain ⟨m, e1, e2, e3, e4, e5⟩ := tk_back (s := s) (n := (tk s).1) (a := (tk s).2.1) (Prod.ext rfl (Prod.ext rfl h0))
    refine ev_pos h0 ?_
    rw [e1, e2]
    refine ev_pos (by omega) (ev_bind (put_ev (by omega)) (ev_pos (by omega) (ev_eq (ev_now _) ?_)))
    rw [toList_beq, decide_eq_true_iff, bytesOf_put, bytesOf_extract, Int.toNat_natCast, Nat.sub_zero, List.drop_zero, e3]
  · exact ev_neg h0 (ev_now _)

end Go.Proofs.Ytlnpphagcmhojaa.Pure
