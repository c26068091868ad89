/- WireTakesText: any bytes begin with the text, or the error, that the reference tells; and they begin with that text's bytes. -/
import Derived.Test.YtlnpphagcmhojaaPrint10
import Derived.Test.YtlnpphagcmhojaaYwireB
namespace Go.Proofs.Ytlnpphagcmhojaa.Pure
open Go.RowKit Go.Proofs.Ytlnpphagcmhojaa.Print Go.Proofs.YtlnpphagcmhojaaW.PrintWords Go.Proofs.YtlnpphagcmhojaaW.PrintLast Go.Proofs.YtlnpphagcmhojaaW.PrintMore Go.Proofs.Ytlnpphagcmhojaa.Y

theorem WireTakesText : cracknellaw03_WireTakesText.Pure := by
  intro s most hs hm
  obtain ⟨m0, m1⟩ := wf_i64 hm
  apply Ev.rounds
  simp only [cracknellaw03_WireTakesText.f]
  refine ev_bind (takeText_ev (by omega) m1) (ev_bind (ref_takeText_ev (by omega) m1) (ev_bind alive03_ev (ev_pos rfl (ev_pos rfl (ev_pos rfl (ev_pos rfl ?_))))))
  by_cases h0 : (tkT s most).2.2 = 0
  · obtain ⟨a0, a1, e, hu⟩ := tkT_back (s := s) (u := (tkT s most).1) (most := most) (a := (tkT s most).2.1) (Prod.ext rfl (Prod.ext rfl h0))
    refine ev_pos h0 (ev_pos a0 (ev_bind (putText_ev (by omega)) (ev_pos a1 (ev_eq (ev_now _) ?_))))
    rw [toList_beq, decide_eq_true_iff, e, bytesOf_extract, Nat.sub_zero, List.drop_zero]
  · exact ev_neg h0 (ev_now _)

end Go.Proofs.Ytlnpphagcmhojaa.Pure
