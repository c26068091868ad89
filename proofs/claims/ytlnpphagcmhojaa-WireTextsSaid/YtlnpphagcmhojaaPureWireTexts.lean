/- WireTexts: the bytes of any text are the reference's, and are taken as the text, whatever is behind them, unless it is longer than may be. -/
import Derived.Test.YtlnpphagcmhojaaPrint12
import Derived.Test.YtlnpphagcmhojaaYwireB
namespace Go.Proofs.Ytlnpphagcmhojaa.Pure
open Go.RowKit Go.Proofs.Ytlnpphagcmhojaa.Print Go.Proofs.YtlnpphagcmhojaaW.PrintWords Go.Proofs.YtlnpphagcmhojaaW.PrintLast Go.Proofs.YtlnpphagcmhojaaW.PrintMore Go.Proofs.Ytlnpphagcmhojaa.Y

theorem WireTexts : cracknellaw03_WireTexts.Pure := by
  intro t most s ht hm hs
  obtain ⟨m0, m1⟩ := wf_i64 hm
  have h10 := dig_len10 (n := t.size) (by omega)
  apply Ev.rounds
  simp only [cracknellaw03_WireTexts.f]
  refine ev_bind (putText_ev ht) (ev_pos (by rw [putT_size]; omega) ?_)
  refine ev_bind (takeText_ev (by rw [ByteArray.size_append, putT_size]; omega) m1) (ev_bind (ref_putText_ev ht) (ev_pos rfl ?_))
  rw [tkT_put (t := t) (rest := bytesOf s) ht (by rw [bytesOf_append, bytesOf_putT, List.append_assoc])]
  by_cases h : (t.size : Int) > mx most 0
  · rw [if_pos h]
    exact ev_pos h (ev_bind alive03_ev (ev_pos rfl (ev_pos rfl (ev_pos toList_nil (ev_now _)))))
  · rw [if_neg h]
    refine ev_neg h (ev_bind alive03_ev (ev_pos rfl (ev_pos rfl (ev_pos rfl (ev_eq (ev_now _) ?_)))))
    rw [putT_size]
    simp

end Go.Proofs.Ytlnpphagcmhojaa.Pure
