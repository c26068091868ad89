/- WirePuts: the bytes of any 64-bit number are the reference's, and are taken as the number, whatever is behind them. -/
import Derived.Test.YtlnpphagcmhojaaPrint6
import Derived.Test.YtlnpphagcmhojaaYwireB
namespace Go.Proofs.Ytlnpphagcmhojaa.Pure
open Go.RowKit Go.Proofs.Ytlnpphagcmhojaa.Print Go.Proofs.YtlnpphagcmhojaaW.PrintWords Go.Proofs.YtlnpphagcmhojaaW.PrintLast Go.Proofs.YtlnpphagcmhojaaW.PrintMore Go.Proofs.Ytlnpphagcmhojaa.Y

theorem WirePuts : cracknellaw03_WirePuts.Pure := by
  intro n s hn hs
  obtain ⟨n0, n1⟩ := wf_u64 hn
  obtain ⟨n, rfl⟩ := Int.eq_ofNat_of_zero_le n0
  have h10 := dig_len10 (n := n) (by omega)
  apply Ev.rounds
  simp only [cracknellaw03_WirePuts.f]
  refine ev_bind (put_ev (by omega)) (ev_pos (by rw [put_size]; omega) ?_)
  refine ev_bind (take_ev (by rw [ByteArray.size_append, put_size]; omega)) (ev_bind alive03_ev (ev_pos rfl (ev_bind (ref_put_ev (by omega)) (ev_pos rfl ?_))))
  rw [tk_put (n := n) (by omega) (rest := bytesOf s) (by rw [bytesOf_append, bytesOf_put])]
  refine ev_pos rfl (ev_pos (by rw [put_size]) (ev_now _))

end Go.Proofs.Ytlnpphagcmhojaa.Pure
