/- WireZigs: Zig and Zag of any 64-bit number are the reference's, and undo one another. -/
import Derived.Test.YtlnpphagcmhojaaPrint14
import Derived.Test.YtlnpphagcmhojaaYwireB
namespace Go.Proofs.Ytlnpphagcmhojaa.Pure
open Go.RowKit Go.Proofs.Ytlnpphagcmhojaa.Print Go.Proofs.YtlnpphagcmhojaaW.PrintWords Go.Proofs.YtlnpphagcmhojaaW.PrintLast Go.Proofs.YtlnpphagcmhojaaW.PrintMore Go.Proofs.Ytlnpphagcmhojaa.Y

theorem WireZigs : cracknellaw03_WireZigs.Pure := by
  intro n u hn hu
  obtain ⟨n0, n1⟩ := wf_i64 hn
  obtain ⟨u0, u1⟩ := wf_u64 hu
  obtain ⟨z0, z1⟩ := zig_range n0 n1
  obtain ⟨a0, a1⟩ := zag_range u0 u1
  apply Ev.rounds
  simp only [cracknellaw03_WireZigs.f]
  refine ev_bind alive03_ev (ev_pos rfl ?_)
  rw [zig_f n0 n1, ref_zig_f n0 n1, zag_f u0 u1, ref_zag_f u0 u1]
  simp only [Option.bind_some, if_true]
  rw [zag_f z0 z1, zig_f a0 a1, zag_zig, zig_zag u0]
  simp only [Option.bind_some, if_true, beq_self_eq_true]
  exact ev_now _

end Go.Proofs.Ytlnpphagcmhojaa.Pure
