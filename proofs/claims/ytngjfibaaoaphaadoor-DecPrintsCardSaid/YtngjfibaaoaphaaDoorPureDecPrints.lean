/- DecPrints: the digits of any 64-bit number are the reference's, and are read as the number. -/
import Derived.Test.YtngjfibaaoaphaaDoorPrint6
import Derived.Test.YtngjfibaaoaphaaDoorYdecB
namespace Go.Proofs.YtngjfibaaoaphaaDoor.Pure
open Go.RowKit Go.Proofs.YtngjfibaaoaphaaDoor.Print Go.Proofs.YtngjfibaaoaphaaDoorW.PrintWords Go.Proofs.YtngjfibaaoaphaaDoorW.PrintLast Go.Proofs.YtngjfibaaoaphaaDoorW.PrintMore Go.Proofs.YtngjfibaaoaphaaDoor.Y

theorem DecPrints : cracknellaw02_DecPrints.Pure := by
  intro n hn
  have h : InI n := wf_i64 hn
  have hr : readB (itoaB n) = (n, true) := readB_yes h (bytesOf_itoa n)
  apply Ev.rounds
  simp only [cracknellaw02_DecPrints.f, print_f h, dec_Read.f, hr, Option.bind_some]
  refine ev_bind alive02_ev (ev_pos rfl (ev_bind (ref_print_ev h) (ev_pos rfl ?_)))
  exact ev_pos (by trivial) (ev_eq (ev_now _) (by simp))

end Go.Proofs.YtngjfibaaoaphaaDoor.Pure
