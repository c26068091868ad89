/- DecFixed: any 64-bit number in so many digits, or none, is the reference's, and is read as the number. -/
import Derived.Test.YtngjfibaaoaphaaDoorPrint3
import Derived.Test.YtngjfibaaoaphaaDoorYdecB
namespace Go.Proofs.YtngjfibaaoaphaaDoor.Pure
open Go.RowKit Go.Proofs.YtngjfibaaoaphaaDoor.Print Go.Proofs.YtngjfibaaoaphaaDoorW.PrintWords Go.Proofs.YtngjfibaaoaphaaDoorW.PrintLast Go.Proofs.YtngjfibaaoaphaaDoorW.PrintMore Go.Proofs.YtngjfibaaoaphaaDoor.Y

theorem DecFixed : cracknellaw02_DecFixed.Pure := by
  intro n w hn hw
  have h : InI n := wf_i64 hn
  apply Ev.rounds
  simp only [cracknellaw02_DecFixed.f]
  refine ev_bind (fixed_ev h) (ev_bind (unfixed_ev _) (ev_bind alive02_ev (ev_pos rfl (ev_bind (ref_fixed_ev h) (ev_pos rfl ?_)))))
  by_cases hk : fixOk n w
  · rw [unf_fix hk]
    refine ev_neg (fun e => fix_nil.mp e hk) (ev_pos rfl (ev_pos rfl (ev_eq (ev_now _) ?_)))
    rw [beq_iff_eq, fix_size hk]
    have := hk.1
    omega
  · rw [fix_no hk, unf_nil]
    exact ev_pos toList_nil (ev_neg (by simp) (ev_now _))

end Go.Proofs.YtngjfibaaoaphaaDoor.Pure
