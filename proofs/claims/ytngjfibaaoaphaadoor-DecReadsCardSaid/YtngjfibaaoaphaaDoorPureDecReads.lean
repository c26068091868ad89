/- DecReads: any text is read as the number, or as none, that the reference tells; and the number's digits are that text. -/
import Derived.Test.YtngjfibaaoaphaaDoorPrint8
import Derived.Test.YtngjfibaaoaphaaDoorYdecB
namespace Go.Proofs.YtngjfibaaoaphaaDoor.Pure
open Go.RowKit Go.Proofs.YtngjfibaaoaphaaDoor.Print Go.Proofs.YtngjfibaaoaphaaDoorW.PrintWords Go.Proofs.YtngjfibaaoaphaaDoorW.PrintLast Go.Proofs.YtngjfibaaoaphaaDoorW.PrintMore Go.Proofs.YtngjfibaaoaphaaDoor.Y

theorem DecReads : cracknellaw02_DecReads.Pure := by
  intro s hs
  apply Ev.rounds
  simp only [cracknellaw02_DecReads.f, dec_Read.f, Option.bind_some]
  refine ev_bind (ref_read_ev hs) (ev_bind alive02_ev (ev_pos rfl (ev_pos rfl (ev_pos (by simp) ?_))))
  rcases readB_cases s with ⟨n, hn, hb, hr⟩ | ⟨_, hr⟩
  · rw [hr]
    refine ev_pos rfl ?_
    simp only [print_f hn, Option.bind_some]
    refine ev_eq (ev_now _) ?_
    rw [beq_iff_eq, toList_eq_iff, bytesOf_itoa, hb]
  · rw [hr]
    exact ev_neg (by simp) (ev_now _)

end Go.Proofs.YtngjfibaaoaphaaDoor.Pure
