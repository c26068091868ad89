/- ProjCookies: what any format keeps of any cookie is the document's. -/
import Derived.Test.YtccmackhhppbdaaDoorPrint17
import Derived.Test.YtccmackhhppbdaaDoorYproj
import Derived.Test.YtccmackhhppbdaaDoorYprojR
namespace Go.Proofs.YtccmackhhppbdaaDoor.Pure
open Go.RowKit Go.Proofs.YtccmackhhppbdaaDoor.Print Go.Proofs.YtccmackhhppbdaaDoorW.PrintWords Go.Proofs.YtccmackhhppbdaaDoorW.PrintLast Go.Proofs.YtccmackhhppbdaaDoorW.PrintMore Go.Proofs.YtccmackhhppbdaaDoor.Y

theorem ProjCookies : cracknellaw18_ProjCookies.Pure := by
  intro f now d p n v c4 c5 c6 b7 b8 b9 ss _ _ _ _ _ _ _ _ _ _
  apply Ev.rounds
  simp only [cracknellaw18_ProjCookies.f]
  exact ev_bind keep_ev (ev_bind ref_keep_ev (ev_bind alive18_ev (ev_pos rfl (ev_pos (by simp) (ev_eq (ev_now _) (by simp))))))

end Go.Proofs.YtccmackhhppbdaaDoor.Pure
