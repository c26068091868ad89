/- HostCanon: any text as a host, or that it is none, is the reference's; a host is its own, and its great letters are of no account. -/
import Derived.Test.YtcblmcehbjlmfaaDoorPrint4
import Derived.Test.YtcblmcehbjlmfaaDoorYhostB
namespace Go.Proofs.YtcblmcehbjlmfaaDoor.Pure
open Go.RowKit Go.Proofs.YtcblmcehbjlmfaaDoor.Print Go.Proofs.YtcblmcehbjlmfaaDoorW.PrintWords Go.Proofs.YtcblmcehbjlmfaaDoorW.PrintLast Go.Proofs.YtcblmcehbjlmfaaDoorW.PrintMore Go.Proofs.YtcblmcehbjlmfaaDoor.Y

theorem HostCanon : cracknellaw11_HostCanon.Pure := by
  intro s hs
  apply Ev.rounds
  simp only [cracknellaw11_HostCanon.f]
  refine ev_bind (canon_ev s) (ev_bind (ref_canon_ev hs) (ev_bind (canon_ev _) ?_))
  rw [ref_low_f (by omega)]
  refine ev_bind (ev_now _) (ev_bind (canon_ev _) (ev_bind alive11_ev (ev_pos rfl (ev_pos rfl (ev_pos (by simp) ?_)))))
  rw [canon_low]
  by_cases h : (canonB s).2 = true
  · have hc : canonB s = ((canonB s).1, true) := by rw [← h]
    obtain ⟨h1, h2, h3⟩ := canon_yes hc
    have hv : canonB (canonB s).1 = canonB s := by rw [h1, canon_low]
    rw [hv]
    refine ev_pos h (ev_pos h (ev_pos rfl (ev_pos ?_ (ev_pos rfl (ev_eq (ev_now _) (by simp))))))
    rw [h1, low_size]
    omega
  · exact ev_neg h (ev_pos rfl (ev_eq (ev_now _) (by simp)))

end Go.Proofs.YtcblmcehbjlmfaaDoor.Pure
