/- DecOrders: two 64-bit numbers have one text just if they are the same; in as many digits the lesser one has the lesser text. -/
import Derived.Test.YtngjfibaaoaphaaDoorPrint5
import Derived.Test.YtngjfibaaoaphaaDoorYdecB
namespace Go.Proofs.YtngjfibaaoaphaaDoor.Pure
open Go.RowKit Go.Proofs.YtngjfibaaoaphaaDoor.Print Go.Proofs.YtngjfibaaoaphaaDoorW.PrintWords Go.Proofs.YtngjfibaaoaphaaDoorW.PrintLast Go.Proofs.YtngjfibaaoaphaaDoorW.PrintMore Go.Proofs.YtngjfibaaoaphaaDoor.Y

theorem DecOrders : cracknellaw02_DecOrders.Pure := by
  intro a b w ha hb hw
  have h : InI a := wf_i64 ha
  have h' : InI b := wf_i64 hb
  apply Ev.rounds
  simp only [cracknellaw02_DecOrders.f]
  refine ev_bind (fixed_ev h) (ev_bind (fixed_ev h') ?_)
  simp only [print_f h, print_f h', Option.bind_some]
  have hp : ((itoaB a).toList == (itoaB b).toList) = (a == b) := by
    rw [Bool.eq_iff_iff, beq_iff_eq, beq_iff_eq, toList_eq_iff, bytesOf_itoa, bytesOf_itoa]
    exact ⟨itoaL_inj, fun e => by rw [e]⟩
  rw [hp]
  refine ev_neg (by simp) (ev_bind alive02_ev (ev_pos rfl ?_))
  by_cases hk : fixOk a w
  · by_cases hk' : fixOk b w
    · refine ev_neg (fun e => fix_nil.mp e hk) (ev_neg (fun e => fix_nil.mp e hk') ?_)
      have hl : Op.bytesLess (fixB a w).toList (fixB b w).toList = decide (a < b) := by
        rw [less_bytes, bytesOf_fix hk, bytesOf_fix hk', lexL_fixD _ _ _ hk.2.2.2 hk'.2.2.2, Bool.eq_iff_iff, decide_eq_true_iff, decide_eq_true_iff]
        have := hk.2.2.1
        have := hk'.2.2.1
        omega
      have he : ((fixB a w).toList == (fixB b w).toList) = (a == b) := by
        rw [Bool.eq_iff_iff, beq_iff_eq, beq_iff_eq, toList_eq_iff, bytesOf_fix hk, bytesOf_fix hk']
        constructor
        · intro e
          have := fixD_inj hk.2.2.2 hk'.2.2.2 e
          have := hk.2.2.1
          have := hk'.2.2.1
          omega
        · intro e; rw [e]
      rw [hl, he]
      exact ev_pos (by simp) (ev_eq (ev_now _) (by simp))
    · rw [fix_no hk']
      exact ev_neg (fun e => fix_nil.mp e hk) (ev_pos toList_nil (ev_now _))
  · rw [fix_no hk]
    exact ev_pos toList_nil (ev_now _)

end Go.Proofs.YtngjfibaaoaphaaDoor.Pure
