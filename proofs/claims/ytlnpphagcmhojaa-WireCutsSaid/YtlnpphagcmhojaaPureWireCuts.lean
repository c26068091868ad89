/- WireCuts: of a beginning of a number's bytes, or of a text's, nothing is taken: it is told as short. -/
import Derived.Test.YtlnpphagcmhojaaPrint4
import Derived.Test.YtlnpphagcmhojaaYwireB
namespace Go.Proofs.Ytlnpphagcmhojaa.Pure
open Go.RowKit Go.Proofs.Ytlnpphagcmhojaa.Print Go.Proofs.YtlnpphagcmhojaaW.PrintWords Go.Proofs.YtlnpphagcmhojaaW.PrintLast Go.Proofs.YtlnpphagcmhojaaW.PrintMore Go.Proofs.Ytlnpphagcmhojaa.Y

theorem WireCuts : cracknellaw03_WireCuts.Pure := by
  intro n t cut hn ht hc
  obtain ⟨n0, n1⟩ := wf_u64 hn
  obtain ⟨c0, c1⟩ := wf_i64 hc
  obtain ⟨n, rfl⟩ := Int.eq_ofNat_of_zero_le n0
  have h10 := dig_len10 (n := n) (by omega)
  have ht10 := dig_len10 (n := t.size) (by omega)
  apply Ev.rounds
  simp only [cracknellaw03_WireCuts.f]
  refine ev_bind (put_ev (by omega)) (ev_bind (putText_ev ht) ?_)
  by_cases hneg : cut < 0
  · exact ev_pos hneg (ev_bind alive03_ev (ev_now _))
  · refine ev_neg hneg ?_
    have hj : Ev (fun k => cracknellaw03_WireCuts.j0 k t cut (putT t)) true := by
      apply ev_succ
      simp only [cracknellaw03_WireCuts.j0]
      by_cases hlt : cut < ((putT t).size : Int)
      · refine ev_pos hlt (ev_pos (by omega) (ev_pos (by omega) ?_))
        rw [putT_size] at hlt
        have hsz : ((putT t).extract 0 cut.toNat).size = cut.toNat := by rw [ByteArray.size_extract, putT_size]; omega
        have hb : bytesOf ((putT t).extract 0 cut.toNat) = (dig t.size ++ bytesOf t).take cut.toNat := by rw [bytesOf_extract, bytesOf_putT, Nat.sub_zero, List.drop_zero]
        refine ev_bind (takeText_ev (by omega) (by omega)) ?_
        have hv : tkT ((putT t).extract 0 cut.toNat) t.size = (⟨#[]⟩, 0, 30) := by
          rcases Nat.lt_or_ge cut.toNat (dig t.size).length with h | h
          · have : tk ((putT t).extract 0 cut.toNat) = (0, 0, 30) := by
              rw [tk, hb, List.take_append_of_le_length (by omega)]
              exact scan_cut t.size 0 cut.toNat 0 h (by omega)
            unfold tkT
            rw [this]
            simp
          · have : tk ((putT t).extract 0 cut.toNat) = ((t.size : Int), ((dig t.size).length : Int), 0) := by
              apply tk_put (by omega) (rest := (bytesOf t).take (cut.toNat - (dig t.size).length))
              rw [hb, List.take_append, List.take_of_length_le h]
            unfold tkT
            rw [this]
            simp only [if_true]
            rw [if_neg (by unfold mx; split <;> omega), if_pos (by omega)]
        rw [hv]
        exact ev_pos toList_nil (ev_pos rfl (ev_pos rfl (ev_bind alive03_ev (ev_now _))))
      · exact ev_neg hlt (ev_bind alive03_ev (ev_now _))
    by_cases hlt : cut < ((put n).size : Int)
    · refine ev_pos hlt (ev_pos (by omega) (ev_pos (by omega) ?_))
      rw [put_size] at hlt
      have hsz : ((put n).extract 0 cut.toNat).size = cut.toNat := by rw [ByteArray.size_extract, put_size]; omega
      refine ev_bind (take_ev (by omega)) ?_
      have hv : tk ((put n).extract 0 cut.toNat) = (0, 0, 30) := by
        rw [tk, bytesOf_extract, bytesOf_put, Nat.sub_zero, List.drop_zero]
        exact scan_cut n 0 cut.toNat 0 (by omega) (by omega)
      rw [hv]
      exact ev_pos rfl (ev_pos rfl (ev_pos rfl hj))
    · exact ev_neg hlt hj

end Go.Proofs.Ytlnpphagcmhojaa.Pure
