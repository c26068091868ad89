/- HostIps: which texts are addresses is the reference's; each is a host. -/
import Derived.Test.YtcblmcehbjlmfaaDoorPrint6
import Derived.Test.YtcblmcehbjlmfaaDoorYhostB
namespace Go.Proofs.YtcblmcehbjlmfaaDoor.Pure
open Go.RowKit Go.Proofs.YtcblmcehbjlmfaaDoor.Print Go.Proofs.YtcblmcehbjlmfaaDoorW.PrintWords Go.Proofs.YtcblmcehbjlmfaaDoorW.PrintLast Go.Proofs.YtcblmcehbjlmfaaDoorW.PrintMore Go.Proofs.YtcblmcehbjlmfaaDoor.Y

theorem byte_digits {p : ByteArray} (h : byteP p = true) : p.size ≤ 3 ∧ 1 ≤ p.size ∧ ∀ c ∈ bytesOf p, 48 ≤ c ∧ c ≤ 57 := by
  unfold byteP at h
  rw [Bool.and_eq_true, Bool.and_eq_true, decide_eq_true_iff, decide_eq_true_iff] at h
  obtain ⟨h1, h2, h3⟩ := h
  rcases readB_cases p with ⟨n, _, hb, hr⟩ | ⟨_, hr⟩
  · rw [hr] at h2 h3
    simp only at h2 h3
    have hd : bytesOf p = dd n.toNat := by rw [hb]; unfold itoaL; rw [if_neg (by omega)]
    have h10 : (10 : Nat) ^ (2 + 1) = 1000 := by decide
    have hl := (dd_len 2 n.toNat).mpr (by omega)
    have hp := dd_pos n.toNat
    rw [← hd, bytesOf_length] at hl hp
    exact ⟨hl, hp, fun c hc => dd_range n.toNat c (by rw [← hd]; exact hc)⟩
  · rw [hr] at h1; cases h1
theorem ip_host {s : ByteArray} (h : ipB s = true) : canonB s = (s, true) := by
  unfold ipB at h
  rw [Bool.and_eq_true, decide_eq_true_iff, List.all_eq_true] at h
  obtain ⟨h1, h2⟩ := h
  have hl : ∀ q ∈ splitL (bytesOf s), q.length ≤ 3 ∧ ∀ c ∈ q, 48 ≤ c ∧ c ≤ 57 := by
    intro q hq
    rw [← parts_bytes] at hq
    obtain ⟨p, hp, rfl⟩ := List.mem_map.mp hq
    obtain ⟨a, _, b⟩ := byte_digits (h1 p hp)
    exact ⟨by rw [bytesOf_length]; exact a, b⟩
  have hle : ∀ c ∈ bytesOf s, c ≤ 57 := splitL_le (by omega) fun p hp c hc => ((hl p hp).2 c hc).2
  have hs : lowB s = s := by
    apply bytesOf_inj
    rw [bytesOf_low]
    conv => rhs; rw [← List.map_id (bytesOf s)]
    refine List.map_congr_left fun c hc => ?_
    have := hle c hc
    unfold lowL
    rw [if_neg (by omega)]
    rfl
  have hn := splitL_sum (bytesOf s)
  have hm := sum_le (m := 3) fun p hp => (hl p hp).1
  have h4 : (splitL (bytesOf s)).length = 4 := by rw [← parts_bytes, List.length_map]; exact h2
  rw [bytesOf_length] at hn
  have hall : ∀ p ∈ parts s, okP p = true := by
    intro p hp
    obtain ⟨a, b, c⟩ := byte_digits (h1 p hp)
    have hbt : ∀ i : Nat, i < p.size → bt p i ≠ 45 := by
      intro i hi e
      rcases drop_cases p (i := i) (by omega) with ⟨h3, _⟩ | ⟨h3, h4⟩
      · omega
      · have := c (bt p i) (List.mem_of_mem_drop (by rw [h4]; exact List.mem_cons_self ..))
        omega
    unfold okP
    have e0 := hbt 0 (by omega)
    have e1 := hbt (p.size - 1) (by omega)
    rw [show ((p.size - 1 : Nat) : Int) = (p.size : Int) - 1 by omega] at e1
    rw [decide_eq_true b, decide_eq_true (show p.size ≤ 63 by omega), decide_eq_false (show ¬ bt p 0 = 45 from e0), decide_eq_false e1]
    simp only [Bool.not_false, Bool.true_and, List.all_eq_true]
    intro x hx
    unfold okb
    simp [c x hx]
  unfold canonB
  rw [hs, if_pos ⟨by omega, List.all_eq_true.mpr hall⟩]
theorem HostIps : cracknellaw11_HostIps.Pure := by
  intro s hs
  apply Ev.rounds
  simp only [cracknellaw11_HostIps.f]
  by_cases h : (s.size : Int) > 200
  · exact ev_pos h (ev_bind alive11_ev (ev_now _))
  · refine ev_neg h (ev_bind (ip_ev (by omega)) (ev_bind (canon_ev s) (ev_bind alive11_ev (ev_pos rfl (ev_bind (ref_ip_ev (by omega)) (ev_pos (by simp) ?_))))))
    by_cases hi : ipB s = true
    · rw [ip_host hi]
      exact ev_pos hi (ev_pos rfl (ev_eq (ev_now _) (by simp)))
    · exact ev_neg hi (ev_now _)

end Go.Proofs.YtcblmcehbjlmfaaDoor.Pure
