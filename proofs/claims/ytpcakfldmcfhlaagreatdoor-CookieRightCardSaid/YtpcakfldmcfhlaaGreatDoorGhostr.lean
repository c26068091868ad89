/- The reference's Lower (layer 1), walked by hand. -/
import Derived.Test.YtpcakfldmcfhlaaGreatDoorGhost
namespace Go.Proofs.YtpcakfldmcfhlaaGreatDoor.Print
open Go.RowKit Go.Proofs.YtpcakfldmcfhlaaGreatDoorW.PrintWords Go.Proofs.YtpcakfldmcfhlaaGreatDoorW.PrintLast Go.Proofs.YtpcakfldmcfhlaaGreatDoorW.PrintMore
set_option linter.unusedVariables false
set_option linter.unusedSimpArgs false
def cracknelref01_Lower.f (a0 : ByteArray) : Option ByteArray := if a0.size ≤ 9223372036854775806 then some (lowB a0) else none
set_option maxHeartbeats 4000000 in
set_option maxRecDepth 100000 in
theorem cracknelref01_Lower.calls (a0 : ByteArray) (r : ByteArray) (w : World) (h : cracknelref01_Lower.f a0 = some r) :
    Calls Tryz.prog 42 #[.string a0] w fun e w' => e = .returned (.string r) ∧ Below w.heap.size w w' := by
  unfold cracknelref01_Lower.f at h
  by_cases hs : a0.size ≤ 9223372036854775806
  · rw [if_pos hs] at h
    obtain rfl := Option.some.inj h
    clear h
    obtain ⟨wB, g, cap, hconv, HR⟩ : ∃ wB g cap, (convert 9 63 (.string a0)).run Tryz.prog w = .ok (.slice (some ⟨g, 0, none⟩) a0.size cap) wB ∧ Aside0 (RowAt w wB g a0.size (fun j => (bytesOf a0).getD j 0)) :=
      ⟨_, _, _, Lib.run_convert_string_bytes w _ _ _ a0 Tryz.underlying9 Tryz.underlying63 Tryz.underlying5, ⟨row_made w _ a0⟩⟩
    go_enter Tryz.func42, Tryz.ntmps42
    go_wp2
    go_loopw [4] (fun v4 wr => ∃ k : Nat, k ≤ a0.size ∧ v4 = .int .i64 k ∧ Aside0 (RowAt w wr g a0.size (fun j => if j < k then lowL ((bytesOf a0).getD j 0) else (bytesOf a0).getD j 0))) (fun v4 _ => a0.size - (intOf v4).toNat)
    case atStart => exact ⟨0, Nat.zero_le _, rfl, ⟨HR.out.congr fun j _ => by simp⟩⟩
    case round =>
      obtain ⟨k, hk, rfl, HK⟩ := hrel
      by_cases hlt : k < a0.size
      · obtain ⟨c, hc⟩ : ∃ c : Int, c = (bytesOf a0).getD k 0 := ⟨_, rfl⟩
        have hcell : wr.cell? ⟨g, k, none⟩ = some (.int .u8 c) := by rw [HK.out.cell k hlt, if_neg (Nat.lt_irrefl _), hc]
        have hfr := HK.out.frz k hlt
        have HC := Aside0.mk hc
        clear hc
        by_cases h0 : 65 ≤ c
        · by_cases h1 : c ≤ 90
          · go_wp2
            go_roundw
            case rel => exact ⟨k + 1, by omega, by go_num, ⟨low_step HK.out hlt HC.out (by assumption) (by assumption) (by omega)⟩⟩
            case measure => simp [intOf]; omega
          · go_wp2
            go_roundw
            case rel => exact ⟨k + 1, by omega, by go_num, ⟨low_stay HK.out hlt HC.out (by omega)⟩⟩
            case measure => simp [intOf]; omega
        · go_wp2
          go_roundw
          case rel => exact ⟨k + 1, by omega, by go_num, ⟨low_stay HK.out hlt HC.out (by omega)⟩⟩
          case measure => simp [intOf]; omega
      · have hback := low_back (cap := cap) hs HK.out (by omega)
        go_wp2
        go_ret
        exact ⟨rfl, HK.out.below⟩
  · rw [if_neg hs] at h; exact absurd h (by simp)

end Go.Proofs.YtpcakfldmcfhlaaGreatDoor.Print
