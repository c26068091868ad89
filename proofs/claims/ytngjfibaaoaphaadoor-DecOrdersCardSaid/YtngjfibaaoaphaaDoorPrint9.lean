/- Printed by a program of this claim's session (xprint.py): the machine's side: each Go function as a Lean function, and that a call of it comes to what that tells; the row of a statement. No condition. -/
import Derived.Test.YtngjfibaaoaphaaDoorPrint0
import Derived.Test.YtngjfibaaoaphaaDoorPrint7
namespace Go.Proofs.YtngjfibaaoaphaaDoor.Print
open Go.RowKit Go.Proofs.YtngjfibaaoaphaaDoorW.PrintWords Go.Proofs.YtngjfibaaoaphaaDoorW.PrintLast Go.Proofs.YtngjfibaaoaphaaDoorW.PrintMore
attribute [local go_sem] max2_int min2_int max_two min_two max_three min_three max_four min_four   -- for this text's walks alone
set_option linter.unusedVariables false
set_option linter.unusedSimpArgs false

/-! ### cracknelref02_Unfixed: function 17 -/
def cracknelref02_Unfixed.f (k : Nat) (a0 : ByteArray) : Option (Int × Bool) := (cracknelref02_value.f k a0 18).bind fun bt157 => (some (wrap64 (bt157.1), bt157.2))
theorem cracknelref02_Unfixed.mono : ∀ a0 k, LeO (cracknelref02_Unfixed.f k a0) (cracknelref02_Unfixed.f (k + 1) a0) := by
  intro a0 k
  unfold cracknelref02_Unfixed.f
  repeat' first
      | (with_reducible exact cracknelref02_value.mono _ _ _)
      | (with_reducible exact LeO.refl _)
      | (with_reducible exact LeO.none _)
      | (with_reducible refine LeO.ite ?_ ?_)
      | (with_reducible refine LeO.bind ?_ (fun _ => ?_))
      | exact cracknelref02_value.mono _ _ _
      | exact LeO.none _
      | refine LeO.ite ?_ ?_
      | refine LeO.bind ?_ (fun _ => ?_)
set_option maxHeartbeats 8000000 in
set_option maxRecDepth 100000 in
theorem cracknelref02_Unfixed.calls (k : Nat) (a0 : ByteArray) (r1 : Int) (r2 : Bool) (w : World) (h : cracknelref02_Unfixed.f k a0 = some (r1, r2)) :
    Calls Tryd.prog 17 #[.string a0] w fun e w' => e = .returned (.tuple #[.int .i64 r1, .bool r2]) ∧ Drawn0 w w' := by
  have H : ((cracknelref02_value.f k a0 18).bind fun bt157 => (some (wrap64 (bt157.1), bt157.2))) = some (r1, r2) := h
  clear h
  replace H := Option.bind_eq_some_iff.mp H
  obtain ⟨⟨t157, t158⟩, A20, H⟩ := H
  replace H : (some (wrap64 (t157), t158)) = some (r1, r2) := H
  have A2 := Aside0.mk A20
  clear A20
  simp only [Option.some.injEq, Prod.mk.injEq] at H
  obtain ⟨rfl, rfl⟩ := H
  go_enter Tryd.func17, Tryd.ntmps17
  go_wp2_with (first | ((with_reducible refine gate_callee (f := 21) rfl ?_); refine goesL_ (some 8) rfl rfl Tryd.func21 (by kernel_rfl) rfl #[.string a0, .int .i64 18] rfl (by (try simp only [List.map_toArray, List.map_cons, List.map_nil]); first | done | rfl | (simp only [List.length_drop, List.length_take]; rfl) | ((try simp [Act.eval]) <;> (try simp only [xw_u64, xw_u32, xw_u8, wrap64, wrap32]) <;> omega)) ?_; (with_reducible refine (cracknelref02_value.calls k a0 18 t157 t158 _ A2.out).mono ?_); rintro e w' ⟨rfl, ⟨nd, rfl⟩⟩; refine ⟨_, rfl, ?_⟩))
  go_ret2
  exact ⟨by first | rfl | (simp; done) | (simp [*]; done), by repeat (first | exact Drawn0.refl _ | apply Drawn0.step)⟩

end Go.Proofs.YtngjfibaaoaphaaDoor.Print
