/- Printed by a program of this claim's session (xprint.py): the machine's side: each Go function as a Lean function, and that a call of it comes to what that tells; the row of a statement. No condition. -/
import Derived.Test.YtpcakfldmcfhlaaDoorPrint0
import Derived.Test.YtpcakfldmcfhlaaDoorPrint7
namespace Go.Proofs.YtpcakfldmcfhlaaDoor.Print
open Go.RowKit Go.Proofs.YtpcakfldmcfhlaaDoorW.PrintWords Go.Proofs.YtpcakfldmcfhlaaDoorW.PrintLast Go.Proofs.YtpcakfldmcfhlaaDoorW.PrintMore
attribute [local go_sem] max2_int min2_int max_two min_two max_three min_three max_four min_four   -- for this text's walks alone
set_option linter.unusedVariables false
set_option linter.unusedSimpArgs false

/-! ### cracknelref13_Cmp: function 15 -/
def cracknelref13_Cmp.l0 : Nat → List Int → Int → Option (Int)
  | 0, _, _ => none
  | k + 1, x5, x6 => if x6 < (x5.length : Int) then (if 0 ≤ x6 then (if (rd x5 x6) = 0 then (cracknelref13_Cmp.l0 k x5 (wrap64 (x6 + 1))) else (some (rd x5 x6))) else (none)) else (some 0)
def cracknelref13_Cmp.f (k : Nat) (a0_0 : ByteArray) (a0_1 : ByteArray) (a0_2 : ByteArray) (a0_3 : ByteArray) (a0_4 : Int) (a0_5 : Int) (a0_6 : Int) (a0_7 : Bool) (a0_8 : Bool) (a0_9 : Bool) (a0_10 : Int) (a1_0 : ByteArray) (a1_1 : ByteArray) (a1_2 : ByteArray) (a1_3 : ByteArray) (a1_4 : Int) (a1_5 : Int) (a1_6 : Int) (a1_7 : Bool) (a1_8 : Bool) (a1_9 : Bool) (a1_10 : Int) : Option (Int) := (cracknelref13_Of.f a0_0 a0_1 a0_2 a0_3 a0_4 a0_5 a0_6 a0_7 a0_8 a0_9 a0_10).bind fun bt223 => ((cracknelref13_Of.f a1_0 a1_1 a1_2 a1_3 a1_4 a1_5 a1_6 a1_7 a1_8 a1_9 a1_10).bind fun bt226 => ((cracknelref13_Keys.f k bt223.1 bt223.2.1 bt223.2.2 bt226.1 bt226.2.1 bt226.2.2).bind fun t229 => ((cracknelref13_number.f a0_4 a1_4).bind fun t230 => ((cracknelref13_number.f a0_5 a1_5).bind fun t231 => ((cracknelref13_Text.f k a0_3 a1_3).bind fun t232 => ((cracknelref13_number.f a0_6 a1_6).bind fun t233 => ((cracknelref13_bit.f a0_7).bind fun t234 => ((cracknelref13_bit.f a1_7).bind fun t235 => ((cracknelref13_number.f t234 t235).bind fun t236 => ((cracknelref13_bit.f a0_8).bind fun t237 => ((cracknelref13_bit.f a1_8).bind fun t238 => ((cracknelref13_number.f t237 t238).bind fun t239 => ((cracknelref13_bit.f a0_9).bind fun t240 => ((cracknelref13_bit.f a1_9).bind fun t241 => ((cracknelref13_number.f t240 t241).bind fun t242 => ((cracknelref13_number.f a0_10 a1_10).bind fun t243 => (cracknelref13_Cmp.l0 k (([t229, t230, t231, t232, t233, t236, t239, t242, t243] : List Int)) 0)))))))))))))))))
theorem cracknelref13_Cmp.mono_l : ∀ k, (∀ y0 y1, LeO (cracknelref13_Cmp.l0 k y0 y1) (cracknelref13_Cmp.l0 (k + 1) y0 y1))
  | 0 => fun _ _ r h => by simp [cracknelref13_Cmp.l0] at h
  | k + 1 => by
    have ih0 := cracknelref13_Cmp.mono_l k
    · intro y0 y1
      unfold cracknelref13_Cmp.l0
      repeat' first
      | (with_reducible exact ih0 _ _)
      | (with_reducible exact cracknelref13_Keys.mono _ _ _ _ _ _ _)
      | (with_reducible exact cracknelref13_Text.mono _ _ _)
      | (with_reducible exact LeO.refl _)
      | (with_reducible exact LeO.none _)
      | (with_reducible refine LeO.ite ?_ ?_)
      | (with_reducible refine LeO.bind ?_ (fun _ => ?_))
      | exact ih0 _ _
      | exact cracknelref13_Keys.mono _ _ _ _ _ _ _
      | exact cracknelref13_Text.mono _ _ _
      | exact LeO.none _
      | refine LeO.ite ?_ ?_
      | refine LeO.bind ?_ (fun _ => ?_)
theorem cracknelref13_Cmp.mono : ∀ a0 a1 a2 a3 a4 a5 a6 a7 a8 a9 a10 a11 a12 a13 a14 a15 a16 a17 a18 a19 a20 a21 k, LeO (cracknelref13_Cmp.f k a0 a1 a2 a3 a4 a5 a6 a7 a8 a9 a10 a11 a12 a13 a14 a15 a16 a17 a18 a19 a20 a21) (cracknelref13_Cmp.f (k + 1) a0 a1 a2 a3 a4 a5 a6 a7 a8 a9 a10 a11 a12 a13 a14 a15 a16 a17 a18 a19 a20 a21) := by
  intro a0 a1 a2 a3 a4 a5 a6 a7 a8 a9 a10 a11 a12 a13 a14 a15 a16 a17 a18 a19 a20 a21 k
  have ih0 := cracknelref13_Cmp.mono_l k
  unfold cracknelref13_Cmp.f
  repeat' first
      | (with_reducible exact ih0 _ _)
      | (with_reducible exact cracknelref13_Keys.mono _ _ _ _ _ _ _)
      | (with_reducible exact cracknelref13_Text.mono _ _ _)
      | (with_reducible exact LeO.refl _)
      | (with_reducible exact LeO.none _)
      | (with_reducible refine LeO.ite ?_ ?_)
      | (with_reducible refine LeO.bind ?_ (fun _ => ?_))
      | exact ih0 _ _
      | exact cracknelref13_Keys.mono _ _ _ _ _ _ _
      | exact cracknelref13_Text.mono _ _ _
      | exact LeO.none _
      | refine LeO.ite ?_ ?_
      | refine LeO.bind ?_ (fun _ => ?_)
def cracknelref13_Cmp.T1 : Bool × List (List Nat × List Nat) := (true, [([], []), ([0], [0]), ([], []), ([2, 1], [2]), ([1, 3, 3], [1, 3]), ([], []), ([5], [5]), ([], []), ([7], [7]), ([6, 8, 4], [6, 8]), ([], []), ([10], [10]), ([], []), ([12], [12]), ([11, 13, 9], [11, 13]), ([], []), ([15], [15]), ([], []), ([17], [17]), ([16, 18, 14], [16, 18]), ([], []), ([20], [20]), ([], []), ([22], [22]), ([21, 23, 19], [21, 23]), ([], []), ([25], [25]), ([26, 24], [26]), ([], []), ([28], [28]), ([29, 27], [29]), ([27, 30, 30], [27, 30]), ([], []), ([32], [32]), ([33, 31], [33]), ([], []), ([35], [35]), ([36, 34], [36]), ([34, 37, 37], [34, 37]), ([], []), ([39], [39]), ([40, 38], [40]), ([], []), ([42], [42]), ([43, 41], [43]), ([41, 44, 44], [41, 44]), ([], []), ([46], [46]), ([], []), ([48], [48]), ([47, 49, 45], [47, 49]), ([4, 9, 14, 19, 24, 31, 38, 45, 50], [4, 9, 14, 19, 24, 31, 38, 45, 50]), ([51, 50, 0, 1, 2, 3, 4, 5, 6, 7, 8, 9, 10, 11, 12, 13, 14, 15, 16, 17, 18, 19, 20, 21, 22, 23, 24, 25, 26, 27, 28, 29, 30, 31, 32, 33, 34, 35, 36, 37, 38, 39, 40, 41, 42, 43, 44, 45, 46, 47, 48, 49, 50, 51], [51])])
def cracknelref13_Cmp.B1 : List Nat := [0, 1, 0, 7, 15, 0, 32, 0, 128, 511, 0, 1024, 0, 4096, 16383, 0, 32768, 0, 131072, 524287, 0, 1048576, 0, 4194304, 16777215, 0, 33554432, 134217727, 0, 268435456, 1073741823, 2147483647, 0, 4294967296, 17179869183, 0, 34359738368, 137438953471, 274877906943, 0, 549755813888, 2199023255551, 0, 4398046511104, 17592186044415, 35184372088831, 0, 70368744177664, 0, 281474976710656, 1125899906842623, 2251799813685247, 4503599627370495]
theorem cracknelref13_Cmp.tab1 : rtab .any (opsOf Tryd.f15 1) = cracknelref13_Cmp.T1 := by kernel_rfl
theorem cracknelref13_Cmp.bits1 : waitsOk cracknelref13_Cmp.T1.2 cracknelref13_Cmp.B1 = true := by kernel_rfl
set_option maxHeartbeats 8000000 in
set_option maxRecDepth 100000 in
theorem cracknelref13_Cmp.calls (k : Nat) (a0_0 : ByteArray) (a0_1 : ByteArray) (a0_2 : ByteArray) (a0_3 : ByteArray) (a0_4 : Int) (a0_5 : Int) (a0_6 : Int) (a0_7 : Bool) (a0_8 : Bool) (a0_9 : Bool) (a0_10 : Int) (a1_0 : ByteArray) (a1_1 : ByteArray) (a1_2 : ByteArray) (a1_3 : ByteArray) (a1_4 : Int) (a1_5 : Int) (a1_6 : Int) (a1_7 : Bool) (a1_8 : Bool) (a1_9 : Bool) (a1_10 : Int) (r : Int) (w : World) (h : cracknelref13_Cmp.f k a0_0 a0_1 a0_2 a0_3 a0_4 a0_5 a0_6 a0_7 a0_8 a0_9 a0_10 a1_0 a1_1 a1_2 a1_3 a1_4 a1_5 a1_6 a1_7 a1_8 a1_9 a1_10 = some r) :
    Calls Tryd.prog 15 #[.agg #[.string a0_0, .string a0_1, .string a0_2, .string a0_3, .int .i64 a0_4, .int .i64 a0_5, .int .i64 a0_6, .bool a0_7, .bool a0_8, .bool a0_9, .int .i64 a0_10], .agg #[.string a1_0, .string a1_1, .string a1_2, .string a1_3, .int .i64 a1_4, .int .i64 a1_5, .int .i64 a1_6, .bool a1_7, .bool a1_8, .bool a1_9, .int .i64 a1_10]] w fun e w' => e = .returned (.int .i64 r) ∧ Below w.heap.size w w' := by
  have hu23 := Tryd.underlying23
  have HB := Aside0.mk (Below.refl w.heap.size w)
  have H : ((cracknelref13_Of.f a0_0 a0_1 a0_2 a0_3 a0_4 a0_5 a0_6 a0_7 a0_8 a0_9 a0_10).bind fun bt223 => ((cracknelref13_Of.f a1_0 a1_1 a1_2 a1_3 a1_4 a1_5 a1_6 a1_7 a1_8 a1_9 a1_10).bind fun bt226 => ((cracknelref13_Keys.f k bt223.1 bt223.2.1 bt223.2.2 bt226.1 bt226.2.1 bt226.2.2).bind fun t229 => ((cracknelref13_number.f a0_4 a1_4).bind fun t230 => ((cracknelref13_number.f a0_5 a1_5).bind fun t231 => ((cracknelref13_Text.f k a0_3 a1_3).bind fun t232 => ((cracknelref13_number.f a0_6 a1_6).bind fun t233 => ((cracknelref13_bit.f a0_7).bind fun t234 => ((cracknelref13_bit.f a1_7).bind fun t235 => ((cracknelref13_number.f t234 t235).bind fun t236 => ((cracknelref13_bit.f a0_8).bind fun t237 => ((cracknelref13_bit.f a1_8).bind fun t238 => ((cracknelref13_number.f t237 t238).bind fun t239 => ((cracknelref13_bit.f a0_9).bind fun t240 => ((cracknelref13_bit.f a1_9).bind fun t241 => ((cracknelref13_number.f t240 t241).bind fun t242 => ((cracknelref13_number.f a0_10 a1_10).bind fun t243 => (cracknelref13_Cmp.l0 k (([t229, t230, t231, t232, t233, t236, t239, t242, t243] : List Int)) 0)))))))))))))))))) = some r := h
  clear h
  replace H := Option.bind_eq_some_iff.mp H
  obtain ⟨⟨t223, t224, t225⟩, A30, H⟩ := H
  replace H : ((cracknelref13_Of.f a1_0 a1_1 a1_2 a1_3 a1_4 a1_5 a1_6 a1_7 a1_8 a1_9 a1_10).bind fun bt226 => ((cracknelref13_Keys.f k t223 t224 t225 bt226.1 bt226.2.1 bt226.2.2).bind fun t229 => ((cracknelref13_number.f a0_4 a1_4).bind fun t230 => ((cracknelref13_number.f a0_5 a1_5).bind fun t231 => ((cracknelref13_Text.f k a0_3 a1_3).bind fun t232 => ((cracknelref13_number.f a0_6 a1_6).bind fun t233 => ((cracknelref13_bit.f a0_7).bind fun t234 => ((cracknelref13_bit.f a1_7).bind fun t235 => ((cracknelref13_number.f t234 t235).bind fun t236 => ((cracknelref13_bit.f a0_8).bind fun t237 => ((cracknelref13_bit.f a1_8).bind fun t238 => ((cracknelref13_number.f t237 t238).bind fun t239 => ((cracknelref13_bit.f a0_9).bind fun t240 => ((cracknelref13_bit.f a1_9).bind fun t241 => ((cracknelref13_number.f t240 t241).bind fun t242 => ((cracknelref13_number.f a0_10 a1_10).bind fun t243 => (cracknelref13_Cmp.l0 k (([t229, t230, t231, t232, t233, t236, t239, t242, t243] : List Int)) 0))))))))))))))))) = some r := H
  have A3 := Aside0.mk A30
  clear A30
  replace H := Option.bind_eq_some_iff.mp H
  obtain ⟨⟨t226, t227, t228⟩, A40, H⟩ := H
  replace H : ((cracknelref13_Keys.f k t223 t224 t225 t226 t227 t228).bind fun t229 => ((cracknelref13_number.f a0_4 a1_4).bind fun t230 => ((cracknelref13_number.f a0_5 a1_5).bind fun t231 => ((cracknelref13_Text.f k a0_3 a1_3).bind fun t232 => ((cracknelref13_number.f a0_6 a1_6).bind fun t233 => ((cracknelref13_bit.f a0_7).bind fun t234 => ((cracknelref13_bit.f a1_7).bind fun t235 => ((cracknelref13_number.f t234 t235).bind fun t236 => ((cracknelref13_bit.f a0_8).bind fun t237 => ((cracknelref13_bit.f a1_8).bind fun t238 => ((cracknelref13_number.f t237 t238).bind fun t239 => ((cracknelref13_bit.f a0_9).bind fun t240 => ((cracknelref13_bit.f a1_9).bind fun t241 => ((cracknelref13_number.f t240 t241).bind fun t242 => ((cracknelref13_number.f a0_10 a1_10).bind fun t243 => (cracknelref13_Cmp.l0 k (([t229, t230, t231, t232, t233, t236, t239, t242, t243] : List Int)) 0)))))))))))))))) = some r := H
  have A4 := Aside0.mk A40
  clear A40
  replace H := Option.bind_eq_some_iff.mp H
  obtain ⟨t229, A50, H⟩ := H
  replace H : ((cracknelref13_number.f a0_4 a1_4).bind fun t230 => ((cracknelref13_number.f a0_5 a1_5).bind fun t231 => ((cracknelref13_Text.f k a0_3 a1_3).bind fun t232 => ((cracknelref13_number.f a0_6 a1_6).bind fun t233 => ((cracknelref13_bit.f a0_7).bind fun t234 => ((cracknelref13_bit.f a1_7).bind fun t235 => ((cracknelref13_number.f t234 t235).bind fun t236 => ((cracknelref13_bit.f a0_8).bind fun t237 => ((cracknelref13_bit.f a1_8).bind fun t238 => ((cracknelref13_number.f t237 t238).bind fun t239 => ((cracknelref13_bit.f a0_9).bind fun t240 => ((cracknelref13_bit.f a1_9).bind fun t241 => ((cracknelref13_number.f t240 t241).bind fun t242 => ((cracknelref13_number.f a0_10 a1_10).bind fun t243 => (cracknelref13_Cmp.l0 k (([t229, t230, t231, t232, t233, t236, t239, t242, t243] : List Int)) 0))))))))))))))) = some r := H
  have A5 := Aside0.mk A50
  clear A50
  replace H := Option.bind_eq_some_iff.mp H
  obtain ⟨t230, A60, H⟩ := H
  replace H : ((cracknelref13_number.f a0_5 a1_5).bind fun t231 => ((cracknelref13_Text.f k a0_3 a1_3).bind fun t232 => ((cracknelref13_number.f a0_6 a1_6).bind fun t233 => ((cracknelref13_bit.f a0_7).bind fun t234 => ((cracknelref13_bit.f a1_7).bind fun t235 => ((cracknelref13_number.f t234 t235).bind fun t236 => ((cracknelref13_bit.f a0_8).bind fun t237 => ((cracknelref13_bit.f a1_8).bind fun t238 => ((cracknelref13_number.f t237 t238).bind fun t239 => ((cracknelref13_bit.f a0_9).bind fun t240 => ((cracknelref13_bit.f a1_9).bind fun t241 => ((cracknelref13_number.f t240 t241).bind fun t242 => ((cracknelref13_number.f a0_10 a1_10).bind fun t243 => (cracknelref13_Cmp.l0 k (([t229, t230, t231, t232, t233, t236, t239, t242, t243] : List Int)) 0)))))))))))))) = some r := H
  have A6 := Aside0.mk A60
  clear A60
  replace H := Option.bind_eq_some_iff.mp H
  obtain ⟨t231, A70, H⟩ := H
  replace H : ((cracknelref13_Text.f k a0_3 a1_3).bind fun t232 => ((cracknelref13_number.f a0_6 a1_6).bind fun t233 => ((cracknelref13_bit.f a0_7).bind fun t234 => ((cracknelref13_bit.f a1_7).bind fun t235 => ((cracknelref13_number.f t234 t235).bind fun t236 => ((cracknelref13_bit.f a0_8).bind fun t237 => ((cracknelref13_bit.f a1_8).bind fun t238 => ((cracknelref13_number.f t237 t238).bind fun t239 => ((cracknelref13_bit.f a0_9).bind fun t240 => ((cracknelref13_bit.f a1_9).bind fun t241 => ((cracknelref13_number.f t240 t241).bind fun t242 => ((cracknelref13_number.f a0_10 a1_10).bind fun t243 => (cracknelref13_Cmp.l0 k (([t229, t230, t231, t232, t233, t236, t239, t242, t243] : List Int)) 0))))))))))))) = some r := H
  have A7 := Aside0.mk A70
  clear A70
  replace H := Option.bind_eq_some_iff.mp H
  obtain ⟨t232, A80, H⟩ := H
  replace H : ((cracknelref13_number.f a0_6 a1_6).bind fun t233 => ((cracknelref13_bit.f a0_7).bind fun t234 => ((cracknelref13_bit.f a1_7).bind fun t235 => ((cracknelref13_number.f t234 t235).bind fun t236 => ((cracknelref13_bit.f a0_8).bind fun t237 => ((cracknelref13_bit.f a1_8).bind fun t238 => ((cracknelref13_number.f t237 t238).bind fun t239 => ((cracknelref13_bit.f a0_9).bind fun t240 => ((cracknelref13_bit.f a1_9).bind fun t241 => ((cracknelref13_number.f t240 t241).bind fun t242 => ((cracknelref13_number.f a0_10 a1_10).bind fun t243 => (cracknelref13_Cmp.l0 k (([t229, t230, t231, t232, t233, t236, t239, t242, t243] : List Int)) 0)))))))))))) = some r := H
  have A8 := Aside0.mk A80
  clear A80
  replace H := Option.bind_eq_some_iff.mp H
  obtain ⟨t233, A90, H⟩ := H
  replace H : ((cracknelref13_bit.f a0_7).bind fun t234 => ((cracknelref13_bit.f a1_7).bind fun t235 => ((cracknelref13_number.f t234 t235).bind fun t236 => ((cracknelref13_bit.f a0_8).bind fun t237 => ((cracknelref13_bit.f a1_8).bind fun t238 => ((cracknelref13_number.f t237 t238).bind fun t239 => ((cracknelref13_bit.f a0_9).bind fun t240 => ((cracknelref13_bit.f a1_9).bind fun t241 => ((cracknelref13_number.f t240 t241).bind fun t242 => ((cracknelref13_number.f a0_10 a1_10).bind fun t243 => (cracknelref13_Cmp.l0 k (([t229, t230, t231, t232, t233, t236, t239, t242, t243] : List Int)) 0))))))))))) = some r := H
  have A9 := Aside0.mk A90
  clear A90
  replace H := Option.bind_eq_some_iff.mp H
  obtain ⟨t234, A100, H⟩ := H
  replace H : ((cracknelref13_bit.f a1_7).bind fun t235 => ((cracknelref13_number.f t234 t235).bind fun t236 => ((cracknelref13_bit.f a0_8).bind fun t237 => ((cracknelref13_bit.f a1_8).bind fun t238 => ((cracknelref13_number.f t237 t238).bind fun t239 => ((cracknelref13_bit.f a0_9).bind fun t240 => ((cracknelref13_bit.f a1_9).bind fun t241 => ((cracknelref13_number.f t240 t241).bind fun t242 => ((cracknelref13_number.f a0_10 a1_10).bind fun t243 => (cracknelref13_Cmp.l0 k (([t229, t230, t231, t232, t233, t236, t239, t242, t243] : List Int)) 0)))))))))) = some r := H
  have A10 := Aside0.mk A100
  clear A100
  replace H := Option.bind_eq_some_iff.mp H
  obtain ⟨t235, A110, H⟩ := H
  replace H : ((cracknelref13_number.f t234 t235).bind fun t236 => ((cracknelref13_bit.f a0_8).bind fun t237 => ((cracknelref13_bit.f a1_8).bind fun t238 => ((cracknelref13_number.f t237 t238).bind fun t239 => ((cracknelref13_bit.f a0_9).bind fun t240 => ((cracknelref13_bit.f a1_9).bind fun t241 => ((cracknelref13_number.f t240 t241).bind fun t242 => ((cracknelref13_number.f a0_10 a1_10).bind fun t243 => (cracknelref13_Cmp.l0 k (([t229, t230, t231, t232, t233, t236, t239, t242, t243] : List Int)) 0))))))))) = some r := H
  have A11 := Aside0.mk A110
  clear A110
  replace H := Option.bind_eq_some_iff.mp H
  obtain ⟨t236, A120, H⟩ := H
  replace H : ((cracknelref13_bit.f a0_8).bind fun t237 => ((cracknelref13_bit.f a1_8).bind fun t238 => ((cracknelref13_number.f t237 t238).bind fun t239 => ((cracknelref13_bit.f a0_9).bind fun t240 => ((cracknelref13_bit.f a1_9).bind fun t241 => ((cracknelref13_number.f t240 t241).bind fun t242 => ((cracknelref13_number.f a0_10 a1_10).bind fun t243 => (cracknelref13_Cmp.l0 k (([t229, t230, t231, t232, t233, t236, t239, t242, t243] : List Int)) 0)))))))) = some r := H
  have A12 := Aside0.mk A120
  clear A120
  replace H := Option.bind_eq_some_iff.mp H
  obtain ⟨t237, A130, H⟩ := H
  replace H : ((cracknelref13_bit.f a1_8).bind fun t238 => ((cracknelref13_number.f t237 t238).bind fun t239 => ((cracknelref13_bit.f a0_9).bind fun t240 => ((cracknelref13_bit.f a1_9).bind fun t241 => ((cracknelref13_number.f t240 t241).bind fun t242 => ((cracknelref13_number.f a0_10 a1_10).bind fun t243 => (cracknelref13_Cmp.l0 k (([t229, t230, t231, t232, t233, t236, t239, t242, t243] : List Int)) 0))))))) = some r := H
  have A13 := Aside0.mk A130
  clear A130
  replace H := Option.bind_eq_some_iff.mp H
  obtain ⟨t238, A140, H⟩ := H
  replace H : ((cracknelref13_number.f t237 t238).bind fun t239 => ((cracknelref13_bit.f a0_9).bind fun t240 => ((cracknelref13_bit.f a1_9).bind fun t241 => ((cracknelref13_number.f t240 t241).bind fun t242 => ((cracknelref13_number.f a0_10 a1_10).bind fun t243 => (cracknelref13_Cmp.l0 k (([t229, t230, t231, t232, t233, t236, t239, t242, t243] : List Int)) 0)))))) = some r := H
  have A14 := Aside0.mk A140
  clear A140
  replace H := Option.bind_eq_some_iff.mp H
  obtain ⟨t239, A150, H⟩ := H
  replace H : ((cracknelref13_bit.f a0_9).bind fun t240 => ((cracknelref13_bit.f a1_9).bind fun t241 => ((cracknelref13_number.f t240 t241).bind fun t242 => ((cracknelref13_number.f a0_10 a1_10).bind fun t243 => (cracknelref13_Cmp.l0 k (([t229, t230, t231, t232, t233, t236, t239, t242, t243] : List Int)) 0))))) = some r := H
  have A15 := Aside0.mk A150
  clear A150
  replace H := Option.bind_eq_some_iff.mp H
  obtain ⟨t240, A160, H⟩ := H
  replace H : ((cracknelref13_bit.f a1_9).bind fun t241 => ((cracknelref13_number.f t240 t241).bind fun t242 => ((cracknelref13_number.f a0_10 a1_10).bind fun t243 => (cracknelref13_Cmp.l0 k (([t229, t230, t231, t232, t233, t236, t239, t242, t243] : List Int)) 0)))) = some r := H
  have A16 := Aside0.mk A160
  clear A160
  replace H := Option.bind_eq_some_iff.mp H
  obtain ⟨t241, A170, H⟩ := H
  replace H : ((cracknelref13_number.f t240 t241).bind fun t242 => ((cracknelref13_number.f a0_10 a1_10).bind fun t243 => (cracknelref13_Cmp.l0 k (([t229, t230, t231, t232, t233, t236, t239, t242, t243] : List Int)) 0))) = some r := H
  have A17 := Aside0.mk A170
  clear A170
  replace H := Option.bind_eq_some_iff.mp H
  obtain ⟨t242, A180, H⟩ := H
  replace H : ((cracknelref13_number.f a0_10 a1_10).bind fun t243 => (cracknelref13_Cmp.l0 k (([t229, t230, t231, t232, t233, t236, t239, t242, t243] : List Int)) 0)) = some r := H
  have A18 := Aside0.mk A180
  clear A180
  replace H := Option.bind_eq_some_iff.mp H
  obtain ⟨t243, A190, H⟩ := H
  replace H : (cracknelref13_Cmp.l0 k (([t229, t230, t231, t232, t233, t236, t239, t242, t243] : List Int)) 0) = some r := H
  have A19 := Aside0.mk A190
  clear A190
  obtain ⟨y244, hy244⟩ : ∃ y_ : List Int, y_ = (([t229, t230, t231, t232, t233, t236, t239, t242, t243] : List Int)) := ⟨_, rfl⟩
  replace H : (cracknelref13_Cmp.l0 k y244 0) = some r := by first | (rw [hy244]; with_reducible exact H) | (have H2_ := (Option.bind_some _ _).symm.trans H; rw [hy244]; with_reducible exact H2_) | (have H2_ := (Option.bind_some _ _).symm.trans H; with_reducible exact H2_) | with_reducible exact H | (rw [hy244]; exact H) | exact H
  have Ny244 := Aside0.mk hy244
  clear hy244
  have H' := Aside0.mk H
  clear H
  go_enter Tryd.func15, Tryd.ntmps15
  try go_wp2_with (first | ((with_reducible refine gate_dst (N := 2) rfl ?_); refine box_event ?hg (N := 2) ?hd (cs := #[.string a0_0, .string a0_1, .string a0_2, .string a0_3, .int .i64 a0_4, .int .i64 a0_5, .int .i64 a0_6, .bool a0_7, .bool a0_8, .bool a0_9, .int .i64 a0_10]) (t := 23) ?hr ?_; (case hd => rfl); (case hg => rfl); (case hr => first | (go_simp; done) | (go_simp; rfl)); intro gb221 hg w20 hbox hb; have n0_ := Aside0.mk (below_step xb hb); have n1_ := Aside0.mk (hbox); have n2_ := Aside0.mk ((by rw [hg]; exact (below_size xb) : w.heap.size ≤ gb221)); have n3_ := Aside0.mk ((by rw [hg]; exact (below_size xb) : w.heap.size ≤ gb221)); clear HB; have HB := n0_; have BK221 := n1_; have GW221 := n2_; have GE221 := n3_; clear n0_ n1_ n2_ n3_; clear hb hbox hg) | ((with_reducible refine gate_dst (N := 3) rfl ?_); refine box_event ?hg (N := 3) ?hd (cs := #[.string a1_0, .string a1_1, .string a1_2, .string a1_3, .int .i64 a1_4, .int .i64 a1_5, .int .i64 a1_6, .bool a1_7, .bool a1_8, .bool a1_9, .int .i64 a1_10]) (t := 23) ?hr ?_; (case hd => rfl); (case hg => rfl); (case hr => first | (go_simp; done) | (go_simp; rfl)); intro gb222 hg w21 hbox hb; have n0_ := blkB BK221 hb; have n1_ := Aside0.mk (below_step xb hb); have n2_ := Aside0.mk (hbox); have n3_ := Aside0.mk ((by rw [hg]; exact (below_size xb) : w.heap.size ≤ gb222)); have n4_ := Aside0.mk ((by rw [hg]; exact (below_size xb) : w.heap.size ≤ gb222)); have n5_ := Aside0.mk ((by rw [hg]; exact Nat.ne_of_lt (blkL BK221) : gb221 ≠ gb222)); have n6_ := Aside0.mk ((by rw [hg]; exact Nat.ne_of_gt (blkL BK221) : gb222 ≠ gb221)); clear BK221; clear HB; have BK221 := n0_; have HB := n1_; have BK222 := n2_; have GW222 := n3_; have GE222 := n4_; have NB221_222 := n5_; have NB222_221 := n6_; clear n0_ n1_ n2_ n3_ n4_ n5_ n6_; clear hb hbox hg))
  have n0_ := Aside0.mk (blk_drew BK221.out)
  have n1_ := Aside0.mk (blk_drew BK222.out)
  have n2_ := Aside0.mk (below_drew1 HB.out)
  clear BK221
  clear BK222
  clear HB
  have BK221 := n0_
  have BK222 := n1_
  have HB := n2_
  clear n0_ n1_ n2_
  refine start_ (n := 53) (S := fun w' => w'.cell? ⟨gb221, 0, none⟩ = some (.string a0_0) ∧ w'.cell? ⟨gb221, 1, none⟩ = some (.string a0_1) ∧ w'.cell? ⟨gb221, 2, none⟩ = some (.string a0_2) ∧ w'.cell? ⟨gb221, 3, none⟩ = some (.string a0_3) ∧ w'.cell? ⟨gb221, 4, none⟩ = some (.int .i64 a0_4) ∧ w'.cell? ⟨gb221, 5, none⟩ = some (.int .i64 a0_5) ∧ w'.cell? ⟨gb221, 6, none⟩ = some (.int .i64 a0_6) ∧ w'.cell? ⟨gb221, 7, none⟩ = some (.bool a0_7) ∧ w'.cell? ⟨gb221, 8, none⟩ = some (.bool a0_8) ∧ w'.cell? ⟨gb221, 9, none⟩ = some (.bool a0_9) ∧ w'.cell? ⟨gb221, 10, none⟩ = some (.int .i64 a0_10) ∧ w'.cell? ⟨gb222, 0, none⟩ = some (.string a1_0) ∧ w'.cell? ⟨gb222, 1, none⟩ = some (.string a1_1) ∧ w'.cell? ⟨gb222, 2, none⟩ = some (.string a1_2) ∧ w'.cell? ⟨gb222, 3, none⟩ = some (.string a1_3) ∧ w'.cell? ⟨gb222, 4, none⟩ = some (.int .i64 a1_4) ∧ w'.cell? ⟨gb222, 5, none⟩ = some (.int .i64 a1_5) ∧ w'.cell? ⟨gb222, 6, none⟩ = some (.int .i64 a1_6) ∧ w'.cell? ⟨gb222, 7, none⟩ = some (.bool a1_7) ∧ w'.cell? ⟨gb222, 8, none⟩ = some (.bool a1_8) ∧ w'.cell? ⟨gb222, 9, none⟩ = some (.bool a1_9) ∧ w'.cell? ⟨gb222, 10, none⟩ = some (.int .i64 a1_10)) (ds := []) #[false, false, false, false, false, false, false, false, false, false, false, false, false, false, false, false, false, false, false, false, false, false, false, false, false, false, false, false, false, false, false, false, false, false, false, false, false, false, false, false, false, false, false, false, false, false, false, false, false, false, false, false, false] (by kernel_rfl) rfl rfl ⟨(blk_cell BK221.out 0).trans rfl, (blk_cell BK221.out 1).trans rfl, (blk_cell BK221.out 2).trans rfl, (blk_cell BK221.out 3).trans rfl, (blk_cell BK221.out 4).trans rfl, (blk_cell BK221.out 5).trans rfl, (blk_cell BK221.out 6).trans rfl, (blk_cell BK221.out 7).trans rfl, (blk_cell BK221.out 8).trans rfl, (blk_cell BK221.out 9).trans rfl, (blk_cell BK221.out 10).trans rfl, (blk_cell BK222.out 0).trans rfl, (blk_cell BK222.out 1).trans rfl, (blk_cell BK222.out 2).trans rfl, (blk_cell BK222.out 3).trans rfl, (blk_cell BK222.out 4).trans rfl, (blk_cell BK222.out 5).trans rfl, (blk_cell BK222.out 6).trans rfl, (blk_cell BK222.out 7).trans rfl, (blk_cell BK222.out 8).trans rfl, (blk_cell BK222.out 9).trans rfl, (blk_cell BK222.out 10).trans rfl⟩ (fun hHeld => ?_); refine with_tabW cracknelref13_Cmp.tab1 cracknelref13_Cmp.bits1 (fun HT_ HW_ => ?_)
  generalize w21.drew = w22 at BK221 BK222 HB hHeld ⊢
  refine pure_ (i := 5) (N := some 12) (v := ?_) (a' := ?_) #[false, false, false, false, false, true, false, false, false, false, false, false, false, false, false, false, false, false, false, false, false, false, false, false, false, false, false, false, false, false, false, false, false, false, false, false, false, false, false, false, false, false, false, false, false, false, false, false, false, false, false, false, false] rfl rfl (any_of HT_.out (by kernel_rfl)) (fun _ _ _ h => h) (Or.inl ⟨by rfl, ?_⟩) ?_ ?_
  rotate_left
  · intro w'
    go_simp
    with_reducible rfl
  rotate_left
  · simp only [Act.put, List.setIfInBounds_toArray, List.set_cons_zero, List.set_cons_succ, i64_w, i32_w]
    rfl
  refine pure_ (i := 7) (N := some 14) (v := ?_) (a' := ?_) #[false, false, false, false, false, true, false, true, false, false, false, false, false, false, false, false, false, false, false, false, false, false, false, false, false, false, false, false, false, false, false, false, false, false, false, false, false, false, false, false, false, false, false, false, false, false, false, false, false, false, false, false, false] rfl rfl (any_of HT_.out (by kernel_rfl)) (fun _ _ _ h => h) (Or.inl ⟨by rfl, ?_⟩) ?_ ?_
  rotate_left
  · intro w'
    go_simp
    with_reducible rfl
  rotate_left
  · simp only [Act.put, List.setIfInBounds_toArray, List.set_cons_zero, List.set_cons_succ, i64_w, i32_w]
    rfl
  refine pure_ (i := 10) (N := some 17) (v := ?_) (a' := ?_) #[false, false, false, false, false, true, false, true, false, false, true, false, false, false, false, false, false, false, false, false, false, false, false, false, false, false, false, false, false, false, false, false, false, false, false, false, false, false, false, false, false, false, false, false, false, false, false, false, false, false, false, false, false] rfl rfl (any_of HT_.out (by kernel_rfl)) (fun _ _ _ h => h) (Or.inl ⟨by rfl, ?_⟩) ?_ ?_
  rotate_left
  · intro w'
    go_simp
    with_reducible rfl
  rotate_left
  · simp only [Act.put, List.setIfInBounds_toArray, List.set_cons_zero, List.set_cons_succ, i64_w, i32_w]
    rfl
  refine pure_ (i := 12) (N := some 19) (v := ?_) (a' := ?_) #[false, false, false, false, false, true, false, true, false, false, true, false, true, false, false, false, false, false, false, false, false, false, false, false, false, false, false, false, false, false, false, false, false, false, false, false, false, false, false, false, false, false, false, false, false, false, false, false, false, false, false, false, false] rfl rfl (any_of HT_.out (by kernel_rfl)) (fun _ _ _ h => h) (Or.inl ⟨by rfl, ?_⟩) ?_ ?_
  rotate_left
  · intro w'
    go_simp
    with_reducible rfl
  rotate_left
  · simp only [Act.put, List.setIfInBounds_toArray, List.set_cons_zero, List.set_cons_succ, i64_w, i32_w]
    rfl
  refine pure_ (i := 15) (N := some 22) (v := ?_) (a' := ?_) #[false, false, false, false, false, true, false, true, false, false, true, false, true, false, false, true, false, false, false, false, false, false, false, false, false, false, false, false, false, false, false, false, false, false, false, false, false, false, false, false, false, false, false, false, false, false, false, false, false, false, false, false, false] rfl rfl (any_of HT_.out (by kernel_rfl)) (fun _ _ _ h => h) (Or.inl ⟨by rfl, ?_⟩) ?_ ?_
  rotate_left
  · intro w'
    go_simp
    with_reducible rfl
  rotate_left
  · simp only [Act.put, List.setIfInBounds_toArray, List.set_cons_zero, List.set_cons_succ, i64_w, i32_w]
    rfl
  refine pure_ (i := 17) (N := some 24) (v := ?_) (a' := ?_) #[false, false, false, false, false, true, false, true, false, false, true, false, true, false, false, true, false, true, false, false, false, false, false, false, false, false, false, false, false, false, false, false, false, false, false, false, false, false, false, false, false, false, false, false, false, false, false, false, false, false, false, false, false] rfl rfl (any_of HT_.out (by kernel_rfl)) (fun _ _ _ h => h) (Or.inl ⟨by rfl, ?_⟩) ?_ ?_
  rotate_left
  · intro w'
    go_simp
    with_reducible rfl
  rotate_left
  · simp only [Act.put, List.setIfInBounds_toArray, List.set_cons_zero, List.set_cons_succ, i64_w, i32_w]
    rfl
  refine pure_ (i := 20) (N := some 27) (v := ?_) (a' := ?_) #[false, false, false, false, false, true, false, true, false, false, true, false, true, false, false, true, false, true, false, false, true, false, false, false, false, false, false, false, false, false, false, false, false, false, false, false, false, false, false, false, false, false, false, false, false, false, false, false, false, false, false, false, false] rfl rfl (any_of HT_.out (by kernel_rfl)) (fun _ _ _ h => h) (Or.inl ⟨by rfl, ?_⟩) ?_ ?_
  rotate_left
  · intro w'
    go_simp
    with_reducible rfl
  rotate_left
  · simp only [Act.put, List.setIfInBounds_toArray, List.set_cons_zero, List.set_cons_succ, i64_w, i32_w]
    rfl
  refine pure_ (i := 22) (N := some 29) (v := ?_) (a' := ?_) #[false, false, false, false, false, true, false, true, false, false, true, false, true, false, false, true, false, true, false, false, true, false, true, false, false, false, false, false, false, false, false, false, false, false, false, false, false, false, false, false, false, false, false, false, false, false, false, false, false, false, false, false, false] rfl rfl (any_of HT_.out (by kernel_rfl)) (fun _ _ _ h => h) (Or.inl ⟨by rfl, ?_⟩) ?_ ?_
  rotate_left
  · intro w'
    go_simp
    with_reducible rfl
  rotate_left
  · simp only [Act.put, List.setIfInBounds_toArray, List.set_cons_zero, List.set_cons_succ, i64_w, i32_w]
    rfl
  refine pure_ (i := 25) (N := some 32) (v := ?_) (a' := ?_) #[false, false, false, false, false, true, false, true, false, false, true, false, true, false, false, true, false, true, false, false, true, false, true, false, false, true, false, false, false, false, false, false, false, false, false, false, false, false, false, false, false, false, false, false, false, false, false, false, false, false, false, false, false] rfl rfl (any_of HT_.out (by kernel_rfl)) (fun _ _ _ h => h) (Or.inl ⟨by rfl, ?_⟩) ?_ ?_
  rotate_left
  · intro w'
    go_simp
    with_reducible rfl
  rotate_left
  · simp only [Act.put, List.setIfInBounds_toArray, List.set_cons_zero, List.set_cons_succ, i64_w, i32_w]
    rfl
  refine pure_ (i := 28) (N := some 35) (v := ?_) (a' := ?_) #[false, false, false, false, false, true, false, true, false, false, true, false, true, false, false, true, false, true, false, false, true, false, true, false, false, true, false, false, true, false, false, false, false, false, false, false, false, false, false, false, false, false, false, false, false, false, false, false, false, false, false, false, false] rfl rfl (any_of HT_.out (by kernel_rfl)) (fun _ _ _ h => h) (Or.inl ⟨by rfl, ?_⟩) ?_ ?_
  rotate_left
  · intro w'
    go_simp
    with_reducible rfl
  rotate_left
  · simp only [Act.put, List.setIfInBounds_toArray, List.set_cons_zero, List.set_cons_succ, i64_w, i32_w]
    rfl
  refine pure_ (i := 32) (N := some 39) (v := ?_) (a' := ?_) #[false, false, false, false, false, true, false, true, false, false, true, false, true, false, false, true, false, true, false, false, true, false, true, false, false, true, false, false, true, false, false, false, true, false, false, false, false, false, false, false, false, false, false, false, false, false, false, false, false, false, false, false, false] rfl rfl (any_of HT_.out (by kernel_rfl)) (fun _ _ _ h => h) (Or.inl ⟨by rfl, ?_⟩) ?_ ?_
  rotate_left
  · intro w'
    go_simp
    with_reducible rfl
  rotate_left
  · simp only [Act.put, List.setIfInBounds_toArray, List.set_cons_zero, List.set_cons_succ, i64_w, i32_w]
    rfl
  refine pure_ (i := 35) (N := some 42) (v := ?_) (a' := ?_) #[false, false, false, false, false, true, false, true, false, false, true, false, true, false, false, true, false, true, false, false, true, false, true, false, false, true, false, false, true, false, false, false, true, false, false, true, false, false, false, false, false, false, false, false, false, false, false, false, false, false, false, false, false] rfl rfl (any_of HT_.out (by kernel_rfl)) (fun _ _ _ h => h) (Or.inl ⟨by rfl, ?_⟩) ?_ ?_
  rotate_left
  · intro w'
    go_simp
    with_reducible rfl
  rotate_left
  · simp only [Act.put, List.setIfInBounds_toArray, List.set_cons_zero, List.set_cons_succ, i64_w, i32_w]
    rfl
  refine pure_ (i := 39) (N := some 46) (v := ?_) (a' := ?_) #[false, false, false, false, false, true, false, true, false, false, true, false, true, false, false, true, false, true, false, false, true, false, true, false, false, true, false, false, true, false, false, false, true, false, false, true, false, false, false, true, false, false, false, false, false, false, false, false, false, false, false, false, false] rfl rfl (any_of HT_.out (by kernel_rfl)) (fun _ _ _ h => h) (Or.inl ⟨by rfl, ?_⟩) ?_ ?_
  rotate_left
  · intro w'
    go_simp
    with_reducible rfl
  rotate_left
  · simp only [Act.put, List.setIfInBounds_toArray, List.set_cons_zero, List.set_cons_succ, i64_w, i32_w]
    rfl
  refine pure_ (i := 42) (N := some 49) (v := ?_) (a' := ?_) #[false, false, false, false, false, true, false, true, false, false, true, false, true, false, false, true, false, true, false, false, true, false, true, false, false, true, false, false, true, false, false, false, true, false, false, true, false, false, false, true, false, false, true, false, false, false, false, false, false, false, false, false, false] rfl rfl (any_of HT_.out (by kernel_rfl)) (fun _ _ _ h => h) (Or.inl ⟨by rfl, ?_⟩) ?_ ?_
  rotate_left
  · intro w'
    go_simp
    with_reducible rfl
  rotate_left
  · simp only [Act.put, List.setIfInBounds_toArray, List.set_cons_zero, List.set_cons_succ, i64_w, i32_w]
    rfl
  refine pure_ (i := 46) (N := some 53) (v := ?_) (a' := ?_) #[false, false, false, false, false, true, false, true, false, false, true, false, true, false, false, true, false, true, false, false, true, false, true, false, false, true, false, false, true, false, false, false, true, false, false, true, false, false, false, true, false, false, true, false, false, false, true, false, false, false, false, false, false] rfl rfl (any_of HT_.out (by kernel_rfl)) (fun _ _ _ h => h) (Or.inl ⟨by rfl, ?_⟩) ?_ ?_
  rotate_left
  · intro w'
    go_simp
    with_reducible rfl
  rotate_left
  · simp only [Act.put, List.setIfInBounds_toArray, List.set_cons_zero, List.set_cons_succ, i64_w, i32_w]
    rfl
  refine pure_ (i := 48) (N := some 55) (v := ?_) (a' := ?_) #[false, false, false, false, false, true, false, true, false, false, true, false, true, false, false, true, false, true, false, false, true, false, true, false, false, true, false, false, true, false, false, false, true, false, false, true, false, false, false, true, false, false, true, false, false, false, true, false, true, false, false, false, false] rfl rfl (any_of HT_.out (by kernel_rfl)) (fun _ _ _ h => h) (Or.inl ⟨by rfl, ?_⟩) ?_ ?_
  rotate_left
  · intro w'
    go_simp
    with_reducible rfl
  rotate_left
  · simp only [Act.put, List.setIfInBounds_toArray, List.set_cons_zero, List.set_cons_succ, i64_w, i32_w]
    rfl
  refine take_ (i := 0) (N := some 7) (v := ?_) (a' := ?_) #[true, false, false, false, false, true, false, true, false, false, true, false, true, false, false, true, false, true, false, false, true, false, true, false, false, true, false, false, true, false, false, false, true, false, false, true, false, false, false, true, false, false, true, false, false, false, true, false, true, false, false, false, false] rfl rfl (take_ofW HT_.out HW_.out (by kernel_rfl)) (fun _ _ _ h => h) (Or.inl ⟨by rfl, ?_⟩) hHeld ?_ ?_
  rotate_left
  · rintro w' ⟨s0, s1, s2, s3, s4, s5, s6, s7, s8, s9, s10, s11, s12, s13, s14, s15, s16, s17, s18, s19, s20, s21⟩
    go_simp
    with_reducible rfl
  rotate_left
  · simp only [Act.put, List.setIfInBounds_toArray, List.set_cons_zero, List.set_cons_succ, i64_w, i32_w]
    rfl
  refine take_ (i := 2) (N := some 9) (v := ?_) (a' := ?_) #[true, false, true, false, false, true, false, true, false, false, true, false, true, false, false, true, false, true, false, false, true, false, true, false, false, true, false, false, true, false, false, false, true, false, false, true, false, false, false, true, false, false, true, false, false, false, true, false, true, false, false, false, false] rfl rfl (take_ofW HT_.out HW_.out (by kernel_rfl)) (fun _ _ _ h => h) (Or.inl ⟨by rfl, ?_⟩) hHeld ?_ ?_
  rotate_left
  · rintro w' ⟨s0, s1, s2, s3, s4, s5, s6, s7, s8, s9, s10, s11, s12, s13, s14, s15, s16, s17, s18, s19, s20, s21⟩
    go_simp
    with_reducible rfl
  rotate_left
  · simp only [Act.put, List.setIfInBounds_toArray, List.set_cons_zero, List.set_cons_succ, i64_w, i32_w]
    rfl
  refine take_ (i := 6) (N := some 13) (v := ?_) (a' := ?_) #[true, false, true, false, false, true, true, true, false, false, true, false, true, false, false, true, false, true, false, false, true, false, true, false, false, true, false, false, true, false, false, false, true, false, false, true, false, false, false, true, false, false, true, false, false, false, true, false, true, false, false, false, false] rfl rfl (take_ofW HT_.out HW_.out (by kernel_rfl)) (fun _ _ _ h => h) (Or.inl ⟨by rfl, ?_⟩) hHeld ?_ ?_
  rotate_left
  · rintro w' ⟨s0, s1, s2, s3, s4, s5, s6, s7, s8, s9, s10, s11, s12, s13, s14, s15, s16, s17, s18, s19, s20, s21⟩
    go_simp
    with_reducible rfl
  rotate_left
  · simp only [Act.put, List.setIfInBounds_toArray, List.set_cons_zero, List.set_cons_succ, i64_w, i32_w]
    rfl
  refine take_ (i := 8) (N := some 15) (v := ?_) (a' := ?_) #[true, false, true, false, false, true, true, true, true, false, true, false, true, false, false, true, false, true, false, false, true, false, true, false, false, true, false, false, true, false, false, false, true, false, false, true, false, false, false, true, false, false, true, false, false, false, true, false, true, false, false, false, false] rfl rfl (take_ofW HT_.out HW_.out (by kernel_rfl)) (fun _ _ _ h => h) (Or.inl ⟨by rfl, ?_⟩) hHeld ?_ ?_
  rotate_left
  · rintro w' ⟨s0, s1, s2, s3, s4, s5, s6, s7, s8, s9, s10, s11, s12, s13, s14, s15, s16, s17, s18, s19, s20, s21⟩
    go_simp
    with_reducible rfl
  rotate_left
  · simp only [Act.put, List.setIfInBounds_toArray, List.set_cons_zero, List.set_cons_succ, i64_w, i32_w]
    rfl
  refine take_ (i := 11) (N := some 18) (v := ?_) (a' := ?_) #[true, false, true, false, false, true, true, true, true, false, true, true, true, false, false, true, false, true, false, false, true, false, true, false, false, true, false, false, true, false, false, false, true, false, false, true, false, false, false, true, false, false, true, false, false, false, true, false, true, false, false, false, false] rfl rfl (take_ofW HT_.out HW_.out (by kernel_rfl)) (fun _ _ _ h => h) (Or.inl ⟨by rfl, ?_⟩) hHeld ?_ ?_
  rotate_left
  · rintro w' ⟨s0, s1, s2, s3, s4, s5, s6, s7, s8, s9, s10, s11, s12, s13, s14, s15, s16, s17, s18, s19, s20, s21⟩
    go_simp
    with_reducible rfl
  rotate_left
  · simp only [Act.put, List.setIfInBounds_toArray, List.set_cons_zero, List.set_cons_succ, i64_w, i32_w]
    rfl
  refine take_ (i := 13) (N := some 20) (v := ?_) (a' := ?_) #[true, false, true, false, false, true, true, true, true, false, true, true, true, true, false, true, false, true, false, false, true, false, true, false, false, true, false, false, true, false, false, false, true, false, false, true, false, false, false, true, false, false, true, false, false, false, true, false, true, false, false, false, false] rfl rfl (take_ofW HT_.out HW_.out (by kernel_rfl)) (fun _ _ _ h => h) (Or.inl ⟨by rfl, ?_⟩) hHeld ?_ ?_
  rotate_left
  · rintro w' ⟨s0, s1, s2, s3, s4, s5, s6, s7, s8, s9, s10, s11, s12, s13, s14, s15, s16, s17, s18, s19, s20, s21⟩
    go_simp
    with_reducible rfl
  rotate_left
  · simp only [Act.put, List.setIfInBounds_toArray, List.set_cons_zero, List.set_cons_succ, i64_w, i32_w]
    rfl
  refine take_ (i := 16) (N := some 23) (v := ?_) (a' := ?_) #[true, false, true, false, false, true, true, true, true, false, true, true, true, true, false, true, true, true, false, false, true, false, true, false, false, true, false, false, true, false, false, false, true, false, false, true, false, false, false, true, false, false, true, false, false, false, true, false, true, false, false, false, false] rfl rfl (take_ofW HT_.out HW_.out (by kernel_rfl)) (fun _ _ _ h => h) (Or.inl ⟨by rfl, ?_⟩) hHeld ?_ ?_
  rotate_left
  · rintro w' ⟨s0, s1, s2, s3, s4, s5, s6, s7, s8, s9, s10, s11, s12, s13, s14, s15, s16, s17, s18, s19, s20, s21⟩
    go_simp
    with_reducible rfl
  rotate_left
  · simp only [Act.put, List.setIfInBounds_toArray, List.set_cons_zero, List.set_cons_succ, i64_w, i32_w]
    rfl
  refine take_ (i := 18) (N := some 25) (v := ?_) (a' := ?_) #[true, false, true, false, false, true, true, true, true, false, true, true, true, true, false, true, true, true, true, false, true, false, true, false, false, true, false, false, true, false, false, false, true, false, false, true, false, false, false, true, false, false, true, false, false, false, true, false, true, false, false, false, false] rfl rfl (take_ofW HT_.out HW_.out (by kernel_rfl)) (fun _ _ _ h => h) (Or.inl ⟨by rfl, ?_⟩) hHeld ?_ ?_
  rotate_left
  · rintro w' ⟨s0, s1, s2, s3, s4, s5, s6, s7, s8, s9, s10, s11, s12, s13, s14, s15, s16, s17, s18, s19, s20, s21⟩
    go_simp
    with_reducible rfl
  rotate_left
  · simp only [Act.put, List.setIfInBounds_toArray, List.set_cons_zero, List.set_cons_succ, i64_w, i32_w]
    rfl
  refine take_ (i := 21) (N := some 28) (v := ?_) (a' := ?_) #[true, false, true, false, false, true, true, true, true, false, true, true, true, true, false, true, true, true, true, false, true, true, true, false, false, true, false, false, true, false, false, false, true, false, false, true, false, false, false, true, false, false, true, false, false, false, true, false, true, false, false, false, false] rfl rfl (take_ofW HT_.out HW_.out (by kernel_rfl)) (fun _ _ _ h => h) (Or.inl ⟨by rfl, ?_⟩) hHeld ?_ ?_
  rotate_left
  · rintro w' ⟨s0, s1, s2, s3, s4, s5, s6, s7, s8, s9, s10, s11, s12, s13, s14, s15, s16, s17, s18, s19, s20, s21⟩
    go_simp
    with_reducible rfl
  rotate_left
  · simp only [Act.put, List.setIfInBounds_toArray, List.set_cons_zero, List.set_cons_succ, i64_w, i32_w]
    rfl
  refine take_ (i := 23) (N := some 30) (v := ?_) (a' := ?_) #[true, false, true, false, false, true, true, true, true, false, true, true, true, true, false, true, true, true, true, false, true, true, true, true, false, true, false, false, true, false, false, false, true, false, false, true, false, false, false, true, false, false, true, false, false, false, true, false, true, false, false, false, false] rfl rfl (take_ofW HT_.out HW_.out (by kernel_rfl)) (fun _ _ _ h => h) (Or.inl ⟨by rfl, ?_⟩) hHeld ?_ ?_
  rotate_left
  · rintro w' ⟨s0, s1, s2, s3, s4, s5, s6, s7, s8, s9, s10, s11, s12, s13, s14, s15, s16, s17, s18, s19, s20, s21⟩
    go_simp
    with_reducible rfl
  rotate_left
  · simp only [Act.put, List.setIfInBounds_toArray, List.set_cons_zero, List.set_cons_succ, i64_w, i32_w]
    rfl
  refine take_ (i := 26) (N := some 33) (v := ?_) (a' := ?_) #[true, false, true, false, false, true, true, true, true, false, true, true, true, true, false, true, true, true, true, false, true, true, true, true, false, true, true, false, true, false, false, false, true, false, false, true, false, false, false, true, false, false, true, false, false, false, true, false, true, false, false, false, false] rfl rfl (take_ofW HT_.out HW_.out (by kernel_rfl)) (fun _ _ _ h => h) (Or.inl ⟨by rfl, ?_⟩) hHeld ?_ ?_
  rotate_left
  · rintro w' ⟨s0, s1, s2, s3, s4, s5, s6, s7, s8, s9, s10, s11, s12, s13, s14, s15, s16, s17, s18, s19, s20, s21⟩
    go_simp
    with_reducible rfl
  rotate_left
  · simp only [Act.put, List.setIfInBounds_toArray, List.set_cons_zero, List.set_cons_succ, i64_w, i32_w]
    rfl
  refine take_ (i := 29) (N := some 36) (v := ?_) (a' := ?_) #[true, false, true, false, false, true, true, true, true, false, true, true, true, true, false, true, true, true, true, false, true, true, true, true, false, true, true, false, true, true, false, false, true, false, false, true, false, false, false, true, false, false, true, false, false, false, true, false, true, false, false, false, false] rfl rfl (take_ofW HT_.out HW_.out (by kernel_rfl)) (fun _ _ _ h => h) (Or.inl ⟨by rfl, ?_⟩) hHeld ?_ ?_
  rotate_left
  · rintro w' ⟨s0, s1, s2, s3, s4, s5, s6, s7, s8, s9, s10, s11, s12, s13, s14, s15, s16, s17, s18, s19, s20, s21⟩
    go_simp
    with_reducible rfl
  rotate_left
  · simp only [Act.put, List.setIfInBounds_toArray, List.set_cons_zero, List.set_cons_succ, i64_w, i32_w]
    rfl
  refine take_ (i := 33) (N := some 40) (v := ?_) (a' := ?_) #[true, false, true, false, false, true, true, true, true, false, true, true, true, true, false, true, true, true, true, false, true, true, true, true, false, true, true, false, true, true, false, false, true, true, false, true, false, false, false, true, false, false, true, false, false, false, true, false, true, false, false, false, false] rfl rfl (take_ofW HT_.out HW_.out (by kernel_rfl)) (fun _ _ _ h => h) (Or.inl ⟨by rfl, ?_⟩) hHeld ?_ ?_
  rotate_left
  · rintro w' ⟨s0, s1, s2, s3, s4, s5, s6, s7, s8, s9, s10, s11, s12, s13, s14, s15, s16, s17, s18, s19, s20, s21⟩
    go_simp
    with_reducible rfl
  rotate_left
  · simp only [Act.put, List.setIfInBounds_toArray, List.set_cons_zero, List.set_cons_succ, i64_w, i32_w]
    rfl
  refine take_ (i := 36) (N := some 43) (v := ?_) (a' := ?_) #[true, false, true, false, false, true, true, true, true, false, true, true, true, true, false, true, true, true, true, false, true, true, true, true, false, true, true, false, true, true, false, false, true, true, false, true, true, false, false, true, false, false, true, false, false, false, true, false, true, false, false, false, false] rfl rfl (take_ofW HT_.out HW_.out (by kernel_rfl)) (fun _ _ _ h => h) (Or.inl ⟨by rfl, ?_⟩) hHeld ?_ ?_
  rotate_left
  · rintro w' ⟨s0, s1, s2, s3, s4, s5, s6, s7, s8, s9, s10, s11, s12, s13, s14, s15, s16, s17, s18, s19, s20, s21⟩
    go_simp
    with_reducible rfl
  rotate_left
  · simp only [Act.put, List.setIfInBounds_toArray, List.set_cons_zero, List.set_cons_succ, i64_w, i32_w]
    rfl
  refine take_ (i := 40) (N := some 47) (v := ?_) (a' := ?_) #[true, false, true, false, false, true, true, true, true, false, true, true, true, true, false, true, true, true, true, false, true, true, true, true, false, true, true, false, true, true, false, false, true, true, false, true, true, false, false, true, true, false, true, false, false, false, true, false, true, false, false, false, false] rfl rfl (take_ofW HT_.out HW_.out (by kernel_rfl)) (fun _ _ _ h => h) (Or.inl ⟨by rfl, ?_⟩) hHeld ?_ ?_
  rotate_left
  · rintro w' ⟨s0, s1, s2, s3, s4, s5, s6, s7, s8, s9, s10, s11, s12, s13, s14, s15, s16, s17, s18, s19, s20, s21⟩
    go_simp
    with_reducible rfl
  rotate_left
  · simp only [Act.put, List.setIfInBounds_toArray, List.set_cons_zero, List.set_cons_succ, i64_w, i32_w]
    rfl
  refine take_ (i := 43) (N := some 50) (v := ?_) (a' := ?_) #[true, false, true, false, false, true, true, true, true, false, true, true, true, true, false, true, true, true, true, false, true, true, true, true, false, true, true, false, true, true, false, false, true, true, false, true, true, false, false, true, true, false, true, true, false, false, true, false, true, false, false, false, false] rfl rfl (take_ofW HT_.out HW_.out (by kernel_rfl)) (fun _ _ _ h => h) (Or.inl ⟨by rfl, ?_⟩) hHeld ?_ ?_
  rotate_left
  · rintro w' ⟨s0, s1, s2, s3, s4, s5, s6, s7, s8, s9, s10, s11, s12, s13, s14, s15, s16, s17, s18, s19, s20, s21⟩
    go_simp
    with_reducible rfl
  rotate_left
  · simp only [Act.put, List.setIfInBounds_toArray, List.set_cons_zero, List.set_cons_succ, i64_w, i32_w]
    rfl
  refine take_ (i := 47) (N := some 54) (v := ?_) (a' := ?_) #[true, false, true, false, false, true, true, true, true, false, true, true, true, true, false, true, true, true, true, false, true, true, true, true, false, true, true, false, true, true, false, false, true, true, false, true, true, false, false, true, true, false, true, true, false, false, true, true, true, false, false, false, false] rfl rfl (take_ofW HT_.out HW_.out (by kernel_rfl)) (fun _ _ _ h => h) (Or.inl ⟨by rfl, ?_⟩) hHeld ?_ ?_
  rotate_left
  · rintro w' ⟨s0, s1, s2, s3, s4, s5, s6, s7, s8, s9, s10, s11, s12, s13, s14, s15, s16, s17, s18, s19, s20, s21⟩
    go_simp
    with_reducible rfl
  rotate_left
  · simp only [Act.put, List.setIfInBounds_toArray, List.set_cons_zero, List.set_cons_succ, i64_w, i32_w]
    rfl
  refine take_ (i := 49) (N := some 56) (v := ?_) (a' := ?_) #[true, false, true, false, false, true, true, true, true, false, true, true, true, true, false, true, true, true, true, false, true, true, true, true, false, true, true, false, true, true, false, false, true, true, false, true, true, false, false, true, true, false, true, true, false, false, true, true, true, true, false, false, false] rfl rfl (take_ofW HT_.out HW_.out (by kernel_rfl)) (fun _ _ _ h => h) (Or.inl ⟨by rfl, ?_⟩) hHeld ?_ ?_
  rotate_left
  · rintro w' ⟨s0, s1, s2, s3, s4, s5, s6, s7, s8, s9, s10, s11, s12, s13, s14, s15, s16, s17, s18, s19, s20, s21⟩
    go_simp
    with_reducible rfl
  rotate_left
  · simp only [Act.put, List.setIfInBounds_toArray, List.set_cons_zero, List.set_cons_succ, i64_w, i32_w]
    rfl
  refine one_ (i := 1) (N := some 8) #[true, true, true, false, false, true, true, true, true, false, true, true, true, true, false, true, true, true, true, false, true, true, true, true, false, true, true, false, true, true, false, false, true, true, false, true, true, false, false, true, true, false, true, true, false, false, true, true, true, true, false, false, false] rfl rfl (one_of HT_.out (by kernel_rfl)) (by decide) (fun K hK => ?_)
  refine goes_ Tryd.func12 (by kernel_rfl) rfl #[.agg #[.string a0_0, .string a0_1, .string a0_2, .string a0_3, .int .i64 a0_4, .int .i64 a0_5, .int .i64 a0_6, .bool a0_7, .bool a0_8, .bool a0_9, .int .i64 a0_10]] (by rfl) rfl rfl xg ?_
  with_reducible refine (cracknelref13_Of.calls a0_0 a0_1 a0_2 a0_3 a0_4 a0_5 a0_6 a0_7 a0_8 a0_9 a0_10 t223 t224 t225 _ A3.out).mono ?_
  rintro e w23 ⟨rfl, hb⟩
  refine ⟨_, rfl, ?_⟩
  have n0_ := blkB BK221 hb
  have n1_ := blkB BK222 hb
  have n2_ := Aside0.mk (below_step xb hb)
  clear BK221
  clear BK222
  clear HB
  have BK221 := n0_
  have BK222 := n1_
  have HB := n2_
  clear n0_ n1_ n2_
  (try clear hb)
  (try clear hb2)
  (try clear hk)
  (try clear hi)
  refine hK.out _ _ xc (fun hHeld => ?_)
  clear hK K
  refine norm_ (a' := ?_) ?_ ?_
  rotate_left
  · show Act.put _ (some 8) _ = _
    simp only [Act.put, List.setIfInBounds_toArray, List.set_cons_zero, List.set_cons_succ, i64_w, i32_w]
    rfl
  refine one_ (i := 3) (N := some 10) #[true, true, true, true, false, true, true, true, true, false, true, true, true, true, false, true, true, true, true, false, true, true, true, true, false, true, true, false, true, true, false, false, true, true, false, true, true, false, false, true, true, false, true, true, false, false, true, true, true, true, false, false, false] rfl rfl (one_of HT_.out (by kernel_rfl)) (by decide) (fun K hK => ?_)
  refine goes_ Tryd.func12 (by kernel_rfl) rfl #[.agg #[.string a1_0, .string a1_1, .string a1_2, .string a1_3, .int .i64 a1_4, .int .i64 a1_5, .int .i64 a1_6, .bool a1_7, .bool a1_8, .bool a1_9, .int .i64 a1_10]] (by rfl) rfl rfl xg ?_
  with_reducible refine (cracknelref13_Of.calls a1_0 a1_1 a1_2 a1_3 a1_4 a1_5 a1_6 a1_7 a1_8 a1_9 a1_10 t226 t227 t228 _ A4.out).mono ?_
  rintro e w24 ⟨rfl, hb⟩
  refine ⟨_, rfl, ?_⟩
  have n0_ := blkB BK221 hb
  have n1_ := blkB BK222 hb
  have n2_ := Aside0.mk (below_step xb hb)
  clear BK221
  clear BK222
  clear HB
  have BK221 := n0_
  have BK222 := n1_
  have HB := n2_
  clear n0_ n1_ n2_
  (try clear hb)
  (try clear hb2)
  (try clear hk)
  (try clear hi)
  refine hK.out _ _ xc (fun hHeld => ?_)
  clear hK K
  refine norm_ (a' := ?_) ?_ ?_
  rotate_left
  · show Act.put _ (some 10) _ = _
    simp only [Act.put, List.setIfInBounds_toArray, List.set_cons_zero, List.set_cons_succ, i64_w, i32_w]
    rfl
  refine one_ (i := 4) (N := some 11) #[true, true, true, true, true, true, true, true, true, false, true, true, true, true, false, true, true, true, true, false, true, true, true, true, false, true, true, false, true, true, false, false, true, true, false, true, true, false, false, true, true, false, true, true, false, false, true, true, true, true, false, false, false] rfl rfl (one_of HT_.out (by kernel_rfl)) (by decide) (fun K hK => ?_)
  refine goes_ Tryd.func13 (by kernel_rfl) rfl #[.agg #[.string t223, .string t224, .string t225], .agg #[.string t226, .string t227, .string t228]] (by rfl) rfl rfl xg ?_
  with_reducible refine (cracknelref13_Keys.calls k t223 t224 t225 t226 t227 t228 t229 _ A5.out).mono ?_
  rintro e w25 ⟨rfl, hb⟩
  refine ⟨_, rfl, ?_⟩
  have n0_ := blkB BK221 hb
  have n1_ := blkB BK222 hb
  have n2_ := Aside0.mk (below_step xb hb)
  clear BK221
  clear BK222
  clear HB
  have BK221 := n0_
  have BK222 := n1_
  have HB := n2_
  clear n0_ n1_ n2_
  (try clear hb)
  (try clear hb2)
  (try clear hk)
  (try clear hi)
  refine hK.out _ _ xc (fun hHeld => ?_)
  clear hK K
  refine norm_ (a' := ?_) ?_ ?_
  rotate_left
  · show Act.put _ (some 11) _ = _
    simp only [Act.put, List.setIfInBounds_toArray, List.set_cons_zero, List.set_cons_succ, i64_w, i32_w]
    rfl
  refine one_ (i := 9) (N := some 16) #[true, true, true, true, true, true, true, true, true, true, true, true, true, true, false, true, true, true, true, false, true, true, true, true, false, true, true, false, true, true, false, false, true, true, false, true, true, false, false, true, true, false, true, true, false, false, true, true, true, true, false, false, false] rfl rfl (one_of HT_.out (by kernel_rfl)) (by decide) (fun K hK => ?_)
  refine goes_ Tryd.func31 (by kernel_rfl) rfl #[.int .i64 a0_4, .int .i64 a1_4] (by rfl) rfl rfl xg ?_
  with_reducible refine (cracknelref13_number.calls a0_4 a1_4 t230 _ A6.out).mono ?_
  rintro e w' ⟨rfl, ⟨nd, rfl⟩⟩
  refine ⟨_, rfl, ?_⟩
  refine hK.out _ _ xc (fun hHeld => ?_)
  clear hK K
  refine norm_ (a' := ?_) ?_ ?_
  rotate_left
  · show Act.put _ (some 16) _ = _
    simp only [Act.put, List.setIfInBounds_toArray, List.set_cons_zero, List.set_cons_succ, i64_w, i32_w]
    rfl
  refine one_ (i := 14) (N := some 21) #[true, true, true, true, true, true, true, true, true, true, true, true, true, true, true, true, true, true, true, false, true, true, true, true, false, true, true, false, true, true, false, false, true, true, false, true, true, false, false, true, true, false, true, true, false, false, true, true, true, true, false, false, false] rfl rfl (one_of HT_.out (by kernel_rfl)) (by decide) (fun K hK => ?_)
  refine goes_ Tryd.func31 (by kernel_rfl) rfl #[.int .i64 a0_5, .int .i64 a1_5] (by rfl) rfl rfl xg ?_
  with_reducible refine (cracknelref13_number.calls a0_5 a1_5 t231 _ A7.out).mono ?_
  rintro e w' ⟨rfl, ⟨nd, rfl⟩⟩
  refine ⟨_, rfl, ?_⟩
  refine hK.out _ _ xc (fun hHeld => ?_)
  clear hK K
  refine norm_ (a' := ?_) ?_ ?_
  rotate_left
  · show Act.put _ (some 21) _ = _
    simp only [Act.put, List.setIfInBounds_toArray, List.set_cons_zero, List.set_cons_succ, i64_w, i32_w]
    rfl
  refine one_ (i := 19) (N := some 26) #[true, true, true, true, true, true, true, true, true, true, true, true, true, true, true, true, true, true, true, true, true, true, true, true, false, true, true, false, true, true, false, false, true, true, false, true, true, false, false, true, true, false, true, true, false, false, true, true, true, true, false, false, false] rfl rfl (one_of HT_.out (by kernel_rfl)) (by decide) (fun K hK => ?_)
  refine goes_ Tryd.func26 (by kernel_rfl) rfl #[.string a0_3, .string a1_3] (by rfl) rfl rfl xg ?_
  with_reducible refine (cracknelref13_Text.calls k a0_3 a1_3 t232 _ A8.out).mono ?_
  rintro e w' ⟨rfl, ⟨nd, rfl⟩⟩
  refine ⟨_, rfl, ?_⟩
  refine hK.out _ _ xc (fun hHeld => ?_)
  clear hK K
  refine norm_ (a' := ?_) ?_ ?_
  rotate_left
  · show Act.put _ (some 26) _ = _
    simp only [Act.put, List.setIfInBounds_toArray, List.set_cons_zero, List.set_cons_succ, i64_w, i32_w]
    rfl
  refine one_ (i := 24) (N := some 31) #[true, true, true, true, true, true, true, true, true, true, true, true, true, true, true, true, true, true, true, true, true, true, true, true, true, true, true, false, true, true, false, false, true, true, false, true, true, false, false, true, true, false, true, true, false, false, true, true, true, true, false, false, false] rfl rfl (one_of HT_.out (by kernel_rfl)) (by decide) (fun K hK => ?_)
  refine goes_ Tryd.func31 (by kernel_rfl) rfl #[.int .i64 a0_6, .int .i64 a1_6] (by rfl) rfl rfl xg ?_
  with_reducible refine (cracknelref13_number.calls a0_6 a1_6 t233 _ A9.out).mono ?_
  rintro e w' ⟨rfl, ⟨nd, rfl⟩⟩
  refine ⟨_, rfl, ?_⟩
  refine hK.out _ _ xc (fun hHeld => ?_)
  clear hK K
  refine norm_ (a' := ?_) ?_ ?_
  rotate_left
  · show Act.put _ (some 31) _ = _
    simp only [Act.put, List.setIfInBounds_toArray, List.set_cons_zero, List.set_cons_succ, i64_w, i32_w]
    rfl
  refine one_ (i := 27) (N := some 34) #[true, true, true, true, true, true, true, true, true, true, true, true, true, true, true, true, true, true, true, true, true, true, true, true, true, true, true, true, true, true, false, false, true, true, false, true, true, false, false, true, true, false, true, true, false, false, true, true, true, true, false, false, false] rfl rfl (one_of HT_.out (by kernel_rfl)) (by decide) (fun K hK => ?_)
  refine goes_ Tryd.func32 (by kernel_rfl) rfl #[.bool a0_7] (by rfl) rfl rfl xg ?_
  with_reducible refine (cracknelref13_bit.calls a0_7 t234 _ A10.out).mono ?_
  rintro e w' ⟨rfl, ⟨nd, rfl⟩⟩
  refine ⟨_, rfl, ?_⟩
  refine hK.out _ _ xc (fun hHeld => ?_)
  clear hK K
  refine norm_ (a' := ?_) ?_ ?_
  rotate_left
  · show Act.put _ (some 34) _ = _
    simp only [Act.put, List.setIfInBounds_toArray, List.set_cons_zero, List.set_cons_succ, i64_w, i32_w]
    rfl
  refine one_ (i := 30) (N := some 37) #[true, true, true, true, true, true, true, true, true, true, true, true, true, true, true, true, true, true, true, true, true, true, true, true, true, true, true, true, true, true, true, false, true, true, false, true, true, false, false, true, true, false, true, true, false, false, true, true, true, true, false, false, false] rfl rfl (one_of HT_.out (by kernel_rfl)) (by decide) (fun K hK => ?_)
  refine goes_ Tryd.func32 (by kernel_rfl) rfl #[.bool a1_7] (by rfl) rfl rfl xg ?_
  with_reducible refine (cracknelref13_bit.calls a1_7 t235 _ A11.out).mono ?_
  rintro e w' ⟨rfl, ⟨nd, rfl⟩⟩
  refine ⟨_, rfl, ?_⟩
  refine hK.out _ _ xc (fun hHeld => ?_)
  clear hK K
  refine norm_ (a' := ?_) ?_ ?_
  rotate_left
  · show Act.put _ (some 37) _ = _
    simp only [Act.put, List.setIfInBounds_toArray, List.set_cons_zero, List.set_cons_succ, i64_w, i32_w]
    rfl
  refine one_ (i := 31) (N := some 38) #[true, true, true, true, true, true, true, true, true, true, true, true, true, true, true, true, true, true, true, true, true, true, true, true, true, true, true, true, true, true, true, true, true, true, false, true, true, false, false, true, true, false, true, true, false, false, true, true, true, true, false, false, false] rfl rfl (one_of HT_.out (by kernel_rfl)) (by decide) (fun K hK => ?_)
  refine goes_ Tryd.func31 (by kernel_rfl) rfl #[.int .i64 t234, .int .i64 t235] (by rfl) rfl rfl xg ?_
  with_reducible refine (cracknelref13_number.calls t234 t235 t236 _ A12.out).mono ?_
  rintro e w' ⟨rfl, ⟨nd, rfl⟩⟩
  refine ⟨_, rfl, ?_⟩
  refine hK.out _ _ xc (fun hHeld => ?_)
  clear hK K
  refine norm_ (a' := ?_) ?_ ?_
  rotate_left
  · show Act.put _ (some 38) _ = _
    simp only [Act.put, List.setIfInBounds_toArray, List.set_cons_zero, List.set_cons_succ, i64_w, i32_w]
    rfl
  refine one_ (i := 34) (N := some 41) #[true, true, true, true, true, true, true, true, true, true, true, true, true, true, true, true, true, true, true, true, true, true, true, true, true, true, true, true, true, true, true, true, true, true, true, true, true, false, false, true, true, false, true, true, false, false, true, true, true, true, false, false, false] rfl rfl (one_of HT_.out (by kernel_rfl)) (by decide) (fun K hK => ?_)
  refine goes_ Tryd.func32 (by kernel_rfl) rfl #[.bool a0_8] (by rfl) rfl rfl xg ?_
  with_reducible refine (cracknelref13_bit.calls a0_8 t237 _ A13.out).mono ?_
  rintro e w' ⟨rfl, ⟨nd, rfl⟩⟩
  refine ⟨_, rfl, ?_⟩
  refine hK.out _ _ xc (fun hHeld => ?_)
  clear hK K
  refine norm_ (a' := ?_) ?_ ?_
  rotate_left
  · show Act.put _ (some 41) _ = _
    simp only [Act.put, List.setIfInBounds_toArray, List.set_cons_zero, List.set_cons_succ, i64_w, i32_w]
    rfl
  refine one_ (i := 37) (N := some 44) #[true, true, true, true, true, true, true, true, true, true, true, true, true, true, true, true, true, true, true, true, true, true, true, true, true, true, true, true, true, true, true, true, true, true, true, true, true, true, false, true, true, false, true, true, false, false, true, true, true, true, false, false, false] rfl rfl (one_of HT_.out (by kernel_rfl)) (by decide) (fun K hK => ?_)
  refine goes_ Tryd.func32 (by kernel_rfl) rfl #[.bool a1_8] (by rfl) rfl rfl xg ?_
  with_reducible refine (cracknelref13_bit.calls a1_8 t238 _ A14.out).mono ?_
  rintro e w' ⟨rfl, ⟨nd, rfl⟩⟩
  refine ⟨_, rfl, ?_⟩
  refine hK.out _ _ xc (fun hHeld => ?_)
  clear hK K
  refine norm_ (a' := ?_) ?_ ?_
  rotate_left
  · show Act.put _ (some 44) _ = _
    simp only [Act.put, List.setIfInBounds_toArray, List.set_cons_zero, List.set_cons_succ, i64_w, i32_w]
    rfl
  refine one_ (i := 38) (N := some 45) #[true, true, true, true, true, true, true, true, true, true, true, true, true, true, true, true, true, true, true, true, true, true, true, true, true, true, true, true, true, true, true, true, true, true, true, true, true, true, true, true, true, false, true, true, false, false, true, true, true, true, false, false, false] rfl rfl (one_of HT_.out (by kernel_rfl)) (by decide) (fun K hK => ?_)
  refine goes_ Tryd.func31 (by kernel_rfl) rfl #[.int .i64 t237, .int .i64 t238] (by rfl) rfl rfl xg ?_
  with_reducible refine (cracknelref13_number.calls t237 t238 t239 _ A15.out).mono ?_
  rintro e w' ⟨rfl, ⟨nd, rfl⟩⟩
  refine ⟨_, rfl, ?_⟩
  refine hK.out _ _ xc (fun hHeld => ?_)
  clear hK K
  refine norm_ (a' := ?_) ?_ ?_
  rotate_left
  · show Act.put _ (some 45) _ = _
    simp only [Act.put, List.setIfInBounds_toArray, List.set_cons_zero, List.set_cons_succ, i64_w, i32_w]
    rfl
  refine one_ (i := 41) (N := some 48) #[true, true, true, true, true, true, true, true, true, true, true, true, true, true, true, true, true, true, true, true, true, true, true, true, true, true, true, true, true, true, true, true, true, true, true, true, true, true, true, true, true, true, true, true, false, false, true, true, true, true, false, false, false] rfl rfl (one_of HT_.out (by kernel_rfl)) (by decide) (fun K hK => ?_)
  refine goes_ Tryd.func32 (by kernel_rfl) rfl #[.bool a0_9] (by rfl) rfl rfl xg ?_
  with_reducible refine (cracknelref13_bit.calls a0_9 t240 _ A16.out).mono ?_
  rintro e w' ⟨rfl, ⟨nd, rfl⟩⟩
  refine ⟨_, rfl, ?_⟩
  refine hK.out _ _ xc (fun hHeld => ?_)
  clear hK K
  refine norm_ (a' := ?_) ?_ ?_
  rotate_left
  · show Act.put _ (some 48) _ = _
    simp only [Act.put, List.setIfInBounds_toArray, List.set_cons_zero, List.set_cons_succ, i64_w, i32_w]
    rfl
  refine one_ (i := 44) (N := some 51) #[true, true, true, true, true, true, true, true, true, true, true, true, true, true, true, true, true, true, true, true, true, true, true, true, true, true, true, true, true, true, true, true, true, true, true, true, true, true, true, true, true, true, true, true, true, false, true, true, true, true, false, false, false] rfl rfl (one_of HT_.out (by kernel_rfl)) (by decide) (fun K hK => ?_)
  refine goes_ Tryd.func32 (by kernel_rfl) rfl #[.bool a1_9] (by rfl) rfl rfl xg ?_
  with_reducible refine (cracknelref13_bit.calls a1_9 t241 _ A17.out).mono ?_
  rintro e w' ⟨rfl, ⟨nd, rfl⟩⟩
  refine ⟨_, rfl, ?_⟩
  refine hK.out _ _ xc (fun hHeld => ?_)
  clear hK K
  refine norm_ (a' := ?_) ?_ ?_
  rotate_left
  · show Act.put _ (some 51) _ = _
    simp only [Act.put, List.setIfInBounds_toArray, List.set_cons_zero, List.set_cons_succ, i64_w, i32_w]
    rfl
  refine one_ (i := 45) (N := some 52) #[true, true, true, true, true, true, true, true, true, true, true, true, true, true, true, true, true, true, true, true, true, true, true, true, true, true, true, true, true, true, true, true, true, true, true, true, true, true, true, true, true, true, true, true, true, true, true, true, true, true, false, false, false] rfl rfl (one_of HT_.out (by kernel_rfl)) (by decide) (fun K hK => ?_)
  refine goes_ Tryd.func31 (by kernel_rfl) rfl #[.int .i64 t240, .int .i64 t241] (by rfl) rfl rfl xg ?_
  with_reducible refine (cracknelref13_number.calls t240 t241 t242 _ A18.out).mono ?_
  rintro e w' ⟨rfl, ⟨nd, rfl⟩⟩
  refine ⟨_, rfl, ?_⟩
  refine hK.out _ _ xc (fun hHeld => ?_)
  clear hK K
  refine norm_ (a' := ?_) ?_ ?_
  rotate_left
  · show Act.put _ (some 52) _ = _
    simp only [Act.put, List.setIfInBounds_toArray, List.set_cons_zero, List.set_cons_succ, i64_w, i32_w]
    rfl
  refine one_ (i := 50) (N := some 57) #[true, true, true, true, true, true, true, true, true, true, true, true, true, true, true, true, true, true, true, true, true, true, true, true, true, true, true, true, true, true, true, true, true, true, true, true, true, true, true, true, true, true, true, true, true, true, true, true, true, true, true, false, false] rfl rfl (one_of HT_.out (by kernel_rfl)) (by decide) (fun K hK => ?_)
  refine goes_ Tryd.func31 (by kernel_rfl) rfl #[.int .i64 a0_10, .int .i64 a1_10] (by rfl) rfl rfl xg ?_
  with_reducible refine (cracknelref13_number.calls a0_10 a1_10 t243 _ A19.out).mono ?_
  rintro e w' ⟨rfl, ⟨nd, rfl⟩⟩
  refine ⟨_, rfl, ?_⟩
  refine hK.out _ _ xc (fun hHeld => ?_)
  clear hK K
  refine norm_ (a' := ?_) ?_ ?_
  rotate_left
  · show Act.put _ (some 57) _ = _
    simp only [Act.put, List.setIfInBounds_toArray, List.set_cons_zero, List.set_cons_succ, i64_w, i32_w]
    rfl
  refine one_ (i := 51) (N := some 58) #[true, true, true, true, true, true, true, true, true, true, true, true, true, true, true, true, true, true, true, true, true, true, true, true, true, true, true, true, true, true, true, true, true, true, true, true, true, true, true, true, true, true, true, true, true, true, true, true, true, true, true, true, false] rfl rfl (one_of HT_.out (by kernel_rfl)) (by decide) (fun K hK => ?_)
  refine Kd.R_lit_step (Kd.int .i64) _ 3 ?hg (N := 58) ?hd (xs := ([t229, t230, t231, t232, t233, t236, t239, t242, t243] : List Int)) (inner := [.int .i64 t229, .int .i64 t230, .int .i64 t231, .int .i64 t232, .int .i64 t233, .int .i64 t236, .int .i64 t239, .int .i64 t242, .int .i64 t243]) (ok := fun _ => True) (okp := fun _ => True) ?hr ?hp (fun _ hk => hk) trivial (Below.refl _ _) (Nat.le_refl _) (by simp) ?_; (case hd => rfl); (case hg => rfl); (case hr => first | (go_simp; done) | (go_simp; rfl)); (case hp => exact (Reps.one (show Kd.M (Kd.int .i64) _ _ _ t229 [.int .i64 t229] from rfl) (Reps.one (show Kd.M (Kd.int .i64) _ _ _ t230 [.int .i64 t230] from rfl) (Reps.one (show Kd.M (Kd.int .i64) _ _ _ t231 [.int .i64 t231] from rfl) (Reps.one (show Kd.M (Kd.int .i64) _ _ _ t232 [.int .i64 t232] from rfl) (Reps.one (show Kd.M (Kd.int .i64) _ _ _ t233 [.int .i64 t233] from rfl) (Reps.one (show Kd.M (Kd.int .i64) _ _ _ t236 [.int .i64 t236] from rfl) (Reps.one (show Kd.M (Kd.int .i64) _ _ _ t239 [.int .i64 t239] from rfl) (Reps.one (show Kd.M (Kd.int .i64) _ _ _ t242 [.int .i64 t242] from rfl) (Reps.one (show Kd.M (Kd.int .i64) _ _ _ t243 [.int .i64 t243] from rfl) (Reps.none _ _)))))))))))
  intro v245 w26 ho27 hb hg_ hnew_
  clear hg_ hnew_
  (first | rw [← Ny244.out] at ho27 | (simp only [Int.reduceToNat] at ho27; rw [← Ny244.out] at ho27))
  have n0_ := Aside0.mk (Kd.R_lower ho27 (below_size xb))
  have n1_ := blkB BK221 hb
  have n2_ := blkB BK222 hb
  have n3_ := Aside0.mk (below_step xb hb)
  clear BK221
  clear BK222
  clear HB
  have HO246 := n0_
  have BK221 := n1_
  have BK222 := n2_
  have HB := n3_
  clear n0_ n1_ n2_ n3_
  clear hb ho27
  refine hK.out _ _ xc (fun hHeld => ?_)
  clear hK K
  refine norm_ (a' := ?_) ?_ ?_
  rotate_left
  · show Act.put _ (some 58) _ = _
    simp only [Act.put, List.setIfInBounds_toArray, List.set_cons_zero, List.set_cons_succ, i64_w, i32_w]
    rfl
  refine pure_ (i := 52) (N := some 5) (v := ?_) (a' := ?_) #[true, true, true, true, true, true, true, true, true, true, true, true, true, true, true, true, true, true, true, true, true, true, true, true, true, true, true, true, true, true, true, true, true, true, true, true, true, true, true, true, true, true, true, true, true, true, true, true, true, true, true, true, true] rfl rfl (any_of HT_.out (by kernel_rfl)) (fun _ _ _ h => h) (Or.inl ⟨by rfl, ?_⟩) ?_ ?_
  rotate_left
  · intro w'
    go_simp
    with_reducible rfl
  rotate_left
  · simp only [Act.put, List.setIfInBounds_toArray, List.set_cons_zero, List.set_cons_succ, i64_w, i32_w]
    rfl
  refine done_ (done_of HT_.out (by kernel_rfl)) ?_
  try go_wp2
  go_loopg [6] k (fun kq v6 w' => ∃ (x6_1 : Int), v6 = .int .i64 x6_1 ∧ Aside0 (cracknelref13_Cmp.l0 kq y244 x6_1 = some r) ∧ Aside0 (kq ≤ k) ∧ Aside0 (Kd.R (Kd.int .i64) 3 w' w.heap.size (fun _ => True) v245 y244) ∧ Aside0 (w'.heap[gb221]? = some (.cells #[.string a0_0, .string a0_1, .string a0_2, .string a0_3, .int .i64 a0_4, .int .i64 a0_5, .int .i64 a0_6, .bool a0_7, .bool a0_8, .bool a0_9, .int .i64 a0_10] 23 (0, 0))) ∧ Aside0 (w'.heap[gb222]? = some (.cells #[.string a1_0, .string a1_1, .string a1_2, .string a1_3, .int .i64 a1_4, .int .i64 a1_5, .int .i64 a1_6, .bool a1_7, .bool a1_8, .bool a1_9, .int .i64 a1_10] 23 (0, 0))) ∧ Aside0 (Below w.heap.size w w'))
  case atStart => exact ⟨(0), (by first | rfl | (simp; done) | (simp [*]; done)), H', ⟨Nat.le_refl _⟩, ⟨by (with_reducible repeat (first | apply Kd.R_alloc | apply Kd.R_drewN | apply Kd.R_drew)); exact HO246.out⟩, ⟨xk⟩, ⟨xk⟩, ⟨xb⟩⟩
  case round =>
    clear H'
    try clear c1
    try clear c2
    try clear p2
    try clear c3
    try clear p3
    try clear p6
    try clear c12
    try clear c13
    try clear c15
    try clear c26
    obtain ⟨x6_1, rfl, HA, HK1, HO_5, BK221, BK222, HB⟩ := hrel
    cases gk with
    | zero => exact absurd HA.out (by simp [cracknelref13_Cmp.l0])
    | succ k1 =>
      have H := HA.out
      clear HA
      simp only [cracknelref13_Cmp.l0] at H
      by_cases c28 : x6_1 < (y244.length : Int)
      · rw [if_pos c28] at H
        have c28b0 : decide (x6_1 < (y244.length : Int)) = true := decide_eq_true c28
        clear c28
        by_cases c29 : 0 ≤ x6_1
        · rw [if_pos c29] at H
          have c29b0 : decide (0 ≤ x6_1) = true := decide_eq_true c29
          clear c29
          by_cases c30 : (rd y244 x6_1) = 0
          · rw [if_pos c30] at H
            have c30b0 : ((rd y244 x6_1) == 0) = true := beq_iff_eq.mpr c30
            have c30b1 : ((rd y244 x6_1) != 0) = false := bne_eq_false_iff_eq.mpr c30
            clear c30
            have H' := Aside0.mk H
            clear H
            obtain ⟨Ao31, co31, eo31⟩ := Kd.R_slice HO_5.out
            subst eo31
            have p247 : 0 ≤ (x6_1 : Int) := of_decide_eq_true (by first | (with_reducible assumption) | assumption)
            have q247 : x6_1 < (y244.length : Int) := of_decide_eq_true (by first | (with_reducible assumption) | assumption)
            obtain ⟨ad247, e247, hx247_0⟩ := Kd.at_int (Kd.R_reads' HO_5.out).2.2 x6_1 p247 q247
            cases e247
            replace p247 := eq_true p247
            replace q247 := eq_true q247
            go_wp2
            go_roundg k1
            case measure => have := HK1.out; omega
            case rel => exact ⟨(wrap64 (x6_1 + 1)), (by first | rfl | (simp; done) | (simp [*]; done)), H', ⟨by have := HK1.out; omega⟩, ⟨by (with_reducible repeat (first | apply Kd.R_alloc | apply Kd.R_drewN | apply Kd.R_drew)); exact HO_5.out⟩, ⟨xk⟩, ⟨xk⟩, ⟨xb⟩⟩
          · rw [if_neg c30] at H
            have c30b0 : ((rd y244 x6_1) == 0) = false := beq_eq_false_iff_ne.mpr c30
            have c30b1 : ((rd y244 x6_1) != 0) = true := bne_iff_ne.mpr c30
            obtain rfl := Option.some.inj H
            obtain ⟨Ao32, co32, eo32⟩ := Kd.R_slice HO_5.out
            subst eo32
            have p247 : 0 ≤ (x6_1 : Int) := of_decide_eq_true (by first | (with_reducible assumption) | assumption)
            have q247 : x6_1 < (y244.length : Int) := of_decide_eq_true (by first | (with_reducible assumption) | assumption)
            obtain ⟨ad247, e247, hx247_0⟩ := Kd.at_int (Kd.R_reads' HO_5.out).2.2 x6_1 p247 q247
            cases e247
            replace p247 := eq_true p247
            replace q247 := eq_true q247
            have p248 : 0 ≤ (x6_1 : Int) := of_decide_eq_true (by first | (with_reducible assumption) | assumption)
            have q248 : x6_1 < (y244.length : Int) := of_decide_eq_true (by first | (with_reducible assumption) | assumption)
            obtain ⟨ad248, e248, hx248_0⟩ := Kd.at_int (Kd.R_reads' HO_5.out).2.2 x6_1 p248 q248
            obtain rfl : ad247 = ad248 := (by injection e248)
            replace p248 := eq_true p248
            replace q248 := eq_true q248
            go_wp2
            go_ret
            exact ⟨by first | rfl | (simp [errW_none, errW_some] <;> rfl) | (simp [*, errW_none, errW_some] <;> rfl), by repeat (first | (with_reducible first | exact HB.out | apply below_alloc | apply pw_below_drewN | apply below_drew1 | refine below_set ?_ GE221.out | refine below_set ?_ GE222.out) | exact HB.out)⟩
        · rw [if_neg c29] at H
          exact absurd H (by simp)
      · rw [if_neg c28] at H
        have c28b0 : decide (x6_1 < (y244.length : Int)) = false := decide_eq_false c28
        clear c28
        obtain rfl := Option.some.inj H
        obtain ⟨Ao33, co33, eo33⟩ := Kd.R_slice HO_5.out
        subst eo33
        go_wp2
        go_ret
        exact ⟨by first | rfl | (simp [errW_none, errW_some] <;> rfl) | (simp [*, errW_none, errW_some] <;> rfl), by repeat (first | (with_reducible first | exact HB.out | apply below_alloc | apply pw_below_drewN | apply below_drew1 | refine below_set ?_ GE221.out | refine below_set ?_ GE222.out) | exact HB.out)⟩

/-! ### cracknelref13_Greater: function 17 -/
def cracknelref13_Greater.f (k : Nat) (a0_0 : ByteArray) (a0_1 : ByteArray) (a0_2 : ByteArray) (a0_3 : ByteArray) (a0_4 : Int) (a0_5 : Int) (a0_6 : Int) (a0_7 : Bool) (a0_8 : Bool) (a0_9 : Bool) (a0_10 : Int) (a1_0 : ByteArray) (a1_1 : ByteArray) (a1_2 : ByteArray) (a1_3 : ByteArray) (a1_4 : Int) (a1_5 : Int) (a1_6 : Int) (a1_7 : Bool) (a1_8 : Bool) (a1_9 : Bool) (a1_10 : Int) : Option (ByteArray × ByteArray × ByteArray × ByteArray × Int × Int × Int × Bool × Bool × Bool × Int) := (cracknelref13_Cmp.f k a0_0 a0_1 a0_2 a0_3 a0_4 a0_5 a0_6 a0_7 a0_8 a0_9 a0_10 a1_0 a1_1 a1_2 a1_3 a1_4 a1_5 a1_6 a1_7 a1_8 a1_9 a1_10).bind fun t252 => (if t252 < 0 then (some (a1_0, a1_1, a1_2, a1_3, a1_4, a1_5, a1_6, a1_7, a1_8, a1_9, a1_10)) else (some (a0_0, a0_1, a0_2, a0_3, a0_4, a0_5, a0_6, a0_7, a0_8, a0_9, a0_10)))
theorem cracknelref13_Greater.mono : ∀ a0 a1 a2 a3 a4 a5 a6 a7 a8 a9 a10 a11 a12 a13 a14 a15 a16 a17 a18 a19 a20 a21 k, LeO (cracknelref13_Greater.f k a0 a1 a2 a3 a4 a5 a6 a7 a8 a9 a10 a11 a12 a13 a14 a15 a16 a17 a18 a19 a20 a21) (cracknelref13_Greater.f (k + 1) a0 a1 a2 a3 a4 a5 a6 a7 a8 a9 a10 a11 a12 a13 a14 a15 a16 a17 a18 a19 a20 a21) := by
  intro a0 a1 a2 a3 a4 a5 a6 a7 a8 a9 a10 a11 a12 a13 a14 a15 a16 a17 a18 a19 a20 a21 k
  unfold cracknelref13_Greater.f
  repeat' first
      | (with_reducible exact cracknelref13_Cmp.mono _ _ _ _ _ _ _ _ _ _ _ _ _ _ _ _ _ _ _ _ _ _ _)
      | (with_reducible exact LeO.refl _)
      | (with_reducible exact LeO.none _)
      | (with_reducible refine LeO.ite ?_ ?_)
      | (with_reducible refine LeO.bind ?_ (fun _ => ?_))
      | exact cracknelref13_Cmp.mono _ _ _ _ _ _ _ _ _ _ _ _ _ _ _ _ _ _ _ _ _ _ _
      | exact LeO.none _
      | refine LeO.ite ?_ ?_
      | refine LeO.bind ?_ (fun _ => ?_)
set_option maxHeartbeats 8000000 in
set_option maxRecDepth 100000 in
theorem cracknelref13_Greater.calls (k : Nat) (a0_0 : ByteArray) (a0_1 : ByteArray) (a0_2 : ByteArray) (a0_3 : ByteArray) (a0_4 : Int) (a0_5 : Int) (a0_6 : Int) (a0_7 : Bool) (a0_8 : Bool) (a0_9 : Bool) (a0_10 : Int) (a1_0 : ByteArray) (a1_1 : ByteArray) (a1_2 : ByteArray) (a1_3 : ByteArray) (a1_4 : Int) (a1_5 : Int) (a1_6 : Int) (a1_7 : Bool) (a1_8 : Bool) (a1_9 : Bool) (a1_10 : Int) (r1 : ByteArray) (r2 : ByteArray) (r3 : ByteArray) (r4 : ByteArray) (r5 : Int) (r6 : Int) (r7 : Int) (r8 : Bool) (r9 : Bool) (r10 : Bool) (r11 : Int) (w : World) (h : cracknelref13_Greater.f k a0_0 a0_1 a0_2 a0_3 a0_4 a0_5 a0_6 a0_7 a0_8 a0_9 a0_10 a1_0 a1_1 a1_2 a1_3 a1_4 a1_5 a1_6 a1_7 a1_8 a1_9 a1_10 = some (r1, r2, r3, r4, r5, r6, r7, r8, r9, r10, r11)) :
    Calls Tryd.prog 17 #[.agg #[.string a0_0, .string a0_1, .string a0_2, .string a0_3, .int .i64 a0_4, .int .i64 a0_5, .int .i64 a0_6, .bool a0_7, .bool a0_8, .bool a0_9, .int .i64 a0_10], .agg #[.string a1_0, .string a1_1, .string a1_2, .string a1_3, .int .i64 a1_4, .int .i64 a1_5, .int .i64 a1_6, .bool a1_7, .bool a1_8, .bool a1_9, .int .i64 a1_10]] w fun e w' => e = .returned (.agg #[.string r1, .string r2, .string r3, .string r4, .int .i64 r5, .int .i64 r6, .int .i64 r7, .bool r8, .bool r9, .bool r10, .int .i64 r11]) ∧ Below w.heap.size w w' := by
  have hu23 := Tryd.underlying23
  have HB := Aside0.mk (Below.refl w.heap.size w)
  have H : ((cracknelref13_Cmp.f k a0_0 a0_1 a0_2 a0_3 a0_4 a0_5 a0_6 a0_7 a0_8 a0_9 a0_10 a1_0 a1_1 a1_2 a1_3 a1_4 a1_5 a1_6 a1_7 a1_8 a1_9 a1_10).bind fun t252 => (if t252 < 0 then (some (a1_0, a1_1, a1_2, a1_3, a1_4, a1_5, a1_6, a1_7, a1_8, a1_9, a1_10)) else (some (a0_0, a0_1, a0_2, a0_3, a0_4, a0_5, a0_6, a0_7, a0_8, a0_9, a0_10)))) = some (r1, r2, r3, r4, r5, r6, r7, r8, r9, r10, r11) := h
  clear h
  replace H := Option.bind_eq_some_iff.mp H
  obtain ⟨t252, A30, H⟩ := H
  replace H : (if t252 < 0 then (some (a1_0, a1_1, a1_2, a1_3, a1_4, a1_5, a1_6, a1_7, a1_8, a1_9, a1_10)) else (some (a0_0, a0_1, a0_2, a0_3, a0_4, a0_5, a0_6, a0_7, a0_8, a0_9, a0_10))) = some (r1, r2, r3, r4, r5, r6, r7, r8, r9, r10, r11) := H
  have A3 := Aside0.mk A30
  clear A30
  by_cases c4 : t252 < 0
  · rw [if_pos c4] at H
    have c4b0 : decide (t252 < 0) = true := decide_eq_true c4
    clear c4
    simp only [Option.some.injEq, Prod.mk.injEq] at H
    obtain ⟨rfl, rfl, rfl, rfl, rfl, rfl, rfl, rfl, rfl, rfl, rfl⟩ := H
    go_enter Tryd.func17, Tryd.ntmps17
    go_wp2_with (first | ((with_reducible refine gate_dst (N := 2) rfl ?_); refine box_event ?hg (N := 2) ?hd (cs := #[.string a0_0, .string a0_1, .string a0_2, .string a0_3, .int .i64 a0_4, .int .i64 a0_5, .int .i64 a0_6, .bool a0_7, .bool a0_8, .bool a0_9, .int .i64 a0_10]) (t := 23) ?hr ?_; (case hd => rfl); (case hg => rfl); (case hr => first | (go_simp; done) | (go_simp; rfl)); intro gb249 hg w5 hbox hb; have n0_ := Aside0.mk (below_step xb hb); have n1_ := Aside0.mk (hbox); have n2_ := Aside0.mk ((by rw [hg]; exact (below_size xb) : w.heap.size ≤ gb249)); have n3_ := Aside0.mk ((by rw [hg]; exact (below_size xb) : w.heap.size ≤ gb249)); clear HB; have HB := n0_; have BK249 := n1_; have GW249 := n2_; have GE249 := n3_; clear n0_ n1_ n2_ n3_; clear hb hbox hg) | ((with_reducible refine gate_dst (N := 3) rfl ?_); refine box_event ?hg (N := 3) ?hd (cs := #[.string a1_0, .string a1_1, .string a1_2, .string a1_3, .int .i64 a1_4, .int .i64 a1_5, .int .i64 a1_6, .bool a1_7, .bool a1_8, .bool a1_9, .int .i64 a1_10]) (t := 23) ?hr ?_; (case hd => rfl); (case hg => rfl); (case hr => first | (go_simp; done) | (go_simp; rfl)); intro gb250 hg w6 hbox hb; have n0_ := blkB BK249 hb; have n1_ := Aside0.mk (below_step xb hb); have n2_ := Aside0.mk (hbox); have n3_ := Aside0.mk ((by rw [hg]; exact (below_size xb) : w.heap.size ≤ gb250)); have n4_ := Aside0.mk ((by rw [hg]; exact (below_size xb) : w.heap.size ≤ gb250)); have n5_ := Aside0.mk ((by rw [hg]; exact Nat.ne_of_lt (blkL BK249) : gb249 ≠ gb250)); have n6_ := Aside0.mk ((by rw [hg]; exact Nat.ne_of_gt (blkL BK249) : gb250 ≠ gb249)); clear BK249; clear HB; have BK249 := n0_; have HB := n1_; have BK250 := n2_; have GW250 := n3_; have GE250 := n4_; have NB249_250 := n5_; have NB250_249 := n6_; clear n0_ n1_ n2_ n3_ n4_ n5_ n6_; clear hb hbox hg) | ((with_reducible refine gate_dst (N := 4) rfl ?_); refine box_event ?hg (N := 4) ?hd (cs := #[.string (⟨#[]⟩ : ByteArray), .string (⟨#[]⟩ : ByteArray), .string (⟨#[]⟩ : ByteArray), .string (⟨#[]⟩ : ByteArray), .int .i64 0, .int .i64 0, .int .i64 0, .bool false, .bool false, .bool false, .int .i64 0]) (t := 23) ?hr ?_; (case hd => rfl); (case hg => rfl); (case hr => first | (go_simp; done) | (go_simp; rfl)); intro gb251 hg w7 hbox hb; have n0_ := blkB BK249 hb; have n1_ := blkB BK250 hb; have n2_ := Aside0.mk (below_step xb hb); have n3_ := Aside0.mk (hbox); have n4_ := Aside0.mk ((by rw [hg]; exact (below_size xb) : w.heap.size ≤ gb251)); have n5_ := Aside0.mk ((by rw [hg]; exact (below_size xb) : w.heap.size ≤ gb251)); have n6_ := Aside0.mk ((by rw [hg]; exact Nat.ne_of_lt (blkL BK249) : gb249 ≠ gb251)); have n7_ := Aside0.mk ((by rw [hg]; exact Nat.ne_of_gt (blkL BK249) : gb251 ≠ gb249)); have n8_ := Aside0.mk ((by rw [hg]; exact Nat.ne_of_lt (blkL BK250) : gb250 ≠ gb251)); have n9_ := Aside0.mk ((by rw [hg]; exact Nat.ne_of_gt (blkL BK250) : gb251 ≠ gb250)); clear BK249; clear BK250; clear HB; have BK249 := n0_; have BK250 := n1_; have HB := n2_; have BK251 := n3_; have GW251 := n4_; have GE251 := n5_; have NB249_251 := n6_; have NB251_249 := n7_; have NB250_251 := n8_; have NB251_250 := n9_; clear n0_ n1_ n2_ n3_ n4_ n5_ n6_ n7_ n8_ n9_; clear hb hbox hg; have hnb8 := NB249_250.out; have hnc8 := NB250_249.out; have hnb9 := NB249_251.out; have hnc9 := NB251_249.out; have hcz10_0 : w7.cell? ⟨gb249, 0, none⟩ = some (.string a0_0) := (blk_cell BK249.out 0).trans rfl; have hcz10_1 : w7.cell? ⟨gb249, 1, none⟩ = some (.string a0_1) := (blk_cell BK249.out 1).trans rfl; have hcz10_2 : w7.cell? ⟨gb249, 2, none⟩ = some (.string a0_2) := (blk_cell BK249.out 2).trans rfl; have hcz10_3 : w7.cell? ⟨gb249, 3, none⟩ = some (.string a0_3) := (blk_cell BK249.out 3).trans rfl; have hcz10_4 : w7.cell? ⟨gb249, 4, none⟩ = some (.int .i64 a0_4) := (blk_cell BK249.out 4).trans rfl; have hcz10_5 : w7.cell? ⟨gb249, 5, none⟩ = some (.int .i64 a0_5) := (blk_cell BK249.out 5).trans rfl; have hcz10_6 : w7.cell? ⟨gb249, 6, none⟩ = some (.int .i64 a0_6) := (blk_cell BK249.out 6).trans rfl; have hcz10_7 : w7.cell? ⟨gb249, 7, none⟩ = some (.bool a0_7) := (blk_cell BK249.out 7).trans rfl; have hcz10_8 : w7.cell? ⟨gb249, 8, none⟩ = some (.bool a0_8) := (blk_cell BK249.out 8).trans rfl; have hcz10_9 : w7.cell? ⟨gb249, 9, none⟩ = some (.bool a0_9) := (blk_cell BK249.out 9).trans rfl; have hcz10_10 : w7.cell? ⟨gb249, 10, none⟩ = some (.int .i64 a0_10) := (blk_cell BK249.out 10).trans rfl; have hfz10_0 := blk_frozen BK249.out 0; have hfz10_1 := blk_frozen BK249.out 1; have hfz10_2 := blk_frozen BK249.out 2; have hfz10_3 := blk_frozen BK249.out 3; have hfz10_4 := blk_frozen BK249.out 4; have hfz10_5 := blk_frozen BK249.out 5; have hfz10_6 := blk_frozen BK249.out 6; have hfz10_7 := blk_frozen BK249.out 7; have hfz10_8 := blk_frozen BK249.out 8; have hfz10_9 := blk_frozen BK249.out 9; have hfz10_10 := blk_frozen BK249.out 10; have hnb11 := NB250_251.out; have hnc11 := NB251_250.out; have hcz12_0 : w7.cell? ⟨gb250, 0, none⟩ = some (.string a1_0) := (blk_cell BK250.out 0).trans rfl; have hcz12_1 : w7.cell? ⟨gb250, 1, none⟩ = some (.string a1_1) := (blk_cell BK250.out 1).trans rfl; have hcz12_2 : w7.cell? ⟨gb250, 2, none⟩ = some (.string a1_2) := (blk_cell BK250.out 2).trans rfl; have hcz12_3 : w7.cell? ⟨gb250, 3, none⟩ = some (.string a1_3) := (blk_cell BK250.out 3).trans rfl; have hcz12_4 : w7.cell? ⟨gb250, 4, none⟩ = some (.int .i64 a1_4) := (blk_cell BK250.out 4).trans rfl; have hcz12_5 : w7.cell? ⟨gb250, 5, none⟩ = some (.int .i64 a1_5) := (blk_cell BK250.out 5).trans rfl; have hcz12_6 : w7.cell? ⟨gb250, 6, none⟩ = some (.int .i64 a1_6) := (blk_cell BK250.out 6).trans rfl; have hcz12_7 : w7.cell? ⟨gb250, 7, none⟩ = some (.bool a1_7) := (blk_cell BK250.out 7).trans rfl; have hcz12_8 : w7.cell? ⟨gb250, 8, none⟩ = some (.bool a1_8) := (blk_cell BK250.out 8).trans rfl; have hcz12_9 : w7.cell? ⟨gb250, 9, none⟩ = some (.bool a1_9) := (blk_cell BK250.out 9).trans rfl; have hcz12_10 : w7.cell? ⟨gb250, 10, none⟩ = some (.int .i64 a1_10) := (blk_cell BK250.out 10).trans rfl; have hfz12_0 := blk_frozen BK250.out 0; have hfz12_1 := blk_frozen BK250.out 1; have hfz12_2 := blk_frozen BK250.out 2; have hfz12_3 := blk_frozen BK250.out 3; have hfz12_4 := blk_frozen BK250.out 4; have hfz12_5 := blk_frozen BK250.out 5; have hfz12_6 := blk_frozen BK250.out 6; have hfz12_7 := blk_frozen BK250.out 7; have hfz12_8 := blk_frozen BK250.out 8; have hfz12_9 := blk_frozen BK250.out 9; have hfz12_10 := blk_frozen BK250.out 10) | ((with_reducible refine gate_callee (f := 15) rfl ?_); refine goesL_ (some 7) rfl rfl Tryd.func15 (by kernel_rfl) rfl #[.agg #[.string a0_0, .string a0_1, .string a0_2, .string a0_3, .int .i64 a0_4, .int .i64 a0_5, .int .i64 a0_6, .bool a0_7, .bool a0_8, .bool a0_9, .int .i64 a0_10], .agg #[.string a1_0, .string a1_1, .string a1_2, .string a1_3, .int .i64 a1_4, .int .i64 a1_5, .int .i64 a1_6, .bool a1_7, .bool a1_8, .bool a1_9, .int .i64 a1_10]] rfl xg ?_; (with_reducible refine (cracknelref13_Cmp.calls k a0_0 a0_1 a0_2 a0_3 a0_4 a0_5 a0_6 a0_7 a0_8 a0_9 a0_10 a1_0 a1_1 a1_2 a1_3 a1_4 a1_5 a1_6 a1_7 a1_8 a1_9 a1_10 t252 _ A3.out).mono ?_); rintro e w13 ⟨rfl, hb⟩; refine ⟨_, rfl, ?_⟩; have n0_ := blkB BK249 hb; have n1_ := blkB BK250 hb; have n2_ := blkB BK251 hb; have n3_ := Aside0.mk (below_step xb hb); clear BK249; clear BK250; clear BK251; clear HB; have BK249 := n0_; have BK250 := n1_; have BK251 := n2_; have HB := n3_; clear n0_ n1_ n2_ n3_; (try clear hb); (try clear hb2); (try clear hk); (try clear hi); have hcz14_0 : w13.cell? ⟨gb250, 0, none⟩ = some (.string a1_0) := (blk_cell BK250.out 0).trans rfl; have hcz14_1 : w13.cell? ⟨gb250, 1, none⟩ = some (.string a1_1) := (blk_cell BK250.out 1).trans rfl; have hcz14_2 : w13.cell? ⟨gb250, 2, none⟩ = some (.string a1_2) := (blk_cell BK250.out 2).trans rfl; have hcz14_3 : w13.cell? ⟨gb250, 3, none⟩ = some (.string a1_3) := (blk_cell BK250.out 3).trans rfl; have hcz14_4 : w13.cell? ⟨gb250, 4, none⟩ = some (.int .i64 a1_4) := (blk_cell BK250.out 4).trans rfl; have hcz14_5 : w13.cell? ⟨gb250, 5, none⟩ = some (.int .i64 a1_5) := (blk_cell BK250.out 5).trans rfl; have hcz14_6 : w13.cell? ⟨gb250, 6, none⟩ = some (.int .i64 a1_6) := (blk_cell BK250.out 6).trans rfl; have hcz14_7 : w13.cell? ⟨gb250, 7, none⟩ = some (.bool a1_7) := (blk_cell BK250.out 7).trans rfl; have hcz14_8 : w13.cell? ⟨gb250, 8, none⟩ = some (.bool a1_8) := (blk_cell BK250.out 8).trans rfl; have hcz14_9 : w13.cell? ⟨gb250, 9, none⟩ = some (.bool a1_9) := (blk_cell BK250.out 9).trans rfl; have hcz14_10 : w13.cell? ⟨gb250, 10, none⟩ = some (.int .i64 a1_10) := (blk_cell BK250.out 10).trans rfl; have hfz14_0 := blk_frozen BK250.out 0; have hfz14_1 := blk_frozen BK250.out 1; have hfz14_2 := blk_frozen BK250.out 2; have hfz14_3 := blk_frozen BK250.out 3; have hfz14_4 := blk_frozen BK250.out 4; have hfz14_5 := blk_frozen BK250.out 5; have hfz14_6 := blk_frozen BK250.out 6; have hfz14_7 := blk_frozen BK250.out 7; have hfz14_8 := blk_frozen BK250.out 8; have hfz14_9 := blk_frozen BK250.out 9; have hfz14_10 := blk_frozen BK250.out 10; have hcz15_0 : w13.cell? ⟨gb251, 0, none⟩ = some (.string (⟨#[]⟩ : ByteArray)) := (blk_cell BK251.out 0).trans rfl; have hcz15_1 : w13.cell? ⟨gb251, 1, none⟩ = some (.string (⟨#[]⟩ : ByteArray)) := (blk_cell BK251.out 1).trans rfl; have hcz15_2 : w13.cell? ⟨gb251, 2, none⟩ = some (.string (⟨#[]⟩ : ByteArray)) := (blk_cell BK251.out 2).trans rfl; have hcz15_3 : w13.cell? ⟨gb251, 3, none⟩ = some (.string (⟨#[]⟩ : ByteArray)) := (blk_cell BK251.out 3).trans rfl; have hcz15_4 : w13.cell? ⟨gb251, 4, none⟩ = some (.int .i64 0) := (blk_cell BK251.out 4).trans rfl; have hcz15_5 : w13.cell? ⟨gb251, 5, none⟩ = some (.int .i64 0) := (blk_cell BK251.out 5).trans rfl; have hcz15_6 : w13.cell? ⟨gb251, 6, none⟩ = some (.int .i64 0) := (blk_cell BK251.out 6).trans rfl; have hcz15_7 : w13.cell? ⟨gb251, 7, none⟩ = some (.bool false) := (blk_cell BK251.out 7).trans rfl; have hcz15_8 : w13.cell? ⟨gb251, 8, none⟩ = some (.bool false) := (blk_cell BK251.out 8).trans rfl; have hcz15_9 : w13.cell? ⟨gb251, 9, none⟩ = some (.bool false) := (blk_cell BK251.out 9).trans rfl; have hcz15_10 : w13.cell? ⟨gb251, 10, none⟩ = some (.int .i64 0) := (blk_cell BK251.out 10).trans rfl; have hfz15_0 := blk_frozen BK251.out 0; have hfz15_1 := blk_frozen BK251.out 1; have hfz15_2 := blk_frozen BK251.out 2; have hfz15_3 := blk_frozen BK251.out 3; have hfz15_4 := blk_frozen BK251.out 4; have hfz15_5 := blk_frozen BK251.out 5; have hfz15_6 := blk_frozen BK251.out 6; have hfz15_7 := blk_frozen BK251.out 7; have hfz15_8 := blk_frozen BK251.out 8; have hfz15_9 := blk_frozen BK251.out 9; have hfz15_10 := blk_frozen BK251.out 10))
    refine bodyPost_ret (results_cell_row rfl _ _ gb251 23 #[.string a1_0, .string a1_1, .string a1_2, .string a1_3, .int .i64 a1_4, .int .i64 a1_5, .int .i64 a1_6, .bool a1_7, .bool a1_8, .bool a1_9, .int .i64 a1_10] (0, 0) _ rfl xk Tryd.underlying23 rfl (by kernel_rfl)) rfl ?_
    exact ⟨by first | rfl | (simp [errW_none, errW_some] <;> rfl) | (simp [*, errW_none, errW_some] <;> rfl), by repeat (first | (with_reducible first | exact HB.out | apply below_alloc | apply pw_below_drewN | apply below_drew1 | refine below_set ?_ GE249.out | refine below_set ?_ GE250.out | refine below_set ?_ GE251.out) | exact HB.out)⟩
  · rw [if_neg c4] at H
    have c4b0 : decide (t252 < 0) = false := decide_eq_false c4
    clear c4
    simp only [Option.some.injEq, Prod.mk.injEq] at H
    obtain ⟨rfl, rfl, rfl, rfl, rfl, rfl, rfl, rfl, rfl, rfl, rfl⟩ := H
    go_enter Tryd.func17, Tryd.ntmps17
    go_wp2_with (first | ((with_reducible refine gate_dst (N := 2) rfl ?_); refine box_event ?hg (N := 2) ?hd (cs := #[.string a0_0, .string a0_1, .string a0_2, .string a0_3, .int .i64 a0_4, .int .i64 a0_5, .int .i64 a0_6, .bool a0_7, .bool a0_8, .bool a0_9, .int .i64 a0_10]) (t := 23) ?hr ?_; (case hd => rfl); (case hg => rfl); (case hr => first | (go_simp; done) | (go_simp; rfl)); intro gb249 hg w16 hbox hb; have n0_ := Aside0.mk (below_step xb hb); have n1_ := Aside0.mk (hbox); have n2_ := Aside0.mk ((by rw [hg]; exact (below_size xb) : w.heap.size ≤ gb249)); have n3_ := Aside0.mk ((by rw [hg]; exact (below_size xb) : w.heap.size ≤ gb249)); clear HB; have HB := n0_; have BK249 := n1_; have GW249 := n2_; have GE249 := n3_; clear n0_ n1_ n2_ n3_; clear hb hbox hg) | ((with_reducible refine gate_dst (N := 3) rfl ?_); refine box_event ?hg (N := 3) ?hd (cs := #[.string a1_0, .string a1_1, .string a1_2, .string a1_3, .int .i64 a1_4, .int .i64 a1_5, .int .i64 a1_6, .bool a1_7, .bool a1_8, .bool a1_9, .int .i64 a1_10]) (t := 23) ?hr ?_; (case hd => rfl); (case hg => rfl); (case hr => first | (go_simp; done) | (go_simp; rfl)); intro gb250 hg w17 hbox hb; have n0_ := blkB BK249 hb; have n1_ := Aside0.mk (below_step xb hb); have n2_ := Aside0.mk (hbox); have n3_ := Aside0.mk ((by rw [hg]; exact (below_size xb) : w.heap.size ≤ gb250)); have n4_ := Aside0.mk ((by rw [hg]; exact (below_size xb) : w.heap.size ≤ gb250)); have n5_ := Aside0.mk ((by rw [hg]; exact Nat.ne_of_lt (blkL BK249) : gb249 ≠ gb250)); have n6_ := Aside0.mk ((by rw [hg]; exact Nat.ne_of_gt (blkL BK249) : gb250 ≠ gb249)); clear BK249; clear HB; have BK249 := n0_; have HB := n1_; have BK250 := n2_; have GW250 := n3_; have GE250 := n4_; have NB249_250 := n5_; have NB250_249 := n6_; clear n0_ n1_ n2_ n3_ n4_ n5_ n6_; clear hb hbox hg) | ((with_reducible refine gate_dst (N := 4) rfl ?_); refine box_event ?hg (N := 4) ?hd (cs := #[.string (⟨#[]⟩ : ByteArray), .string (⟨#[]⟩ : ByteArray), .string (⟨#[]⟩ : ByteArray), .string (⟨#[]⟩ : ByteArray), .int .i64 0, .int .i64 0, .int .i64 0, .bool false, .bool false, .bool false, .int .i64 0]) (t := 23) ?hr ?_; (case hd => rfl); (case hg => rfl); (case hr => first | (go_simp; done) | (go_simp; rfl)); intro gb251 hg w18 hbox hb; have n0_ := blkB BK249 hb; have n1_ := blkB BK250 hb; have n2_ := Aside0.mk (below_step xb hb); have n3_ := Aside0.mk (hbox); have n4_ := Aside0.mk ((by rw [hg]; exact (below_size xb) : w.heap.size ≤ gb251)); have n5_ := Aside0.mk ((by rw [hg]; exact (below_size xb) : w.heap.size ≤ gb251)); have n6_ := Aside0.mk ((by rw [hg]; exact Nat.ne_of_lt (blkL BK249) : gb249 ≠ gb251)); have n7_ := Aside0.mk ((by rw [hg]; exact Nat.ne_of_gt (blkL BK249) : gb251 ≠ gb249)); have n8_ := Aside0.mk ((by rw [hg]; exact Nat.ne_of_lt (blkL BK250) : gb250 ≠ gb251)); have n9_ := Aside0.mk ((by rw [hg]; exact Nat.ne_of_gt (blkL BK250) : gb251 ≠ gb250)); clear BK249; clear BK250; clear HB; have BK249 := n0_; have BK250 := n1_; have HB := n2_; have BK251 := n3_; have GW251 := n4_; have GE251 := n5_; have NB249_251 := n6_; have NB251_249 := n7_; have NB250_251 := n8_; have NB251_250 := n9_; clear n0_ n1_ n2_ n3_ n4_ n5_ n6_ n7_ n8_ n9_; clear hb hbox hg; have hnb19 := NB249_250.out; have hnc19 := NB250_249.out; have hnb20 := NB249_251.out; have hnc20 := NB251_249.out; have hcz21_0 : w18.cell? ⟨gb249, 0, none⟩ = some (.string a0_0) := (blk_cell BK249.out 0).trans rfl; have hcz21_1 : w18.cell? ⟨gb249, 1, none⟩ = some (.string a0_1) := (blk_cell BK249.out 1).trans rfl; have hcz21_2 : w18.cell? ⟨gb249, 2, none⟩ = some (.string a0_2) := (blk_cell BK249.out 2).trans rfl; have hcz21_3 : w18.cell? ⟨gb249, 3, none⟩ = some (.string a0_3) := (blk_cell BK249.out 3).trans rfl; have hcz21_4 : w18.cell? ⟨gb249, 4, none⟩ = some (.int .i64 a0_4) := (blk_cell BK249.out 4).trans rfl; have hcz21_5 : w18.cell? ⟨gb249, 5, none⟩ = some (.int .i64 a0_5) := (blk_cell BK249.out 5).trans rfl; have hcz21_6 : w18.cell? ⟨gb249, 6, none⟩ = some (.int .i64 a0_6) := (blk_cell BK249.out 6).trans rfl; have hcz21_7 : w18.cell? ⟨gb249, 7, none⟩ = some (.bool a0_7) := (blk_cell BK249.out 7).trans rfl; have hcz21_8 : w18.cell? ⟨gb249, 8, none⟩ = some (.bool a0_8) := (blk_cell BK249.out 8).trans rfl; have hcz21_9 : w18.cell? ⟨gb249, 9, none⟩ = some (.bool a0_9) := (blk_cell BK249.out 9).trans rfl; have hcz21_10 : w18.cell? ⟨gb249, 10, none⟩ = some (.int .i64 a0_10) := (blk_cell BK249.out 10).trans rfl; have hfz21_0 := blk_frozen BK249.out 0; have hfz21_1 := blk_frozen BK249.out 1; have hfz21_2 := blk_frozen BK249.out 2; have hfz21_3 := blk_frozen BK249.out 3; have hfz21_4 := blk_frozen BK249.out 4; have hfz21_5 := blk_frozen BK249.out 5; have hfz21_6 := blk_frozen BK249.out 6; have hfz21_7 := blk_frozen BK249.out 7; have hfz21_8 := blk_frozen BK249.out 8; have hfz21_9 := blk_frozen BK249.out 9; have hfz21_10 := blk_frozen BK249.out 10; have hnb22 := NB250_251.out; have hnc22 := NB251_250.out; have hcz23_0 : w18.cell? ⟨gb250, 0, none⟩ = some (.string a1_0) := (blk_cell BK250.out 0).trans rfl; have hcz23_1 : w18.cell? ⟨gb250, 1, none⟩ = some (.string a1_1) := (blk_cell BK250.out 1).trans rfl; have hcz23_2 : w18.cell? ⟨gb250, 2, none⟩ = some (.string a1_2) := (blk_cell BK250.out 2).trans rfl; have hcz23_3 : w18.cell? ⟨gb250, 3, none⟩ = some (.string a1_3) := (blk_cell BK250.out 3).trans rfl; have hcz23_4 : w18.cell? ⟨gb250, 4, none⟩ = some (.int .i64 a1_4) := (blk_cell BK250.out 4).trans rfl; have hcz23_5 : w18.cell? ⟨gb250, 5, none⟩ = some (.int .i64 a1_5) := (blk_cell BK250.out 5).trans rfl; have hcz23_6 : w18.cell? ⟨gb250, 6, none⟩ = some (.int .i64 a1_6) := (blk_cell BK250.out 6).trans rfl; have hcz23_7 : w18.cell? ⟨gb250, 7, none⟩ = some (.bool a1_7) := (blk_cell BK250.out 7).trans rfl; have hcz23_8 : w18.cell? ⟨gb250, 8, none⟩ = some (.bool a1_8) := (blk_cell BK250.out 8).trans rfl; have hcz23_9 : w18.cell? ⟨gb250, 9, none⟩ = some (.bool a1_9) := (blk_cell BK250.out 9).trans rfl; have hcz23_10 : w18.cell? ⟨gb250, 10, none⟩ = some (.int .i64 a1_10) := (blk_cell BK250.out 10).trans rfl; have hfz23_0 := blk_frozen BK250.out 0; have hfz23_1 := blk_frozen BK250.out 1; have hfz23_2 := blk_frozen BK250.out 2; have hfz23_3 := blk_frozen BK250.out 3; have hfz23_4 := blk_frozen BK250.out 4; have hfz23_5 := blk_frozen BK250.out 5; have hfz23_6 := blk_frozen BK250.out 6; have hfz23_7 := blk_frozen BK250.out 7; have hfz23_8 := blk_frozen BK250.out 8; have hfz23_9 := blk_frozen BK250.out 9; have hfz23_10 := blk_frozen BK250.out 10) | ((with_reducible refine gate_callee (f := 15) rfl ?_); refine goesL_ (some 7) rfl rfl Tryd.func15 (by kernel_rfl) rfl #[.agg #[.string a0_0, .string a0_1, .string a0_2, .string a0_3, .int .i64 a0_4, .int .i64 a0_5, .int .i64 a0_6, .bool a0_7, .bool a0_8, .bool a0_9, .int .i64 a0_10], .agg #[.string a1_0, .string a1_1, .string a1_2, .string a1_3, .int .i64 a1_4, .int .i64 a1_5, .int .i64 a1_6, .bool a1_7, .bool a1_8, .bool a1_9, .int .i64 a1_10]] rfl xg ?_; (with_reducible refine (cracknelref13_Cmp.calls k a0_0 a0_1 a0_2 a0_3 a0_4 a0_5 a0_6 a0_7 a0_8 a0_9 a0_10 a1_0 a1_1 a1_2 a1_3 a1_4 a1_5 a1_6 a1_7 a1_8 a1_9 a1_10 t252 _ A3.out).mono ?_); rintro e w24 ⟨rfl, hb⟩; refine ⟨_, rfl, ?_⟩; have n0_ := blkB BK249 hb; have n1_ := blkB BK250 hb; have n2_ := blkB BK251 hb; have n3_ := Aside0.mk (below_step xb hb); clear BK249; clear BK250; clear BK251; clear HB; have BK249 := n0_; have BK250 := n1_; have BK251 := n2_; have HB := n3_; clear n0_ n1_ n2_ n3_; (try clear hb); (try clear hb2); (try clear hk); (try clear hi); have hcz25_0 : w24.cell? ⟨gb249, 0, none⟩ = some (.string a0_0) := (blk_cell BK249.out 0).trans rfl; have hcz25_1 : w24.cell? ⟨gb249, 1, none⟩ = some (.string a0_1) := (blk_cell BK249.out 1).trans rfl; have hcz25_2 : w24.cell? ⟨gb249, 2, none⟩ = some (.string a0_2) := (blk_cell BK249.out 2).trans rfl; have hcz25_3 : w24.cell? ⟨gb249, 3, none⟩ = some (.string a0_3) := (blk_cell BK249.out 3).trans rfl; have hcz25_4 : w24.cell? ⟨gb249, 4, none⟩ = some (.int .i64 a0_4) := (blk_cell BK249.out 4).trans rfl; have hcz25_5 : w24.cell? ⟨gb249, 5, none⟩ = some (.int .i64 a0_5) := (blk_cell BK249.out 5).trans rfl; have hcz25_6 : w24.cell? ⟨gb249, 6, none⟩ = some (.int .i64 a0_6) := (blk_cell BK249.out 6).trans rfl; have hcz25_7 : w24.cell? ⟨gb249, 7, none⟩ = some (.bool a0_7) := (blk_cell BK249.out 7).trans rfl; have hcz25_8 : w24.cell? ⟨gb249, 8, none⟩ = some (.bool a0_8) := (blk_cell BK249.out 8).trans rfl; have hcz25_9 : w24.cell? ⟨gb249, 9, none⟩ = some (.bool a0_9) := (blk_cell BK249.out 9).trans rfl; have hcz25_10 : w24.cell? ⟨gb249, 10, none⟩ = some (.int .i64 a0_10) := (blk_cell BK249.out 10).trans rfl; have hfz25_0 := blk_frozen BK249.out 0; have hfz25_1 := blk_frozen BK249.out 1; have hfz25_2 := blk_frozen BK249.out 2; have hfz25_3 := blk_frozen BK249.out 3; have hfz25_4 := blk_frozen BK249.out 4; have hfz25_5 := blk_frozen BK249.out 5; have hfz25_6 := blk_frozen BK249.out 6; have hfz25_7 := blk_frozen BK249.out 7; have hfz25_8 := blk_frozen BK249.out 8; have hfz25_9 := blk_frozen BK249.out 9; have hfz25_10 := blk_frozen BK249.out 10; have hcz26_0 : w24.cell? ⟨gb251, 0, none⟩ = some (.string (⟨#[]⟩ : ByteArray)) := (blk_cell BK251.out 0).trans rfl; have hcz26_1 : w24.cell? ⟨gb251, 1, none⟩ = some (.string (⟨#[]⟩ : ByteArray)) := (blk_cell BK251.out 1).trans rfl; have hcz26_2 : w24.cell? ⟨gb251, 2, none⟩ = some (.string (⟨#[]⟩ : ByteArray)) := (blk_cell BK251.out 2).trans rfl; have hcz26_3 : w24.cell? ⟨gb251, 3, none⟩ = some (.string (⟨#[]⟩ : ByteArray)) := (blk_cell BK251.out 3).trans rfl; have hcz26_4 : w24.cell? ⟨gb251, 4, none⟩ = some (.int .i64 0) := (blk_cell BK251.out 4).trans rfl; have hcz26_5 : w24.cell? ⟨gb251, 5, none⟩ = some (.int .i64 0) := (blk_cell BK251.out 5).trans rfl; have hcz26_6 : w24.cell? ⟨gb251, 6, none⟩ = some (.int .i64 0) := (blk_cell BK251.out 6).trans rfl; have hcz26_7 : w24.cell? ⟨gb251, 7, none⟩ = some (.bool false) := (blk_cell BK251.out 7).trans rfl; have hcz26_8 : w24.cell? ⟨gb251, 8, none⟩ = some (.bool false) := (blk_cell BK251.out 8).trans rfl; have hcz26_9 : w24.cell? ⟨gb251, 9, none⟩ = some (.bool false) := (blk_cell BK251.out 9).trans rfl; have hcz26_10 : w24.cell? ⟨gb251, 10, none⟩ = some (.int .i64 0) := (blk_cell BK251.out 10).trans rfl; have hfz26_0 := blk_frozen BK251.out 0; have hfz26_1 := blk_frozen BK251.out 1; have hfz26_2 := blk_frozen BK251.out 2; have hfz26_3 := blk_frozen BK251.out 3; have hfz26_4 := blk_frozen BK251.out 4; have hfz26_5 := blk_frozen BK251.out 5; have hfz26_6 := blk_frozen BK251.out 6; have hfz26_7 := blk_frozen BK251.out 7; have hfz26_8 := blk_frozen BK251.out 8; have hfz26_9 := blk_frozen BK251.out 9; have hfz26_10 := blk_frozen BK251.out 10))
    refine bodyPost_ret (results_cell_row rfl _ _ gb251 23 #[.string a0_0, .string a0_1, .string a0_2, .string a0_3, .int .i64 a0_4, .int .i64 a0_5, .int .i64 a0_6, .bool a0_7, .bool a0_8, .bool a0_9, .int .i64 a0_10] (0, 0) _ rfl xk Tryd.underlying23 rfl (by kernel_rfl)) rfl ?_
    exact ⟨by first | rfl | (simp [errW_none, errW_some] <;> rfl) | (simp [*, errW_none, errW_some] <;> rfl), by repeat (first | (with_reducible first | exact HB.out | apply below_alloc | apply pw_below_drewN | apply below_drew1 | refine below_set ?_ GE249.out | refine below_set ?_ GE250.out | refine below_set ?_ GE251.out) | exact HB.out)⟩

end Go.Proofs.YtpcakfldmcfhlaaDoor.Print
