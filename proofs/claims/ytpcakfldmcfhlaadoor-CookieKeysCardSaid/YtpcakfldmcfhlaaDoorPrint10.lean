/- Printed by a program of this claim's session (xprint.py): the machine's side: each Go function as a Lean function, and that a call of it comes to what that tells; the row of a statement. No condition. -/
import Derived.Test.YtpcakfldmcfhlaaDoorPrint0
import Derived.Test.YtpcakfldmcfhlaaDoorPrint2
import Derived.Test.YtpcakfldmcfhlaaDoorPrint6
import Derived.Test.YtpcakfldmcfhlaaDoorPrint7
namespace Go.Proofs.YtpcakfldmcfhlaaDoor.Print
open Go.RowKit Go.Proofs.YtpcakfldmcfhlaaDoorW.PrintWords Go.Proofs.YtpcakfldmcfhlaaDoorW.PrintLast Go.Proofs.YtpcakfldmcfhlaaDoorW.PrintMore
attribute [local go_sem] max2_int min2_int max_two min_two max_three min_three max_four min_four   -- for this text's walks alone
set_option linter.unusedVariables false
set_option linter.unusedSimpArgs false

theorem eqA29 (d : Nat) (w : World) (x0 y0 : ByteArray) (x1 y1 : ByteArray) (x2 y2 : ByteArray) :
    (Op.equalIn (d + 2) 29 (.agg #[.string x0, .string x1, .string x2]) (.agg #[.string y0, .string y1, .string y2])).run Tryd.prog w = .ok (x0.toList == y0.toList && (x1.toList == y1.toList && (x2.toList == y2.toList))) w := by
  refine eqA_of Tryd.underlying29 (by kernel_rfl) ?_
  refine eqf_cons (by rfl) (by go_simp; rfl) (by go_simp; rfl) (by go_simp) ?_
  refine eqf_cons (by rfl) (by go_simp; rfl) (by go_simp; rfl) (by go_simp) ?_
  exact eqf_last (by rfl) (by go_simp; rfl) (by go_simp; rfl) (by go_simp)
attribute [local go_sem high] eqA25 eqA29
/-! ### cracknellaw13_CookieKeys: function 3 -/
def cracknellaw13_CookieKeys.f (k : Nat) (a0_0 : ByteArray) (a0_1 : ByteArray) (a0_2 : ByteArray) (a0_3 : ByteArray) (a0_4 : Int) (a0_5 : Int) (a0_6 : Int) (a0_7 : Bool) (a0_8 : Bool) (a0_9 : Bool) (a0_10 : Int) (a1_0 : ByteArray) (a1_1 : ByteArray) (a1_2 : ByteArray) (a1_3 : ByteArray) (a1_4 : Int) (a1_5 : Int) (a1_6 : Int) (a1_7 : Bool) (a1_8 : Bool) (a1_9 : Bool) (a1_10 : Int) : Option (Bool) := (PrintC.cookie_Of.f a0_0 a0_1 a0_2 a0_3 a0_4 a0_5 a0_6 a0_7 a0_8 a0_9 a0_10).bind fun bt364 => ((PrintC.cookie_Of.f a1_0 a1_1 a1_2 a1_3 a1_4 a1_5 a1_6 a1_7 a1_8 a1_9 a1_10).bind fun bt367 => ((PrintC.cookie_Key_Cmp.f k bt364.1 bt364.2.1 bt364.2.2 bt367.1 bt367.2.1 bt367.2.2).bind fun t372 => ((cracknellaw13_alive.f k).bind fun t373 => (if t373 = true then ((cracknelref13_Of.f a0_0 a0_1 a0_2 a0_3 a0_4 a0_5 a0_6 a0_7 a0_8 a0_9 a0_10).bind fun bt374 => (if (bt364.1.toList == bt374.1.toList && (bt364.2.1.toList == bt374.2.1.toList && (bt364.2.2.toList == bt374.2.2.toList))) = true then ((cracknelref13_Of.f a0_0 a0_1 a0_2 a0_3 a0_4 a0_5 a0_6 a0_7 a0_8 a0_9 a0_10).bind fun bt377 => ((cracknelref13_Of.f a1_0 a1_1 a1_2 a1_3 a1_4 a1_5 a1_6 a1_7 a1_8 a1_9 a1_10).bind fun bt380 => ((cracknelref13_Keys.f k bt377.1 bt377.2.1 bt377.2.2 bt380.1 bt380.2.1 bt380.2.2).bind fun t383 => (if t372 = t383 then ((PrintC.cookie_Key_Cmp.f k bt367.1 bt367.2.1 bt367.2.2 bt364.1 bt364.2.1 bt364.2.2).bind fun t384 => (if t384 = (wrap64 (-t372)) then (some ((t372 == 0) == (bt364.1.toList == bt367.1.toList && (bt364.2.1.toList == bt367.2.1.toList && (bt364.2.2.toList == bt367.2.2.toList))))) else (some false))) else (some false))))) else (some false))) else (some false)))))
theorem cracknellaw13_CookieKeys.mono : ∀ a0 a1 a2 a3 a4 a5 a6 a7 a8 a9 a10 a11 a12 a13 a14 a15 a16 a17 a18 a19 a20 a21 k, LeO (cracknellaw13_CookieKeys.f k a0 a1 a2 a3 a4 a5 a6 a7 a8 a9 a10 a11 a12 a13 a14 a15 a16 a17 a18 a19 a20 a21) (cracknellaw13_CookieKeys.f (k + 1) a0 a1 a2 a3 a4 a5 a6 a7 a8 a9 a10 a11 a12 a13 a14 a15 a16 a17 a18 a19 a20 a21) := by
  intro a0 a1 a2 a3 a4 a5 a6 a7 a8 a9 a10 a11 a12 a13 a14 a15 a16 a17 a18 a19 a20 a21 k
  unfold cracknellaw13_CookieKeys.f
  repeat' first
      | (with_reducible exact PrintC.cookie_Key_Cmp.mono _ _ _ _ _ _ _)
      | (with_reducible exact cracknellaw13_alive.mono _)
      | (with_reducible exact cracknelref13_Keys.mono _ _ _ _ _ _ _)
      | (with_reducible exact LeO.refl _)
      | (with_reducible exact LeO.none _)
      | (with_reducible refine LeO.ite ?_ ?_)
      | (with_reducible refine LeO.bind ?_ (fun _ => ?_))
      | exact PrintC.cookie_Key_Cmp.mono _ _ _ _ _ _ _
      | exact cracknellaw13_alive.mono _
      | exact cracknelref13_Keys.mono _ _ _ _ _ _ _
      | exact LeO.none _
      | refine LeO.ite ?_ ?_
      | refine LeO.bind ?_ (fun _ => ?_)
def cracknellaw13_CookieKeys.T1 : Bool × List (List Nat × List Nat) := (true, [([], []), ([0], [0]), ([], []), ([2, 1], [2]), ([], []), ([], []), ([4, 1, 3, 0, 1, 4, 5], [1, 4]), ([5, 3, 6, 0, 1, 2, 3, 4, 5, 6], [3, 5])])
def cracknellaw13_CookieKeys.B1 : List Nat := [0, 1, 0, 7, 0, 0, 63, 127]
theorem cracknellaw13_CookieKeys.tab1 : rtab .any (opsOf Tryd.f3 1) = cracknellaw13_CookieKeys.T1 := by kernel_rfl
theorem cracknellaw13_CookieKeys.bits1 : waitsOk cracknellaw13_CookieKeys.T1.2 cracknellaw13_CookieKeys.B1 = true := by kernel_rfl
def cracknellaw13_CookieKeys.T3 : Bool × List (List Nat × List Nat) := (true, [([], []), ([0, 0], [0]), ([1], [1]), ([1], [1]), ([3, 1, 1], [1, 3]), ([2, 4, 1], [1, 2, 4]), ([1, 5], [1, 5]), ([6, 4], [6]), ([7], [7]), ([7], [7]), ([9, 7, 7], [7, 9]), ([7], [7]), ([11, 10, 7], [7, 11]), ([10, 12, 12, 7], [7, 10, 12]), ([8, 13, 7], [7, 8, 13]), ([7, 14], [7, 14]), ([15, 13], [15]), ([16], [16]), ([16], [16]), ([17, 18, 16, 16], [16, 17, 18]), ([16], [16]), ([20, 16], [16, 20]), ([19, 21, 16], [16, 19, 21]), ([16, 22], [16, 22]), ([23, 19], [23]), ([24], [24]), ([25, 24], [24, 25]), ([24], [24]), ([24], [24]), ([27, 28, 24], [24, 27, 28]), ([26, 29, 24], [24, 26, 29]), ([24, 30], [24, 30]), ([31, 24, 0, 1, 2, 3, 4, 5, 6, 7, 8, 9, 10, 11, 12, 13, 14, 15, 16, 17, 18, 19, 20, 21, 22, 23, 24, 25, 26, 27, 28, 29, 30, 31], [31])])
def cracknellaw13_CookieKeys.B3 : List Nat := [0, 1, 3, 3, 11, 31, 63, 127, 255, 255, 767, 255, 3839, 7935, 16383, 32767, 65535, 131071, 131071, 524287, 131071, 1179647, 4194303, 8388607, 16777215, 33554431, 67108863, 33554431, 33554431, 436207615, 1073741823, 2147483647, 4294967295]
theorem cracknellaw13_CookieKeys.tab3 : rtab .any (opsOf Tryd.f3 3) = cracknellaw13_CookieKeys.T3 := by kernel_rfl
theorem cracknellaw13_CookieKeys.bits3 : waitsOk cracknellaw13_CookieKeys.T3.2 cracknellaw13_CookieKeys.B3 = true := by kernel_rfl
set_option maxHeartbeats 8000000 in
set_option maxRecDepth 100000 in
theorem cracknellaw13_CookieKeys.calls (k : Nat) (a0_0 : ByteArray) (a0_1 : ByteArray) (a0_2 : ByteArray) (a0_3 : ByteArray) (a0_4 : Int) (a0_5 : Int) (a0_6 : Int) (a0_7 : Bool) (a0_8 : Bool) (a0_9 : Bool) (a0_10 : Int) (a1_0 : ByteArray) (a1_1 : ByteArray) (a1_2 : ByteArray) (a1_3 : ByteArray) (a1_4 : Int) (a1_5 : Int) (a1_6 : Int) (a1_7 : Bool) (a1_8 : Bool) (a1_9 : Bool) (a1_10 : Int) (r : Bool) (w : World) (hG : Aside0 (LaidG w)) (hT_ : Aside0 (r = true)) (h : cracknellaw13_CookieKeys.f k a0_0 a0_1 a0_2 a0_3 a0_4 a0_5 a0_6 a0_7 a0_8 a0_9 a0_10 a1_0 a1_1 a1_2 a1_3 a1_4 a1_5 a1_6 a1_7 a1_8 a1_9 a1_10 = some r) :
    Calls Tryd.prog 3 #[.agg #[.string a0_0, .string a0_1, .string a0_2, .string a0_3, .int .i64 a0_4, .int .i64 a0_5, .int .i64 a0_6, .bool a0_7, .bool a0_8, .bool a0_9, .int .i64 a0_10], .agg #[.string a1_0, .string a1_1, .string a1_2, .string a1_3, .int .i64 a1_4, .int .i64 a1_5, .int .i64 a1_6, .bool a1_7, .bool a1_8, .bool a1_9, .int .i64 a1_10]] w fun e w' => e = .returned (.bool r) ∧ Below w.heap.size w w' := by
  have hu23 := Tryd.underlying23
  have hu25 := Tryd.underlying25
  have HB := Aside0.mk (Below.refl w.heap.size w)
  have H : ((PrintC.cookie_Of.f a0_0 a0_1 a0_2 a0_3 a0_4 a0_5 a0_6 a0_7 a0_8 a0_9 a0_10).bind fun bt364 => ((PrintC.cookie_Of.f a1_0 a1_1 a1_2 a1_3 a1_4 a1_5 a1_6 a1_7 a1_8 a1_9 a1_10).bind fun bt367 => ((PrintC.cookie_Key_Cmp.f k bt364.1 bt364.2.1 bt364.2.2 bt367.1 bt367.2.1 bt367.2.2).bind fun t372 => ((cracknellaw13_alive.f k).bind fun t373 => (if t373 = true then ((cracknelref13_Of.f a0_0 a0_1 a0_2 a0_3 a0_4 a0_5 a0_6 a0_7 a0_8 a0_9 a0_10).bind fun bt374 => (if (bt364.1.toList == bt374.1.toList && (bt364.2.1.toList == bt374.2.1.toList && (bt364.2.2.toList == bt374.2.2.toList))) = true then ((cracknelref13_Of.f a0_0 a0_1 a0_2 a0_3 a0_4 a0_5 a0_6 a0_7 a0_8 a0_9 a0_10).bind fun bt377 => ((cracknelref13_Of.f a1_0 a1_1 a1_2 a1_3 a1_4 a1_5 a1_6 a1_7 a1_8 a1_9 a1_10).bind fun bt380 => ((cracknelref13_Keys.f k bt377.1 bt377.2.1 bt377.2.2 bt380.1 bt380.2.1 bt380.2.2).bind fun t383 => (if t372 = t383 then ((PrintC.cookie_Key_Cmp.f k bt367.1 bt367.2.1 bt367.2.2 bt364.1 bt364.2.1 bt364.2.2).bind fun t384 => (if t384 = (wrap64 (-t372)) then (some ((t372 == 0) == (bt364.1.toList == bt367.1.toList && (bt364.2.1.toList == bt367.2.1.toList && (bt364.2.2.toList == bt367.2.2.toList))))) else (some false))) else (some false))))) else (some false))) else (some false)))))) = some r := h
  clear h
  replace H := Option.bind_eq_some_iff.mp H
  obtain ⟨⟨t364, t365, t366⟩, A30, H⟩ := H
  replace H : ((PrintC.cookie_Of.f a1_0 a1_1 a1_2 a1_3 a1_4 a1_5 a1_6 a1_7 a1_8 a1_9 a1_10).bind fun bt367 => ((PrintC.cookie_Key_Cmp.f k t364 t365 t366 bt367.1 bt367.2.1 bt367.2.2).bind fun t372 => ((cracknellaw13_alive.f k).bind fun t373 => (if t373 = true then ((cracknelref13_Of.f a0_0 a0_1 a0_2 a0_3 a0_4 a0_5 a0_6 a0_7 a0_8 a0_9 a0_10).bind fun bt374 => (if (t364.toList == bt374.1.toList && (t365.toList == bt374.2.1.toList && (t366.toList == bt374.2.2.toList))) = true then ((cracknelref13_Of.f a0_0 a0_1 a0_2 a0_3 a0_4 a0_5 a0_6 a0_7 a0_8 a0_9 a0_10).bind fun bt377 => ((cracknelref13_Of.f a1_0 a1_1 a1_2 a1_3 a1_4 a1_5 a1_6 a1_7 a1_8 a1_9 a1_10).bind fun bt380 => ((cracknelref13_Keys.f k bt377.1 bt377.2.1 bt377.2.2 bt380.1 bt380.2.1 bt380.2.2).bind fun t383 => (if t372 = t383 then ((PrintC.cookie_Key_Cmp.f k bt367.1 bt367.2.1 bt367.2.2 t364 t365 t366).bind fun t384 => (if t384 = (wrap64 (-t372)) then (some ((t372 == 0) == (t364.toList == bt367.1.toList && (t365.toList == bt367.2.1.toList && (t366.toList == bt367.2.2.toList))))) else (some false))) else (some false))))) else (some false))) else (some false))))) = some r := H
  have A3 := Aside0.mk A30
  clear A30
  replace H := Option.bind_eq_some_iff.mp H
  obtain ⟨⟨t367, t368, t369⟩, A40, H⟩ := H
  replace H : ((PrintC.cookie_Key_Cmp.f k t364 t365 t366 t367 t368 t369).bind fun t372 => ((cracknellaw13_alive.f k).bind fun t373 => (if t373 = true then ((cracknelref13_Of.f a0_0 a0_1 a0_2 a0_3 a0_4 a0_5 a0_6 a0_7 a0_8 a0_9 a0_10).bind fun bt374 => (if (t364.toList == bt374.1.toList && (t365.toList == bt374.2.1.toList && (t366.toList == bt374.2.2.toList))) = true then ((cracknelref13_Of.f a0_0 a0_1 a0_2 a0_3 a0_4 a0_5 a0_6 a0_7 a0_8 a0_9 a0_10).bind fun bt377 => ((cracknelref13_Of.f a1_0 a1_1 a1_2 a1_3 a1_4 a1_5 a1_6 a1_7 a1_8 a1_9 a1_10).bind fun bt380 => ((cracknelref13_Keys.f k bt377.1 bt377.2.1 bt377.2.2 bt380.1 bt380.2.1 bt380.2.2).bind fun t383 => (if t372 = t383 then ((PrintC.cookie_Key_Cmp.f k t367 t368 t369 t364 t365 t366).bind fun t384 => (if t384 = (wrap64 (-t372)) then (some ((t372 == 0) == (t364.toList == t367.toList && (t365.toList == t368.toList && (t366.toList == t369.toList))))) else (some false))) else (some false))))) else (some false))) else (some false)))) = some r := H
  have A4 := Aside0.mk A40
  clear A40
  replace H := Option.bind_eq_some_iff.mp H
  obtain ⟨t372, A50, H⟩ := H
  replace H : ((cracknellaw13_alive.f k).bind fun t373 => (if t373 = true then ((cracknelref13_Of.f a0_0 a0_1 a0_2 a0_3 a0_4 a0_5 a0_6 a0_7 a0_8 a0_9 a0_10).bind fun bt374 => (if (t364.toList == bt374.1.toList && (t365.toList == bt374.2.1.toList && (t366.toList == bt374.2.2.toList))) = true then ((cracknelref13_Of.f a0_0 a0_1 a0_2 a0_3 a0_4 a0_5 a0_6 a0_7 a0_8 a0_9 a0_10).bind fun bt377 => ((cracknelref13_Of.f a1_0 a1_1 a1_2 a1_3 a1_4 a1_5 a1_6 a1_7 a1_8 a1_9 a1_10).bind fun bt380 => ((cracknelref13_Keys.f k bt377.1 bt377.2.1 bt377.2.2 bt380.1 bt380.2.1 bt380.2.2).bind fun t383 => (if t372 = t383 then ((PrintC.cookie_Key_Cmp.f k t367 t368 t369 t364 t365 t366).bind fun t384 => (if t384 = (wrap64 (-t372)) then (some ((t372 == 0) == (t364.toList == t367.toList && (t365.toList == t368.toList && (t366.toList == t369.toList))))) else (some false))) else (some false))))) else (some false))) else (some false))) = some r := H
  have A5 := Aside0.mk A50
  clear A50
  replace H := Option.bind_eq_some_iff.mp H
  obtain ⟨t373, A60, H⟩ := H
  replace H : (if t373 = true then ((cracknelref13_Of.f a0_0 a0_1 a0_2 a0_3 a0_4 a0_5 a0_6 a0_7 a0_8 a0_9 a0_10).bind fun bt374 => (if (t364.toList == bt374.1.toList && (t365.toList == bt374.2.1.toList && (t366.toList == bt374.2.2.toList))) = true then ((cracknelref13_Of.f a0_0 a0_1 a0_2 a0_3 a0_4 a0_5 a0_6 a0_7 a0_8 a0_9 a0_10).bind fun bt377 => ((cracknelref13_Of.f a1_0 a1_1 a1_2 a1_3 a1_4 a1_5 a1_6 a1_7 a1_8 a1_9 a1_10).bind fun bt380 => ((cracknelref13_Keys.f k bt377.1 bt377.2.1 bt377.2.2 bt380.1 bt380.2.1 bt380.2.2).bind fun t383 => (if t372 = t383 then ((PrintC.cookie_Key_Cmp.f k t367 t368 t369 t364 t365 t366).bind fun t384 => (if t384 = (wrap64 (-t372)) then (some ((t372 == 0) == (t364.toList == t367.toList && (t365.toList == t368.toList && (t366.toList == t369.toList))))) else (some false))) else (some false))))) else (some false))) else (some false)) = some r := H
  have A6 := Aside0.mk A60
  clear A60
  by_cases c7 : t373 = true
  · subst c7
    have H1 : ((cracknelref13_Of.f a0_0 a0_1 a0_2 a0_3 a0_4 a0_5 a0_6 a0_7 a0_8 a0_9 a0_10).bind fun bt374 => (if (t364.toList == bt374.1.toList && (t365.toList == bt374.2.1.toList && (t366.toList == bt374.2.2.toList))) = true then ((cracknelref13_Of.f a0_0 a0_1 a0_2 a0_3 a0_4 a0_5 a0_6 a0_7 a0_8 a0_9 a0_10).bind fun bt377 => ((cracknelref13_Of.f a1_0 a1_1 a1_2 a1_3 a1_4 a1_5 a1_6 a1_7 a1_8 a1_9 a1_10).bind fun bt380 => ((cracknelref13_Keys.f k bt377.1 bt377.2.1 bt377.2.2 bt380.1 bt380.2.1 bt380.2.2).bind fun t383 => (if t372 = t383 then ((PrintC.cookie_Key_Cmp.f k t367 t368 t369 t364 t365 t366).bind fun t384 => (if t384 = (wrap64 (-t372)) then (some ((t372 == 0) == (t364.toList == t367.toList && (t365.toList == t368.toList && (t366.toList == t369.toList))))) else (some false))) else (some false))))) else (some false))) = some r := by rw [if_pos rfl] at H; exact H
    clear H
    have H := H1
    clear H1
    replace H := Option.bind_eq_some_iff.mp H
    obtain ⟨⟨t374, t375, t376⟩, A80, H⟩ := H
    replace H : (if (t364.toList == t374.toList && (t365.toList == t375.toList && (t366.toList == t376.toList))) = true then ((cracknelref13_Of.f a0_0 a0_1 a0_2 a0_3 a0_4 a0_5 a0_6 a0_7 a0_8 a0_9 a0_10).bind fun bt377 => ((cracknelref13_Of.f a1_0 a1_1 a1_2 a1_3 a1_4 a1_5 a1_6 a1_7 a1_8 a1_9 a1_10).bind fun bt380 => ((cracknelref13_Keys.f k bt377.1 bt377.2.1 bt377.2.2 bt380.1 bt380.2.1 bt380.2.2).bind fun t383 => (if t372 = t383 then ((PrintC.cookie_Key_Cmp.f k t367 t368 t369 t364 t365 t366).bind fun t384 => (if t384 = (wrap64 (-t372)) then (some ((t372 == 0) == (t364.toList == t367.toList && (t365.toList == t368.toList && (t366.toList == t369.toList))))) else (some false))) else (some false))))) else (some false)) = some r := H
    have A8 := Aside0.mk A80
    clear A80
    by_cases c9 : (t364.toList == t374.toList && (t365.toList == t375.toList && (t366.toList == t376.toList))) = true
    · rw [if_pos c9] at H
      have c9b0 : (t364.toList == t374.toList && (t365.toList == t375.toList && (t366.toList == t376.toList))) = true := c9
      (try (have c9b1 : decide (t364.toList = t374.toList && (t365.toList == t375.toList && (t366.toList == t376.toList))) = true := by simpa using c9))
      (try (have c9b2 : (t364.toList == t374.toList && (t365.toList == t375.toList && (t366.toList == t376.toList))) = true := by simpa using c9))
      clear c9
      replace H := Option.bind_eq_some_iff.mp H
      obtain ⟨⟨t377, t378, t379⟩, A100, H⟩ := H
      replace H : ((cracknelref13_Of.f a1_0 a1_1 a1_2 a1_3 a1_4 a1_5 a1_6 a1_7 a1_8 a1_9 a1_10).bind fun bt380 => ((cracknelref13_Keys.f k t377 t378 t379 bt380.1 bt380.2.1 bt380.2.2).bind fun t383 => (if t372 = t383 then ((PrintC.cookie_Key_Cmp.f k t367 t368 t369 t364 t365 t366).bind fun t384 => (if t384 = (wrap64 (-t372)) then (some ((t372 == 0) == (t364.toList == t367.toList && (t365.toList == t368.toList && (t366.toList == t369.toList))))) else (some false))) else (some false)))) = some r := H
      have A10 := Aside0.mk A100
      clear A100
      replace H := Option.bind_eq_some_iff.mp H
      obtain ⟨⟨t380, t381, t382⟩, A110, H⟩ := H
      replace H : ((cracknelref13_Keys.f k t377 t378 t379 t380 t381 t382).bind fun t383 => (if t372 = t383 then ((PrintC.cookie_Key_Cmp.f k t367 t368 t369 t364 t365 t366).bind fun t384 => (if t384 = (wrap64 (-t372)) then (some ((t372 == 0) == (t364.toList == t367.toList && (t365.toList == t368.toList && (t366.toList == t369.toList))))) else (some false))) else (some false))) = some r := H
      have A11 := Aside0.mk A110
      clear A110
      replace H := Option.bind_eq_some_iff.mp H
      obtain ⟨t383, A120, H⟩ := H
      replace H : (if t372 = t383 then ((PrintC.cookie_Key_Cmp.f k t367 t368 t369 t364 t365 t366).bind fun t384 => (if t384 = (wrap64 (-t372)) then (some ((t372 == 0) == (t364.toList == t367.toList && (t365.toList == t368.toList && (t366.toList == t369.toList))))) else (some false))) else (some false)) = some r := H
      have A12 := Aside0.mk A120
      clear A120
      by_cases c13 : t372 = t383
      · rw [if_pos c13] at H
        have c13b0 : (t372 == t383) = true := beq_iff_eq.mpr c13
        have c13b1 : (t372 != t383) = false := bne_eq_false_iff_eq.mpr c13
        clear c13
        replace H := Option.bind_eq_some_iff.mp H
        obtain ⟨t384, A140, H⟩ := H
        replace H : (if t384 = (wrap64 (-t372)) then (some ((t372 == 0) == (t364.toList == t367.toList && (t365.toList == t368.toList && (t366.toList == t369.toList))))) else (some false)) = some r := H
        have A14 := Aside0.mk A140
        clear A140
        by_cases c15 : t384 = (wrap64 (-t372))
        · rw [if_pos c15] at H
          have c15b0 : (t384 == (wrap64 (-t372))) = true := beq_iff_eq.mpr c15
          have c15b1 : (t384 != (wrap64 (-t372))) = false := bne_eq_false_iff_eq.mpr c15
          clear c15
          obtain rfl := Option.some.inj H
          go_enter Tryd.func3, Tryd.ntmps3
          try go_wp2_with (first | ((with_reducible refine gate_dst (N := 2) rfl ?_); refine box_event ?hg (N := 2) ?hd (cs := #[.string a0_0, .string a0_1, .string a0_2, .string a0_3, .int .i64 a0_4, .int .i64 a0_5, .int .i64 a0_6, .bool a0_7, .bool a0_8, .bool a0_9, .int .i64 a0_10]) (t := 23) ?hr ?_; (case hd => rfl); (case hg => rfl); (case hr => first | (go_simp; done) | (go_simp; rfl)); intro gb362 hg w16 hbox hb; have n0_ := Aside0.mk (below_step xb hb); have n1_ := Aside0.mk (hbox); have n2_ := Aside0.mk ((by rw [hg]; exact (below_size xb) : w.heap.size ≤ gb362)); have n3_ := Aside0.mk ((by rw [hg]; exact (below_size xb) : w.heap.size ≤ gb362)); clear HB; have HB := n0_; have BK362 := n1_; have GW362 := n2_; have GE362 := n3_; clear n0_ n1_ n2_ n3_; clear hb hbox hg) | ((with_reducible refine gate_dst (N := 3) rfl ?_); refine box_event ?hg (N := 3) ?hd (cs := #[.string a1_0, .string a1_1, .string a1_2, .string a1_3, .int .i64 a1_4, .int .i64 a1_5, .int .i64 a1_6, .bool a1_7, .bool a1_8, .bool a1_9, .int .i64 a1_10]) (t := 23) ?hr ?_; (case hd => rfl); (case hg => rfl); (case hr => first | (go_simp; done) | (go_simp; rfl)); intro gb363 hg w17 hbox hb; have n0_ := blkB BK362 hb; have n1_ := Aside0.mk (below_step xb hb); have n2_ := Aside0.mk (hbox); have n3_ := Aside0.mk ((by rw [hg]; exact (below_size xb) : w.heap.size ≤ gb363)); have n4_ := Aside0.mk ((by rw [hg]; exact (below_size xb) : w.heap.size ≤ gb363)); have n5_ := Aside0.mk ((by rw [hg]; exact Nat.ne_of_lt (blkL BK362) : gb362 ≠ gb363)); have n6_ := Aside0.mk ((by rw [hg]; exact Nat.ne_of_gt (blkL BK362) : gb363 ≠ gb362)); clear BK362; clear HB; have BK362 := n0_; have HB := n1_; have BK363 := n2_; have GW363 := n3_; have GE363 := n4_; have NB362_363 := n5_; have NB363_362 := n6_; clear n0_ n1_ n2_ n3_ n4_ n5_ n6_; clear hb hbox hg))
          have n0_ := Aside0.mk (blk_drew BK362.out)
          have n1_ := Aside0.mk (blk_drew BK363.out)
          have n2_ := Aside0.mk (below_drew1 HB.out)
          clear BK362
          clear BK363
          clear HB
          have BK362 := n0_
          have BK363 := n1_
          have HB := n2_
          clear n0_ n1_ n2_
          refine start_ (n := 8) (S := fun w' => w'.cell? ⟨gb362, 0, none⟩ = some (.string a0_0) ∧ w'.cell? ⟨gb362, 1, none⟩ = some (.string a0_1) ∧ w'.cell? ⟨gb362, 2, none⟩ = some (.string a0_2) ∧ w'.cell? ⟨gb362, 3, none⟩ = some (.string a0_3) ∧ w'.cell? ⟨gb362, 4, none⟩ = some (.int .i64 a0_4) ∧ w'.cell? ⟨gb362, 5, none⟩ = some (.int .i64 a0_5) ∧ w'.cell? ⟨gb362, 6, none⟩ = some (.int .i64 a0_6) ∧ w'.cell? ⟨gb362, 7, none⟩ = some (.bool a0_7) ∧ w'.cell? ⟨gb362, 8, none⟩ = some (.bool a0_8) ∧ w'.cell? ⟨gb362, 9, none⟩ = some (.bool a0_9) ∧ w'.cell? ⟨gb362, 10, none⟩ = some (.int .i64 a0_10) ∧ w'.cell? ⟨gb363, 0, none⟩ = some (.string a1_0) ∧ w'.cell? ⟨gb363, 1, none⟩ = some (.string a1_1) ∧ w'.cell? ⟨gb363, 2, none⟩ = some (.string a1_2) ∧ w'.cell? ⟨gb363, 3, none⟩ = some (.string a1_3) ∧ w'.cell? ⟨gb363, 4, none⟩ = some (.int .i64 a1_4) ∧ w'.cell? ⟨gb363, 5, none⟩ = some (.int .i64 a1_5) ∧ w'.cell? ⟨gb363, 6, none⟩ = some (.int .i64 a1_6) ∧ w'.cell? ⟨gb363, 7, none⟩ = some (.bool a1_7) ∧ w'.cell? ⟨gb363, 8, none⟩ = some (.bool a1_8) ∧ w'.cell? ⟨gb363, 9, none⟩ = some (.bool a1_9) ∧ w'.cell? ⟨gb363, 10, none⟩ = some (.int .i64 a1_10)) (ds := []) #[false, false, false, false, false, false, false, false] (by kernel_rfl) rfl rfl ⟨(blk_cell BK362.out 0).trans rfl, (blk_cell BK362.out 1).trans rfl, (blk_cell BK362.out 2).trans rfl, (blk_cell BK362.out 3).trans rfl, (blk_cell BK362.out 4).trans rfl, (blk_cell BK362.out 5).trans rfl, (blk_cell BK362.out 6).trans rfl, (blk_cell BK362.out 7).trans rfl, (blk_cell BK362.out 8).trans rfl, (blk_cell BK362.out 9).trans rfl, (blk_cell BK362.out 10).trans rfl, (blk_cell BK363.out 0).trans rfl, (blk_cell BK363.out 1).trans rfl, (blk_cell BK363.out 2).trans rfl, (blk_cell BK363.out 3).trans rfl, (blk_cell BK363.out 4).trans rfl, (blk_cell BK363.out 5).trans rfl, (blk_cell BK363.out 6).trans rfl, (blk_cell BK363.out 7).trans rfl, (blk_cell BK363.out 8).trans rfl, (blk_cell BK363.out 9).trans rfl, (blk_cell BK363.out 10).trans rfl⟩ (fun hHeld => ?_); refine with_tabW cracknellaw13_CookieKeys.tab1 cracknellaw13_CookieKeys.bits1 (fun HT_ HW_ => ?_)
          generalize w17.drew = w18 at BK362 BK363 HB hHeld ⊢
          refine take_ (i := 0) (N := some 8) (v := ?_) (a' := ?_) #[true, false, false, false, false, false, false, false] rfl rfl (take_ofW HT_.out HW_.out (by kernel_rfl)) (fun _ _ _ h => h) (Or.inl ⟨by rfl, ?_⟩) hHeld ?_ ?_
          rotate_left
          · rintro w' ⟨s0, s1, s2, s3, s4, s5, s6, s7, s8, s9, s10, s11, s12, s13, s14, s15, s16, s17, s18, s19, s20, s21⟩
            go_simp
            with_reducible rfl
          rotate_left
          · simp only [Act.put, List.setIfInBounds_toArray, List.set_cons_zero, List.set_cons_succ, i64_w, i32_w]
            rfl
          refine take_ (i := 2) (N := some 10) (v := ?_) (a' := ?_) #[true, false, true, false, false, false, false, false] rfl rfl (take_ofW HT_.out HW_.out (by kernel_rfl)) (fun _ _ _ h => h) (Or.inl ⟨by rfl, ?_⟩) hHeld ?_ ?_
          rotate_left
          · rintro w' ⟨s0, s1, s2, s3, s4, s5, s6, s7, s8, s9, s10, s11, s12, s13, s14, s15, s16, s17, s18, s19, s20, s21⟩
            go_simp
            with_reducible rfl
          rotate_left
          · simp only [Act.put, List.setIfInBounds_toArray, List.set_cons_zero, List.set_cons_succ, i64_w, i32_w]
            rfl
          refine join_ (σ := Nat × Nat) 2 #[true, true, true, true, true, true, false, false] (fun s_ => [(9, .agg #[.string t364, .string t365, .string t366]), (11, .agg #[.string t367, .string t368, .string t369]), (5, .pointer (some ⟨s_.1, 0, none⟩)), (6, .pointer (some ⟨s_.2, 0, none⟩))]) (fun s_ w' => (w'.cell? ⟨gb362, 0, none⟩ = some (.string a0_0) ∧ w'.cell? ⟨gb362, 1, none⟩ = some (.string a0_1) ∧ w'.cell? ⟨gb362, 2, none⟩ = some (.string a0_2) ∧ w'.cell? ⟨gb362, 3, none⟩ = some (.string a0_3) ∧ w'.cell? ⟨gb362, 4, none⟩ = some (.int .i64 a0_4) ∧ w'.cell? ⟨gb362, 5, none⟩ = some (.int .i64 a0_5) ∧ w'.cell? ⟨gb362, 6, none⟩ = some (.int .i64 a0_6) ∧ w'.cell? ⟨gb362, 7, none⟩ = some (.bool a0_7) ∧ w'.cell? ⟨gb362, 8, none⟩ = some (.bool a0_8) ∧ w'.cell? ⟨gb362, 9, none⟩ = some (.bool a0_9) ∧ w'.cell? ⟨gb362, 10, none⟩ = some (.int .i64 a0_10) ∧ w'.cell? ⟨gb363, 0, none⟩ = some (.string a1_0) ∧ w'.cell? ⟨gb363, 1, none⟩ = some (.string a1_1) ∧ w'.cell? ⟨gb363, 2, none⟩ = some (.string a1_2) ∧ w'.cell? ⟨gb363, 3, none⟩ = some (.string a1_3) ∧ w'.cell? ⟨gb363, 4, none⟩ = some (.int .i64 a1_4) ∧ w'.cell? ⟨gb363, 5, none⟩ = some (.int .i64 a1_5) ∧ w'.cell? ⟨gb363, 6, none⟩ = some (.int .i64 a1_6) ∧ w'.cell? ⟨gb363, 7, none⟩ = some (.bool a1_7) ∧ w'.cell? ⟨gb363, 8, none⟩ = some (.bool a1_8) ∧ w'.cell? ⟨gb363, 9, none⟩ = some (.bool a1_9) ∧ w'.cell? ⟨gb363, 10, none⟩ = some (.int .i64 a1_10)) ∧ (w'.heap[gb362]? = some (.cells #[.string a0_0, .string a0_1, .string a0_2, .string a0_3, .int .i64 a0_4, .int .i64 a0_5, .int .i64 a0_6, .bool a0_7, .bool a0_8, .bool a0_9, .int .i64 a0_10] 23 (0, 0))) ∧ (w'.heap[gb363]? = some (.cells #[.string a1_0, .string a1_1, .string a1_2, .string a1_3, .int .i64 a1_4, .int .i64 a1_5, .int .i64 a1_6, .bool a1_7, .bool a1_8, .bool a1_9, .int .i64 a1_10] 23 (0, 0))) ∧ (w'.heap[s_.1]? = some (.cells #[.string (⟨#[]⟩ : ByteArray), .string (⟨#[]⟩ : ByteArray), .string (⟨#[]⟩ : ByteArray)] 25 (0, 0))) ∧ (w'.heap[s_.2]? = some (.cells #[.string (⟨#[]⟩ : ByteArray), .string (⟨#[]⟩ : ByteArray), .string (⟨#[]⟩ : ByteArray)] 25 (0, 0))) ∧ (w.heap.size ≤ s_.1) ∧ (w.heap.size ≤ s_.1) ∧ (gb362 ≠ s_.1) ∧ (s_.1 ≠ gb362) ∧ (gb363 ≠ s_.1) ∧ (s_.1 ≠ gb363) ∧ (s_.2 ≠ s_.1) ∧ (s_.1 ≠ s_.2) ∧ (w.heap.size ≤ s_.2) ∧ (w.heap.size ≤ s_.2) ∧ (gb362 ≠ s_.2) ∧ (s_.2 ≠ gb362) ∧ (gb363 ≠ s_.2) ∧ (s_.2 ≠ gb363) ∧ (Below w.heap.size w w')) ?_ ?_
          rotate_left
          · intro hJ1_3_4_5
            refine join_ (σ := Nat) 3 #[true, true, true, true, true, false, false, false] (fun s_ => [(9, .agg #[.string t364, .string t365, .string t366]), (11, .agg #[.string t367, .string t368, .string t369]), (5, .pointer (some ⟨s_, 0, none⟩))]) (fun s_ w' => (w'.cell? ⟨gb362, 0, none⟩ = some (.string a0_0) ∧ w'.cell? ⟨gb362, 1, none⟩ = some (.string a0_1) ∧ w'.cell? ⟨gb362, 2, none⟩ = some (.string a0_2) ∧ w'.cell? ⟨gb362, 3, none⟩ = some (.string a0_3) ∧ w'.cell? ⟨gb362, 4, none⟩ = some (.int .i64 a0_4) ∧ w'.cell? ⟨gb362, 5, none⟩ = some (.int .i64 a0_5) ∧ w'.cell? ⟨gb362, 6, none⟩ = some (.int .i64 a0_6) ∧ w'.cell? ⟨gb362, 7, none⟩ = some (.bool a0_7) ∧ w'.cell? ⟨gb362, 8, none⟩ = some (.bool a0_8) ∧ w'.cell? ⟨gb362, 9, none⟩ = some (.bool a0_9) ∧ w'.cell? ⟨gb362, 10, none⟩ = some (.int .i64 a0_10) ∧ w'.cell? ⟨gb363, 0, none⟩ = some (.string a1_0) ∧ w'.cell? ⟨gb363, 1, none⟩ = some (.string a1_1) ∧ w'.cell? ⟨gb363, 2, none⟩ = some (.string a1_2) ∧ w'.cell? ⟨gb363, 3, none⟩ = some (.string a1_3) ∧ w'.cell? ⟨gb363, 4, none⟩ = some (.int .i64 a1_4) ∧ w'.cell? ⟨gb363, 5, none⟩ = some (.int .i64 a1_5) ∧ w'.cell? ⟨gb363, 6, none⟩ = some (.int .i64 a1_6) ∧ w'.cell? ⟨gb363, 7, none⟩ = some (.bool a1_7) ∧ w'.cell? ⟨gb363, 8, none⟩ = some (.bool a1_8) ∧ w'.cell? ⟨gb363, 9, none⟩ = some (.bool a1_9) ∧ w'.cell? ⟨gb363, 10, none⟩ = some (.int .i64 a1_10)) ∧ (w'.heap[gb362]? = some (.cells #[.string a0_0, .string a0_1, .string a0_2, .string a0_3, .int .i64 a0_4, .int .i64 a0_5, .int .i64 a0_6, .bool a0_7, .bool a0_8, .bool a0_9, .int .i64 a0_10] 23 (0, 0))) ∧ (w'.heap[gb363]? = some (.cells #[.string a1_0, .string a1_1, .string a1_2, .string a1_3, .int .i64 a1_4, .int .i64 a1_5, .int .i64 a1_6, .bool a1_7, .bool a1_8, .bool a1_9, .int .i64 a1_10] 23 (0, 0))) ∧ (w'.heap[s_]? = some (.cells #[.string (⟨#[]⟩ : ByteArray), .string (⟨#[]⟩ : ByteArray), .string (⟨#[]⟩ : ByteArray)] 25 (0, 0))) ∧ (w.heap.size ≤ s_) ∧ (w.heap.size ≤ s_) ∧ (gb362 ≠ s_) ∧ (s_ ≠ gb362) ∧ (gb363 ≠ s_) ∧ (s_ ≠ gb363) ∧ (Below w.heap.size w w')) ?_ ?_
            rotate_left
            · intro hJ1_3_4
              refine join_ (σ := Nat) 3 #[true, true, true, true, false, true, false, false] (fun s_ => [(9, .agg #[.string t364, .string t365, .string t366]), (11, .agg #[.string t367, .string t368, .string t369]), (6, .pointer (some ⟨s_, 0, none⟩))]) (fun s_ w' => (w'.cell? ⟨gb362, 0, none⟩ = some (.string a0_0) ∧ w'.cell? ⟨gb362, 1, none⟩ = some (.string a0_1) ∧ w'.cell? ⟨gb362, 2, none⟩ = some (.string a0_2) ∧ w'.cell? ⟨gb362, 3, none⟩ = some (.string a0_3) ∧ w'.cell? ⟨gb362, 4, none⟩ = some (.int .i64 a0_4) ∧ w'.cell? ⟨gb362, 5, none⟩ = some (.int .i64 a0_5) ∧ w'.cell? ⟨gb362, 6, none⟩ = some (.int .i64 a0_6) ∧ w'.cell? ⟨gb362, 7, none⟩ = some (.bool a0_7) ∧ w'.cell? ⟨gb362, 8, none⟩ = some (.bool a0_8) ∧ w'.cell? ⟨gb362, 9, none⟩ = some (.bool a0_9) ∧ w'.cell? ⟨gb362, 10, none⟩ = some (.int .i64 a0_10) ∧ w'.cell? ⟨gb363, 0, none⟩ = some (.string a1_0) ∧ w'.cell? ⟨gb363, 1, none⟩ = some (.string a1_1) ∧ w'.cell? ⟨gb363, 2, none⟩ = some (.string a1_2) ∧ w'.cell? ⟨gb363, 3, none⟩ = some (.string a1_3) ∧ w'.cell? ⟨gb363, 4, none⟩ = some (.int .i64 a1_4) ∧ w'.cell? ⟨gb363, 5, none⟩ = some (.int .i64 a1_5) ∧ w'.cell? ⟨gb363, 6, none⟩ = some (.int .i64 a1_6) ∧ w'.cell? ⟨gb363, 7, none⟩ = some (.bool a1_7) ∧ w'.cell? ⟨gb363, 8, none⟩ = some (.bool a1_8) ∧ w'.cell? ⟨gb363, 9, none⟩ = some (.bool a1_9) ∧ w'.cell? ⟨gb363, 10, none⟩ = some (.int .i64 a1_10)) ∧ (w'.heap[gb362]? = some (.cells #[.string a0_0, .string a0_1, .string a0_2, .string a0_3, .int .i64 a0_4, .int .i64 a0_5, .int .i64 a0_6, .bool a0_7, .bool a0_8, .bool a0_9, .int .i64 a0_10] 23 (0, 0))) ∧ (w'.heap[gb363]? = some (.cells #[.string a1_0, .string a1_1, .string a1_2, .string a1_3, .int .i64 a1_4, .int .i64 a1_5, .int .i64 a1_6, .bool a1_7, .bool a1_8, .bool a1_9, .int .i64 a1_10] 23 (0, 0))) ∧ (w'.heap[s_]? = some (.cells #[.string (⟨#[]⟩ : ByteArray), .string (⟨#[]⟩ : ByteArray), .string (⟨#[]⟩ : ByteArray)] 25 (0, 0))) ∧ (w.heap.size ≤ s_) ∧ (w.heap.size ≤ s_) ∧ (gb362 ≠ s_) ∧ (s_ ≠ gb362) ∧ (gb363 ≠ s_) ∧ (s_ ≠ gb363) ∧ (Below w.heap.size w w')) ?_ ?_
              rotate_left
              · intro hJ1_3_5
                refine join_ (σ := Nat × Nat) 3 #[true, true, true, false, true, true, false, false] (fun s_ => [(9, .agg #[.string t364, .string t365, .string t366]), (5, .pointer (some ⟨s_.1, 0, none⟩)), (6, .pointer (some ⟨s_.2, 0, none⟩))]) (fun s_ w' => (w'.cell? ⟨gb362, 0, none⟩ = some (.string a0_0) ∧ w'.cell? ⟨gb362, 1, none⟩ = some (.string a0_1) ∧ w'.cell? ⟨gb362, 2, none⟩ = some (.string a0_2) ∧ w'.cell? ⟨gb362, 3, none⟩ = some (.string a0_3) ∧ w'.cell? ⟨gb362, 4, none⟩ = some (.int .i64 a0_4) ∧ w'.cell? ⟨gb362, 5, none⟩ = some (.int .i64 a0_5) ∧ w'.cell? ⟨gb362, 6, none⟩ = some (.int .i64 a0_6) ∧ w'.cell? ⟨gb362, 7, none⟩ = some (.bool a0_7) ∧ w'.cell? ⟨gb362, 8, none⟩ = some (.bool a0_8) ∧ w'.cell? ⟨gb362, 9, none⟩ = some (.bool a0_9) ∧ w'.cell? ⟨gb362, 10, none⟩ = some (.int .i64 a0_10) ∧ w'.cell? ⟨gb363, 0, none⟩ = some (.string a1_0) ∧ w'.cell? ⟨gb363, 1, none⟩ = some (.string a1_1) ∧ w'.cell? ⟨gb363, 2, none⟩ = some (.string a1_2) ∧ w'.cell? ⟨gb363, 3, none⟩ = some (.string a1_3) ∧ w'.cell? ⟨gb363, 4, none⟩ = some (.int .i64 a1_4) ∧ w'.cell? ⟨gb363, 5, none⟩ = some (.int .i64 a1_5) ∧ w'.cell? ⟨gb363, 6, none⟩ = some (.int .i64 a1_6) ∧ w'.cell? ⟨gb363, 7, none⟩ = some (.bool a1_7) ∧ w'.cell? ⟨gb363, 8, none⟩ = some (.bool a1_8) ∧ w'.cell? ⟨gb363, 9, none⟩ = some (.bool a1_9) ∧ w'.cell? ⟨gb363, 10, none⟩ = some (.int .i64 a1_10)) ∧ (w'.heap[gb362]? = some (.cells #[.string a0_0, .string a0_1, .string a0_2, .string a0_3, .int .i64 a0_4, .int .i64 a0_5, .int .i64 a0_6, .bool a0_7, .bool a0_8, .bool a0_9, .int .i64 a0_10] 23 (0, 0))) ∧ (w'.heap[gb363]? = some (.cells #[.string a1_0, .string a1_1, .string a1_2, .string a1_3, .int .i64 a1_4, .int .i64 a1_5, .int .i64 a1_6, .bool a1_7, .bool a1_8, .bool a1_9, .int .i64 a1_10] 23 (0, 0))) ∧ (w'.heap[s_.1]? = some (.cells #[.string (⟨#[]⟩ : ByteArray), .string (⟨#[]⟩ : ByteArray), .string (⟨#[]⟩ : ByteArray)] 25 (0, 0))) ∧ (w'.heap[s_.2]? = some (.cells #[.string (⟨#[]⟩ : ByteArray), .string (⟨#[]⟩ : ByteArray), .string (⟨#[]⟩ : ByteArray)] 25 (0, 0))) ∧ (w.heap.size ≤ s_.1) ∧ (w.heap.size ≤ s_.1) ∧ (gb362 ≠ s_.1) ∧ (s_.1 ≠ gb362) ∧ (gb363 ≠ s_.1) ∧ (s_.1 ≠ gb363) ∧ (s_.2 ≠ s_.1) ∧ (s_.1 ≠ s_.2) ∧ (w.heap.size ≤ s_.2) ∧ (w.heap.size ≤ s_.2) ∧ (gb362 ≠ s_.2) ∧ (s_.2 ≠ gb362) ∧ (gb363 ≠ s_.2) ∧ (s_.2 ≠ gb363) ∧ (Below w.heap.size w w')) ?_ ?_
                rotate_left
                · intro hJ1_4_5
                  refine join_ (σ := Unit) 4 #[true, true, true, true, false, false, false, false] (fun s_ => [(9, .agg #[.string t364, .string t365, .string t366]), (11, .agg #[.string t367, .string t368, .string t369])]) (fun s_ w' => (w'.cell? ⟨gb362, 0, none⟩ = some (.string a0_0) ∧ w'.cell? ⟨gb362, 1, none⟩ = some (.string a0_1) ∧ w'.cell? ⟨gb362, 2, none⟩ = some (.string a0_2) ∧ w'.cell? ⟨gb362, 3, none⟩ = some (.string a0_3) ∧ w'.cell? ⟨gb362, 4, none⟩ = some (.int .i64 a0_4) ∧ w'.cell? ⟨gb362, 5, none⟩ = some (.int .i64 a0_5) ∧ w'.cell? ⟨gb362, 6, none⟩ = some (.int .i64 a0_6) ∧ w'.cell? ⟨gb362, 7, none⟩ = some (.bool a0_7) ∧ w'.cell? ⟨gb362, 8, none⟩ = some (.bool a0_8) ∧ w'.cell? ⟨gb362, 9, none⟩ = some (.bool a0_9) ∧ w'.cell? ⟨gb362, 10, none⟩ = some (.int .i64 a0_10) ∧ w'.cell? ⟨gb363, 0, none⟩ = some (.string a1_0) ∧ w'.cell? ⟨gb363, 1, none⟩ = some (.string a1_1) ∧ w'.cell? ⟨gb363, 2, none⟩ = some (.string a1_2) ∧ w'.cell? ⟨gb363, 3, none⟩ = some (.string a1_3) ∧ w'.cell? ⟨gb363, 4, none⟩ = some (.int .i64 a1_4) ∧ w'.cell? ⟨gb363, 5, none⟩ = some (.int .i64 a1_5) ∧ w'.cell? ⟨gb363, 6, none⟩ = some (.int .i64 a1_6) ∧ w'.cell? ⟨gb363, 7, none⟩ = some (.bool a1_7) ∧ w'.cell? ⟨gb363, 8, none⟩ = some (.bool a1_8) ∧ w'.cell? ⟨gb363, 9, none⟩ = some (.bool a1_9) ∧ w'.cell? ⟨gb363, 10, none⟩ = some (.int .i64 a1_10)) ∧ (w'.heap[gb362]? = some (.cells #[.string a0_0, .string a0_1, .string a0_2, .string a0_3, .int .i64 a0_4, .int .i64 a0_5, .int .i64 a0_6, .bool a0_7, .bool a0_8, .bool a0_9, .int .i64 a0_10] 23 (0, 0))) ∧ (w'.heap[gb363]? = some (.cells #[.string a1_0, .string a1_1, .string a1_2, .string a1_3, .int .i64 a1_4, .int .i64 a1_5, .int .i64 a1_6, .bool a1_7, .bool a1_8, .bool a1_9, .int .i64 a1_10] 23 (0, 0))) ∧ (Below w.heap.size w w')) ?_ ?_
                  rotate_left
                  · intro hJ1_3
                    refine join_ (σ := Nat) 4 #[true, true, true, false, true, false, false, false] (fun s_ => [(9, .agg #[.string t364, .string t365, .string t366]), (5, .pointer (some ⟨s_, 0, none⟩))]) (fun s_ w' => (w'.cell? ⟨gb362, 0, none⟩ = some (.string a0_0) ∧ w'.cell? ⟨gb362, 1, none⟩ = some (.string a0_1) ∧ w'.cell? ⟨gb362, 2, none⟩ = some (.string a0_2) ∧ w'.cell? ⟨gb362, 3, none⟩ = some (.string a0_3) ∧ w'.cell? ⟨gb362, 4, none⟩ = some (.int .i64 a0_4) ∧ w'.cell? ⟨gb362, 5, none⟩ = some (.int .i64 a0_5) ∧ w'.cell? ⟨gb362, 6, none⟩ = some (.int .i64 a0_6) ∧ w'.cell? ⟨gb362, 7, none⟩ = some (.bool a0_7) ∧ w'.cell? ⟨gb362, 8, none⟩ = some (.bool a0_8) ∧ w'.cell? ⟨gb362, 9, none⟩ = some (.bool a0_9) ∧ w'.cell? ⟨gb362, 10, none⟩ = some (.int .i64 a0_10) ∧ w'.cell? ⟨gb363, 0, none⟩ = some (.string a1_0) ∧ w'.cell? ⟨gb363, 1, none⟩ = some (.string a1_1) ∧ w'.cell? ⟨gb363, 2, none⟩ = some (.string a1_2) ∧ w'.cell? ⟨gb363, 3, none⟩ = some (.string a1_3) ∧ w'.cell? ⟨gb363, 4, none⟩ = some (.int .i64 a1_4) ∧ w'.cell? ⟨gb363, 5, none⟩ = some (.int .i64 a1_5) ∧ w'.cell? ⟨gb363, 6, none⟩ = some (.int .i64 a1_6) ∧ w'.cell? ⟨gb363, 7, none⟩ = some (.bool a1_7) ∧ w'.cell? ⟨gb363, 8, none⟩ = some (.bool a1_8) ∧ w'.cell? ⟨gb363, 9, none⟩ = some (.bool a1_9) ∧ w'.cell? ⟨gb363, 10, none⟩ = some (.int .i64 a1_10)) ∧ (w'.heap[gb362]? = some (.cells #[.string a0_0, .string a0_1, .string a0_2, .string a0_3, .int .i64 a0_4, .int .i64 a0_5, .int .i64 a0_6, .bool a0_7, .bool a0_8, .bool a0_9, .int .i64 a0_10] 23 (0, 0))) ∧ (w'.heap[gb363]? = some (.cells #[.string a1_0, .string a1_1, .string a1_2, .string a1_3, .int .i64 a1_4, .int .i64 a1_5, .int .i64 a1_6, .bool a1_7, .bool a1_8, .bool a1_9, .int .i64 a1_10] 23 (0, 0))) ∧ (w'.heap[s_]? = some (.cells #[.string (⟨#[]⟩ : ByteArray), .string (⟨#[]⟩ : ByteArray), .string (⟨#[]⟩ : ByteArray)] 25 (0, 0))) ∧ (w.heap.size ≤ s_) ∧ (w.heap.size ≤ s_) ∧ (gb362 ≠ s_) ∧ (s_ ≠ gb362) ∧ (gb363 ≠ s_) ∧ (s_ ≠ gb363) ∧ (Below w.heap.size w w')) ?_ ?_
                    rotate_left
                    · intro hJ1_4
                      refine join_ (σ := Nat) 4 #[true, true, true, false, false, true, false, false] (fun s_ => [(9, .agg #[.string t364, .string t365, .string t366]), (6, .pointer (some ⟨s_, 0, none⟩))]) (fun s_ w' => (w'.cell? ⟨gb362, 0, none⟩ = some (.string a0_0) ∧ w'.cell? ⟨gb362, 1, none⟩ = some (.string a0_1) ∧ w'.cell? ⟨gb362, 2, none⟩ = some (.string a0_2) ∧ w'.cell? ⟨gb362, 3, none⟩ = some (.string a0_3) ∧ w'.cell? ⟨gb362, 4, none⟩ = some (.int .i64 a0_4) ∧ w'.cell? ⟨gb362, 5, none⟩ = some (.int .i64 a0_5) ∧ w'.cell? ⟨gb362, 6, none⟩ = some (.int .i64 a0_6) ∧ w'.cell? ⟨gb362, 7, none⟩ = some (.bool a0_7) ∧ w'.cell? ⟨gb362, 8, none⟩ = some (.bool a0_8) ∧ w'.cell? ⟨gb362, 9, none⟩ = some (.bool a0_9) ∧ w'.cell? ⟨gb362, 10, none⟩ = some (.int .i64 a0_10) ∧ w'.cell? ⟨gb363, 0, none⟩ = some (.string a1_0) ∧ w'.cell? ⟨gb363, 1, none⟩ = some (.string a1_1) ∧ w'.cell? ⟨gb363, 2, none⟩ = some (.string a1_2) ∧ w'.cell? ⟨gb363, 3, none⟩ = some (.string a1_3) ∧ w'.cell? ⟨gb363, 4, none⟩ = some (.int .i64 a1_4) ∧ w'.cell? ⟨gb363, 5, none⟩ = some (.int .i64 a1_5) ∧ w'.cell? ⟨gb363, 6, none⟩ = some (.int .i64 a1_6) ∧ w'.cell? ⟨gb363, 7, none⟩ = some (.bool a1_7) ∧ w'.cell? ⟨gb363, 8, none⟩ = some (.bool a1_8) ∧ w'.cell? ⟨gb363, 9, none⟩ = some (.bool a1_9) ∧ w'.cell? ⟨gb363, 10, none⟩ = some (.int .i64 a1_10)) ∧ (w'.heap[gb362]? = some (.cells #[.string a0_0, .string a0_1, .string a0_2, .string a0_3, .int .i64 a0_4, .int .i64 a0_5, .int .i64 a0_6, .bool a0_7, .bool a0_8, .bool a0_9, .int .i64 a0_10] 23 (0, 0))) ∧ (w'.heap[gb363]? = some (.cells #[.string a1_0, .string a1_1, .string a1_2, .string a1_3, .int .i64 a1_4, .int .i64 a1_5, .int .i64 a1_6, .bool a1_7, .bool a1_8, .bool a1_9, .int .i64 a1_10] 23 (0, 0))) ∧ (w'.heap[s_]? = some (.cells #[.string (⟨#[]⟩ : ByteArray), .string (⟨#[]⟩ : ByteArray), .string (⟨#[]⟩ : ByteArray)] 25 (0, 0))) ∧ (w.heap.size ≤ s_) ∧ (w.heap.size ≤ s_) ∧ (gb362 ≠ s_) ∧ (s_ ≠ gb362) ∧ (gb363 ≠ s_) ∧ (s_ ≠ gb363) ∧ (Below w.heap.size w w')) ?_ ?_
                      rotate_left
                      · intro hJ1_5
                        refine join_ (σ := Nat × Nat) 4 #[true, false, true, false, true, true, false, false] (fun s_ => [(5, .pointer (some ⟨s_.1, 0, none⟩)), (6, .pointer (some ⟨s_.2, 0, none⟩))]) (fun s_ w' => (w'.cell? ⟨gb362, 0, none⟩ = some (.string a0_0) ∧ w'.cell? ⟨gb362, 1, none⟩ = some (.string a0_1) ∧ w'.cell? ⟨gb362, 2, none⟩ = some (.string a0_2) ∧ w'.cell? ⟨gb362, 3, none⟩ = some (.string a0_3) ∧ w'.cell? ⟨gb362, 4, none⟩ = some (.int .i64 a0_4) ∧ w'.cell? ⟨gb362, 5, none⟩ = some (.int .i64 a0_5) ∧ w'.cell? ⟨gb362, 6, none⟩ = some (.int .i64 a0_6) ∧ w'.cell? ⟨gb362, 7, none⟩ = some (.bool a0_7) ∧ w'.cell? ⟨gb362, 8, none⟩ = some (.bool a0_8) ∧ w'.cell? ⟨gb362, 9, none⟩ = some (.bool a0_9) ∧ w'.cell? ⟨gb362, 10, none⟩ = some (.int .i64 a0_10) ∧ w'.cell? ⟨gb363, 0, none⟩ = some (.string a1_0) ∧ w'.cell? ⟨gb363, 1, none⟩ = some (.string a1_1) ∧ w'.cell? ⟨gb363, 2, none⟩ = some (.string a1_2) ∧ w'.cell? ⟨gb363, 3, none⟩ = some (.string a1_3) ∧ w'.cell? ⟨gb363, 4, none⟩ = some (.int .i64 a1_4) ∧ w'.cell? ⟨gb363, 5, none⟩ = some (.int .i64 a1_5) ∧ w'.cell? ⟨gb363, 6, none⟩ = some (.int .i64 a1_6) ∧ w'.cell? ⟨gb363, 7, none⟩ = some (.bool a1_7) ∧ w'.cell? ⟨gb363, 8, none⟩ = some (.bool a1_8) ∧ w'.cell? ⟨gb363, 9, none⟩ = some (.bool a1_9) ∧ w'.cell? ⟨gb363, 10, none⟩ = some (.int .i64 a1_10)) ∧ (w'.heap[gb362]? = some (.cells #[.string a0_0, .string a0_1, .string a0_2, .string a0_3, .int .i64 a0_4, .int .i64 a0_5, .int .i64 a0_6, .bool a0_7, .bool a0_8, .bool a0_9, .int .i64 a0_10] 23 (0, 0))) ∧ (w'.heap[gb363]? = some (.cells #[.string a1_0, .string a1_1, .string a1_2, .string a1_3, .int .i64 a1_4, .int .i64 a1_5, .int .i64 a1_6, .bool a1_7, .bool a1_8, .bool a1_9, .int .i64 a1_10] 23 (0, 0))) ∧ (w'.heap[s_.1]? = some (.cells #[.string (⟨#[]⟩ : ByteArray), .string (⟨#[]⟩ : ByteArray), .string (⟨#[]⟩ : ByteArray)] 25 (0, 0))) ∧ (w'.heap[s_.2]? = some (.cells #[.string (⟨#[]⟩ : ByteArray), .string (⟨#[]⟩ : ByteArray), .string (⟨#[]⟩ : ByteArray)] 25 (0, 0))) ∧ (w.heap.size ≤ s_.1) ∧ (w.heap.size ≤ s_.1) ∧ (gb362 ≠ s_.1) ∧ (s_.1 ≠ gb362) ∧ (gb363 ≠ s_.1) ∧ (s_.1 ≠ gb363) ∧ (s_.2 ≠ s_.1) ∧ (s_.1 ≠ s_.2) ∧ (w.heap.size ≤ s_.2) ∧ (w.heap.size ≤ s_.2) ∧ (gb362 ≠ s_.2) ∧ (s_.2 ≠ gb362) ∧ (gb363 ≠ s_.2) ∧ (s_.2 ≠ gb363) ∧ (Below w.heap.size w w')) ?_ ?_
                        rotate_left
                        · intro hJ4_5
                          refine join_ (σ := Unit) 5 #[true, true, true, false, false, false, false, false] (fun s_ => [(9, .agg #[.string t364, .string t365, .string t366])]) (fun s_ w' => (w'.cell? ⟨gb362, 0, none⟩ = some (.string a0_0) ∧ w'.cell? ⟨gb362, 1, none⟩ = some (.string a0_1) ∧ w'.cell? ⟨gb362, 2, none⟩ = some (.string a0_2) ∧ w'.cell? ⟨gb362, 3, none⟩ = some (.string a0_3) ∧ w'.cell? ⟨gb362, 4, none⟩ = some (.int .i64 a0_4) ∧ w'.cell? ⟨gb362, 5, none⟩ = some (.int .i64 a0_5) ∧ w'.cell? ⟨gb362, 6, none⟩ = some (.int .i64 a0_6) ∧ w'.cell? ⟨gb362, 7, none⟩ = some (.bool a0_7) ∧ w'.cell? ⟨gb362, 8, none⟩ = some (.bool a0_8) ∧ w'.cell? ⟨gb362, 9, none⟩ = some (.bool a0_9) ∧ w'.cell? ⟨gb362, 10, none⟩ = some (.int .i64 a0_10) ∧ w'.cell? ⟨gb363, 0, none⟩ = some (.string a1_0) ∧ w'.cell? ⟨gb363, 1, none⟩ = some (.string a1_1) ∧ w'.cell? ⟨gb363, 2, none⟩ = some (.string a1_2) ∧ w'.cell? ⟨gb363, 3, none⟩ = some (.string a1_3) ∧ w'.cell? ⟨gb363, 4, none⟩ = some (.int .i64 a1_4) ∧ w'.cell? ⟨gb363, 5, none⟩ = some (.int .i64 a1_5) ∧ w'.cell? ⟨gb363, 6, none⟩ = some (.int .i64 a1_6) ∧ w'.cell? ⟨gb363, 7, none⟩ = some (.bool a1_7) ∧ w'.cell? ⟨gb363, 8, none⟩ = some (.bool a1_8) ∧ w'.cell? ⟨gb363, 9, none⟩ = some (.bool a1_9) ∧ w'.cell? ⟨gb363, 10, none⟩ = some (.int .i64 a1_10)) ∧ (w'.heap[gb362]? = some (.cells #[.string a0_0, .string a0_1, .string a0_2, .string a0_3, .int .i64 a0_4, .int .i64 a0_5, .int .i64 a0_6, .bool a0_7, .bool a0_8, .bool a0_9, .int .i64 a0_10] 23 (0, 0))) ∧ (w'.heap[gb363]? = some (.cells #[.string a1_0, .string a1_1, .string a1_2, .string a1_3, .int .i64 a1_4, .int .i64 a1_5, .int .i64 a1_6, .bool a1_7, .bool a1_8, .bool a1_9, .int .i64 a1_10] 23 (0, 0))) ∧ (Below w.heap.size w w')) ?_ ?_
                          rotate_left
                          · intro hJ1
                            refine join_ (σ := Nat) 5 #[true, false, true, false, true, false, false, false] (fun s_ => [(5, .pointer (some ⟨s_, 0, none⟩))]) (fun s_ w' => (w'.cell? ⟨gb362, 0, none⟩ = some (.string a0_0) ∧ w'.cell? ⟨gb362, 1, none⟩ = some (.string a0_1) ∧ w'.cell? ⟨gb362, 2, none⟩ = some (.string a0_2) ∧ w'.cell? ⟨gb362, 3, none⟩ = some (.string a0_3) ∧ w'.cell? ⟨gb362, 4, none⟩ = some (.int .i64 a0_4) ∧ w'.cell? ⟨gb362, 5, none⟩ = some (.int .i64 a0_5) ∧ w'.cell? ⟨gb362, 6, none⟩ = some (.int .i64 a0_6) ∧ w'.cell? ⟨gb362, 7, none⟩ = some (.bool a0_7) ∧ w'.cell? ⟨gb362, 8, none⟩ = some (.bool a0_8) ∧ w'.cell? ⟨gb362, 9, none⟩ = some (.bool a0_9) ∧ w'.cell? ⟨gb362, 10, none⟩ = some (.int .i64 a0_10) ∧ w'.cell? ⟨gb363, 0, none⟩ = some (.string a1_0) ∧ w'.cell? ⟨gb363, 1, none⟩ = some (.string a1_1) ∧ w'.cell? ⟨gb363, 2, none⟩ = some (.string a1_2) ∧ w'.cell? ⟨gb363, 3, none⟩ = some (.string a1_3) ∧ w'.cell? ⟨gb363, 4, none⟩ = some (.int .i64 a1_4) ∧ w'.cell? ⟨gb363, 5, none⟩ = some (.int .i64 a1_5) ∧ w'.cell? ⟨gb363, 6, none⟩ = some (.int .i64 a1_6) ∧ w'.cell? ⟨gb363, 7, none⟩ = some (.bool a1_7) ∧ w'.cell? ⟨gb363, 8, none⟩ = some (.bool a1_8) ∧ w'.cell? ⟨gb363, 9, none⟩ = some (.bool a1_9) ∧ w'.cell? ⟨gb363, 10, none⟩ = some (.int .i64 a1_10)) ∧ (w'.heap[gb362]? = some (.cells #[.string a0_0, .string a0_1, .string a0_2, .string a0_3, .int .i64 a0_4, .int .i64 a0_5, .int .i64 a0_6, .bool a0_7, .bool a0_8, .bool a0_9, .int .i64 a0_10] 23 (0, 0))) ∧ (w'.heap[gb363]? = some (.cells #[.string a1_0, .string a1_1, .string a1_2, .string a1_3, .int .i64 a1_4, .int .i64 a1_5, .int .i64 a1_6, .bool a1_7, .bool a1_8, .bool a1_9, .int .i64 a1_10] 23 (0, 0))) ∧ (w'.heap[s_]? = some (.cells #[.string (⟨#[]⟩ : ByteArray), .string (⟨#[]⟩ : ByteArray), .string (⟨#[]⟩ : ByteArray)] 25 (0, 0))) ∧ (w.heap.size ≤ s_) ∧ (w.heap.size ≤ s_) ∧ (gb362 ≠ s_) ∧ (s_ ≠ gb362) ∧ (gb363 ≠ s_) ∧ (s_ ≠ gb363) ∧ (Below w.heap.size w w')) ?_ ?_
                            rotate_left
                            · intro hJ4
                              refine join_ (σ := Nat) 5 #[true, false, true, false, false, true, false, false] (fun s_ => [(6, .pointer (some ⟨s_, 0, none⟩))]) (fun s_ w' => (w'.cell? ⟨gb362, 0, none⟩ = some (.string a0_0) ∧ w'.cell? ⟨gb362, 1, none⟩ = some (.string a0_1) ∧ w'.cell? ⟨gb362, 2, none⟩ = some (.string a0_2) ∧ w'.cell? ⟨gb362, 3, none⟩ = some (.string a0_3) ∧ w'.cell? ⟨gb362, 4, none⟩ = some (.int .i64 a0_4) ∧ w'.cell? ⟨gb362, 5, none⟩ = some (.int .i64 a0_5) ∧ w'.cell? ⟨gb362, 6, none⟩ = some (.int .i64 a0_6) ∧ w'.cell? ⟨gb362, 7, none⟩ = some (.bool a0_7) ∧ w'.cell? ⟨gb362, 8, none⟩ = some (.bool a0_8) ∧ w'.cell? ⟨gb362, 9, none⟩ = some (.bool a0_9) ∧ w'.cell? ⟨gb362, 10, none⟩ = some (.int .i64 a0_10) ∧ w'.cell? ⟨gb363, 0, none⟩ = some (.string a1_0) ∧ w'.cell? ⟨gb363, 1, none⟩ = some (.string a1_1) ∧ w'.cell? ⟨gb363, 2, none⟩ = some (.string a1_2) ∧ w'.cell? ⟨gb363, 3, none⟩ = some (.string a1_3) ∧ w'.cell? ⟨gb363, 4, none⟩ = some (.int .i64 a1_4) ∧ w'.cell? ⟨gb363, 5, none⟩ = some (.int .i64 a1_5) ∧ w'.cell? ⟨gb363, 6, none⟩ = some (.int .i64 a1_6) ∧ w'.cell? ⟨gb363, 7, none⟩ = some (.bool a1_7) ∧ w'.cell? ⟨gb363, 8, none⟩ = some (.bool a1_8) ∧ w'.cell? ⟨gb363, 9, none⟩ = some (.bool a1_9) ∧ w'.cell? ⟨gb363, 10, none⟩ = some (.int .i64 a1_10)) ∧ (w'.heap[gb362]? = some (.cells #[.string a0_0, .string a0_1, .string a0_2, .string a0_3, .int .i64 a0_4, .int .i64 a0_5, .int .i64 a0_6, .bool a0_7, .bool a0_8, .bool a0_9, .int .i64 a0_10] 23 (0, 0))) ∧ (w'.heap[gb363]? = some (.cells #[.string a1_0, .string a1_1, .string a1_2, .string a1_3, .int .i64 a1_4, .int .i64 a1_5, .int .i64 a1_6, .bool a1_7, .bool a1_8, .bool a1_9, .int .i64 a1_10] 23 (0, 0))) ∧ (w'.heap[s_]? = some (.cells #[.string (⟨#[]⟩ : ByteArray), .string (⟨#[]⟩ : ByteArray), .string (⟨#[]⟩ : ByteArray)] 25 (0, 0))) ∧ (w.heap.size ≤ s_) ∧ (w.heap.size ≤ s_) ∧ (gb362 ≠ s_) ∧ (s_ ≠ gb362) ∧ (gb363 ≠ s_) ∧ (s_ ≠ gb363) ∧ (Below w.heap.size w w')) ?_ ?_
                              rotate_left
                              · intro hJ5
                                refine three_ (i := 1) (j := 4) (k := 5) (Ni := some 9) (Nj := some 5) (Nk := some 6) #[true, true, true, false, false, false, false, false] #[true, false, true, false, true, false, false, false] #[true, false, true, false, false, true, false, false] rfl rfl rfl rfl rfl rfl (three_of HT_.out (by kernel_rfl)) (by decide) (by decide) (by decide) (fun K hK => ?_) (fun K hK => ?_) (fun K hK => ?_)
                                · skip
                                  refine goes_ Tryd.func9 (by kernel_rfl) rfl #[.agg #[.string a0_0, .string a0_1, .string a0_2, .string a0_3, .int .i64 a0_4, .int .i64 a0_5, .int .i64 a0_6, .bool a0_7, .bool a0_8, .bool a0_9, .int .i64 a0_10]] (by rfl) rfl rfl xg ?_
                                  with_reducible refine (PrintC.cookie_Of.calls a0_0 a0_1 a0_2 a0_3 a0_4 a0_5 a0_6 a0_7 a0_8 a0_9 a0_10 t364 t365 t366 _ A3.out).mono ?_
                                  rintro e w19 ⟨rfl, hb⟩
                                  refine ⟨_, rfl, ?_⟩
                                  have n0_ := blkB BK362 hb
                                  have n1_ := blkB BK363 hb
                                  have n2_ := Aside0.mk (below_step xb hb)
                                  clear BK362
                                  clear BK363
                                  clear HB
                                  have BK362 := n0_
                                  have BK363 := n1_
                                  have HB := n2_
                                  clear n0_ n1_ n2_
                                  (try clear hb)
                                  (try clear hb2)
                                  (try clear hk)
                                  (try clear hi)
                                  refine hK.out _ _ xc (fun hHeld => ?_)
                                  clear hK K
                                  refine norm_ (a' := ?_) ?_ ?_
                                  rotate_left
                                  · show Act.put _ (some 9) _ = _
                                    simp only [Act.put, List.setIfInBounds_toArray, List.set_cons_zero, List.set_cons_succ, i64_w, i32_w]
                                    rfl
                                  exact norm_ (by first | (simp only [putAll, Act.put, List.setIfInBounds_toArray, List.set_cons_zero, List.set_cons_succ]; done) | (simp only [putAll, Act.put, List.setIfInBounds_toArray, List.set_cons_zero, List.set_cons_succ]; rfl)) (hJ1 () _ ⟨hHeld, xk, xk, xb⟩)
                                · skip
                                  refine box_step ?hg (N := 5) ?hd (cs := #[.string (⟨#[]⟩ : ByteArray), .string (⟨#[]⟩ : ByteArray), .string (⟨#[]⟩ : ByteArray)]) (t := 25) ?hr ?_; (case hd => rfl); (case hg => rfl); (case hr => first | (go_simp; done) | (go_simp; rfl))
                                  intro gb370 hg w19 hbox hb
                                  have n0_ := blkB BK362 hb
                                  have n1_ := blkB BK363 hb
                                  have n2_ := Aside0.mk (below_step xb hb)
                                  have n3_ := Aside0.mk (hbox)
                                  have n4_ := Aside0.mk ((by rw [hg]; exact (below_size xb) : w.heap.size ≤ gb370))
                                  have n5_ := Aside0.mk ((by rw [hg]; exact (below_size xb) : w.heap.size ≤ gb370))
                                  have n6_ := Aside0.mk ((by rw [hg]; exact Nat.ne_of_lt (blkL BK362) : gb362 ≠ gb370))
                                  have n7_ := Aside0.mk ((by rw [hg]; exact Nat.ne_of_gt (blkL BK362) : gb370 ≠ gb362))
                                  have n8_ := Aside0.mk ((by rw [hg]; exact Nat.ne_of_lt (blkL BK363) : gb363 ≠ gb370))
                                  have n9_ := Aside0.mk ((by rw [hg]; exact Nat.ne_of_gt (blkL BK363) : gb370 ≠ gb363))
                                  clear BK362
                                  clear BK363
                                  clear HB
                                  have BK362 := n0_
                                  have BK363 := n1_
                                  have HB := n2_
                                  have BK370 := n3_
                                  have GW370 := n4_
                                  have GE370 := n5_
                                  have NB362_370 := n6_
                                  have NB370_362 := n7_
                                  have NB363_370 := n8_
                                  have NB370_363 := n9_
                                  clear n0_ n1_ n2_ n3_ n4_ n5_ n6_ n7_ n8_ n9_
                                  clear hb hbox hg
                                  refine hK.out _ _ xc (fun hHeld => ?_)
                                  clear hK K
                                  refine norm_ (a' := ?_) ?_ ?_
                                  rotate_left
                                  · show Act.put _ (some 5) _ = _
                                    simp only [Act.put, List.setIfInBounds_toArray, List.set_cons_zero, List.set_cons_succ, i64_w, i32_w]
                                    rfl
                                  exact norm_ (by first | (simp only [putAll, Act.put, List.setIfInBounds_toArray, List.set_cons_zero, List.set_cons_succ]; done) | (simp only [putAll, Act.put, List.setIfInBounds_toArray, List.set_cons_zero, List.set_cons_succ]; rfl)) (hJ4 (gb370) _ ⟨hHeld, xk, xk, xk, GW370.out, GE370.out, NB362_370.out, NB370_362.out, NB363_370.out, NB370_363.out, xb⟩)
                                · skip
                                  refine box_step ?hg (N := 6) ?hd (cs := #[.string (⟨#[]⟩ : ByteArray), .string (⟨#[]⟩ : ByteArray), .string (⟨#[]⟩ : ByteArray)]) (t := 25) ?hr ?_; (case hd => rfl); (case hg => rfl); (case hr => first | (go_simp; done) | (go_simp; rfl))
                                  intro gb371 hg w19 hbox hb
                                  have n0_ := blkB BK362 hb
                                  have n1_ := blkB BK363 hb
                                  have n2_ := Aside0.mk (below_step xb hb)
                                  have n3_ := Aside0.mk (hbox)
                                  have n4_ := Aside0.mk ((by rw [hg]; exact (below_size xb) : w.heap.size ≤ gb371))
                                  have n5_ := Aside0.mk ((by rw [hg]; exact (below_size xb) : w.heap.size ≤ gb371))
                                  have n6_ := Aside0.mk ((by rw [hg]; exact Nat.ne_of_lt (blkL BK362) : gb362 ≠ gb371))
                                  have n7_ := Aside0.mk ((by rw [hg]; exact Nat.ne_of_gt (blkL BK362) : gb371 ≠ gb362))
                                  have n8_ := Aside0.mk ((by rw [hg]; exact Nat.ne_of_lt (blkL BK363) : gb363 ≠ gb371))
                                  have n9_ := Aside0.mk ((by rw [hg]; exact Nat.ne_of_gt (blkL BK363) : gb371 ≠ gb363))
                                  clear BK362
                                  clear BK363
                                  clear HB
                                  have BK362 := n0_
                                  have BK363 := n1_
                                  have HB := n2_
                                  have BK371 := n3_
                                  have GW371 := n4_
                                  have GE371 := n5_
                                  have NB362_371 := n6_
                                  have NB371_362 := n7_
                                  have NB363_371 := n8_
                                  have NB371_363 := n9_
                                  clear n0_ n1_ n2_ n3_ n4_ n5_ n6_ n7_ n8_ n9_
                                  clear hb hbox hg
                                  refine hK.out _ _ xc (fun hHeld => ?_)
                                  clear hK K
                                  refine norm_ (a' := ?_) ?_ ?_
                                  rotate_left
                                  · show Act.put _ (some 6) _ = _
                                    simp only [Act.put, List.setIfInBounds_toArray, List.set_cons_zero, List.set_cons_succ, i64_w, i32_w]
                                    rfl
                                  exact norm_ (by first | (simp only [putAll, Act.put, List.setIfInBounds_toArray, List.set_cons_zero, List.set_cons_succ]; done) | (simp only [putAll, Act.put, List.setIfInBounds_toArray, List.set_cons_zero, List.set_cons_succ]; rfl)) (hJ5 (gb371) _ ⟨hHeld, xk, xk, xk, GW371.out, GE371.out, NB362_371.out, NB371_362.out, NB363_371.out, NB371_363.out, xb⟩)
                              · skip
                                rintro gb371 w20 ⟨hS_, h0_, h1_, h2_, h3_, h4_, h5_, h6_, h7_, h8_, h9_⟩
                                have n0_ : Aside0 (w20.heap[gb362]? = some (.cells #[.string a0_0, .string a0_1, .string a0_2, .string a0_3, .int .i64 a0_4, .int .i64 a0_5, .int .i64 a0_6, .bool a0_7, .bool a0_8, .bool a0_9, .int .i64 a0_10] 23 (0, 0))) := ⟨h0_⟩
                                have n1_ : Aside0 (w20.heap[gb363]? = some (.cells #[.string a1_0, .string a1_1, .string a1_2, .string a1_3, .int .i64 a1_4, .int .i64 a1_5, .int .i64 a1_6, .bool a1_7, .bool a1_8, .bool a1_9, .int .i64 a1_10] 23 (0, 0))) := ⟨h1_⟩
                                have n2_ : Aside0 (w20.heap[gb371]? = some (.cells #[.string (⟨#[]⟩ : ByteArray), .string (⟨#[]⟩ : ByteArray), .string (⟨#[]⟩ : ByteArray)] 25 (0, 0))) := ⟨h2_⟩
                                have n3_ : Aside0 (w.heap.size ≤ gb371) := ⟨h3_⟩
                                have n4_ : Aside0 (w.heap.size ≤ gb371) := ⟨h4_⟩
                                have n5_ : Aside0 (gb362 ≠ gb371) := ⟨h5_⟩
                                have n6_ : Aside0 (gb371 ≠ gb362) := ⟨h6_⟩
                                have n7_ : Aside0 (gb363 ≠ gb371) := ⟨h7_⟩
                                have n8_ : Aside0 (gb371 ≠ gb363) := ⟨h8_⟩
                                have n9_ : Aside0 (Below w.heap.size w w20) := ⟨h9_⟩
                                clear BK362
                                clear BK363
                                clear HB
                                clear h0_ h1_ h2_ h3_ h4_ h5_ h6_ h7_ h8_ h9_
                                have BK362 := n0_
                                have BK363 := n1_
                                have BK371 := n2_
                                have GW371 := n3_
                                have GE371 := n4_
                                have NB362_371 := n5_
                                have NB371_362 := n6_
                                have NB363_371 := n7_
                                have NB371_363 := n8_
                                have HB := n9_
                                clear n0_ n1_ n2_ n3_ n4_ n5_ n6_ n7_ n8_ n9_
                                have hHeld : w20.cell? ⟨gb362, 0, none⟩ = some (.string a0_0) ∧ w20.cell? ⟨gb362, 1, none⟩ = some (.string a0_1) ∧ w20.cell? ⟨gb362, 2, none⟩ = some (.string a0_2) ∧ w20.cell? ⟨gb362, 3, none⟩ = some (.string a0_3) ∧ w20.cell? ⟨gb362, 4, none⟩ = some (.int .i64 a0_4) ∧ w20.cell? ⟨gb362, 5, none⟩ = some (.int .i64 a0_5) ∧ w20.cell? ⟨gb362, 6, none⟩ = some (.int .i64 a0_6) ∧ w20.cell? ⟨gb362, 7, none⟩ = some (.bool a0_7) ∧ w20.cell? ⟨gb362, 8, none⟩ = some (.bool a0_8) ∧ w20.cell? ⟨gb362, 9, none⟩ = some (.bool a0_9) ∧ w20.cell? ⟨gb362, 10, none⟩ = some (.int .i64 a0_10) ∧ w20.cell? ⟨gb363, 0, none⟩ = some (.string a1_0) ∧ w20.cell? ⟨gb363, 1, none⟩ = some (.string a1_1) ∧ w20.cell? ⟨gb363, 2, none⟩ = some (.string a1_2) ∧ w20.cell? ⟨gb363, 3, none⟩ = some (.string a1_3) ∧ w20.cell? ⟨gb363, 4, none⟩ = some (.int .i64 a1_4) ∧ w20.cell? ⟨gb363, 5, none⟩ = some (.int .i64 a1_5) ∧ w20.cell? ⟨gb363, 6, none⟩ = some (.int .i64 a1_6) ∧ w20.cell? ⟨gb363, 7, none⟩ = some (.bool a1_7) ∧ w20.cell? ⟨gb363, 8, none⟩ = some (.bool a1_8) ∧ w20.cell? ⟨gb363, 9, none⟩ = some (.bool a1_9) ∧ w20.cell? ⟨gb363, 10, none⟩ = some (.int .i64 a1_10) := hS_
                                refine norm_ (a' := ?_) ?_ ?_
                                rotate_left
                                · simp only [putAll, Act.put, List.setIfInBounds_toArray, List.set_cons_zero, List.set_cons_succ]
                                  rfl
                                refine two_ (i := 1) (j := 4) (Ni := some 9) (Nj := some 5) #[true, true, true, false, false, true, false, false] #[true, false, true, false, true, true, false, false] rfl rfl rfl rfl (two_of HT_.out (by kernel_rfl)) (by decide) (by decide) (fun K hK => ?_) (fun K hK => ?_)
                                · skip
                                  refine goes_ Tryd.func9 (by kernel_rfl) rfl #[.agg #[.string a0_0, .string a0_1, .string a0_2, .string a0_3, .int .i64 a0_4, .int .i64 a0_5, .int .i64 a0_6, .bool a0_7, .bool a0_8, .bool a0_9, .int .i64 a0_10]] (by rfl) rfl rfl xg ?_
                                  with_reducible refine (PrintC.cookie_Of.calls a0_0 a0_1 a0_2 a0_3 a0_4 a0_5 a0_6 a0_7 a0_8 a0_9 a0_10 t364 t365 t366 _ A3.out).mono ?_
                                  rintro e w21 ⟨rfl, hb⟩
                                  refine ⟨_, rfl, ?_⟩
                                  have n0_ := blkB BK362 hb
                                  have n1_ := blkB BK363 hb
                                  have n2_ := blkB BK371 hb
                                  have n3_ := Aside0.mk (below_step xb hb)
                                  clear BK362
                                  clear BK363
                                  clear BK371
                                  clear HB
                                  have BK362 := n0_
                                  have BK363 := n1_
                                  have BK371 := n2_
                                  have HB := n3_
                                  clear n0_ n1_ n2_ n3_
                                  (try clear hb)
                                  (try clear hb2)
                                  (try clear hk)
                                  (try clear hi)
                                  refine hK.out _ _ xc (fun hHeld => ?_)
                                  clear hK K
                                  refine norm_ (a' := ?_) ?_ ?_
                                  rotate_left
                                  · show Act.put _ (some 9) _ = _
                                    simp only [Act.put, List.setIfInBounds_toArray, List.set_cons_zero, List.set_cons_succ, i64_w, i32_w]
                                    rfl
                                  exact norm_ (by first | (simp only [putAll, Act.put, List.setIfInBounds_toArray, List.set_cons_zero, List.set_cons_succ]; done) | (simp only [putAll, Act.put, List.setIfInBounds_toArray, List.set_cons_zero, List.set_cons_succ]; rfl)) (hJ1_5 (gb371) _ ⟨hHeld, xk, xk, xk, GW371.out, GE371.out, NB362_371.out, NB371_362.out, NB363_371.out, NB371_363.out, xb⟩)
                                · skip
                                  refine box_step ?hg (N := 5) ?hd (cs := #[.string (⟨#[]⟩ : ByteArray), .string (⟨#[]⟩ : ByteArray), .string (⟨#[]⟩ : ByteArray)]) (t := 25) ?hr ?_; (case hd => rfl); (case hg => rfl); (case hr => first | (go_simp; done) | (go_simp; rfl))
                                  intro gb370 hg w21 hbox hb
                                  have n0_ := blkB BK362 hb
                                  have n1_ := blkB BK363 hb
                                  have n2_ := blkB BK371 hb
                                  have n3_ := Aside0.mk (below_step xb hb)
                                  have n4_ := Aside0.mk (hbox)
                                  have n5_ := Aside0.mk ((by rw [hg]; exact (below_size xb) : w.heap.size ≤ gb370))
                                  have n6_ := Aside0.mk ((by rw [hg]; exact (below_size xb) : w.heap.size ≤ gb370))
                                  have n7_ := Aside0.mk ((by rw [hg]; exact Nat.ne_of_lt (blkL BK362) : gb362 ≠ gb370))
                                  have n8_ := Aside0.mk ((by rw [hg]; exact Nat.ne_of_gt (blkL BK362) : gb370 ≠ gb362))
                                  have n9_ := Aside0.mk ((by rw [hg]; exact Nat.ne_of_lt (blkL BK363) : gb363 ≠ gb370))
                                  have n10_ := Aside0.mk ((by rw [hg]; exact Nat.ne_of_gt (blkL BK363) : gb370 ≠ gb363))
                                  have n11_ := Aside0.mk ((by rw [hg]; exact Nat.ne_of_lt (blkL BK371) : gb371 ≠ gb370))
                                  have n12_ := Aside0.mk ((by rw [hg]; exact Nat.ne_of_gt (blkL BK371) : gb370 ≠ gb371))
                                  clear BK362
                                  clear BK363
                                  clear BK371
                                  clear HB
                                  have BK362 := n0_
                                  have BK363 := n1_
                                  have BK371 := n2_
                                  have HB := n3_
                                  have BK370 := n4_
                                  have GW370 := n5_
                                  have GE370 := n6_
                                  have NB362_370 := n7_
                                  have NB370_362 := n8_
                                  have NB363_370 := n9_
                                  have NB370_363 := n10_
                                  have NB371_370 := n11_
                                  have NB370_371 := n12_
                                  clear n0_ n1_ n2_ n3_ n4_ n5_ n6_ n7_ n8_ n9_ n10_ n11_ n12_
                                  clear hb hbox hg
                                  refine hK.out _ _ xc (fun hHeld => ?_)
                                  clear hK K
                                  refine norm_ (a' := ?_) ?_ ?_
                                  rotate_left
                                  · show Act.put _ (some 5) _ = _
                                    simp only [Act.put, List.setIfInBounds_toArray, List.set_cons_zero, List.set_cons_succ, i64_w, i32_w]
                                    rfl
                                  exact norm_ (by first | (simp only [putAll, Act.put, List.setIfInBounds_toArray, List.set_cons_zero, List.set_cons_succ]; done) | (simp only [putAll, Act.put, List.setIfInBounds_toArray, List.set_cons_zero, List.set_cons_succ]; rfl)) (hJ4_5 (gb370, gb371) _ ⟨hHeld, xk, xk, xk, xk, GW370.out, GE370.out, NB362_370.out, NB370_362.out, NB363_370.out, NB370_363.out, NB371_370.out, NB370_371.out, GW371.out, GE371.out, NB362_371.out, NB371_362.out, NB363_371.out, NB371_363.out, xb⟩)
                            · skip
                              rintro gb370 w20 ⟨hS_, h0_, h1_, h2_, h3_, h4_, h5_, h6_, h7_, h8_, h9_⟩
                              have n0_ : Aside0 (w20.heap[gb362]? = some (.cells #[.string a0_0, .string a0_1, .string a0_2, .string a0_3, .int .i64 a0_4, .int .i64 a0_5, .int .i64 a0_6, .bool a0_7, .bool a0_8, .bool a0_9, .int .i64 a0_10] 23 (0, 0))) := ⟨h0_⟩
                              have n1_ : Aside0 (w20.heap[gb363]? = some (.cells #[.string a1_0, .string a1_1, .string a1_2, .string a1_3, .int .i64 a1_4, .int .i64 a1_5, .int .i64 a1_6, .bool a1_7, .bool a1_8, .bool a1_9, .int .i64 a1_10] 23 (0, 0))) := ⟨h1_⟩
                              have n2_ : Aside0 (w20.heap[gb370]? = some (.cells #[.string (⟨#[]⟩ : ByteArray), .string (⟨#[]⟩ : ByteArray), .string (⟨#[]⟩ : ByteArray)] 25 (0, 0))) := ⟨h2_⟩
                              have n3_ : Aside0 (w.heap.size ≤ gb370) := ⟨h3_⟩
                              have n4_ : Aside0 (w.heap.size ≤ gb370) := ⟨h4_⟩
                              have n5_ : Aside0 (gb362 ≠ gb370) := ⟨h5_⟩
                              have n6_ : Aside0 (gb370 ≠ gb362) := ⟨h6_⟩
                              have n7_ : Aside0 (gb363 ≠ gb370) := ⟨h7_⟩
                              have n8_ : Aside0 (gb370 ≠ gb363) := ⟨h8_⟩
                              have n9_ : Aside0 (Below w.heap.size w w20) := ⟨h9_⟩
                              clear BK362
                              clear BK363
                              clear HB
                              clear h0_ h1_ h2_ h3_ h4_ h5_ h6_ h7_ h8_ h9_
                              have BK362 := n0_
                              have BK363 := n1_
                              have BK370 := n2_
                              have GW370 := n3_
                              have GE370 := n4_
                              have NB362_370 := n5_
                              have NB370_362 := n6_
                              have NB363_370 := n7_
                              have NB370_363 := n8_
                              have HB := n9_
                              clear n0_ n1_ n2_ n3_ n4_ n5_ n6_ n7_ n8_ n9_
                              have hHeld : w20.cell? ⟨gb362, 0, none⟩ = some (.string a0_0) ∧ w20.cell? ⟨gb362, 1, none⟩ = some (.string a0_1) ∧ w20.cell? ⟨gb362, 2, none⟩ = some (.string a0_2) ∧ w20.cell? ⟨gb362, 3, none⟩ = some (.string a0_3) ∧ w20.cell? ⟨gb362, 4, none⟩ = some (.int .i64 a0_4) ∧ w20.cell? ⟨gb362, 5, none⟩ = some (.int .i64 a0_5) ∧ w20.cell? ⟨gb362, 6, none⟩ = some (.int .i64 a0_6) ∧ w20.cell? ⟨gb362, 7, none⟩ = some (.bool a0_7) ∧ w20.cell? ⟨gb362, 8, none⟩ = some (.bool a0_8) ∧ w20.cell? ⟨gb362, 9, none⟩ = some (.bool a0_9) ∧ w20.cell? ⟨gb362, 10, none⟩ = some (.int .i64 a0_10) ∧ w20.cell? ⟨gb363, 0, none⟩ = some (.string a1_0) ∧ w20.cell? ⟨gb363, 1, none⟩ = some (.string a1_1) ∧ w20.cell? ⟨gb363, 2, none⟩ = some (.string a1_2) ∧ w20.cell? ⟨gb363, 3, none⟩ = some (.string a1_3) ∧ w20.cell? ⟨gb363, 4, none⟩ = some (.int .i64 a1_4) ∧ w20.cell? ⟨gb363, 5, none⟩ = some (.int .i64 a1_5) ∧ w20.cell? ⟨gb363, 6, none⟩ = some (.int .i64 a1_6) ∧ w20.cell? ⟨gb363, 7, none⟩ = some (.bool a1_7) ∧ w20.cell? ⟨gb363, 8, none⟩ = some (.bool a1_8) ∧ w20.cell? ⟨gb363, 9, none⟩ = some (.bool a1_9) ∧ w20.cell? ⟨gb363, 10, none⟩ = some (.int .i64 a1_10) := hS_
                              refine norm_ (a' := ?_) ?_ ?_
                              rotate_left
                              · simp only [putAll, Act.put, List.setIfInBounds_toArray, List.set_cons_zero, List.set_cons_succ]
                                rfl
                              refine two_ (i := 1) (j := 5) (Ni := some 9) (Nj := some 6) #[true, true, true, false, true, false, false, false] #[true, false, true, false, true, true, false, false] rfl rfl rfl rfl (two_of HT_.out (by kernel_rfl)) (by decide) (by decide) (fun K hK => ?_) (fun K hK => ?_)
                              · skip
                                refine goes_ Tryd.func9 (by kernel_rfl) rfl #[.agg #[.string a0_0, .string a0_1, .string a0_2, .string a0_3, .int .i64 a0_4, .int .i64 a0_5, .int .i64 a0_6, .bool a0_7, .bool a0_8, .bool a0_9, .int .i64 a0_10]] (by rfl) rfl rfl xg ?_
                                with_reducible refine (PrintC.cookie_Of.calls a0_0 a0_1 a0_2 a0_3 a0_4 a0_5 a0_6 a0_7 a0_8 a0_9 a0_10 t364 t365 t366 _ A3.out).mono ?_
                                rintro e w21 ⟨rfl, hb⟩
                                refine ⟨_, rfl, ?_⟩
                                have n0_ := blkB BK362 hb
                                have n1_ := blkB BK363 hb
                                have n2_ := blkB BK370 hb
                                have n3_ := Aside0.mk (below_step xb hb)
                                clear BK362
                                clear BK363
                                clear BK370
                                clear HB
                                have BK362 := n0_
                                have BK363 := n1_
                                have BK370 := n2_
                                have HB := n3_
                                clear n0_ n1_ n2_ n3_
                                (try clear hb)
                                (try clear hb2)
                                (try clear hk)
                                (try clear hi)
                                refine hK.out _ _ xc (fun hHeld => ?_)
                                clear hK K
                                refine norm_ (a' := ?_) ?_ ?_
                                rotate_left
                                · show Act.put _ (some 9) _ = _
                                  simp only [Act.put, List.setIfInBounds_toArray, List.set_cons_zero, List.set_cons_succ, i64_w, i32_w]
                                  rfl
                                exact norm_ (by first | (simp only [putAll, Act.put, List.setIfInBounds_toArray, List.set_cons_zero, List.set_cons_succ]; done) | (simp only [putAll, Act.put, List.setIfInBounds_toArray, List.set_cons_zero, List.set_cons_succ]; rfl)) (hJ1_4 (gb370) _ ⟨hHeld, xk, xk, xk, GW370.out, GE370.out, NB362_370.out, NB370_362.out, NB363_370.out, NB370_363.out, xb⟩)
                              · skip
                                refine box_step ?hg (N := 6) ?hd (cs := #[.string (⟨#[]⟩ : ByteArray), .string (⟨#[]⟩ : ByteArray), .string (⟨#[]⟩ : ByteArray)]) (t := 25) ?hr ?_; (case hd => rfl); (case hg => rfl); (case hr => first | (go_simp; done) | (go_simp; rfl))
                                intro gb371 hg w21 hbox hb
                                have n0_ := blkB BK362 hb
                                have n1_ := blkB BK363 hb
                                have n2_ := blkB BK370 hb
                                have n3_ := Aside0.mk (below_step xb hb)
                                have n4_ := Aside0.mk (hbox)
                                have n5_ := Aside0.mk ((by rw [hg]; exact (below_size xb) : w.heap.size ≤ gb371))
                                have n6_ := Aside0.mk ((by rw [hg]; exact (below_size xb) : w.heap.size ≤ gb371))
                                have n7_ := Aside0.mk ((by rw [hg]; exact Nat.ne_of_lt (blkL BK362) : gb362 ≠ gb371))
                                have n8_ := Aside0.mk ((by rw [hg]; exact Nat.ne_of_gt (blkL BK362) : gb371 ≠ gb362))
                                have n9_ := Aside0.mk ((by rw [hg]; exact Nat.ne_of_lt (blkL BK363) : gb363 ≠ gb371))
                                have n10_ := Aside0.mk ((by rw [hg]; exact Nat.ne_of_gt (blkL BK363) : gb371 ≠ gb363))
                                have n11_ := Aside0.mk ((by rw [hg]; exact Nat.ne_of_lt (blkL BK370) : gb370 ≠ gb371))
                                have n12_ := Aside0.mk ((by rw [hg]; exact Nat.ne_of_gt (blkL BK370) : gb371 ≠ gb370))
                                clear BK362
                                clear BK363
                                clear BK370
                                clear HB
                                have BK362 := n0_
                                have BK363 := n1_
                                have BK370 := n2_
                                have HB := n3_
                                have BK371 := n4_
                                have GW371 := n5_
                                have GE371 := n6_
                                have NB362_371 := n7_
                                have NB371_362 := n8_
                                have NB363_371 := n9_
                                have NB371_363 := n10_
                                have NB370_371 := n11_
                                have NB371_370 := n12_
                                clear n0_ n1_ n2_ n3_ n4_ n5_ n6_ n7_ n8_ n9_ n10_ n11_ n12_
                                clear hb hbox hg
                                refine hK.out _ _ xc (fun hHeld => ?_)
                                clear hK K
                                refine norm_ (a' := ?_) ?_ ?_
                                rotate_left
                                · show Act.put _ (some 6) _ = _
                                  simp only [Act.put, List.setIfInBounds_toArray, List.set_cons_zero, List.set_cons_succ, i64_w, i32_w]
                                  rfl
                                exact norm_ (by first | (simp only [putAll, Act.put, List.setIfInBounds_toArray, List.set_cons_zero, List.set_cons_succ]; done) | (simp only [putAll, Act.put, List.setIfInBounds_toArray, List.set_cons_zero, List.set_cons_succ]; rfl)) (hJ4_5 (gb370, gb371) _ ⟨hHeld, xk, xk, xk, xk, GW370.out, GE370.out, NB362_370.out, NB370_362.out, NB363_370.out, NB370_363.out, NB371_370.out, NB370_371.out, GW371.out, GE371.out, NB362_371.out, NB371_362.out, NB363_371.out, NB371_363.out, xb⟩)
                          · skip
                            rintro _ w20 ⟨hS_, h0_, h1_, h2_⟩
                            have n0_ : Aside0 (w20.heap[gb362]? = some (.cells #[.string a0_0, .string a0_1, .string a0_2, .string a0_3, .int .i64 a0_4, .int .i64 a0_5, .int .i64 a0_6, .bool a0_7, .bool a0_8, .bool a0_9, .int .i64 a0_10] 23 (0, 0))) := ⟨h0_⟩
                            have n1_ : Aside0 (w20.heap[gb363]? = some (.cells #[.string a1_0, .string a1_1, .string a1_2, .string a1_3, .int .i64 a1_4, .int .i64 a1_5, .int .i64 a1_6, .bool a1_7, .bool a1_8, .bool a1_9, .int .i64 a1_10] 23 (0, 0))) := ⟨h1_⟩
                            have n2_ : Aside0 (Below w.heap.size w w20) := ⟨h2_⟩
                            clear BK362
                            clear BK363
                            clear HB
                            clear h0_ h1_ h2_
                            have BK362 := n0_
                            have BK363 := n1_
                            have HB := n2_
                            clear n0_ n1_ n2_
                            have hHeld : w20.cell? ⟨gb362, 0, none⟩ = some (.string a0_0) ∧ w20.cell? ⟨gb362, 1, none⟩ = some (.string a0_1) ∧ w20.cell? ⟨gb362, 2, none⟩ = some (.string a0_2) ∧ w20.cell? ⟨gb362, 3, none⟩ = some (.string a0_3) ∧ w20.cell? ⟨gb362, 4, none⟩ = some (.int .i64 a0_4) ∧ w20.cell? ⟨gb362, 5, none⟩ = some (.int .i64 a0_5) ∧ w20.cell? ⟨gb362, 6, none⟩ = some (.int .i64 a0_6) ∧ w20.cell? ⟨gb362, 7, none⟩ = some (.bool a0_7) ∧ w20.cell? ⟨gb362, 8, none⟩ = some (.bool a0_8) ∧ w20.cell? ⟨gb362, 9, none⟩ = some (.bool a0_9) ∧ w20.cell? ⟨gb362, 10, none⟩ = some (.int .i64 a0_10) ∧ w20.cell? ⟨gb363, 0, none⟩ = some (.string a1_0) ∧ w20.cell? ⟨gb363, 1, none⟩ = some (.string a1_1) ∧ w20.cell? ⟨gb363, 2, none⟩ = some (.string a1_2) ∧ w20.cell? ⟨gb363, 3, none⟩ = some (.string a1_3) ∧ w20.cell? ⟨gb363, 4, none⟩ = some (.int .i64 a1_4) ∧ w20.cell? ⟨gb363, 5, none⟩ = some (.int .i64 a1_5) ∧ w20.cell? ⟨gb363, 6, none⟩ = some (.int .i64 a1_6) ∧ w20.cell? ⟨gb363, 7, none⟩ = some (.bool a1_7) ∧ w20.cell? ⟨gb363, 8, none⟩ = some (.bool a1_8) ∧ w20.cell? ⟨gb363, 9, none⟩ = some (.bool a1_9) ∧ w20.cell? ⟨gb363, 10, none⟩ = some (.int .i64 a1_10) := hS_
                            refine norm_ (a' := ?_) ?_ ?_
                            rotate_left
                            · simp only [putAll, Act.put, List.setIfInBounds_toArray, List.set_cons_zero, List.set_cons_succ]
                              rfl
                            refine three_ (i := 3) (j := 4) (k := 5) (Ni := some 11) (Nj := some 5) (Nk := some 6) #[true, true, true, true, false, false, false, false] #[true, true, true, false, true, false, false, false] #[true, true, true, false, false, true, false, false] rfl rfl rfl rfl rfl rfl (three_of HT_.out (by kernel_rfl)) (by decide) (by decide) (by decide) (fun K hK => ?_) (fun K hK => ?_) (fun K hK => ?_)
                            · skip
                              refine goes_ Tryd.func9 (by kernel_rfl) rfl #[.agg #[.string a1_0, .string a1_1, .string a1_2, .string a1_3, .int .i64 a1_4, .int .i64 a1_5, .int .i64 a1_6, .bool a1_7, .bool a1_8, .bool a1_9, .int .i64 a1_10]] (by rfl) rfl rfl xg ?_
                              with_reducible refine (PrintC.cookie_Of.calls a1_0 a1_1 a1_2 a1_3 a1_4 a1_5 a1_6 a1_7 a1_8 a1_9 a1_10 t367 t368 t369 _ A4.out).mono ?_
                              rintro e w21 ⟨rfl, hb⟩
                              refine ⟨_, rfl, ?_⟩
                              have n0_ := blkB BK362 hb
                              have n1_ := blkB BK363 hb
                              have n2_ := Aside0.mk (below_step xb hb)
                              clear BK362
                              clear BK363
                              clear HB
                              have BK362 := n0_
                              have BK363 := n1_
                              have HB := n2_
                              clear n0_ n1_ n2_
                              (try clear hb)
                              (try clear hb2)
                              (try clear hk)
                              (try clear hi)
                              refine hK.out _ _ xc (fun hHeld => ?_)
                              clear hK K
                              refine norm_ (a' := ?_) ?_ ?_
                              rotate_left
                              · show Act.put _ (some 11) _ = _
                                simp only [Act.put, List.setIfInBounds_toArray, List.set_cons_zero, List.set_cons_succ, i64_w, i32_w]
                                rfl
                              exact norm_ (by first | (simp only [putAll, Act.put, List.setIfInBounds_toArray, List.set_cons_zero, List.set_cons_succ]; done) | (simp only [putAll, Act.put, List.setIfInBounds_toArray, List.set_cons_zero, List.set_cons_succ]; rfl)) (hJ1_3 () _ ⟨hHeld, xk, xk, xb⟩)
                            · skip
                              refine box_step ?hg (N := 5) ?hd (cs := #[.string (⟨#[]⟩ : ByteArray), .string (⟨#[]⟩ : ByteArray), .string (⟨#[]⟩ : ByteArray)]) (t := 25) ?hr ?_; (case hd => rfl); (case hg => rfl); (case hr => first | (go_simp; done) | (go_simp; rfl))
                              intro gb370 hg w21 hbox hb
                              have n0_ := blkB BK362 hb
                              have n1_ := blkB BK363 hb
                              have n2_ := Aside0.mk (below_step xb hb)
                              have n3_ := Aside0.mk (hbox)
                              have n4_ := Aside0.mk ((by rw [hg]; exact (below_size xb) : w.heap.size ≤ gb370))
                              have n5_ := Aside0.mk ((by rw [hg]; exact (below_size xb) : w.heap.size ≤ gb370))
                              have n6_ := Aside0.mk ((by rw [hg]; exact Nat.ne_of_lt (blkL BK362) : gb362 ≠ gb370))
                              have n7_ := Aside0.mk ((by rw [hg]; exact Nat.ne_of_gt (blkL BK362) : gb370 ≠ gb362))
                              have n8_ := Aside0.mk ((by rw [hg]; exact Nat.ne_of_lt (blkL BK363) : gb363 ≠ gb370))
                              have n9_ := Aside0.mk ((by rw [hg]; exact Nat.ne_of_gt (blkL BK363) : gb370 ≠ gb363))
                              clear BK362
                              clear BK363
                              clear HB
                              have BK362 := n0_
                              have BK363 := n1_
                              have HB := n2_
                              have BK370 := n3_
                              have GW370 := n4_
                              have GE370 := n5_
                              have NB362_370 := n6_
                              have NB370_362 := n7_
                              have NB363_370 := n8_
                              have NB370_363 := n9_
                              clear n0_ n1_ n2_ n3_ n4_ n5_ n6_ n7_ n8_ n9_
                              clear hb hbox hg
                              refine hK.out _ _ xc (fun hHeld => ?_)
                              clear hK K
                              refine norm_ (a' := ?_) ?_ ?_
                              rotate_left
                              · show Act.put _ (some 5) _ = _
                                simp only [Act.put, List.setIfInBounds_toArray, List.set_cons_zero, List.set_cons_succ, i64_w, i32_w]
                                rfl
                              exact norm_ (by first | (simp only [putAll, Act.put, List.setIfInBounds_toArray, List.set_cons_zero, List.set_cons_succ]; done) | (simp only [putAll, Act.put, List.setIfInBounds_toArray, List.set_cons_zero, List.set_cons_succ]; rfl)) (hJ1_4 (gb370) _ ⟨hHeld, xk, xk, xk, GW370.out, GE370.out, NB362_370.out, NB370_362.out, NB363_370.out, NB370_363.out, xb⟩)
                            · skip
                              refine box_step ?hg (N := 6) ?hd (cs := #[.string (⟨#[]⟩ : ByteArray), .string (⟨#[]⟩ : ByteArray), .string (⟨#[]⟩ : ByteArray)]) (t := 25) ?hr ?_; (case hd => rfl); (case hg => rfl); (case hr => first | (go_simp; done) | (go_simp; rfl))
                              intro gb371 hg w21 hbox hb
                              have n0_ := blkB BK362 hb
                              have n1_ := blkB BK363 hb
                              have n2_ := Aside0.mk (below_step xb hb)
                              have n3_ := Aside0.mk (hbox)
                              have n4_ := Aside0.mk ((by rw [hg]; exact (below_size xb) : w.heap.size ≤ gb371))
                              have n5_ := Aside0.mk ((by rw [hg]; exact (below_size xb) : w.heap.size ≤ gb371))
                              have n6_ := Aside0.mk ((by rw [hg]; exact Nat.ne_of_lt (blkL BK362) : gb362 ≠ gb371))
                              have n7_ := Aside0.mk ((by rw [hg]; exact Nat.ne_of_gt (blkL BK362) : gb371 ≠ gb362))
                              have n8_ := Aside0.mk ((by rw [hg]; exact Nat.ne_of_lt (blkL BK363) : gb363 ≠ gb371))
                              have n9_ := Aside0.mk ((by rw [hg]; exact Nat.ne_of_gt (blkL BK363) : gb371 ≠ gb363))
                              clear BK362
                              clear BK363
                              clear HB
                              have BK362 := n0_
                              have BK363 := n1_
                              have HB := n2_
                              have BK371 := n3_
                              have GW371 := n4_
                              have GE371 := n5_
                              have NB362_371 := n6_
                              have NB371_362 := n7_
                              have NB363_371 := n8_
                              have NB371_363 := n9_
                              clear n0_ n1_ n2_ n3_ n4_ n5_ n6_ n7_ n8_ n9_
                              clear hb hbox hg
                              refine hK.out _ _ xc (fun hHeld => ?_)
                              clear hK K
                              refine norm_ (a' := ?_) ?_ ?_
                              rotate_left
                              · show Act.put _ (some 6) _ = _
                                simp only [Act.put, List.setIfInBounds_toArray, List.set_cons_zero, List.set_cons_succ, i64_w, i32_w]
                                rfl
                              exact norm_ (by first | (simp only [putAll, Act.put, List.setIfInBounds_toArray, List.set_cons_zero, List.set_cons_succ]; done) | (simp only [putAll, Act.put, List.setIfInBounds_toArray, List.set_cons_zero, List.set_cons_succ]; rfl)) (hJ1_5 (gb371) _ ⟨hHeld, xk, xk, xk, GW371.out, GE371.out, NB362_371.out, NB371_362.out, NB363_371.out, NB371_363.out, xb⟩)
                        · skip
                          rintro ⟨gb370, gb371⟩ w21 ⟨hS_, h0_, h1_, h2_, h3_, h4_, h5_, h6_, h7_, h8_, h9_, h10_, h11_, h12_, h13_, h14_, h15_, h16_, h17_, h18_⟩
                          have n0_ : Aside0 (w21.heap[gb362]? = some (.cells #[.string a0_0, .string a0_1, .string a0_2, .string a0_3, .int .i64 a0_4, .int .i64 a0_5, .int .i64 a0_6, .bool a0_7, .bool a0_8, .bool a0_9, .int .i64 a0_10] 23 (0, 0))) := ⟨h0_⟩
                          have n1_ : Aside0 (w21.heap[gb363]? = some (.cells #[.string a1_0, .string a1_1, .string a1_2, .string a1_3, .int .i64 a1_4, .int .i64 a1_5, .int .i64 a1_6, .bool a1_7, .bool a1_8, .bool a1_9, .int .i64 a1_10] 23 (0, 0))) := ⟨h1_⟩
                          have n2_ : Aside0 (w21.heap[gb370]? = some (.cells #[.string (⟨#[]⟩ : ByteArray), .string (⟨#[]⟩ : ByteArray), .string (⟨#[]⟩ : ByteArray)] 25 (0, 0))) := ⟨h2_⟩
                          have n3_ : Aside0 (w21.heap[gb371]? = some (.cells #[.string (⟨#[]⟩ : ByteArray), .string (⟨#[]⟩ : ByteArray), .string (⟨#[]⟩ : ByteArray)] 25 (0, 0))) := ⟨h3_⟩
                          have n4_ : Aside0 (w.heap.size ≤ gb370) := ⟨h4_⟩
                          have n5_ : Aside0 (w.heap.size ≤ gb370) := ⟨h5_⟩
                          have n6_ : Aside0 (gb362 ≠ gb370) := ⟨h6_⟩
                          have n7_ : Aside0 (gb370 ≠ gb362) := ⟨h7_⟩
                          have n8_ : Aside0 (gb363 ≠ gb370) := ⟨h8_⟩
                          have n9_ : Aside0 (gb370 ≠ gb363) := ⟨h9_⟩
                          have n10_ : Aside0 (gb371 ≠ gb370) := ⟨h10_⟩
                          have n11_ : Aside0 (gb370 ≠ gb371) := ⟨h11_⟩
                          have n12_ : Aside0 (w.heap.size ≤ gb371) := ⟨h12_⟩
                          have n13_ : Aside0 (w.heap.size ≤ gb371) := ⟨h13_⟩
                          have n14_ : Aside0 (gb362 ≠ gb371) := ⟨h14_⟩
                          have n15_ : Aside0 (gb371 ≠ gb362) := ⟨h15_⟩
                          have n16_ : Aside0 (gb363 ≠ gb371) := ⟨h16_⟩
                          have n17_ : Aside0 (gb371 ≠ gb363) := ⟨h17_⟩
                          have n18_ : Aside0 (Below w.heap.size w w21) := ⟨h18_⟩
                          clear BK362
                          clear BK363
                          clear HB
                          clear h0_ h1_ h2_ h3_ h4_ h5_ h6_ h7_ h8_ h9_ h10_ h11_ h12_ h13_ h14_ h15_ h16_ h17_ h18_
                          have BK362 := n0_
                          have BK363 := n1_
                          have BK370 := n2_
                          have BK371 := n3_
                          have GW370 := n4_
                          have GE370 := n5_
                          have NB362_370 := n6_
                          have NB370_362 := n7_
                          have NB363_370 := n8_
                          have NB370_363 := n9_
                          have NB371_370 := n10_
                          have NB370_371 := n11_
                          have GW371 := n12_
                          have GE371 := n13_
                          have NB362_371 := n14_
                          have NB371_362 := n15_
                          have NB363_371 := n16_
                          have NB371_363 := n17_
                          have HB := n18_
                          clear n0_ n1_ n2_ n3_ n4_ n5_ n6_ n7_ n8_ n9_ n10_ n11_ n12_ n13_ n14_ n15_ n16_ n17_ n18_
                          have hHeld : w21.cell? ⟨gb362, 0, none⟩ = some (.string a0_0) ∧ w21.cell? ⟨gb362, 1, none⟩ = some (.string a0_1) ∧ w21.cell? ⟨gb362, 2, none⟩ = some (.string a0_2) ∧ w21.cell? ⟨gb362, 3, none⟩ = some (.string a0_3) ∧ w21.cell? ⟨gb362, 4, none⟩ = some (.int .i64 a0_4) ∧ w21.cell? ⟨gb362, 5, none⟩ = some (.int .i64 a0_5) ∧ w21.cell? ⟨gb362, 6, none⟩ = some (.int .i64 a0_6) ∧ w21.cell? ⟨gb362, 7, none⟩ = some (.bool a0_7) ∧ w21.cell? ⟨gb362, 8, none⟩ = some (.bool a0_8) ∧ w21.cell? ⟨gb362, 9, none⟩ = some (.bool a0_9) ∧ w21.cell? ⟨gb362, 10, none⟩ = some (.int .i64 a0_10) ∧ w21.cell? ⟨gb363, 0, none⟩ = some (.string a1_0) ∧ w21.cell? ⟨gb363, 1, none⟩ = some (.string a1_1) ∧ w21.cell? ⟨gb363, 2, none⟩ = some (.string a1_2) ∧ w21.cell? ⟨gb363, 3, none⟩ = some (.string a1_3) ∧ w21.cell? ⟨gb363, 4, none⟩ = some (.int .i64 a1_4) ∧ w21.cell? ⟨gb363, 5, none⟩ = some (.int .i64 a1_5) ∧ w21.cell? ⟨gb363, 6, none⟩ = some (.int .i64 a1_6) ∧ w21.cell? ⟨gb363, 7, none⟩ = some (.bool a1_7) ∧ w21.cell? ⟨gb363, 8, none⟩ = some (.bool a1_8) ∧ w21.cell? ⟨gb363, 9, none⟩ = some (.bool a1_9) ∧ w21.cell? ⟨gb363, 10, none⟩ = some (.int .i64 a1_10) := hS_
                          refine norm_ (a' := ?_) ?_ ?_
                          rotate_left
                          · simp only [putAll, Act.put, List.setIfInBounds_toArray, List.set_cons_zero, List.set_cons_succ]
                            rfl
                          refine one_ (i := 1) (N := some 9) #[true, true, true, false, true, true, false, false] rfl rfl (one_of HT_.out (by kernel_rfl)) (by decide) (fun K hK => ?_)
                          refine goes_ Tryd.func9 (by kernel_rfl) rfl #[.agg #[.string a0_0, .string a0_1, .string a0_2, .string a0_3, .int .i64 a0_4, .int .i64 a0_5, .int .i64 a0_6, .bool a0_7, .bool a0_8, .bool a0_9, .int .i64 a0_10]] (by rfl) rfl rfl xg ?_
                          with_reducible refine (PrintC.cookie_Of.calls a0_0 a0_1 a0_2 a0_3 a0_4 a0_5 a0_6 a0_7 a0_8 a0_9 a0_10 t364 t365 t366 _ A3.out).mono ?_
                          rintro e w22 ⟨rfl, hb⟩
                          refine ⟨_, rfl, ?_⟩
                          have n0_ := blkB BK362 hb
                          have n1_ := blkB BK363 hb
                          have n2_ := blkB BK370 hb
                          have n3_ := blkB BK371 hb
                          have n4_ := Aside0.mk (below_step xb hb)
                          clear BK362
                          clear BK363
                          clear BK370
                          clear BK371
                          clear HB
                          have BK362 := n0_
                          have BK363 := n1_
                          have BK370 := n2_
                          have BK371 := n3_
                          have HB := n4_
                          clear n0_ n1_ n2_ n3_ n4_
                          (try clear hb)
                          (try clear hb2)
                          (try clear hk)
                          (try clear hi)
                          refine hK.out _ _ xc (fun hHeld => ?_)
                          clear hK K
                          refine norm_ (a' := ?_) ?_ ?_
                          rotate_left
                          · show Act.put _ (some 9) _ = _
                            simp only [Act.put, List.setIfInBounds_toArray, List.set_cons_zero, List.set_cons_succ, i64_w, i32_w]
                            rfl
                          exact norm_ (by first | (simp only [putAll, Act.put, List.setIfInBounds_toArray, List.set_cons_zero, List.set_cons_succ]; done) | (simp only [putAll, Act.put, List.setIfInBounds_toArray, List.set_cons_zero, List.set_cons_succ]; rfl)) (hJ1_4_5 (gb370, gb371) _ ⟨hHeld, xk, xk, xk, xk, GW370.out, GE370.out, NB362_370.out, NB370_362.out, NB363_370.out, NB370_363.out, NB371_370.out, NB370_371.out, GW371.out, GE371.out, NB362_371.out, NB371_362.out, NB363_371.out, NB371_363.out, xb⟩)
                      · skip
                        rintro gb371 w21 ⟨hS_, h0_, h1_, h2_, h3_, h4_, h5_, h6_, h7_, h8_, h9_⟩
                        have n0_ : Aside0 (w21.heap[gb362]? = some (.cells #[.string a0_0, .string a0_1, .string a0_2, .string a0_3, .int .i64 a0_4, .int .i64 a0_5, .int .i64 a0_6, .bool a0_7, .bool a0_8, .bool a0_9, .int .i64 a0_10] 23 (0, 0))) := ⟨h0_⟩
                        have n1_ : Aside0 (w21.heap[gb363]? = some (.cells #[.string a1_0, .string a1_1, .string a1_2, .string a1_3, .int .i64 a1_4, .int .i64 a1_5, .int .i64 a1_6, .bool a1_7, .bool a1_8, .bool a1_9, .int .i64 a1_10] 23 (0, 0))) := ⟨h1_⟩
                        have n2_ : Aside0 (w21.heap[gb371]? = some (.cells #[.string (⟨#[]⟩ : ByteArray), .string (⟨#[]⟩ : ByteArray), .string (⟨#[]⟩ : ByteArray)] 25 (0, 0))) := ⟨h2_⟩
                        have n3_ : Aside0 (w.heap.size ≤ gb371) := ⟨h3_⟩
                        have n4_ : Aside0 (w.heap.size ≤ gb371) := ⟨h4_⟩
                        have n5_ : Aside0 (gb362 ≠ gb371) := ⟨h5_⟩
                        have n6_ : Aside0 (gb371 ≠ gb362) := ⟨h6_⟩
                        have n7_ : Aside0 (gb363 ≠ gb371) := ⟨h7_⟩
                        have n8_ : Aside0 (gb371 ≠ gb363) := ⟨h8_⟩
                        have n9_ : Aside0 (Below w.heap.size w w21) := ⟨h9_⟩
                        clear BK362
                        clear BK363
                        clear HB
                        clear h0_ h1_ h2_ h3_ h4_ h5_ h6_ h7_ h8_ h9_
                        have BK362 := n0_
                        have BK363 := n1_
                        have BK371 := n2_
                        have GW371 := n3_
                        have GE371 := n4_
                        have NB362_371 := n5_
                        have NB371_362 := n6_
                        have NB363_371 := n7_
                        have NB371_363 := n8_
                        have HB := n9_
                        clear n0_ n1_ n2_ n3_ n4_ n5_ n6_ n7_ n8_ n9_
                        have hHeld : w21.cell? ⟨gb362, 0, none⟩ = some (.string a0_0) ∧ w21.cell? ⟨gb362, 1, none⟩ = some (.string a0_1) ∧ w21.cell? ⟨gb362, 2, none⟩ = some (.string a0_2) ∧ w21.cell? ⟨gb362, 3, none⟩ = some (.string a0_3) ∧ w21.cell? ⟨gb362, 4, none⟩ = some (.int .i64 a0_4) ∧ w21.cell? ⟨gb362, 5, none⟩ = some (.int .i64 a0_5) ∧ w21.cell? ⟨gb362, 6, none⟩ = some (.int .i64 a0_6) ∧ w21.cell? ⟨gb362, 7, none⟩ = some (.bool a0_7) ∧ w21.cell? ⟨gb362, 8, none⟩ = some (.bool a0_8) ∧ w21.cell? ⟨gb362, 9, none⟩ = some (.bool a0_9) ∧ w21.cell? ⟨gb362, 10, none⟩ = some (.int .i64 a0_10) ∧ w21.cell? ⟨gb363, 0, none⟩ = some (.string a1_0) ∧ w21.cell? ⟨gb363, 1, none⟩ = some (.string a1_1) ∧ w21.cell? ⟨gb363, 2, none⟩ = some (.string a1_2) ∧ w21.cell? ⟨gb363, 3, none⟩ = some (.string a1_3) ∧ w21.cell? ⟨gb363, 4, none⟩ = some (.int .i64 a1_4) ∧ w21.cell? ⟨gb363, 5, none⟩ = some (.int .i64 a1_5) ∧ w21.cell? ⟨gb363, 6, none⟩ = some (.int .i64 a1_6) ∧ w21.cell? ⟨gb363, 7, none⟩ = some (.bool a1_7) ∧ w21.cell? ⟨gb363, 8, none⟩ = some (.bool a1_8) ∧ w21.cell? ⟨gb363, 9, none⟩ = some (.bool a1_9) ∧ w21.cell? ⟨gb363, 10, none⟩ = some (.int .i64 a1_10) := hS_
                        refine norm_ (a' := ?_) ?_ ?_
                        rotate_left
                        · simp only [putAll, Act.put, List.setIfInBounds_toArray, List.set_cons_zero, List.set_cons_succ]
                          rfl
                        refine two_ (i := 3) (j := 4) (Ni := some 11) (Nj := some 5) #[true, true, true, true, false, true, false, false] #[true, true, true, false, true, true, false, false] rfl rfl rfl rfl (two_of HT_.out (by kernel_rfl)) (by decide) (by decide) (fun K hK => ?_) (fun K hK => ?_)
                        · skip
                          refine goes_ Tryd.func9 (by kernel_rfl) rfl #[.agg #[.string a1_0, .string a1_1, .string a1_2, .string a1_3, .int .i64 a1_4, .int .i64 a1_5, .int .i64 a1_6, .bool a1_7, .bool a1_8, .bool a1_9, .int .i64 a1_10]] (by rfl) rfl rfl xg ?_
                          with_reducible refine (PrintC.cookie_Of.calls a1_0 a1_1 a1_2 a1_3 a1_4 a1_5 a1_6 a1_7 a1_8 a1_9 a1_10 t367 t368 t369 _ A4.out).mono ?_
                          rintro e w22 ⟨rfl, hb⟩
                          refine ⟨_, rfl, ?_⟩
                          have n0_ := blkB BK362 hb
                          have n1_ := blkB BK363 hb
                          have n2_ := blkB BK371 hb
                          have n3_ := Aside0.mk (below_step xb hb)
                          clear BK362
                          clear BK363
                          clear BK371
                          clear HB
                          have BK362 := n0_
                          have BK363 := n1_
                          have BK371 := n2_
                          have HB := n3_
                          clear n0_ n1_ n2_ n3_
                          (try clear hb)
                          (try clear hb2)
                          (try clear hk)
                          (try clear hi)
                          refine hK.out _ _ xc (fun hHeld => ?_)
                          clear hK K
                          refine norm_ (a' := ?_) ?_ ?_
                          rotate_left
                          · show Act.put _ (some 11) _ = _
                            simp only [Act.put, List.setIfInBounds_toArray, List.set_cons_zero, List.set_cons_succ, i64_w, i32_w]
                            rfl
                          exact norm_ (by first | (simp only [putAll, Act.put, List.setIfInBounds_toArray, List.set_cons_zero, List.set_cons_succ]; done) | (simp only [putAll, Act.put, List.setIfInBounds_toArray, List.set_cons_zero, List.set_cons_succ]; rfl)) (hJ1_3_5 (gb371) _ ⟨hHeld, xk, xk, xk, GW371.out, GE371.out, NB362_371.out, NB371_362.out, NB363_371.out, NB371_363.out, xb⟩)
                        · skip
                          refine box_step ?hg (N := 5) ?hd (cs := #[.string (⟨#[]⟩ : ByteArray), .string (⟨#[]⟩ : ByteArray), .string (⟨#[]⟩ : ByteArray)]) (t := 25) ?hr ?_; (case hd => rfl); (case hg => rfl); (case hr => first | (go_simp; done) | (go_simp; rfl))
                          intro gb370 hg w22 hbox hb
                          have n0_ := blkB BK362 hb
                          have n1_ := blkB BK363 hb
                          have n2_ := blkB BK371 hb
                          have n3_ := Aside0.mk (below_step xb hb)
                          have n4_ := Aside0.mk (hbox)
                          have n5_ := Aside0.mk ((by rw [hg]; exact (below_size xb) : w.heap.size ≤ gb370))
                          have n6_ := Aside0.mk ((by rw [hg]; exact (below_size xb) : w.heap.size ≤ gb370))
                          have n7_ := Aside0.mk ((by rw [hg]; exact Nat.ne_of_lt (blkL BK362) : gb362 ≠ gb370))
                          have n8_ := Aside0.mk ((by rw [hg]; exact Nat.ne_of_gt (blkL BK362) : gb370 ≠ gb362))
                          have n9_ := Aside0.mk ((by rw [hg]; exact Nat.ne_of_lt (blkL BK363) : gb363 ≠ gb370))
                          have n10_ := Aside0.mk ((by rw [hg]; exact Nat.ne_of_gt (blkL BK363) : gb370 ≠ gb363))
                          have n11_ := Aside0.mk ((by rw [hg]; exact Nat.ne_of_lt (blkL BK371) : gb371 ≠ gb370))
                          have n12_ := Aside0.mk ((by rw [hg]; exact Nat.ne_of_gt (blkL BK371) : gb370 ≠ gb371))
                          clear BK362
                          clear BK363
                          clear BK371
                          clear HB
                          have BK362 := n0_
                          have BK363 := n1_
                          have BK371 := n2_
                          have HB := n3_
                          have BK370 := n4_
                          have GW370 := n5_
                          have GE370 := n6_
                          have NB362_370 := n7_
                          have NB370_362 := n8_
                          have NB363_370 := n9_
                          have NB370_363 := n10_
                          have NB371_370 := n11_
                          have NB370_371 := n12_
                          clear n0_ n1_ n2_ n3_ n4_ n5_ n6_ n7_ n8_ n9_ n10_ n11_ n12_
                          clear hb hbox hg
                          refine hK.out _ _ xc (fun hHeld => ?_)
                          clear hK K
                          refine norm_ (a' := ?_) ?_ ?_
                          rotate_left
                          · show Act.put _ (some 5) _ = _
                            simp only [Act.put, List.setIfInBounds_toArray, List.set_cons_zero, List.set_cons_succ, i64_w, i32_w]
                            rfl
                          exact norm_ (by first | (simp only [putAll, Act.put, List.setIfInBounds_toArray, List.set_cons_zero, List.set_cons_succ]; done) | (simp only [putAll, Act.put, List.setIfInBounds_toArray, List.set_cons_zero, List.set_cons_succ]; rfl)) (hJ1_4_5 (gb370, gb371) _ ⟨hHeld, xk, xk, xk, xk, GW370.out, GE370.out, NB362_370.out, NB370_362.out, NB363_370.out, NB370_363.out, NB371_370.out, NB370_371.out, GW371.out, GE371.out, NB362_371.out, NB371_362.out, NB363_371.out, NB371_363.out, xb⟩)
                    · skip
                      rintro gb370 w21 ⟨hS_, h0_, h1_, h2_, h3_, h4_, h5_, h6_, h7_, h8_, h9_⟩
                      have n0_ : Aside0 (w21.heap[gb362]? = some (.cells #[.string a0_0, .string a0_1, .string a0_2, .string a0_3, .int .i64 a0_4, .int .i64 a0_5, .int .i64 a0_6, .bool a0_7, .bool a0_8, .bool a0_9, .int .i64 a0_10] 23 (0, 0))) := ⟨h0_⟩
                      have n1_ : Aside0 (w21.heap[gb363]? = some (.cells #[.string a1_0, .string a1_1, .string a1_2, .string a1_3, .int .i64 a1_4, .int .i64 a1_5, .int .i64 a1_6, .bool a1_7, .bool a1_8, .bool a1_9, .int .i64 a1_10] 23 (0, 0))) := ⟨h1_⟩
                      have n2_ : Aside0 (w21.heap[gb370]? = some (.cells #[.string (⟨#[]⟩ : ByteArray), .string (⟨#[]⟩ : ByteArray), .string (⟨#[]⟩ : ByteArray)] 25 (0, 0))) := ⟨h2_⟩
                      have n3_ : Aside0 (w.heap.size ≤ gb370) := ⟨h3_⟩
                      have n4_ : Aside0 (w.heap.size ≤ gb370) := ⟨h4_⟩
                      have n5_ : Aside0 (gb362 ≠ gb370) := ⟨h5_⟩
                      have n6_ : Aside0 (gb370 ≠ gb362) := ⟨h6_⟩
                      have n7_ : Aside0 (gb363 ≠ gb370) := ⟨h7_⟩
                      have n8_ : Aside0 (gb370 ≠ gb363) := ⟨h8_⟩
                      have n9_ : Aside0 (Below w.heap.size w w21) := ⟨h9_⟩
                      clear BK362
                      clear BK363
                      clear HB
                      clear h0_ h1_ h2_ h3_ h4_ h5_ h6_ h7_ h8_ h9_
                      have BK362 := n0_
                      have BK363 := n1_
                      have BK370 := n2_
                      have GW370 := n3_
                      have GE370 := n4_
                      have NB362_370 := n5_
                      have NB370_362 := n6_
                      have NB363_370 := n7_
                      have NB370_363 := n8_
                      have HB := n9_
                      clear n0_ n1_ n2_ n3_ n4_ n5_ n6_ n7_ n8_ n9_
                      have hHeld : w21.cell? ⟨gb362, 0, none⟩ = some (.string a0_0) ∧ w21.cell? ⟨gb362, 1, none⟩ = some (.string a0_1) ∧ w21.cell? ⟨gb362, 2, none⟩ = some (.string a0_2) ∧ w21.cell? ⟨gb362, 3, none⟩ = some (.string a0_3) ∧ w21.cell? ⟨gb362, 4, none⟩ = some (.int .i64 a0_4) ∧ w21.cell? ⟨gb362, 5, none⟩ = some (.int .i64 a0_5) ∧ w21.cell? ⟨gb362, 6, none⟩ = some (.int .i64 a0_6) ∧ w21.cell? ⟨gb362, 7, none⟩ = some (.bool a0_7) ∧ w21.cell? ⟨gb362, 8, none⟩ = some (.bool a0_8) ∧ w21.cell? ⟨gb362, 9, none⟩ = some (.bool a0_9) ∧ w21.cell? ⟨gb362, 10, none⟩ = some (.int .i64 a0_10) ∧ w21.cell? ⟨gb363, 0, none⟩ = some (.string a1_0) ∧ w21.cell? ⟨gb363, 1, none⟩ = some (.string a1_1) ∧ w21.cell? ⟨gb363, 2, none⟩ = some (.string a1_2) ∧ w21.cell? ⟨gb363, 3, none⟩ = some (.string a1_3) ∧ w21.cell? ⟨gb363, 4, none⟩ = some (.int .i64 a1_4) ∧ w21.cell? ⟨gb363, 5, none⟩ = some (.int .i64 a1_5) ∧ w21.cell? ⟨gb363, 6, none⟩ = some (.int .i64 a1_6) ∧ w21.cell? ⟨gb363, 7, none⟩ = some (.bool a1_7) ∧ w21.cell? ⟨gb363, 8, none⟩ = some (.bool a1_8) ∧ w21.cell? ⟨gb363, 9, none⟩ = some (.bool a1_9) ∧ w21.cell? ⟨gb363, 10, none⟩ = some (.int .i64 a1_10) := hS_
                      refine norm_ (a' := ?_) ?_ ?_
                      rotate_left
                      · simp only [putAll, Act.put, List.setIfInBounds_toArray, List.set_cons_zero, List.set_cons_succ]
                        rfl
                      refine two_ (i := 3) (j := 5) (Ni := some 11) (Nj := some 6) #[true, true, true, true, true, false, false, false] #[true, true, true, false, true, true, false, false] rfl rfl rfl rfl (two_of HT_.out (by kernel_rfl)) (by decide) (by decide) (fun K hK => ?_) (fun K hK => ?_)
                      · skip
                        refine goes_ Tryd.func9 (by kernel_rfl) rfl #[.agg #[.string a1_0, .string a1_1, .string a1_2, .string a1_3, .int .i64 a1_4, .int .i64 a1_5, .int .i64 a1_6, .bool a1_7, .bool a1_8, .bool a1_9, .int .i64 a1_10]] (by rfl) rfl rfl xg ?_
                        with_reducible refine (PrintC.cookie_Of.calls a1_0 a1_1 a1_2 a1_3 a1_4 a1_5 a1_6 a1_7 a1_8 a1_9 a1_10 t367 t368 t369 _ A4.out).mono ?_
                        rintro e w22 ⟨rfl, hb⟩
                        refine ⟨_, rfl, ?_⟩
                        have n0_ := blkB BK362 hb
                        have n1_ := blkB BK363 hb
                        have n2_ := blkB BK370 hb
                        have n3_ := Aside0.mk (below_step xb hb)
                        clear BK362
                        clear BK363
                        clear BK370
                        clear HB
                        have BK362 := n0_
                        have BK363 := n1_
                        have BK370 := n2_
                        have HB := n3_
                        clear n0_ n1_ n2_ n3_
                        (try clear hb)
                        (try clear hb2)
                        (try clear hk)
                        (try clear hi)
                        refine hK.out _ _ xc (fun hHeld => ?_)
                        clear hK K
                        refine norm_ (a' := ?_) ?_ ?_
                        rotate_left
                        · show Act.put _ (some 11) _ = _
                          simp only [Act.put, List.setIfInBounds_toArray, List.set_cons_zero, List.set_cons_succ, i64_w, i32_w]
                          rfl
                        exact norm_ (by first | (simp only [putAll, Act.put, List.setIfInBounds_toArray, List.set_cons_zero, List.set_cons_succ]; done) | (simp only [putAll, Act.put, List.setIfInBounds_toArray, List.set_cons_zero, List.set_cons_succ]; rfl)) (hJ1_3_4 (gb370) _ ⟨hHeld, xk, xk, xk, GW370.out, GE370.out, NB362_370.out, NB370_362.out, NB363_370.out, NB370_363.out, xb⟩)
                      · skip
                        refine box_step ?hg (N := 6) ?hd (cs := #[.string (⟨#[]⟩ : ByteArray), .string (⟨#[]⟩ : ByteArray), .string (⟨#[]⟩ : ByteArray)]) (t := 25) ?hr ?_; (case hd => rfl); (case hg => rfl); (case hr => first | (go_simp; done) | (go_simp; rfl))
                        intro gb371 hg w22 hbox hb
                        have n0_ := blkB BK362 hb
                        have n1_ := blkB BK363 hb
                        have n2_ := blkB BK370 hb
                        have n3_ := Aside0.mk (below_step xb hb)
                        have n4_ := Aside0.mk (hbox)
                        have n5_ := Aside0.mk ((by rw [hg]; exact (below_size xb) : w.heap.size ≤ gb371))
                        have n6_ := Aside0.mk ((by rw [hg]; exact (below_size xb) : w.heap.size ≤ gb371))
                        have n7_ := Aside0.mk ((by rw [hg]; exact Nat.ne_of_lt (blkL BK362) : gb362 ≠ gb371))
                        have n8_ := Aside0.mk ((by rw [hg]; exact Nat.ne_of_gt (blkL BK362) : gb371 ≠ gb362))
                        have n9_ := Aside0.mk ((by rw [hg]; exact Nat.ne_of_lt (blkL BK363) : gb363 ≠ gb371))
                        have n10_ := Aside0.mk ((by rw [hg]; exact Nat.ne_of_gt (blkL BK363) : gb371 ≠ gb363))
                        have n11_ := Aside0.mk ((by rw [hg]; exact Nat.ne_of_lt (blkL BK370) : gb370 ≠ gb371))
                        have n12_ := Aside0.mk ((by rw [hg]; exact Nat.ne_of_gt (blkL BK370) : gb371 ≠ gb370))
                        clear BK362
                        clear BK363
                        clear BK370
                        clear HB
                        have BK362 := n0_
                        have BK363 := n1_
                        have BK370 := n2_
                        have HB := n3_
                        have BK371 := n4_
                        have GW371 := n5_
                        have GE371 := n6_
                        have NB362_371 := n7_
                        have NB371_362 := n8_
                        have NB363_371 := n9_
                        have NB371_363 := n10_
                        have NB370_371 := n11_
                        have NB371_370 := n12_
                        clear n0_ n1_ n2_ n3_ n4_ n5_ n6_ n7_ n8_ n9_ n10_ n11_ n12_
                        clear hb hbox hg
                        refine hK.out _ _ xc (fun hHeld => ?_)
                        clear hK K
                        refine norm_ (a' := ?_) ?_ ?_
                        rotate_left
                        · show Act.put _ (some 6) _ = _
                          simp only [Act.put, List.setIfInBounds_toArray, List.set_cons_zero, List.set_cons_succ, i64_w, i32_w]
                          rfl
                        exact norm_ (by first | (simp only [putAll, Act.put, List.setIfInBounds_toArray, List.set_cons_zero, List.set_cons_succ]; done) | (simp only [putAll, Act.put, List.setIfInBounds_toArray, List.set_cons_zero, List.set_cons_succ]; rfl)) (hJ1_4_5 (gb370, gb371) _ ⟨hHeld, xk, xk, xk, xk, GW370.out, GE370.out, NB362_370.out, NB370_362.out, NB363_370.out, NB370_363.out, NB371_370.out, NB370_371.out, GW371.out, GE371.out, NB362_371.out, NB371_362.out, NB363_371.out, NB371_363.out, xb⟩)
                  · skip
                    rintro _ w21 ⟨hS_, h0_, h1_, h2_⟩
                    have n0_ : Aside0 (w21.heap[gb362]? = some (.cells #[.string a0_0, .string a0_1, .string a0_2, .string a0_3, .int .i64 a0_4, .int .i64 a0_5, .int .i64 a0_6, .bool a0_7, .bool a0_8, .bool a0_9, .int .i64 a0_10] 23 (0, 0))) := ⟨h0_⟩
                    have n1_ : Aside0 (w21.heap[gb363]? = some (.cells #[.string a1_0, .string a1_1, .string a1_2, .string a1_3, .int .i64 a1_4, .int .i64 a1_5, .int .i64 a1_6, .bool a1_7, .bool a1_8, .bool a1_9, .int .i64 a1_10] 23 (0, 0))) := ⟨h1_⟩
                    have n2_ : Aside0 (Below w.heap.size w w21) := ⟨h2_⟩
                    clear BK362
                    clear BK363
                    clear HB
                    clear h0_ h1_ h2_
                    have BK362 := n0_
                    have BK363 := n1_
                    have HB := n2_
                    clear n0_ n1_ n2_
                    have hHeld : w21.cell? ⟨gb362, 0, none⟩ = some (.string a0_0) ∧ w21.cell? ⟨gb362, 1, none⟩ = some (.string a0_1) ∧ w21.cell? ⟨gb362, 2, none⟩ = some (.string a0_2) ∧ w21.cell? ⟨gb362, 3, none⟩ = some (.string a0_3) ∧ w21.cell? ⟨gb362, 4, none⟩ = some (.int .i64 a0_4) ∧ w21.cell? ⟨gb362, 5, none⟩ = some (.int .i64 a0_5) ∧ w21.cell? ⟨gb362, 6, none⟩ = some (.int .i64 a0_6) ∧ w21.cell? ⟨gb362, 7, none⟩ = some (.bool a0_7) ∧ w21.cell? ⟨gb362, 8, none⟩ = some (.bool a0_8) ∧ w21.cell? ⟨gb362, 9, none⟩ = some (.bool a0_9) ∧ w21.cell? ⟨gb362, 10, none⟩ = some (.int .i64 a0_10) ∧ w21.cell? ⟨gb363, 0, none⟩ = some (.string a1_0) ∧ w21.cell? ⟨gb363, 1, none⟩ = some (.string a1_1) ∧ w21.cell? ⟨gb363, 2, none⟩ = some (.string a1_2) ∧ w21.cell? ⟨gb363, 3, none⟩ = some (.string a1_3) ∧ w21.cell? ⟨gb363, 4, none⟩ = some (.int .i64 a1_4) ∧ w21.cell? ⟨gb363, 5, none⟩ = some (.int .i64 a1_5) ∧ w21.cell? ⟨gb363, 6, none⟩ = some (.int .i64 a1_6) ∧ w21.cell? ⟨gb363, 7, none⟩ = some (.bool a1_7) ∧ w21.cell? ⟨gb363, 8, none⟩ = some (.bool a1_8) ∧ w21.cell? ⟨gb363, 9, none⟩ = some (.bool a1_9) ∧ w21.cell? ⟨gb363, 10, none⟩ = some (.int .i64 a1_10) := hS_
                    refine norm_ (a' := ?_) ?_ ?_
                    rotate_left
                    · simp only [putAll, Act.put, List.setIfInBounds_toArray, List.set_cons_zero, List.set_cons_succ]
                      rfl
                    refine two_ (i := 4) (j := 5) (Ni := some 5) (Nj := some 6) #[true, true, true, true, true, false, false, false] #[true, true, true, true, false, true, false, false] rfl rfl rfl rfl (two_of HT_.out (by kernel_rfl)) (by decide) (by decide) (fun K hK => ?_) (fun K hK => ?_)
                    · skip
                      refine box_step ?hg (N := 5) ?hd (cs := #[.string (⟨#[]⟩ : ByteArray), .string (⟨#[]⟩ : ByteArray), .string (⟨#[]⟩ : ByteArray)]) (t := 25) ?hr ?_; (case hd => rfl); (case hg => rfl); (case hr => first | (go_simp; done) | (go_simp; rfl))
                      intro gb370 hg w22 hbox hb
                      have n0_ := blkB BK362 hb
                      have n1_ := blkB BK363 hb
                      have n2_ := Aside0.mk (below_step xb hb)
                      have n3_ := Aside0.mk (hbox)
                      have n4_ := Aside0.mk ((by rw [hg]; exact (below_size xb) : w.heap.size ≤ gb370))
                      have n5_ := Aside0.mk ((by rw [hg]; exact (below_size xb) : w.heap.size ≤ gb370))
                      have n6_ := Aside0.mk ((by rw [hg]; exact Nat.ne_of_lt (blkL BK362) : gb362 ≠ gb370))
                      have n7_ := Aside0.mk ((by rw [hg]; exact Nat.ne_of_gt (blkL BK362) : gb370 ≠ gb362))
                      have n8_ := Aside0.mk ((by rw [hg]; exact Nat.ne_of_lt (blkL BK363) : gb363 ≠ gb370))
                      have n9_ := Aside0.mk ((by rw [hg]; exact Nat.ne_of_gt (blkL BK363) : gb370 ≠ gb363))
                      clear BK362
                      clear BK363
                      clear HB
                      have BK362 := n0_
                      have BK363 := n1_
                      have HB := n2_
                      have BK370 := n3_
                      have GW370 := n4_
                      have GE370 := n5_
                      have NB362_370 := n6_
                      have NB370_362 := n7_
                      have NB363_370 := n8_
                      have NB370_363 := n9_
                      clear n0_ n1_ n2_ n3_ n4_ n5_ n6_ n7_ n8_ n9_
                      clear hb hbox hg
                      refine hK.out _ _ xc (fun hHeld => ?_)
                      clear hK K
                      refine norm_ (a' := ?_) ?_ ?_
                      rotate_left
                      · show Act.put _ (some 5) _ = _
                        simp only [Act.put, List.setIfInBounds_toArray, List.set_cons_zero, List.set_cons_succ, i64_w, i32_w]
                        rfl
                      exact norm_ (by first | (simp only [putAll, Act.put, List.setIfInBounds_toArray, List.set_cons_zero, List.set_cons_succ]; done) | (simp only [putAll, Act.put, List.setIfInBounds_toArray, List.set_cons_zero, List.set_cons_succ]; rfl)) (hJ1_3_4 (gb370) _ ⟨hHeld, xk, xk, xk, GW370.out, GE370.out, NB362_370.out, NB370_362.out, NB363_370.out, NB370_363.out, xb⟩)
                    · skip
                      refine box_step ?hg (N := 6) ?hd (cs := #[.string (⟨#[]⟩ : ByteArray), .string (⟨#[]⟩ : ByteArray), .string (⟨#[]⟩ : ByteArray)]) (t := 25) ?hr ?_; (case hd => rfl); (case hg => rfl); (case hr => first | (go_simp; done) | (go_simp; rfl))
                      intro gb371 hg w22 hbox hb
                      have n0_ := blkB BK362 hb
                      have n1_ := blkB BK363 hb
                      have n2_ := Aside0.mk (below_step xb hb)
                      have n3_ := Aside0.mk (hbox)
                      have n4_ := Aside0.mk ((by rw [hg]; exact (below_size xb) : w.heap.size ≤ gb371))
                      have n5_ := Aside0.mk ((by rw [hg]; exact (below_size xb) : w.heap.size ≤ gb371))
                      have n6_ := Aside0.mk ((by rw [hg]; exact Nat.ne_of_lt (blkL BK362) : gb362 ≠ gb371))
                      have n7_ := Aside0.mk ((by rw [hg]; exact Nat.ne_of_gt (blkL BK362) : gb371 ≠ gb362))
                      have n8_ := Aside0.mk ((by rw [hg]; exact Nat.ne_of_lt (blkL BK363) : gb363 ≠ gb371))
                      have n9_ := Aside0.mk ((by rw [hg]; exact Nat.ne_of_gt (blkL BK363) : gb371 ≠ gb363))
                      clear BK362
                      clear BK363
                      clear HB
                      have BK362 := n0_
                      have BK363 := n1_
                      have HB := n2_
                      have BK371 := n3_
                      have GW371 := n4_
                      have GE371 := n5_
                      have NB362_371 := n6_
                      have NB371_362 := n7_
                      have NB363_371 := n8_
                      have NB371_363 := n9_
                      clear n0_ n1_ n2_ n3_ n4_ n5_ n6_ n7_ n8_ n9_
                      clear hb hbox hg
                      refine hK.out _ _ xc (fun hHeld => ?_)
                      clear hK K
                      refine norm_ (a' := ?_) ?_ ?_
                      rotate_left
                      · show Act.put _ (some 6) _ = _
                        simp only [Act.put, List.setIfInBounds_toArray, List.set_cons_zero, List.set_cons_succ, i64_w, i32_w]
                        rfl
                      exact norm_ (by first | (simp only [putAll, Act.put, List.setIfInBounds_toArray, List.set_cons_zero, List.set_cons_succ]; done) | (simp only [putAll, Act.put, List.setIfInBounds_toArray, List.set_cons_zero, List.set_cons_succ]; rfl)) (hJ1_3_5 (gb371) _ ⟨hHeld, xk, xk, xk, GW371.out, GE371.out, NB362_371.out, NB371_362.out, NB363_371.out, NB371_363.out, xb⟩)
                · skip
                  rintro ⟨gb370, gb371⟩ w22 ⟨hS_, h0_, h1_, h2_, h3_, h4_, h5_, h6_, h7_, h8_, h9_, h10_, h11_, h12_, h13_, h14_, h15_, h16_, h17_, h18_⟩
                  have n0_ : Aside0 (w22.heap[gb362]? = some (.cells #[.string a0_0, .string a0_1, .string a0_2, .string a0_3, .int .i64 a0_4, .int .i64 a0_5, .int .i64 a0_6, .bool a0_7, .bool a0_8, .bool a0_9, .int .i64 a0_10] 23 (0, 0))) := ⟨h0_⟩
                  have n1_ : Aside0 (w22.heap[gb363]? = some (.cells #[.string a1_0, .string a1_1, .string a1_2, .string a1_3, .int .i64 a1_4, .int .i64 a1_5, .int .i64 a1_6, .bool a1_7, .bool a1_8, .bool a1_9, .int .i64 a1_10] 23 (0, 0))) := ⟨h1_⟩
                  have n2_ : Aside0 (w22.heap[gb370]? = some (.cells #[.string (⟨#[]⟩ : ByteArray), .string (⟨#[]⟩ : ByteArray), .string (⟨#[]⟩ : ByteArray)] 25 (0, 0))) := ⟨h2_⟩
                  have n3_ : Aside0 (w22.heap[gb371]? = some (.cells #[.string (⟨#[]⟩ : ByteArray), .string (⟨#[]⟩ : ByteArray), .string (⟨#[]⟩ : ByteArray)] 25 (0, 0))) := ⟨h3_⟩
                  have n4_ : Aside0 (w.heap.size ≤ gb370) := ⟨h4_⟩
                  have n5_ : Aside0 (w.heap.size ≤ gb370) := ⟨h5_⟩
                  have n6_ : Aside0 (gb362 ≠ gb370) := ⟨h6_⟩
                  have n7_ : Aside0 (gb370 ≠ gb362) := ⟨h7_⟩
                  have n8_ : Aside0 (gb363 ≠ gb370) := ⟨h8_⟩
                  have n9_ : Aside0 (gb370 ≠ gb363) := ⟨h9_⟩
                  have n10_ : Aside0 (gb371 ≠ gb370) := ⟨h10_⟩
                  have n11_ : Aside0 (gb370 ≠ gb371) := ⟨h11_⟩
                  have n12_ : Aside0 (w.heap.size ≤ gb371) := ⟨h12_⟩
                  have n13_ : Aside0 (w.heap.size ≤ gb371) := ⟨h13_⟩
                  have n14_ : Aside0 (gb362 ≠ gb371) := ⟨h14_⟩
                  have n15_ : Aside0 (gb371 ≠ gb362) := ⟨h15_⟩
                  have n16_ : Aside0 (gb363 ≠ gb371) := ⟨h16_⟩
                  have n17_ : Aside0 (gb371 ≠ gb363) := ⟨h17_⟩
                  have n18_ : Aside0 (Below w.heap.size w w22) := ⟨h18_⟩
                  clear BK362
                  clear BK363
                  clear HB
                  clear h0_ h1_ h2_ h3_ h4_ h5_ h6_ h7_ h8_ h9_ h10_ h11_ h12_ h13_ h14_ h15_ h16_ h17_ h18_
                  have BK362 := n0_
                  have BK363 := n1_
                  have BK370 := n2_
                  have BK371 := n3_
                  have GW370 := n4_
                  have GE370 := n5_
                  have NB362_370 := n6_
                  have NB370_362 := n7_
                  have NB363_370 := n8_
                  have NB370_363 := n9_
                  have NB371_370 := n10_
                  have NB370_371 := n11_
                  have GW371 := n12_
                  have GE371 := n13_
                  have NB362_371 := n14_
                  have NB371_362 := n15_
                  have NB363_371 := n16_
                  have NB371_363 := n17_
                  have HB := n18_
                  clear n0_ n1_ n2_ n3_ n4_ n5_ n6_ n7_ n8_ n9_ n10_ n11_ n12_ n13_ n14_ n15_ n16_ n17_ n18_
                  have hHeld : w22.cell? ⟨gb362, 0, none⟩ = some (.string a0_0) ∧ w22.cell? ⟨gb362, 1, none⟩ = some (.string a0_1) ∧ w22.cell? ⟨gb362, 2, none⟩ = some (.string a0_2) ∧ w22.cell? ⟨gb362, 3, none⟩ = some (.string a0_3) ∧ w22.cell? ⟨gb362, 4, none⟩ = some (.int .i64 a0_4) ∧ w22.cell? ⟨gb362, 5, none⟩ = some (.int .i64 a0_5) ∧ w22.cell? ⟨gb362, 6, none⟩ = some (.int .i64 a0_6) ∧ w22.cell? ⟨gb362, 7, none⟩ = some (.bool a0_7) ∧ w22.cell? ⟨gb362, 8, none⟩ = some (.bool a0_8) ∧ w22.cell? ⟨gb362, 9, none⟩ = some (.bool a0_9) ∧ w22.cell? ⟨gb362, 10, none⟩ = some (.int .i64 a0_10) ∧ w22.cell? ⟨gb363, 0, none⟩ = some (.string a1_0) ∧ w22.cell? ⟨gb363, 1, none⟩ = some (.string a1_1) ∧ w22.cell? ⟨gb363, 2, none⟩ = some (.string a1_2) ∧ w22.cell? ⟨gb363, 3, none⟩ = some (.string a1_3) ∧ w22.cell? ⟨gb363, 4, none⟩ = some (.int .i64 a1_4) ∧ w22.cell? ⟨gb363, 5, none⟩ = some (.int .i64 a1_5) ∧ w22.cell? ⟨gb363, 6, none⟩ = some (.int .i64 a1_6) ∧ w22.cell? ⟨gb363, 7, none⟩ = some (.bool a1_7) ∧ w22.cell? ⟨gb363, 8, none⟩ = some (.bool a1_8) ∧ w22.cell? ⟨gb363, 9, none⟩ = some (.bool a1_9) ∧ w22.cell? ⟨gb363, 10, none⟩ = some (.int .i64 a1_10) := hS_
                  refine norm_ (a' := ?_) ?_ ?_
                  rotate_left
                  · simp only [putAll, Act.put, List.setIfInBounds_toArray, List.set_cons_zero, List.set_cons_succ]
                    rfl
                  refine one_ (i := 3) (N := some 11) #[true, true, true, true, true, true, false, false] rfl rfl (one_of HT_.out (by kernel_rfl)) (by decide) (fun K hK => ?_)
                  refine goes_ Tryd.func9 (by kernel_rfl) rfl #[.agg #[.string a1_0, .string a1_1, .string a1_2, .string a1_3, .int .i64 a1_4, .int .i64 a1_5, .int .i64 a1_6, .bool a1_7, .bool a1_8, .bool a1_9, .int .i64 a1_10]] (by rfl) rfl rfl xg ?_
                  with_reducible refine (PrintC.cookie_Of.calls a1_0 a1_1 a1_2 a1_3 a1_4 a1_5 a1_6 a1_7 a1_8 a1_9 a1_10 t367 t368 t369 _ A4.out).mono ?_
                  rintro e w23 ⟨rfl, hb⟩
                  refine ⟨_, rfl, ?_⟩
                  have n0_ := blkB BK362 hb
                  have n1_ := blkB BK363 hb
                  have n2_ := blkB BK370 hb
                  have n3_ := blkB BK371 hb
                  have n4_ := Aside0.mk (below_step xb hb)
                  clear BK362
                  clear BK363
                  clear BK370
                  clear BK371
                  clear HB
                  have BK362 := n0_
                  have BK363 := n1_
                  have BK370 := n2_
                  have BK371 := n3_
                  have HB := n4_
                  clear n0_ n1_ n2_ n3_ n4_
                  (try clear hb)
                  (try clear hb2)
                  (try clear hk)
                  (try clear hi)
                  refine hK.out _ _ xc (fun hHeld => ?_)
                  clear hK K
                  refine norm_ (a' := ?_) ?_ ?_
                  rotate_left
                  · show Act.put _ (some 11) _ = _
                    simp only [Act.put, List.setIfInBounds_toArray, List.set_cons_zero, List.set_cons_succ, i64_w, i32_w]
                    rfl
                  exact norm_ (by first | (simp only [putAll, Act.put, List.setIfInBounds_toArray, List.set_cons_zero, List.set_cons_succ]; done) | (simp only [putAll, Act.put, List.setIfInBounds_toArray, List.set_cons_zero, List.set_cons_succ]; rfl)) (hJ1_3_4_5 (gb370, gb371) _ ⟨hHeld, xk, xk, xk, xk, GW370.out, GE370.out, NB362_370.out, NB370_362.out, NB363_370.out, NB370_363.out, NB371_370.out, NB370_371.out, GW371.out, GE371.out, NB362_371.out, NB371_362.out, NB363_371.out, NB371_363.out, xb⟩)
              · skip
                rintro gb371 w22 ⟨hS_, h0_, h1_, h2_, h3_, h4_, h5_, h6_, h7_, h8_, h9_⟩
                have n0_ : Aside0 (w22.heap[gb362]? = some (.cells #[.string a0_0, .string a0_1, .string a0_2, .string a0_3, .int .i64 a0_4, .int .i64 a0_5, .int .i64 a0_6, .bool a0_7, .bool a0_8, .bool a0_9, .int .i64 a0_10] 23 (0, 0))) := ⟨h0_⟩
                have n1_ : Aside0 (w22.heap[gb363]? = some (.cells #[.string a1_0, .string a1_1, .string a1_2, .string a1_3, .int .i64 a1_4, .int .i64 a1_5, .int .i64 a1_6, .bool a1_7, .bool a1_8, .bool a1_9, .int .i64 a1_10] 23 (0, 0))) := ⟨h1_⟩
                have n2_ : Aside0 (w22.heap[gb371]? = some (.cells #[.string (⟨#[]⟩ : ByteArray), .string (⟨#[]⟩ : ByteArray), .string (⟨#[]⟩ : ByteArray)] 25 (0, 0))) := ⟨h2_⟩
                have n3_ : Aside0 (w.heap.size ≤ gb371) := ⟨h3_⟩
                have n4_ : Aside0 (w.heap.size ≤ gb371) := ⟨h4_⟩
                have n5_ : Aside0 (gb362 ≠ gb371) := ⟨h5_⟩
                have n6_ : Aside0 (gb371 ≠ gb362) := ⟨h6_⟩
                have n7_ : Aside0 (gb363 ≠ gb371) := ⟨h7_⟩
                have n8_ : Aside0 (gb371 ≠ gb363) := ⟨h8_⟩
                have n9_ : Aside0 (Below w.heap.size w w22) := ⟨h9_⟩
                clear BK362
                clear BK363
                clear HB
                clear h0_ h1_ h2_ h3_ h4_ h5_ h6_ h7_ h8_ h9_
                have BK362 := n0_
                have BK363 := n1_
                have BK371 := n2_
                have GW371 := n3_
                have GE371 := n4_
                have NB362_371 := n5_
                have NB371_362 := n6_
                have NB363_371 := n7_
                have NB371_363 := n8_
                have HB := n9_
                clear n0_ n1_ n2_ n3_ n4_ n5_ n6_ n7_ n8_ n9_
                have hHeld : w22.cell? ⟨gb362, 0, none⟩ = some (.string a0_0) ∧ w22.cell? ⟨gb362, 1, none⟩ = some (.string a0_1) ∧ w22.cell? ⟨gb362, 2, none⟩ = some (.string a0_2) ∧ w22.cell? ⟨gb362, 3, none⟩ = some (.string a0_3) ∧ w22.cell? ⟨gb362, 4, none⟩ = some (.int .i64 a0_4) ∧ w22.cell? ⟨gb362, 5, none⟩ = some (.int .i64 a0_5) ∧ w22.cell? ⟨gb362, 6, none⟩ = some (.int .i64 a0_6) ∧ w22.cell? ⟨gb362, 7, none⟩ = some (.bool a0_7) ∧ w22.cell? ⟨gb362, 8, none⟩ = some (.bool a0_8) ∧ w22.cell? ⟨gb362, 9, none⟩ = some (.bool a0_9) ∧ w22.cell? ⟨gb362, 10, none⟩ = some (.int .i64 a0_10) ∧ w22.cell? ⟨gb363, 0, none⟩ = some (.string a1_0) ∧ w22.cell? ⟨gb363, 1, none⟩ = some (.string a1_1) ∧ w22.cell? ⟨gb363, 2, none⟩ = some (.string a1_2) ∧ w22.cell? ⟨gb363, 3, none⟩ = some (.string a1_3) ∧ w22.cell? ⟨gb363, 4, none⟩ = some (.int .i64 a1_4) ∧ w22.cell? ⟨gb363, 5, none⟩ = some (.int .i64 a1_5) ∧ w22.cell? ⟨gb363, 6, none⟩ = some (.int .i64 a1_6) ∧ w22.cell? ⟨gb363, 7, none⟩ = some (.bool a1_7) ∧ w22.cell? ⟨gb363, 8, none⟩ = some (.bool a1_8) ∧ w22.cell? ⟨gb363, 9, none⟩ = some (.bool a1_9) ∧ w22.cell? ⟨gb363, 10, none⟩ = some (.int .i64 a1_10) := hS_
                refine norm_ (a' := ?_) ?_ ?_
                rotate_left
                · simp only [putAll, Act.put, List.setIfInBounds_toArray, List.set_cons_zero, List.set_cons_succ]
                  rfl
                refine one_ (i := 4) (N := some 5) #[true, true, true, true, true, true, false, false] rfl rfl (one_of HT_.out (by kernel_rfl)) (by decide) (fun K hK => ?_)
                refine box_step ?hg (N := 5) ?hd (cs := #[.string (⟨#[]⟩ : ByteArray), .string (⟨#[]⟩ : ByteArray), .string (⟨#[]⟩ : ByteArray)]) (t := 25) ?hr ?_; (case hd => rfl); (case hg => rfl); (case hr => first | (go_simp; done) | (go_simp; rfl))
                intro gb370 hg w23 hbox hb
                have n0_ := blkB BK362 hb
                have n1_ := blkB BK363 hb
                have n2_ := blkB BK371 hb
                have n3_ := Aside0.mk (below_step xb hb)
                have n4_ := Aside0.mk (hbox)
                have n5_ := Aside0.mk ((by rw [hg]; exact (below_size xb) : w.heap.size ≤ gb370))
                have n6_ := Aside0.mk ((by rw [hg]; exact (below_size xb) : w.heap.size ≤ gb370))
                have n7_ := Aside0.mk ((by rw [hg]; exact Nat.ne_of_lt (blkL BK362) : gb362 ≠ gb370))
                have n8_ := Aside0.mk ((by rw [hg]; exact Nat.ne_of_gt (blkL BK362) : gb370 ≠ gb362))
                have n9_ := Aside0.mk ((by rw [hg]; exact Nat.ne_of_lt (blkL BK363) : gb363 ≠ gb370))
                have n10_ := Aside0.mk ((by rw [hg]; exact Nat.ne_of_gt (blkL BK363) : gb370 ≠ gb363))
                have n11_ := Aside0.mk ((by rw [hg]; exact Nat.ne_of_lt (blkL BK371) : gb371 ≠ gb370))
                have n12_ := Aside0.mk ((by rw [hg]; exact Nat.ne_of_gt (blkL BK371) : gb370 ≠ gb371))
                clear BK362
                clear BK363
                clear BK371
                clear HB
                have BK362 := n0_
                have BK363 := n1_
                have BK371 := n2_
                have HB := n3_
                have BK370 := n4_
                have GW370 := n5_
                have GE370 := n6_
                have NB362_370 := n7_
                have NB370_362 := n8_
                have NB363_370 := n9_
                have NB370_363 := n10_
                have NB371_370 := n11_
                have NB370_371 := n12_
                clear n0_ n1_ n2_ n3_ n4_ n5_ n6_ n7_ n8_ n9_ n10_ n11_ n12_
                clear hb hbox hg
                refine hK.out _ _ xc (fun hHeld => ?_)
                clear hK K
                refine norm_ (a' := ?_) ?_ ?_
                rotate_left
                · show Act.put _ (some 5) _ = _
                  simp only [Act.put, List.setIfInBounds_toArray, List.set_cons_zero, List.set_cons_succ, i64_w, i32_w]
                  rfl
                exact norm_ (by first | (simp only [putAll, Act.put, List.setIfInBounds_toArray, List.set_cons_zero, List.set_cons_succ]; done) | (simp only [putAll, Act.put, List.setIfInBounds_toArray, List.set_cons_zero, List.set_cons_succ]; rfl)) (hJ1_3_4_5 (gb370, gb371) _ ⟨hHeld, xk, xk, xk, xk, GW370.out, GE370.out, NB362_370.out, NB370_362.out, NB363_370.out, NB370_363.out, NB371_370.out, NB370_371.out, GW371.out, GE371.out, NB362_371.out, NB371_362.out, NB363_371.out, NB371_363.out, xb⟩)
            · skip
              rintro gb370 w22 ⟨hS_, h0_, h1_, h2_, h3_, h4_, h5_, h6_, h7_, h8_, h9_⟩
              have n0_ : Aside0 (w22.heap[gb362]? = some (.cells #[.string a0_0, .string a0_1, .string a0_2, .string a0_3, .int .i64 a0_4, .int .i64 a0_5, .int .i64 a0_6, .bool a0_7, .bool a0_8, .bool a0_9, .int .i64 a0_10] 23 (0, 0))) := ⟨h0_⟩
              have n1_ : Aside0 (w22.heap[gb363]? = some (.cells #[.string a1_0, .string a1_1, .string a1_2, .string a1_3, .int .i64 a1_4, .int .i64 a1_5, .int .i64 a1_6, .bool a1_7, .bool a1_8, .bool a1_9, .int .i64 a1_10] 23 (0, 0))) := ⟨h1_⟩
              have n2_ : Aside0 (w22.heap[gb370]? = some (.cells #[.string (⟨#[]⟩ : ByteArray), .string (⟨#[]⟩ : ByteArray), .string (⟨#[]⟩ : ByteArray)] 25 (0, 0))) := ⟨h2_⟩
              have n3_ : Aside0 (w.heap.size ≤ gb370) := ⟨h3_⟩
              have n4_ : Aside0 (w.heap.size ≤ gb370) := ⟨h4_⟩
              have n5_ : Aside0 (gb362 ≠ gb370) := ⟨h5_⟩
              have n6_ : Aside0 (gb370 ≠ gb362) := ⟨h6_⟩
              have n7_ : Aside0 (gb363 ≠ gb370) := ⟨h7_⟩
              have n8_ : Aside0 (gb370 ≠ gb363) := ⟨h8_⟩
              have n9_ : Aside0 (Below w.heap.size w w22) := ⟨h9_⟩
              clear BK362
              clear BK363
              clear HB
              clear h0_ h1_ h2_ h3_ h4_ h5_ h6_ h7_ h8_ h9_
              have BK362 := n0_
              have BK363 := n1_
              have BK370 := n2_
              have GW370 := n3_
              have GE370 := n4_
              have NB362_370 := n5_
              have NB370_362 := n6_
              have NB363_370 := n7_
              have NB370_363 := n8_
              have HB := n9_
              clear n0_ n1_ n2_ n3_ n4_ n5_ n6_ n7_ n8_ n9_
              have hHeld : w22.cell? ⟨gb362, 0, none⟩ = some (.string a0_0) ∧ w22.cell? ⟨gb362, 1, none⟩ = some (.string a0_1) ∧ w22.cell? ⟨gb362, 2, none⟩ = some (.string a0_2) ∧ w22.cell? ⟨gb362, 3, none⟩ = some (.string a0_3) ∧ w22.cell? ⟨gb362, 4, none⟩ = some (.int .i64 a0_4) ∧ w22.cell? ⟨gb362, 5, none⟩ = some (.int .i64 a0_5) ∧ w22.cell? ⟨gb362, 6, none⟩ = some (.int .i64 a0_6) ∧ w22.cell? ⟨gb362, 7, none⟩ = some (.bool a0_7) ∧ w22.cell? ⟨gb362, 8, none⟩ = some (.bool a0_8) ∧ w22.cell? ⟨gb362, 9, none⟩ = some (.bool a0_9) ∧ w22.cell? ⟨gb362, 10, none⟩ = some (.int .i64 a0_10) ∧ w22.cell? ⟨gb363, 0, none⟩ = some (.string a1_0) ∧ w22.cell? ⟨gb363, 1, none⟩ = some (.string a1_1) ∧ w22.cell? ⟨gb363, 2, none⟩ = some (.string a1_2) ∧ w22.cell? ⟨gb363, 3, none⟩ = some (.string a1_3) ∧ w22.cell? ⟨gb363, 4, none⟩ = some (.int .i64 a1_4) ∧ w22.cell? ⟨gb363, 5, none⟩ = some (.int .i64 a1_5) ∧ w22.cell? ⟨gb363, 6, none⟩ = some (.int .i64 a1_6) ∧ w22.cell? ⟨gb363, 7, none⟩ = some (.bool a1_7) ∧ w22.cell? ⟨gb363, 8, none⟩ = some (.bool a1_8) ∧ w22.cell? ⟨gb363, 9, none⟩ = some (.bool a1_9) ∧ w22.cell? ⟨gb363, 10, none⟩ = some (.int .i64 a1_10) := hS_
              refine norm_ (a' := ?_) ?_ ?_
              rotate_left
              · simp only [putAll, Act.put, List.setIfInBounds_toArray, List.set_cons_zero, List.set_cons_succ]
                rfl
              refine one_ (i := 5) (N := some 6) #[true, true, true, true, true, true, false, false] rfl rfl (one_of HT_.out (by kernel_rfl)) (by decide) (fun K hK => ?_)
              refine box_step ?hg (N := 6) ?hd (cs := #[.string (⟨#[]⟩ : ByteArray), .string (⟨#[]⟩ : ByteArray), .string (⟨#[]⟩ : ByteArray)]) (t := 25) ?hr ?_; (case hd => rfl); (case hg => rfl); (case hr => first | (go_simp; done) | (go_simp; rfl))
              intro gb371 hg w23 hbox hb
              have n0_ := blkB BK362 hb
              have n1_ := blkB BK363 hb
              have n2_ := blkB BK370 hb
              have n3_ := Aside0.mk (below_step xb hb)
              have n4_ := Aside0.mk (hbox)
              have n5_ := Aside0.mk ((by rw [hg]; exact (below_size xb) : w.heap.size ≤ gb371))
              have n6_ := Aside0.mk ((by rw [hg]; exact (below_size xb) : w.heap.size ≤ gb371))
              have n7_ := Aside0.mk ((by rw [hg]; exact Nat.ne_of_lt (blkL BK362) : gb362 ≠ gb371))
              have n8_ := Aside0.mk ((by rw [hg]; exact Nat.ne_of_gt (blkL BK362) : gb371 ≠ gb362))
              have n9_ := Aside0.mk ((by rw [hg]; exact Nat.ne_of_lt (blkL BK363) : gb363 ≠ gb371))
              have n10_ := Aside0.mk ((by rw [hg]; exact Nat.ne_of_gt (blkL BK363) : gb371 ≠ gb363))
              have n11_ := Aside0.mk ((by rw [hg]; exact Nat.ne_of_lt (blkL BK370) : gb370 ≠ gb371))
              have n12_ := Aside0.mk ((by rw [hg]; exact Nat.ne_of_gt (blkL BK370) : gb371 ≠ gb370))
              clear BK362
              clear BK363
              clear BK370
              clear HB
              have BK362 := n0_
              have BK363 := n1_
              have BK370 := n2_
              have HB := n3_
              have BK371 := n4_
              have GW371 := n5_
              have GE371 := n6_
              have NB362_371 := n7_
              have NB371_362 := n8_
              have NB363_371 := n9_
              have NB371_363 := n10_
              have NB370_371 := n11_
              have NB371_370 := n12_
              clear n0_ n1_ n2_ n3_ n4_ n5_ n6_ n7_ n8_ n9_ n10_ n11_ n12_
              clear hb hbox hg
              refine hK.out _ _ xc (fun hHeld => ?_)
              clear hK K
              refine norm_ (a' := ?_) ?_ ?_
              rotate_left
              · show Act.put _ (some 6) _ = _
                simp only [Act.put, List.setIfInBounds_toArray, List.set_cons_zero, List.set_cons_succ, i64_w, i32_w]
                rfl
              exact norm_ (by first | (simp only [putAll, Act.put, List.setIfInBounds_toArray, List.set_cons_zero, List.set_cons_succ]; done) | (simp only [putAll, Act.put, List.setIfInBounds_toArray, List.set_cons_zero, List.set_cons_succ]; rfl)) (hJ1_3_4_5 (gb370, gb371) _ ⟨hHeld, xk, xk, xk, xk, GW370.out, GE370.out, NB362_370.out, NB370_362.out, NB363_370.out, NB370_363.out, NB371_370.out, NB370_371.out, GW371.out, GE371.out, NB362_371.out, NB371_362.out, NB363_371.out, NB371_363.out, xb⟩)
          rintro ⟨gb370, gb371⟩ w23 ⟨hS_, h0_, h1_, h2_, h3_, h4_, h5_, h6_, h7_, h8_, h9_, h10_, h11_, h12_, h13_, h14_, h15_, h16_, h17_, h18_⟩
          have n0_ : Aside0 (w23.heap[gb362]? = some (.cells #[.string a0_0, .string a0_1, .string a0_2, .string a0_3, .int .i64 a0_4, .int .i64 a0_5, .int .i64 a0_6, .bool a0_7, .bool a0_8, .bool a0_9, .int .i64 a0_10] 23 (0, 0))) := ⟨h0_⟩
          have n1_ : Aside0 (w23.heap[gb363]? = some (.cells #[.string a1_0, .string a1_1, .string a1_2, .string a1_3, .int .i64 a1_4, .int .i64 a1_5, .int .i64 a1_6, .bool a1_7, .bool a1_8, .bool a1_9, .int .i64 a1_10] 23 (0, 0))) := ⟨h1_⟩
          have n2_ : Aside0 (w23.heap[gb370]? = some (.cells #[.string (⟨#[]⟩ : ByteArray), .string (⟨#[]⟩ : ByteArray), .string (⟨#[]⟩ : ByteArray)] 25 (0, 0))) := ⟨h2_⟩
          have n3_ : Aside0 (w23.heap[gb371]? = some (.cells #[.string (⟨#[]⟩ : ByteArray), .string (⟨#[]⟩ : ByteArray), .string (⟨#[]⟩ : ByteArray)] 25 (0, 0))) := ⟨h3_⟩
          have n4_ : Aside0 (w.heap.size ≤ gb370) := ⟨h4_⟩
          have n5_ : Aside0 (w.heap.size ≤ gb370) := ⟨h5_⟩
          have n6_ : Aside0 (gb362 ≠ gb370) := ⟨h6_⟩
          have n7_ : Aside0 (gb370 ≠ gb362) := ⟨h7_⟩
          have n8_ : Aside0 (gb363 ≠ gb370) := ⟨h8_⟩
          have n9_ : Aside0 (gb370 ≠ gb363) := ⟨h9_⟩
          have n10_ : Aside0 (gb371 ≠ gb370) := ⟨h10_⟩
          have n11_ : Aside0 (gb370 ≠ gb371) := ⟨h11_⟩
          have n12_ : Aside0 (w.heap.size ≤ gb371) := ⟨h12_⟩
          have n13_ : Aside0 (w.heap.size ≤ gb371) := ⟨h13_⟩
          have n14_ : Aside0 (gb362 ≠ gb371) := ⟨h14_⟩
          have n15_ : Aside0 (gb371 ≠ gb362) := ⟨h15_⟩
          have n16_ : Aside0 (gb363 ≠ gb371) := ⟨h16_⟩
          have n17_ : Aside0 (gb371 ≠ gb363) := ⟨h17_⟩
          have n18_ : Aside0 (Below w.heap.size w w23) := ⟨h18_⟩
          clear BK362
          clear BK363
          clear HB
          clear h0_ h1_ h2_ h3_ h4_ h5_ h6_ h7_ h8_ h9_ h10_ h11_ h12_ h13_ h14_ h15_ h16_ h17_ h18_
          have BK362 := n0_
          have BK363 := n1_
          have BK370 := n2_
          have BK371 := n3_
          have GW370 := n4_
          have GE370 := n5_
          have NB362_370 := n6_
          have NB370_362 := n7_
          have NB363_370 := n8_
          have NB370_363 := n9_
          have NB371_370 := n10_
          have NB370_371 := n11_
          have GW371 := n12_
          have GE371 := n13_
          have NB362_371 := n14_
          have NB371_362 := n15_
          have NB363_371 := n16_
          have NB371_363 := n17_
          have HB := n18_
          clear n0_ n1_ n2_ n3_ n4_ n5_ n6_ n7_ n8_ n9_ n10_ n11_ n12_ n13_ n14_ n15_ n16_ n17_ n18_
          have hHeld : w23.cell? ⟨gb362, 0, none⟩ = some (.string a0_0) ∧ w23.cell? ⟨gb362, 1, none⟩ = some (.string a0_1) ∧ w23.cell? ⟨gb362, 2, none⟩ = some (.string a0_2) ∧ w23.cell? ⟨gb362, 3, none⟩ = some (.string a0_3) ∧ w23.cell? ⟨gb362, 4, none⟩ = some (.int .i64 a0_4) ∧ w23.cell? ⟨gb362, 5, none⟩ = some (.int .i64 a0_5) ∧ w23.cell? ⟨gb362, 6, none⟩ = some (.int .i64 a0_6) ∧ w23.cell? ⟨gb362, 7, none⟩ = some (.bool a0_7) ∧ w23.cell? ⟨gb362, 8, none⟩ = some (.bool a0_8) ∧ w23.cell? ⟨gb362, 9, none⟩ = some (.bool a0_9) ∧ w23.cell? ⟨gb362, 10, none⟩ = some (.int .i64 a0_10) ∧ w23.cell? ⟨gb363, 0, none⟩ = some (.string a1_0) ∧ w23.cell? ⟨gb363, 1, none⟩ = some (.string a1_1) ∧ w23.cell? ⟨gb363, 2, none⟩ = some (.string a1_2) ∧ w23.cell? ⟨gb363, 3, none⟩ = some (.string a1_3) ∧ w23.cell? ⟨gb363, 4, none⟩ = some (.int .i64 a1_4) ∧ w23.cell? ⟨gb363, 5, none⟩ = some (.int .i64 a1_5) ∧ w23.cell? ⟨gb363, 6, none⟩ = some (.int .i64 a1_6) ∧ w23.cell? ⟨gb363, 7, none⟩ = some (.bool a1_7) ∧ w23.cell? ⟨gb363, 8, none⟩ = some (.bool a1_8) ∧ w23.cell? ⟨gb363, 9, none⟩ = some (.bool a1_9) ∧ w23.cell? ⟨gb363, 10, none⟩ = some (.int .i64 a1_10) := hS_
          refine norm_ (a' := ?_) ?_ ?_
          rotate_left
          · simp only [putAll, Act.put, List.setIfInBounds_toArray, List.set_cons_zero, List.set_cons_succ]
            rfl
          refine one_ (i := 6) (N := none) #[true, true, true, true, true, true, true, false] rfl rfl (one_of HT_.out (by kernel_rfl)) (by decide) (fun K hK => ?_)
          have hs24 : w23.cell? ⟨gb370, 0, none⟩ = some (.string (⟨#[]⟩ : ByteArray)) := (blk_cell BK370.out 0).trans rfl
          have hfs24 := blk_frozen BK370.out 0
          have hns24_0 := NB362_370.out
          have hns24_1 := NB363_370.out
          have hns24_3 := NB371_370.out
          have hms24_0 := NB370_362.out
          have hms24_1 := NB370_363.out
          have hms24_3 := NB370_371.out
          have hs25 : w23.cell? ⟨gb370, 1, none⟩ = some (.string (⟨#[]⟩ : ByteArray)) := (blk_cell BK370.out 1).trans rfl
          have hfs25 := blk_frozen BK370.out 1
          have hns25_0 := NB362_370.out
          have hns25_1 := NB363_370.out
          have hns25_3 := NB371_370.out
          have hms25_0 := NB370_362.out
          have hms25_1 := NB370_363.out
          have hms25_3 := NB370_371.out
          have hs26 : w23.cell? ⟨gb370, 2, none⟩ = some (.string (⟨#[]⟩ : ByteArray)) := (blk_cell BK370.out 2).trans rfl
          have hfs26 := blk_frozen BK370.out 2
          have hns26_0 := NB362_370.out
          have hns26_1 := NB363_370.out
          have hns26_3 := NB371_370.out
          have hms26_0 := NB370_362.out
          have hms26_1 := NB370_363.out
          have hms26_3 := NB370_371.out
          refine skip_ (w1 := ?_) (by rfl) rfl ?_ ?_
          rotate_left
          · go_simp
            rfl
          refine hK.out _ _ ⟨((cell_far (p := ⟨gb370, _, none⟩) NB362_370.out _).trans (((cell_far (p := ⟨gb370, _, none⟩) NB362_370.out _).trans (((cell_far (p := ⟨gb370, _, none⟩) NB362_370.out _).trans (hHeld.1)))))), ((cell_far (p := ⟨gb370, _, none⟩) NB362_370.out _).trans (((cell_far (p := ⟨gb370, _, none⟩) NB362_370.out _).trans (((cell_far (p := ⟨gb370, _, none⟩) NB362_370.out _).trans (hHeld.2.1)))))), ((cell_far (p := ⟨gb370, _, none⟩) NB362_370.out _).trans (((cell_far (p := ⟨gb370, _, none⟩) NB362_370.out _).trans (((cell_far (p := ⟨gb370, _, none⟩) NB362_370.out _).trans (hHeld.2.2.1)))))), ((cell_far (p := ⟨gb370, _, none⟩) NB362_370.out _).trans (((cell_far (p := ⟨gb370, _, none⟩) NB362_370.out _).trans (((cell_far (p := ⟨gb370, _, none⟩) NB362_370.out _).trans (hHeld.2.2.2.1)))))), ((cell_far (p := ⟨gb370, _, none⟩) NB362_370.out _).trans (((cell_far (p := ⟨gb370, _, none⟩) NB362_370.out _).trans (((cell_far (p := ⟨gb370, _, none⟩) NB362_370.out _).trans (hHeld.2.2.2.2.1)))))), ((cell_far (p := ⟨gb370, _, none⟩) NB362_370.out _).trans (((cell_far (p := ⟨gb370, _, none⟩) NB362_370.out _).trans (((cell_far (p := ⟨gb370, _, none⟩) NB362_370.out _).trans (hHeld.2.2.2.2.2.1)))))), ((cell_far (p := ⟨gb370, _, none⟩) NB362_370.out _).trans (((cell_far (p := ⟨gb370, _, none⟩) NB362_370.out _).trans (((cell_far (p := ⟨gb370, _, none⟩) NB362_370.out _).trans (hHeld.2.2.2.2.2.2.1)))))), ((cell_far (p := ⟨gb370, _, none⟩) NB362_370.out _).trans (((cell_far (p := ⟨gb370, _, none⟩) NB362_370.out _).trans (((cell_far (p := ⟨gb370, _, none⟩) NB362_370.out _).trans (hHeld.2.2.2.2.2.2.2.1)))))), ((cell_far (p := ⟨gb370, _, none⟩) NB362_370.out _).trans (((cell_far (p := ⟨gb370, _, none⟩) NB362_370.out _).trans (((cell_far (p := ⟨gb370, _, none⟩) NB362_370.out _).trans (hHeld.2.2.2.2.2.2.2.2.1)))))), ((cell_far (p := ⟨gb370, _, none⟩) NB362_370.out _).trans (((cell_far (p := ⟨gb370, _, none⟩) NB362_370.out _).trans (((cell_far (p := ⟨gb370, _, none⟩) NB362_370.out _).trans (hHeld.2.2.2.2.2.2.2.2.2.1)))))), ((cell_far (p := ⟨gb370, _, none⟩) NB362_370.out _).trans (((cell_far (p := ⟨gb370, _, none⟩) NB362_370.out _).trans (((cell_far (p := ⟨gb370, _, none⟩) NB362_370.out _).trans (hHeld.2.2.2.2.2.2.2.2.2.2.1)))))), ((cell_far (p := ⟨gb370, _, none⟩) NB363_370.out _).trans (((cell_far (p := ⟨gb370, _, none⟩) NB363_370.out _).trans (((cell_far (p := ⟨gb370, _, none⟩) NB363_370.out _).trans (hHeld.2.2.2.2.2.2.2.2.2.2.2.1)))))), ((cell_far (p := ⟨gb370, _, none⟩) NB363_370.out _).trans (((cell_far (p := ⟨gb370, _, none⟩) NB363_370.out _).trans (((cell_far (p := ⟨gb370, _, none⟩) NB363_370.out _).trans (hHeld.2.2.2.2.2.2.2.2.2.2.2.2.1)))))), ((cell_far (p := ⟨gb370, _, none⟩) NB363_370.out _).trans (((cell_far (p := ⟨gb370, _, none⟩) NB363_370.out _).trans (((cell_far (p := ⟨gb370, _, none⟩) NB363_370.out _).trans (hHeld.2.2.2.2.2.2.2.2.2.2.2.2.2.1)))))), ((cell_far (p := ⟨gb370, _, none⟩) NB363_370.out _).trans (((cell_far (p := ⟨gb370, _, none⟩) NB363_370.out _).trans (((cell_far (p := ⟨gb370, _, none⟩) NB363_370.out _).trans (hHeld.2.2.2.2.2.2.2.2.2.2.2.2.2.2.1)))))), ((cell_far (p := ⟨gb370, _, none⟩) NB363_370.out _).trans (((cell_far (p := ⟨gb370, _, none⟩) NB363_370.out _).trans (((cell_far (p := ⟨gb370, _, none⟩) NB363_370.out _).trans (hHeld.2.2.2.2.2.2.2.2.2.2.2.2.2.2.2.1)))))), ((cell_far (p := ⟨gb370, _, none⟩) NB363_370.out _).trans (((cell_far (p := ⟨gb370, _, none⟩) NB363_370.out _).trans (((cell_far (p := ⟨gb370, _, none⟩) NB363_370.out _).trans (hHeld.2.2.2.2.2.2.2.2.2.2.2.2.2.2.2.2.1)))))), ((cell_far (p := ⟨gb370, _, none⟩) NB363_370.out _).trans (((cell_far (p := ⟨gb370, _, none⟩) NB363_370.out _).trans (((cell_far (p := ⟨gb370, _, none⟩) NB363_370.out _).trans (hHeld.2.2.2.2.2.2.2.2.2.2.2.2.2.2.2.2.2.1)))))), ((cell_far (p := ⟨gb370, _, none⟩) NB363_370.out _).trans (((cell_far (p := ⟨gb370, _, none⟩) NB363_370.out _).trans (((cell_far (p := ⟨gb370, _, none⟩) NB363_370.out _).trans (hHeld.2.2.2.2.2.2.2.2.2.2.2.2.2.2.2.2.2.2.1)))))), ((cell_far (p := ⟨gb370, _, none⟩) NB363_370.out _).trans (((cell_far (p := ⟨gb370, _, none⟩) NB363_370.out _).trans (((cell_far (p := ⟨gb370, _, none⟩) NB363_370.out _).trans (hHeld.2.2.2.2.2.2.2.2.2.2.2.2.2.2.2.2.2.2.2.1)))))), ((cell_far (p := ⟨gb370, _, none⟩) NB363_370.out _).trans (((cell_far (p := ⟨gb370, _, none⟩) NB363_370.out _).trans (((cell_far (p := ⟨gb370, _, none⟩) NB363_370.out _).trans (hHeld.2.2.2.2.2.2.2.2.2.2.2.2.2.2.2.2.2.2.2.2.1)))))), ((cell_far (p := ⟨gb370, _, none⟩) NB363_370.out _).trans (((cell_far (p := ⟨gb370, _, none⟩) NB363_370.out _).trans (((cell_far (p := ⟨gb370, _, none⟩) NB363_370.out _).trans (hHeld.2.2.2.2.2.2.2.2.2.2.2.2.2.2.2.2.2.2.2.2.2))))))⟩ (fun hHeld => ?_)
          clear hK K
          refine one_ (i := 7) (N := none) #[true, true, true, true, true, true, true, true] rfl rfl (one_of HT_.out (by kernel_rfl)) (by decide) (fun K hK => ?_)
          have hs27 : w23.cell? ⟨gb371, 0, none⟩ = some (.string (⟨#[]⟩ : ByteArray)) := (blk_cell BK371.out 0).trans rfl
          have hfs27 := blk_frozen BK371.out 0
          have hns27_0 := NB362_371.out
          have hns27_1 := NB363_371.out
          have hns27_2 := NB370_371.out
          have hms27_0 := NB371_362.out
          have hms27_1 := NB371_363.out
          have hms27_2 := NB371_370.out
          have hs28 : w23.cell? ⟨gb371, 1, none⟩ = some (.string (⟨#[]⟩ : ByteArray)) := (blk_cell BK371.out 1).trans rfl
          have hfs28 := blk_frozen BK371.out 1
          have hns28_0 := NB362_371.out
          have hns28_1 := NB363_371.out
          have hns28_2 := NB370_371.out
          have hms28_0 := NB371_362.out
          have hms28_1 := NB371_363.out
          have hms28_2 := NB371_370.out
          have hs29 : w23.cell? ⟨gb371, 2, none⟩ = some (.string (⟨#[]⟩ : ByteArray)) := (blk_cell BK371.out 2).trans rfl
          have hfs29 := blk_frozen BK371.out 2
          have hns29_0 := NB362_371.out
          have hns29_1 := NB363_371.out
          have hns29_2 := NB370_371.out
          have hms29_0 := NB371_362.out
          have hms29_1 := NB371_363.out
          have hms29_2 := NB371_370.out
          refine skip_ (w1 := ?_) (by rfl) rfl ?_ ?_
          rotate_left
          · go_simp
            rfl
          refine hK.out _ _ ⟨((cell_far (p := ⟨gb371, _, none⟩) NB362_371.out _).trans (((cell_far (p := ⟨gb371, _, none⟩) NB362_371.out _).trans (((cell_far (p := ⟨gb371, _, none⟩) NB362_371.out _).trans (hHeld.1)))))), ((cell_far (p := ⟨gb371, _, none⟩) NB362_371.out _).trans (((cell_far (p := ⟨gb371, _, none⟩) NB362_371.out _).trans (((cell_far (p := ⟨gb371, _, none⟩) NB362_371.out _).trans (hHeld.2.1)))))), ((cell_far (p := ⟨gb371, _, none⟩) NB362_371.out _).trans (((cell_far (p := ⟨gb371, _, none⟩) NB362_371.out _).trans (((cell_far (p := ⟨gb371, _, none⟩) NB362_371.out _).trans (hHeld.2.2.1)))))), ((cell_far (p := ⟨gb371, _, none⟩) NB362_371.out _).trans (((cell_far (p := ⟨gb371, _, none⟩) NB362_371.out _).trans (((cell_far (p := ⟨gb371, _, none⟩) NB362_371.out _).trans (hHeld.2.2.2.1)))))), ((cell_far (p := ⟨gb371, _, none⟩) NB362_371.out _).trans (((cell_far (p := ⟨gb371, _, none⟩) NB362_371.out _).trans (((cell_far (p := ⟨gb371, _, none⟩) NB362_371.out _).trans (hHeld.2.2.2.2.1)))))), ((cell_far (p := ⟨gb371, _, none⟩) NB362_371.out _).trans (((cell_far (p := ⟨gb371, _, none⟩) NB362_371.out _).trans (((cell_far (p := ⟨gb371, _, none⟩) NB362_371.out _).trans (hHeld.2.2.2.2.2.1)))))), ((cell_far (p := ⟨gb371, _, none⟩) NB362_371.out _).trans (((cell_far (p := ⟨gb371, _, none⟩) NB362_371.out _).trans (((cell_far (p := ⟨gb371, _, none⟩) NB362_371.out _).trans (hHeld.2.2.2.2.2.2.1)))))), ((cell_far (p := ⟨gb371, _, none⟩) NB362_371.out _).trans (((cell_far (p := ⟨gb371, _, none⟩) NB362_371.out _).trans (((cell_far (p := ⟨gb371, _, none⟩) NB362_371.out _).trans (hHeld.2.2.2.2.2.2.2.1)))))), ((cell_far (p := ⟨gb371, _, none⟩) NB362_371.out _).trans (((cell_far (p := ⟨gb371, _, none⟩) NB362_371.out _).trans (((cell_far (p := ⟨gb371, _, none⟩) NB362_371.out _).trans (hHeld.2.2.2.2.2.2.2.2.1)))))), ((cell_far (p := ⟨gb371, _, none⟩) NB362_371.out _).trans (((cell_far (p := ⟨gb371, _, none⟩) NB362_371.out _).trans (((cell_far (p := ⟨gb371, _, none⟩) NB362_371.out _).trans (hHeld.2.2.2.2.2.2.2.2.2.1)))))), ((cell_far (p := ⟨gb371, _, none⟩) NB362_371.out _).trans (((cell_far (p := ⟨gb371, _, none⟩) NB362_371.out _).trans (((cell_far (p := ⟨gb371, _, none⟩) NB362_371.out _).trans (hHeld.2.2.2.2.2.2.2.2.2.2.1)))))), ((cell_far (p := ⟨gb371, _, none⟩) NB363_371.out _).trans (((cell_far (p := ⟨gb371, _, none⟩) NB363_371.out _).trans (((cell_far (p := ⟨gb371, _, none⟩) NB363_371.out _).trans (hHeld.2.2.2.2.2.2.2.2.2.2.2.1)))))), ((cell_far (p := ⟨gb371, _, none⟩) NB363_371.out _).trans (((cell_far (p := ⟨gb371, _, none⟩) NB363_371.out _).trans (((cell_far (p := ⟨gb371, _, none⟩) NB363_371.out _).trans (hHeld.2.2.2.2.2.2.2.2.2.2.2.2.1)))))), ((cell_far (p := ⟨gb371, _, none⟩) NB363_371.out _).trans (((cell_far (p := ⟨gb371, _, none⟩) NB363_371.out _).trans (((cell_far (p := ⟨gb371, _, none⟩) NB363_371.out _).trans (hHeld.2.2.2.2.2.2.2.2.2.2.2.2.2.1)))))), ((cell_far (p := ⟨gb371, _, none⟩) NB363_371.out _).trans (((cell_far (p := ⟨gb371, _, none⟩) NB363_371.out _).trans (((cell_far (p := ⟨gb371, _, none⟩) NB363_371.out _).trans (hHeld.2.2.2.2.2.2.2.2.2.2.2.2.2.2.1)))))), ((cell_far (p := ⟨gb371, _, none⟩) NB363_371.out _).trans (((cell_far (p := ⟨gb371, _, none⟩) NB363_371.out _).trans (((cell_far (p := ⟨gb371, _, none⟩) NB363_371.out _).trans (hHeld.2.2.2.2.2.2.2.2.2.2.2.2.2.2.2.1)))))), ((cell_far (p := ⟨gb371, _, none⟩) NB363_371.out _).trans (((cell_far (p := ⟨gb371, _, none⟩) NB363_371.out _).trans (((cell_far (p := ⟨gb371, _, none⟩) NB363_371.out _).trans (hHeld.2.2.2.2.2.2.2.2.2.2.2.2.2.2.2.2.1)))))), ((cell_far (p := ⟨gb371, _, none⟩) NB363_371.out _).trans (((cell_far (p := ⟨gb371, _, none⟩) NB363_371.out _).trans (((cell_far (p := ⟨gb371, _, none⟩) NB363_371.out _).trans (hHeld.2.2.2.2.2.2.2.2.2.2.2.2.2.2.2.2.2.1)))))), ((cell_far (p := ⟨gb371, _, none⟩) NB363_371.out _).trans (((cell_far (p := ⟨gb371, _, none⟩) NB363_371.out _).trans (((cell_far (p := ⟨gb371, _, none⟩) NB363_371.out _).trans (hHeld.2.2.2.2.2.2.2.2.2.2.2.2.2.2.2.2.2.2.1)))))), ((cell_far (p := ⟨gb371, _, none⟩) NB363_371.out _).trans (((cell_far (p := ⟨gb371, _, none⟩) NB363_371.out _).trans (((cell_far (p := ⟨gb371, _, none⟩) NB363_371.out _).trans (hHeld.2.2.2.2.2.2.2.2.2.2.2.2.2.2.2.2.2.2.2.1)))))), ((cell_far (p := ⟨gb371, _, none⟩) NB363_371.out _).trans (((cell_far (p := ⟨gb371, _, none⟩) NB363_371.out _).trans (((cell_far (p := ⟨gb371, _, none⟩) NB363_371.out _).trans (hHeld.2.2.2.2.2.2.2.2.2.2.2.2.2.2.2.2.2.2.2.2.1)))))), ((cell_far (p := ⟨gb371, _, none⟩) NB363_371.out _).trans (((cell_far (p := ⟨gb371, _, none⟩) NB363_371.out _).trans (((cell_far (p := ⟨gb371, _, none⟩) NB363_371.out _).trans (hHeld.2.2.2.2.2.2.2.2.2.2.2.2.2.2.2.2.2.2.2.2.2))))))⟩ (fun hHeld => ?_)
          clear hK K
          refine done_ (done_of HT_.out (by kernel_rfl)) ?_
          have hnb30 := NB370_362.out
          have hnc30 := NB362_370.out
          have hnb31 := NB370_363.out
          have hnc31 := NB363_370.out
          have hnb32 := NB370_371.out
          have hnc32 := NB371_370.out
          have hcz33_0 : w23.cell? ⟨gb370, 0, none⟩ = some (.string (⟨#[]⟩ : ByteArray)) := (blk_cell BK370.out 0).trans rfl
          have hcz33_1 : w23.cell? ⟨gb370, 1, none⟩ = some (.string (⟨#[]⟩ : ByteArray)) := (blk_cell BK370.out 1).trans rfl
          have hcz33_2 : w23.cell? ⟨gb370, 2, none⟩ = some (.string (⟨#[]⟩ : ByteArray)) := (blk_cell BK370.out 2).trans rfl
          have hfz33_0 := blk_frozen BK370.out 0
          have hfz33_1 := blk_frozen BK370.out 1
          have hfz33_2 := blk_frozen BK370.out 2
          have hnb34 := NB371_362.out
          have hnc34 := NB362_371.out
          have hnb35 := NB371_363.out
          have hnc35 := NB363_371.out
          have hcz36_0 : w23.cell? ⟨gb371, 0, none⟩ = some (.string (⟨#[]⟩ : ByteArray)) := (blk_cell BK371.out 0).trans rfl
          have hcz36_1 : w23.cell? ⟨gb371, 1, none⟩ = some (.string (⟨#[]⟩ : ByteArray)) := (blk_cell BK371.out 1).trans rfl
          have hcz36_2 : w23.cell? ⟨gb371, 2, none⟩ = some (.string (⟨#[]⟩ : ByteArray)) := (blk_cell BK371.out 2).trans rfl
          have hfz36_0 := blk_frozen BK371.out 0
          have hfz36_1 := blk_frozen BK371.out 1
          have hfz36_2 := blk_frozen BK371.out 2
          try go_wp2_with (first | ((with_reducible refine gate_callee (f := 10) rfl ?_); refine goesL_ (some 14) rfl rfl Tryd.func10 (by kernel_rfl) rfl #[.agg #[.string t364, .string t365, .string t366], .agg #[.string t367, .string t368, .string t369]] rfl xg ?_; (with_reducible refine (PrintC.cookie_Key_Cmp.calls k t364 t365 t366 t367 t368 t369 t372 _ A5.out).mono ?_); rintro e w37 ⟨rfl, hb⟩; refine ⟨_, rfl, ?_⟩; have n0_ := blkB BK362 hb; have n1_ := blkB BK363 hb; have n2_ := Aside0.mk (blk_below (g := gb370) (o := .cells #[.string t364, .string t365, .string t366] 25 (0, 0)) xk hb); have n3_ := Aside0.mk (blk_below (g := gb371) (o := .cells #[.string t367, .string t368, .string t369] 25 (0, 0)) xk hb); have n4_ := Aside0.mk (below_step xb hb); clear BK362; clear BK363; clear BK370; clear BK371; clear HB; have BK362 := n0_; have BK363 := n1_; have BK370 := n2_; have BK371 := n3_; have HB := n4_; clear n0_ n1_ n2_ n3_ n4_; (try clear hb); (try clear hb2); (try clear hk); (try clear hi)))
          have n0_ := Aside0.mk (blk_drew BK362.out)
          have n1_ := Aside0.mk (blk_drew BK363.out)
          have n2_ := Aside0.mk (blk_drew BK370.out)
          have n3_ := Aside0.mk (blk_drew BK371.out)
          have n4_ := Aside0.mk (below_drew1 HB.out)
          clear BK362
          clear BK363
          clear BK370
          clear BK371
          clear HB
          have BK362 := n0_
          have BK363 := n1_
          have BK370 := n2_
          have BK371 := n3_
          have HB := n4_
          clear n0_ n1_ n2_ n3_ n4_
          refine start_ (n := 33) (S := fun w' => w'.cell? ⟨gb370, 0, none⟩ = some (.string t364) ∧ w'.cell? ⟨gb370, 1, none⟩ = some (.string t365) ∧ w'.cell? ⟨gb370, 2, none⟩ = some (.string t366) ∧ w'.cell? ⟨gb362, 0, none⟩ = some (.string a0_0) ∧ w'.cell? ⟨gb362, 1, none⟩ = some (.string a0_1) ∧ w'.cell? ⟨gb362, 2, none⟩ = some (.string a0_2) ∧ w'.cell? ⟨gb362, 3, none⟩ = some (.string a0_3) ∧ w'.cell? ⟨gb362, 4, none⟩ = some (.int .i64 a0_4) ∧ w'.cell? ⟨gb362, 5, none⟩ = some (.int .i64 a0_5) ∧ w'.cell? ⟨gb362, 6, none⟩ = some (.int .i64 a0_6) ∧ w'.cell? ⟨gb362, 7, none⟩ = some (.bool a0_7) ∧ w'.cell? ⟨gb362, 8, none⟩ = some (.bool a0_8) ∧ w'.cell? ⟨gb362, 9, none⟩ = some (.bool a0_9) ∧ w'.cell? ⟨gb362, 10, none⟩ = some (.int .i64 a0_10) ∧ w'.cell? ⟨gb363, 0, none⟩ = some (.string a1_0) ∧ w'.cell? ⟨gb363, 1, none⟩ = some (.string a1_1) ∧ w'.cell? ⟨gb363, 2, none⟩ = some (.string a1_2) ∧ w'.cell? ⟨gb363, 3, none⟩ = some (.string a1_3) ∧ w'.cell? ⟨gb363, 4, none⟩ = some (.int .i64 a1_4) ∧ w'.cell? ⟨gb363, 5, none⟩ = some (.int .i64 a1_5) ∧ w'.cell? ⟨gb363, 6, none⟩ = some (.int .i64 a1_6) ∧ w'.cell? ⟨gb363, 7, none⟩ = some (.bool a1_7) ∧ w'.cell? ⟨gb363, 8, none⟩ = some (.bool a1_8) ∧ w'.cell? ⟨gb363, 9, none⟩ = some (.bool a1_9) ∧ w'.cell? ⟨gb363, 10, none⟩ = some (.int .i64 a1_10) ∧ w'.cell? ⟨gb371, 0, none⟩ = some (.string t367) ∧ w'.cell? ⟨gb371, 1, none⟩ = some (.string t368) ∧ w'.cell? ⟨gb371, 2, none⟩ = some (.string t369)) (ds := []) #[false, false, false, false, false, false, false, false, false, false, false, false, false, false, false, false, false, false, false, false, false, false, false, false, false, false, false, false, false, false, false, false, false] (by kernel_rfl) rfl rfl ⟨(blk_cell BK370.out 0).trans rfl, (blk_cell BK370.out 1).trans rfl, (blk_cell BK370.out 2).trans rfl, (blk_cell BK362.out 0).trans rfl, (blk_cell BK362.out 1).trans rfl, (blk_cell BK362.out 2).trans rfl, (blk_cell BK362.out 3).trans rfl, (blk_cell BK362.out 4).trans rfl, (blk_cell BK362.out 5).trans rfl, (blk_cell BK362.out 6).trans rfl, (blk_cell BK362.out 7).trans rfl, (blk_cell BK362.out 8).trans rfl, (blk_cell BK362.out 9).trans rfl, (blk_cell BK362.out 10).trans rfl, (blk_cell BK363.out 0).trans rfl, (blk_cell BK363.out 1).trans rfl, (blk_cell BK363.out 2).trans rfl, (blk_cell BK363.out 3).trans rfl, (blk_cell BK363.out 4).trans rfl, (blk_cell BK363.out 5).trans rfl, (blk_cell BK363.out 6).trans rfl, (blk_cell BK363.out 7).trans rfl, (blk_cell BK363.out 8).trans rfl, (blk_cell BK363.out 9).trans rfl, (blk_cell BK363.out 10).trans rfl, (blk_cell BK371.out 0).trans rfl, (blk_cell BK371.out 1).trans rfl, (blk_cell BK371.out 2).trans rfl⟩ (fun hHeld => ?_); refine with_tabW cracknellaw13_CookieKeys.tab3 cracknellaw13_CookieKeys.bits3 (fun HT_ HW_ => ?_)
          generalize w37.drew = w38 at BK362 BK363 BK370 BK371 HB hHeld ⊢
          refine one_ (i := 0) (N := some 15) #[true, false, false, false, false, false, false, false, false, false, false, false, false, false, false, false, false, false, false, false, false, false, false, false, false, false, false, false, false, false, false, false, false] rfl rfl (one_of HT_.out (by kernel_rfl)) (by decide) (fun K hK => ?_)
          refine goes_ Tryd.func11 (by kernel_rfl) rfl #[] (by rfl) rfl rfl xg ?_
          with_reducible refine (cracknellaw13_alive.calls k  true _ (Aside0.mk (by first | exact hG.out | ((with_reducible repeat (first | apply LaidG.drewN | apply LaidG.drew | apply LaidG.alloc)); exact hG.out) | exact LaidG.below hG.out xb)) ⟨by first | rfl | assumption | exact hT_.out⟩ A6.out).mono ?_
          rintro e w39 ⟨rfl, hb⟩
          refine ⟨_, rfl, ?_⟩
          have n0_ := blkB BK362 hb
          have n1_ := blkB BK363 hb
          have n2_ := blkB BK370 hb
          have n3_ := blkB BK371 hb
          have n4_ := Aside0.mk (below_step xb hb)
          clear BK362
          clear BK363
          clear BK370
          clear BK371
          clear HB
          have BK362 := n0_
          have BK363 := n1_
          have BK370 := n2_
          have BK371 := n3_
          have HB := n4_
          clear n0_ n1_ n2_ n3_ n4_
          (try clear hb)
          (try clear hb2)
          (try clear hk)
          (try clear hi)
          refine hK.out _ _ xc (fun hHeld => ?_)
          clear hK K
          refine norm_ (a' := ?_) ?_ ?_
          rotate_left
          · show Act.put _ (some 15) _ = _
            simp only [Act.put, List.setIfInBounds_toArray, List.set_cons_zero, List.set_cons_succ, i64_w, i32_w]
            rfl
          refine pure_ (i := 1) (N := some 16) (v := ?_) (a' := ?_) #[true, true, false, false, false, false, false, false, false, false, false, false, false, false, false, false, false, false, false, false, false, false, false, false, false, false, false, false, false, false, false, false, false] rfl rfl (any_of HT_.out (by kernel_rfl)) (fun _ _ _ h => h) (Or.inl ⟨by rfl, ?_⟩) ?_ ?_
          rotate_left
          · intro w'
            go_simp
            with_reducible rfl
          rotate_left
          · simp only [Act.put, List.setIfInBounds_toArray, List.set_cons_zero, List.set_cons_succ, i64_w, i32_w]
            rfl
          refine take_ (i := 2) (N := some 17) (v := ?_) (a' := ?_) #[true, true, true, false, false, false, false, false, false, false, false, false, false, false, false, false, false, false, false, false, false, false, false, false, false, false, false, false, false, false, false, false, false] rfl rfl (take_ofW HT_.out HW_.out (by kernel_rfl)) (fun _ _ _ h => h) (Or.inl ⟨by rfl, ?_⟩) hHeld ?_ ?_
          rotate_left
          · rintro w' ⟨s0, s1, s2, s3, s4, s5, s6, s7, s8, s9, s10, s11, s12, s13, s14, s15, s16, s17, s18, s19, s20, s21, s22, s23, s24, s25, s26, s27⟩
            go_simp
            with_reducible rfl
          rotate_left
          · simp only [Act.put, List.setIfInBounds_toArray, List.set_cons_zero, List.set_cons_succ, i64_w, i32_w]
            rfl
          refine take_ (i := 3) (N := some 18) (v := ?_) (a' := ?_) #[true, true, true, true, false, false, false, false, false, false, false, false, false, false, false, false, false, false, false, false, false, false, false, false, false, false, false, false, false, false, false, false, false] rfl rfl (take_ofW HT_.out HW_.out (by kernel_rfl)) (fun _ _ _ h => h) (Or.inl ⟨by rfl, ?_⟩) hHeld ?_ ?_
          rotate_left
          · rintro w' ⟨s0, s1, s2, s3, s4, s5, s6, s7, s8, s9, s10, s11, s12, s13, s14, s15, s16, s17, s18, s19, s20, s21, s22, s23, s24, s25, s26, s27⟩
            go_simp
            with_reducible rfl
          rotate_left
          · simp only [Act.put, List.setIfInBounds_toArray, List.set_cons_zero, List.set_cons_succ, i64_w, i32_w]
            rfl
          refine one_ (i := 4) (N := some 19) #[true, true, true, true, true, false, false, false, false, false, false, false, false, false, false, false, false, false, false, false, false, false, false, false, false, false, false, false, false, false, false, false, false] rfl rfl (one_of HT_.out (by kernel_rfl)) (by decide) (fun K hK => ?_)
          refine goes_ Tryd.func12 (by kernel_rfl) rfl #[.agg #[.string a0_0, .string a0_1, .string a0_2, .string a0_3, .int .i64 a0_4, .int .i64 a0_5, .int .i64 a0_6, .bool a0_7, .bool a0_8, .bool a0_9, .int .i64 a0_10]] (by rfl) rfl rfl xg ?_
          with_reducible refine (cracknelref13_Of.calls a0_0 a0_1 a0_2 a0_3 a0_4 a0_5 a0_6 a0_7 a0_8 a0_9 a0_10 t374 t375 t376 _ A8.out).mono ?_
          rintro e w40 ⟨rfl, hb⟩
          refine ⟨_, rfl, ?_⟩
          have n0_ := blkB BK362 hb
          have n1_ := blkB BK363 hb
          have n2_ := blkB BK370 hb
          have n3_ := blkB BK371 hb
          have n4_ := Aside0.mk (below_step xb hb)
          clear BK362
          clear BK363
          clear BK370
          clear BK371
          clear HB
          have BK362 := n0_
          have BK363 := n1_
          have BK370 := n2_
          have BK371 := n3_
          have HB := n4_
          clear n0_ n1_ n2_ n3_ n4_
          (try clear hb)
          (try clear hb2)
          (try clear hk)
          (try clear hi)
          refine hK.out _ _ xc (fun hHeld => ?_)
          clear hK K
          refine norm_ (a' := ?_) ?_ ?_
          rotate_left
          · show Act.put _ (some 19) _ = _
            simp only [Act.put, List.setIfInBounds_toArray, List.set_cons_zero, List.set_cons_succ, i64_w, i32_w]
            rfl
          refine pure_ (i := 5) (N := some 20) (v := ?_) (a' := ?_) #[true, true, true, true, true, true, false, false, false, false, false, false, false, false, false, false, false, false, false, false, false, false, false, false, false, false, false, false, false, false, false, false, false] rfl rfl (any_of HT_.out (by kernel_rfl)) (fun _ _ _ h => h) (Or.inl ⟨by rfl, ?_⟩) ?_ ?_
          rotate_left
          · intro w'
            go_simp
            with_reducible rfl
          rotate_left
          · simp only [Act.put, List.setIfInBounds_toArray, List.set_cons_zero, List.set_cons_succ, i64_w, i32_w]
            rfl
          refine pure_ (i := 6) (N := some 21) (v := ?_) (a' := ?_) #[true, true, true, true, true, true, true, false, false, false, false, false, false, false, false, false, false, false, false, false, false, false, false, false, false, false, false, false, false, false, false, false, false] rfl rfl (any_of HT_.out (by kernel_rfl)) (fun _ _ _ h => h) (Or.inl ⟨by rfl, ?_⟩) ?_ ?_
          rotate_left
          · intro w'
            go_simp
            with_reducible rfl
          rotate_left
          · simp only [Act.put, List.setIfInBounds_toArray, List.set_cons_zero, List.set_cons_succ, i64_w, i32_w]
            rfl
          refine pure_ (i := 7) (N := some 22) (v := ?_) (a' := ?_) #[true, true, true, true, true, true, true, true, false, false, false, false, false, false, false, false, false, false, false, false, false, false, false, false, false, false, false, false, false, false, false, false, false] rfl rfl (any_of HT_.out (by kernel_rfl)) (fun _ _ _ h => h) (Or.inl ⟨by rfl, ?_⟩) ?_ ?_
          rotate_left
          · intro w'
            go_simp
            with_reducible rfl
          rotate_left
          · simp only [Act.put, List.setIfInBounds_toArray, List.set_cons_zero, List.set_cons_succ, i64_w, i32_w]
            rfl
          refine pure_ (i := 8) (N := some 23) (v := ?_) (a' := ?_) #[true, true, true, true, true, true, true, true, true, false, false, false, false, false, false, false, false, false, false, false, false, false, false, false, false, false, false, false, false, false, false, false, false] rfl rfl (any_of HT_.out (by kernel_rfl)) (fun _ _ _ h => h) (Or.inl ⟨by rfl, ?_⟩) ?_ ?_
          rotate_left
          · intro w'
            go_simp
            with_reducible rfl
          rotate_left
          · simp only [Act.put, List.setIfInBounds_toArray, List.set_cons_zero, List.set_cons_succ, i64_w, i32_w]
            rfl
          refine take_ (i := 9) (N := some 24) (v := ?_) (a' := ?_) #[true, true, true, true, true, true, true, true, true, true, false, false, false, false, false, false, false, false, false, false, false, false, false, false, false, false, false, false, false, false, false, false, false] rfl rfl (take_ofW HT_.out HW_.out (by kernel_rfl)) (fun _ _ _ h => h) (Or.inl ⟨by rfl, ?_⟩) hHeld ?_ ?_
          rotate_left
          · rintro w' ⟨s0, s1, s2, s3, s4, s5, s6, s7, s8, s9, s10, s11, s12, s13, s14, s15, s16, s17, s18, s19, s20, s21, s22, s23, s24, s25, s26, s27⟩
            go_simp
            with_reducible rfl
          rotate_left
          · simp only [Act.put, List.setIfInBounds_toArray, List.set_cons_zero, List.set_cons_succ, i64_w, i32_w]
            rfl
          refine take_ (i := 11) (N := some 26) (v := ?_) (a' := ?_) #[true, true, true, true, true, true, true, true, true, true, false, true, false, false, false, false, false, false, false, false, false, false, false, false, false, false, false, false, false, false, false, false, false] rfl rfl (take_ofW HT_.out HW_.out (by kernel_rfl)) (fun _ _ _ h => h) (Or.inl ⟨by rfl, ?_⟩) hHeld ?_ ?_
          rotate_left
          · rintro w' ⟨s0, s1, s2, s3, s4, s5, s6, s7, s8, s9, s10, s11, s12, s13, s14, s15, s16, s17, s18, s19, s20, s21, s22, s23, s24, s25, s26, s27⟩
            go_simp
            with_reducible rfl
          rotate_left
          · simp only [Act.put, List.setIfInBounds_toArray, List.set_cons_zero, List.set_cons_succ, i64_w, i32_w]
            rfl
          refine one_ (i := 10) (N := some 25) #[true, true, true, true, true, true, true, true, true, true, true, true, false, false, false, false, false, false, false, false, false, false, false, false, false, false, false, false, false, false, false, false, false] rfl rfl (one_of HT_.out (by kernel_rfl)) (by decide) (fun K hK => ?_)
          refine goes_ Tryd.func12 (by kernel_rfl) rfl #[.agg #[.string a0_0, .string a0_1, .string a0_2, .string a0_3, .int .i64 a0_4, .int .i64 a0_5, .int .i64 a0_6, .bool a0_7, .bool a0_8, .bool a0_9, .int .i64 a0_10]] (by rfl) rfl rfl xg ?_
          with_reducible refine (cracknelref13_Of.calls a0_0 a0_1 a0_2 a0_3 a0_4 a0_5 a0_6 a0_7 a0_8 a0_9 a0_10 t377 t378 t379 _ A10.out).mono ?_
          rintro e w41 ⟨rfl, hb⟩
          refine ⟨_, rfl, ?_⟩
          have n0_ := blkB BK362 hb
          have n1_ := blkB BK363 hb
          have n2_ := blkB BK370 hb
          have n3_ := blkB BK371 hb
          have n4_ := Aside0.mk (below_step xb hb)
          clear BK362
          clear BK363
          clear BK370
          clear BK371
          clear HB
          have BK362 := n0_
          have BK363 := n1_
          have BK370 := n2_
          have BK371 := n3_
          have HB := n4_
          clear n0_ n1_ n2_ n3_ n4_
          (try clear hb)
          (try clear hb2)
          (try clear hk)
          (try clear hi)
          refine hK.out _ _ xc (fun hHeld => ?_)
          clear hK K
          refine norm_ (a' := ?_) ?_ ?_
          rotate_left
          · show Act.put _ (some 25) _ = _
            simp only [Act.put, List.setIfInBounds_toArray, List.set_cons_zero, List.set_cons_succ, i64_w, i32_w]
            rfl
          refine one_ (i := 12) (N := some 27) #[true, true, true, true, true, true, true, true, true, true, true, true, true, false, false, false, false, false, false, false, false, false, false, false, false, false, false, false, false, false, false, false, false] rfl rfl (one_of HT_.out (by kernel_rfl)) (by decide) (fun K hK => ?_)
          refine goes_ Tryd.func12 (by kernel_rfl) rfl #[.agg #[.string a1_0, .string a1_1, .string a1_2, .string a1_3, .int .i64 a1_4, .int .i64 a1_5, .int .i64 a1_6, .bool a1_7, .bool a1_8, .bool a1_9, .int .i64 a1_10]] (by rfl) rfl rfl xg ?_
          with_reducible refine (cracknelref13_Of.calls a1_0 a1_1 a1_2 a1_3 a1_4 a1_5 a1_6 a1_7 a1_8 a1_9 a1_10 t380 t381 t382 _ A11.out).mono ?_
          rintro e w42 ⟨rfl, hb⟩
          refine ⟨_, rfl, ?_⟩
          have n0_ := blkB BK362 hb
          have n1_ := blkB BK363 hb
          have n2_ := blkB BK370 hb
          have n3_ := blkB BK371 hb
          have n4_ := Aside0.mk (below_step xb hb)
          clear BK362
          clear BK363
          clear BK370
          clear BK371
          clear HB
          have BK362 := n0_
          have BK363 := n1_
          have BK370 := n2_
          have BK371 := n3_
          have HB := n4_
          clear n0_ n1_ n2_ n3_ n4_
          (try clear hb)
          (try clear hb2)
          (try clear hk)
          (try clear hi)
          refine hK.out _ _ xc (fun hHeld => ?_)
          clear hK K
          refine norm_ (a' := ?_) ?_ ?_
          rotate_left
          · show Act.put _ (some 27) _ = _
            simp only [Act.put, List.setIfInBounds_toArray, List.set_cons_zero, List.set_cons_succ, i64_w, i32_w]
            rfl
          refine one_ (i := 13) (N := some 28) #[true, true, true, true, true, true, true, true, true, true, true, true, true, true, false, false, false, false, false, false, false, false, false, false, false, false, false, false, false, false, false, false, false] rfl rfl (one_of HT_.out (by kernel_rfl)) (by decide) (fun K hK => ?_)
          refine goes_ Tryd.func13 (by kernel_rfl) rfl #[.agg #[.string t377, .string t378, .string t379], .agg #[.string t380, .string t381, .string t382]] (by rfl) rfl rfl xg ?_
          with_reducible refine (cracknelref13_Keys.calls k t377 t378 t379 t380 t381 t382 t383 _ A12.out).mono ?_
          rintro e w43 ⟨rfl, hb⟩
          refine ⟨_, rfl, ?_⟩
          have n0_ := blkB BK362 hb
          have n1_ := blkB BK363 hb
          have n2_ := blkB BK370 hb
          have n3_ := blkB BK371 hb
          have n4_ := Aside0.mk (below_step xb hb)
          clear BK362
          clear BK363
          clear BK370
          clear BK371
          clear HB
          have BK362 := n0_
          have BK363 := n1_
          have BK370 := n2_
          have BK371 := n3_
          have HB := n4_
          clear n0_ n1_ n2_ n3_ n4_
          (try clear hb)
          (try clear hb2)
          (try clear hk)
          (try clear hi)
          refine hK.out _ _ xc (fun hHeld => ?_)
          clear hK K
          refine norm_ (a' := ?_) ?_ ?_
          rotate_left
          · show Act.put _ (some 28) _ = _
            simp only [Act.put, List.setIfInBounds_toArray, List.set_cons_zero, List.set_cons_succ, i64_w, i32_w]
            rfl
          refine pure_ (i := 14) (N := some 29) (v := ?_) (a' := ?_) #[true, true, true, true, true, true, true, true, true, true, true, true, true, true, true, false, false, false, false, false, false, false, false, false, false, false, false, false, false, false, false, false, false] rfl rfl (any_of HT_.out (by kernel_rfl)) (fun _ _ _ h => h) (Or.inl ⟨by rfl, ?_⟩) ?_ ?_
          rotate_left
          · intro w'
            go_simp
            with_reducible rfl
          rotate_left
          · simp only [Act.put, List.setIfInBounds_toArray, List.set_cons_zero, List.set_cons_succ, i64_w, i32_w]
            rfl
          refine pure_ (i := 15) (N := some 30) (v := ?_) (a' := ?_) #[true, true, true, true, true, true, true, true, true, true, true, true, true, true, true, true, false, false, false, false, false, false, false, false, false, false, false, false, false, false, false, false, false] rfl rfl (any_of HT_.out (by kernel_rfl)) (fun _ _ _ h => h) (Or.inl ⟨by rfl, ?_⟩) ?_ ?_
          rotate_left
          · intro w'
            go_simp
            with_reducible rfl
          rotate_left
          · simp only [Act.put, List.setIfInBounds_toArray, List.set_cons_zero, List.set_cons_succ, i64_w, i32_w]
            rfl
          refine pure_ (i := 16) (N := some 31) (v := ?_) (a' := ?_) #[true, true, true, true, true, true, true, true, true, true, true, true, true, true, true, true, true, false, false, false, false, false, false, false, false, false, false, false, false, false, false, false, false] rfl rfl (any_of HT_.out (by kernel_rfl)) (fun _ _ _ h => h) (Or.inl ⟨by rfl, ?_⟩) ?_ ?_
          rotate_left
          · intro w'
            go_simp
            with_reducible rfl
          rotate_left
          · simp only [Act.put, List.setIfInBounds_toArray, List.set_cons_zero, List.set_cons_succ, i64_w, i32_w]
            rfl
          refine pure_ (i := 20) (N := some 35) (v := ?_) (a' := ?_) #[true, true, true, true, true, true, true, true, true, true, true, true, true, true, true, true, true, false, false, false, true, false, false, false, false, false, false, false, false, false, false, false, false] rfl rfl (any_of HT_.out (by kernel_rfl)) (fun _ _ _ h => h) (Or.inl ⟨by rfl, ?_⟩) ?_ ?_
          rotate_left
          · intro w'
            go_simp
            with_reducible rfl
          rotate_left
          · simp only [Act.put, List.setIfInBounds_toArray, List.set_cons_zero, List.set_cons_succ, i64_w, i32_w]
            rfl
          refine pure_ (i := 21) (N := some 36) (v := ?_) (a' := ?_) #[true, true, true, true, true, true, true, true, true, true, true, true, true, true, true, true, true, false, false, false, true, true, false, false, false, false, false, false, false, false, false, false, false] rfl rfl (any_of HT_.out (by kernel_rfl)) (fun _ _ _ h => h) (Or.inl ⟨by rfl, ?_⟩) ?_ ?_
          rotate_left
          · intro w'
            go_simp
            with_reducible rfl
          rotate_left
          · simp only [Act.put, List.setIfInBounds_toArray, List.set_cons_zero, List.set_cons_succ, i64_w, i32_w]
            rfl
          refine take_ (i := 17) (N := some 32) (v := ?_) (a' := ?_) #[true, true, true, true, true, true, true, true, true, true, true, true, true, true, true, true, true, true, false, false, true, true, false, false, false, false, false, false, false, false, false, false, false] rfl rfl (take_ofW HT_.out HW_.out (by kernel_rfl)) (fun _ _ _ h => h) (Or.inl ⟨by rfl, ?_⟩) hHeld ?_ ?_
          rotate_left
          · rintro w' ⟨s0, s1, s2, s3, s4, s5, s6, s7, s8, s9, s10, s11, s12, s13, s14, s15, s16, s17, s18, s19, s20, s21, s22, s23, s24, s25, s26, s27⟩
            go_simp
            with_reducible rfl
          rotate_left
          · simp only [Act.put, List.setIfInBounds_toArray, List.set_cons_zero, List.set_cons_succ, i64_w, i32_w]
            rfl
          refine take_ (i := 18) (N := some 33) (v := ?_) (a' := ?_) #[true, true, true, true, true, true, true, true, true, true, true, true, true, true, true, true, true, true, true, false, true, true, false, false, false, false, false, false, false, false, false, false, false] rfl rfl (take_ofW HT_.out HW_.out (by kernel_rfl)) (fun _ _ _ h => h) (Or.inl ⟨by rfl, ?_⟩) hHeld ?_ ?_
          rotate_left
          · rintro w' ⟨s0, s1, s2, s3, s4, s5, s6, s7, s8, s9, s10, s11, s12, s13, s14, s15, s16, s17, s18, s19, s20, s21, s22, s23, s24, s25, s26, s27⟩
            go_simp
            with_reducible rfl
          rotate_left
          · simp only [Act.put, List.setIfInBounds_toArray, List.set_cons_zero, List.set_cons_succ, i64_w, i32_w]
            rfl
          refine one_ (i := 19) (N := some 34) #[true, true, true, true, true, true, true, true, true, true, true, true, true, true, true, true, true, true, true, true, true, true, false, false, false, false, false, false, false, false, false, false, false] rfl rfl (one_of HT_.out (by kernel_rfl)) (by decide) (fun K hK => ?_)
          refine goes_ Tryd.func10 (by kernel_rfl) rfl #[.agg #[.string t367, .string t368, .string t369], .agg #[.string t364, .string t365, .string t366]] (by rfl) rfl rfl xg ?_
          with_reducible refine (PrintC.cookie_Key_Cmp.calls k t367 t368 t369 t364 t365 t366 t384 _ A14.out).mono ?_
          rintro e w44 ⟨rfl, hb⟩
          refine ⟨_, rfl, ?_⟩
          have n0_ := blkB BK362 hb
          have n1_ := blkB BK363 hb
          have n2_ := blkB BK370 hb
          have n3_ := blkB BK371 hb
          have n4_ := Aside0.mk (below_step xb hb)
          clear BK362
          clear BK363
          clear BK370
          clear BK371
          clear HB
          have BK362 := n0_
          have BK363 := n1_
          have BK370 := n2_
          have BK371 := n3_
          have HB := n4_
          clear n0_ n1_ n2_ n3_ n4_
          (try clear hb)
          (try clear hb2)
          (try clear hk)
          (try clear hi)
          refine hK.out _ _ xc (fun hHeld => ?_)
          clear hK K
          refine norm_ (a' := ?_) ?_ ?_
          rotate_left
          · show Act.put _ (some 34) _ = _
            simp only [Act.put, List.setIfInBounds_toArray, List.set_cons_zero, List.set_cons_succ, i64_w, i32_w]
            rfl
          refine pure_ (i := 22) (N := some 37) (v := ?_) (a' := ?_) #[true, true, true, true, true, true, true, true, true, true, true, true, true, true, true, true, true, true, true, true, true, true, true, false, false, false, false, false, false, false, false, false, false] rfl rfl (any_of HT_.out (by kernel_rfl)) (fun _ _ _ h => h) (Or.inl ⟨by rfl, ?_⟩) ?_ ?_
          rotate_left
          · intro w'
            go_simp
            with_reducible rfl
          rotate_left
          · simp only [Act.put, List.setIfInBounds_toArray, List.set_cons_zero, List.set_cons_succ, i64_w, i32_w]
            rfl
          refine pure_ (i := 23) (N := some 38) (v := ?_) (a' := ?_) #[true, true, true, true, true, true, true, true, true, true, true, true, true, true, true, true, true, true, true, true, true, true, true, true, false, false, false, false, false, false, false, false, false] rfl rfl (any_of HT_.out (by kernel_rfl)) (fun _ _ _ h => h) (Or.inl ⟨by rfl, ?_⟩) ?_ ?_
          rotate_left
          · intro w'
            go_simp
            with_reducible rfl
          rotate_left
          · simp only [Act.put, List.setIfInBounds_toArray, List.set_cons_zero, List.set_cons_succ, i64_w, i32_w]
            rfl
          refine pure_ (i := 24) (N := some 39) (v := ?_) (a' := ?_) #[true, true, true, true, true, true, true, true, true, true, true, true, true, true, true, true, true, true, true, true, true, true, true, true, true, false, false, false, false, false, false, false, false] rfl rfl (any_of HT_.out (by kernel_rfl)) (fun _ _ _ h => h) (Or.inl ⟨by rfl, ?_⟩) ?_ ?_
          rotate_left
          · intro w'
            go_simp
            with_reducible rfl
          rotate_left
          · simp only [Act.put, List.setIfInBounds_toArray, List.set_cons_zero, List.set_cons_succ, i64_w, i32_w]
            rfl
          refine pure_ (i := 25) (N := some 40) (v := ?_) (a' := ?_) #[true, true, true, true, true, true, true, true, true, true, true, true, true, true, true, true, true, true, true, true, true, true, true, true, true, true, false, false, false, false, false, false, false] rfl rfl (any_of HT_.out (by kernel_rfl)) (fun _ _ _ h => h) (Or.inl ⟨by rfl, ?_⟩) ?_ ?_
          rotate_left
          · intro w'
            go_simp
            with_reducible rfl
          rotate_left
          · simp only [Act.put, List.setIfInBounds_toArray, List.set_cons_zero, List.set_cons_succ, i64_w, i32_w]
            rfl
          refine pure_ (i := 26) (N := some 41) (v := ?_) (a' := ?_) #[true, true, true, true, true, true, true, true, true, true, true, true, true, true, true, true, true, true, true, true, true, true, true, true, true, true, true, false, false, false, false, false, false] rfl rfl (any_of HT_.out (by kernel_rfl)) (fun _ _ _ h => h) (Or.inl ⟨by rfl, ?_⟩) ?_ ?_
          rotate_left
          · intro w'
            go_simp
            with_reducible rfl
          rotate_left
          · simp only [Act.put, List.setIfInBounds_toArray, List.set_cons_zero, List.set_cons_succ, i64_w, i32_w]
            rfl
          refine take_ (i := 27) (N := some 42) (v := ?_) (a' := ?_) #[true, true, true, true, true, true, true, true, true, true, true, true, true, true, true, true, true, true, true, true, true, true, true, true, true, true, true, true, false, false, false, false, false] rfl rfl (take_ofW HT_.out HW_.out (by kernel_rfl)) (fun _ _ _ h => h) (Or.inl ⟨by rfl, ?_⟩) hHeld ?_ ?_
          rotate_left
          · rintro w' ⟨s0, s1, s2, s3, s4, s5, s6, s7, s8, s9, s10, s11, s12, s13, s14, s15, s16, s17, s18, s19, s20, s21, s22, s23, s24, s25, s26, s27⟩
            go_simp
            with_reducible rfl
          rotate_left
          · simp only [Act.put, List.setIfInBounds_toArray, List.set_cons_zero, List.set_cons_succ, i64_w, i32_w]
            rfl
          refine take_ (i := 28) (N := some 43) (v := ?_) (a' := ?_) #[true, true, true, true, true, true, true, true, true, true, true, true, true, true, true, true, true, true, true, true, true, true, true, true, true, true, true, true, true, false, false, false, false] rfl rfl (take_ofW HT_.out HW_.out (by kernel_rfl)) (fun _ _ _ h => h) (Or.inl ⟨by rfl, ?_⟩) hHeld ?_ ?_
          rotate_left
          · rintro w' ⟨s0, s1, s2, s3, s4, s5, s6, s7, s8, s9, s10, s11, s12, s13, s14, s15, s16, s17, s18, s19, s20, s21, s22, s23, s24, s25, s26, s27⟩
            go_simp
            with_reducible rfl
          rotate_left
          · simp only [Act.put, List.setIfInBounds_toArray, List.set_cons_zero, List.set_cons_succ, i64_w, i32_w]
            rfl
          refine pure_ (i := 29) (N := some 44) (v := ?_) (a' := ?_) #[true, true, true, true, true, true, true, true, true, true, true, true, true, true, true, true, true, true, true, true, true, true, true, true, true, true, true, true, true, true, false, false, false] rfl rfl (any_of HT_.out (by kernel_rfl)) (fun _ _ _ h => h) (Or.inl ⟨by rfl, ?_⟩) ?_ ?_
          rotate_left
          · intro w'
            go_simp
            with_reducible rfl
          rotate_left
          · simp only [Act.put, List.setIfInBounds_toArray, List.set_cons_zero, List.set_cons_succ, i64_w, i32_w]
            rfl
          refine pure_ (i := 30) (N := some 45) (v := ?_) (a' := ?_) #[true, true, true, true, true, true, true, true, true, true, true, true, true, true, true, true, true, true, true, true, true, true, true, true, true, true, true, true, true, true, true, false, false] rfl rfl (any_of HT_.out (by kernel_rfl)) (fun _ _ _ h => h) (Or.inl ⟨by rfl, ?_⟩) ?_ ?_
          rotate_left
          · intro w'
            go_simp
            with_reducible rfl
          rotate_left
          · simp only [Act.put, List.setIfInBounds_toArray, List.set_cons_zero, List.set_cons_succ, i64_w, i32_w]
            rfl
          refine pure_ (i := 31) (N := some 46) (v := ?_) (a' := ?_) #[true, true, true, true, true, true, true, true, true, true, true, true, true, true, true, true, true, true, true, true, true, true, true, true, true, true, true, true, true, true, true, true, false] rfl rfl (any_of HT_.out (by kernel_rfl)) (fun _ _ _ h => h) (Or.inl ⟨by rfl, ?_⟩) ?_ ?_
          rotate_left
          · intro w'
            go_simp
            with_reducible rfl
          rotate_left
          · simp only [Act.put, List.setIfInBounds_toArray, List.set_cons_zero, List.set_cons_succ, i64_w, i32_w]
            rfl
          refine pure_ (i := 32) (N := some 4) (v := ?_) (a' := ?_) #[true, true, true, true, true, true, true, true, true, true, true, true, true, true, true, true, true, true, true, true, true, true, true, true, true, true, true, true, true, true, true, true, true] rfl rfl (any_of HT_.out (by kernel_rfl)) (fun _ _ _ h => h) (Or.inl ⟨by rfl, ?_⟩) ?_ ?_
          rotate_left
          · intro w'
            go_simp
            with_reducible rfl
          rotate_left
          · simp only [Act.put, List.setIfInBounds_toArray, List.set_cons_zero, List.set_cons_succ, i64_w, i32_w]
            rfl
          refine done_ (done_of HT_.out (by kernel_rfl)) ?_
          try go_wp2
          go_ret
          exact ⟨by first | rfl | (simp [errW_none, errW_some] <;> rfl) | (simp [*, errW_none, errW_some] <;> rfl), by repeat (first | (with_reducible first | exact HB.out | apply below_alloc | apply pw_below_drewN | apply below_drew1 | refine below_set ?_ GE362.out | refine below_set ?_ GE363.out | refine below_set ?_ GE370.out | refine below_set ?_ GE371.out) | exact HB.out)⟩
        · rw [if_neg c15] at H
          have c15b0 : (t384 == (wrap64 (-t372))) = false := beq_eq_false_iff_ne.mpr c15
          have c15b1 : (t384 != (wrap64 (-t372))) = true := bne_iff_ne.mpr c15
          obtain rfl := Option.some.inj H
          exact absurd hT_.out (by decide)
      · rw [if_neg c13] at H
        have c13b0 : (t372 == t383) = false := beq_eq_false_iff_ne.mpr c13
        have c13b1 : (t372 != t383) = true := bne_iff_ne.mpr c13
        obtain rfl := Option.some.inj H
        exact absurd hT_.out (by decide)
    · rw [if_neg c9] at H
      have c9b0 : (t364.toList == t374.toList && (t365.toList == t375.toList && (t366.toList == t376.toList))) = false := by simpa using c9
      (try (have c9b1 : decide (t364.toList = t374.toList && (t365.toList == t375.toList && (t366.toList == t376.toList))) = false := by simpa using c9))
      (try (have c9b2 : (t364.toList == t374.toList && (t365.toList == t375.toList && (t366.toList == t376.toList))) = false := by simpa using c9))
      (try (have c9b3 : ¬ (t364.toList = t374.toList && (t365.toList == t375.toList && (t366.toList == t376.toList))) := by simpa using c9))
      clear c9
      obtain rfl := Option.some.inj H
      exact absurd hT_.out (by decide)
  · replace c7 := Bool.eq_false_iff.mpr c7
    subst c7
    have H1 : (some false) = some r := by rw [if_neg (show ¬ (false = true) by decide)] at H; exact H
    clear H
    have H := H1
    clear H1
    obtain rfl := Option.some.inj H
    exact absurd hT_.out (by decide)

/-- THE ONE PURE STATEMENT of cracknellaw13_CookieKeys: yours. -/
def cracknellaw13_CookieKeys.Pure : Prop := ∀ (a0_0 : ByteArray) (a0_1 : ByteArray) (a0_2 : ByteArray) (a0_3 : ByteArray) (a0_4 : Int) (a0_5 : Int) (a0_6 : Int) (a0_7 : Bool) (a0_8 : Bool) (a0_9 : Bool) (a0_10 : Int) (a1_0 : ByteArray) (a1_1 : ByteArray) (a1_2 : ByteArray) (a1_3 : ByteArray) (a1_4 : Int) (a1_5 : Int) (a1_6 : Int) (a1_7 : Bool) (a1_8 : Bool) (a1_9 : Bool) (a1_10 : Int), a0_0.size ≤ 9223372036854775807 → a0_1.size ≤ 9223372036854775807 → a0_2.size ≤ 9223372036854775807 → a0_3.size ≤ 9223372036854775807 → (Lit.int .i64 a0_4).wf = true → (Lit.int .i64 a0_5).wf = true → (Lit.int .i64 a0_6).wf = true → (Lit.int .i64 a0_10).wf = true → a1_0.size ≤ 9223372036854775807 → a1_1.size ≤ 9223372036854775807 → a1_2.size ≤ 9223372036854775807 → a1_3.size ≤ 9223372036854775807 → (Lit.int .i64 a1_4).wf = true → (Lit.int .i64 a1_5).wf = true → (Lit.int .i64 a1_6).wf = true → (Lit.int .i64 a1_10).wf = true → ∃ k, cracknellaw13_CookieKeys.f k a0_0 a0_1 a0_2 a0_3 a0_4 a0_5 a0_6 a0_7 a0_8 a0_9 a0_10 a1_0 a1_1 a1_2 a1_3 a1_4 a1_5 a1_6 a1_7 a1_8 a1_9 a1_10 = some true
theorem cracknellaw13_CookieKeys.walk (P : cracknellaw13_CookieKeys.Pure) (a0_0 : ByteArray) (a0_1 : ByteArray) (a0_2 : ByteArray) (a0_3 : ByteArray) (a0_4 : Int) (a0_5 : Int) (a0_6 : Int) (a0_7 : Bool) (a0_8 : Bool) (a0_9 : Bool) (a0_10 : Int) (a1_0 : ByteArray) (a1_1 : ByteArray) (a1_2 : ByteArray) (a1_3 : ByteArray) (a1_4 : Int) (a1_5 : Int) (a1_6 : Int) (a1_7 : Bool) (a1_8 : Bool) (a1_9 : Bool) (a1_10 : Int) (w : World) (w0_0 : a0_0.size ≤ 9223372036854775807) (w0_1 : a0_1.size ≤ 9223372036854775807) (w0_2 : a0_2.size ≤ 9223372036854775807) (w0_3 : a0_3.size ≤ 9223372036854775807) (w0_4 : (Lit.int .i64 a0_4).wf = true) (w0_5 : (Lit.int .i64 a0_5).wf = true) (w0_6 : (Lit.int .i64 a0_6).wf = true) (w0_10 : (Lit.int .i64 a0_10).wf = true) (w1_0 : a1_0.size ≤ 9223372036854775807) (w1_1 : a1_1.size ≤ 9223372036854775807) (w1_2 : a1_2.size ≤ 9223372036854775807) (w1_3 : a1_3.size ≤ 9223372036854775807) (w1_4 : (Lit.int .i64 a1_4).wf = true) (w1_5 : (Lit.int .i64 a1_5).wf = true) (w1_6 : (Lit.int .i64 a1_6).wf = true) (w1_10 : (Lit.int .i64 a1_10).wf = true) (hG : Aside0 (LaidG w)) :
    Calls Tryd.prog 3 #[.agg #[.string a0_0, .string a0_1, .string a0_2, .string a0_3, .int .i64 a0_4, .int .i64 a0_5, .int .i64 a0_6, .bool a0_7, .bool a0_8, .bool a0_9, .int .i64 a0_10], .agg #[.string a1_0, .string a1_1, .string a1_2, .string a1_3, .int .i64 a1_4, .int .i64 a1_5, .int .i64 a1_6, .bool a1_7, .bool a1_8, .bool a1_9, .int .i64 a1_10]] w fun e w' => e = .returned (.bool true) ∧ Below w.heap.size w w' := by
  obtain ⟨k, h⟩ := P a0_0 a0_1 a0_2 a0_3 a0_4 a0_5 a0_6 a0_7 a0_8 a0_9 a0_10 a1_0 a1_1 a1_2 a1_3 a1_4 a1_5 a1_6 a1_7 a1_8 a1_9 a1_10 w0_0 w0_1 w0_2 w0_3 w0_4 w0_5 w0_6 w0_10 w1_0 w1_1 w1_2 w1_3 w1_4 w1_5 w1_6 w1_10
  refine (cracknellaw13_CookieKeys.calls k a0_0 a0_1 a0_2 a0_3 a0_4 a0_5 a0_6 a0_7 a0_8 a0_9 a0_10 a1_0 a1_1 a1_2 a1_3 a1_4 a1_5 a1_6 a1_7 a1_8 a1_9 a1_10 true w hG ⟨rfl⟩ h).mono ?_
  rintro e w' ⟨rfl, hd⟩
  exact ⟨rfl, hd⟩

end Go.Proofs.YtpcakfldmcfhlaaDoor.Print
