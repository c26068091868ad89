/- Printed by a program of this claim's session (xprint.py): the machine's side: each Go function as a Lean function, and that a call of it comes to what that tells; the row of a statement. No condition. -/
import Derived.Test.YtpcakfldmcfhlaaGreatDoorPrint0
import Derived.Test.YtpcakfldmcfhlaaGreatDoorPrint1
import Derived.Test.YtpcakfldmcfhlaaGreatDoorPrint2
import Derived.Test.YtpcakfldmcfhlaaGreatDoorPrint4
import Derived.Test.YtpcakfldmcfhlaaGreatDoorPrint5
namespace Go.Proofs.YtpcakfldmcfhlaaGreatDoor.Print
open Go.RowKit Go.Proofs.YtpcakfldmcfhlaaGreatDoorW.PrintWords Go.Proofs.YtpcakfldmcfhlaaGreatDoorW.PrintLast Go.Proofs.YtpcakfldmcfhlaaGreatDoorW.PrintMore
attribute [local go_sem] max2_int min2_int max_two min_two max_three min_three max_four min_four   -- for this text's walks alone
set_option linter.unusedVariables false
set_option linter.unusedSimpArgs false

attribute [local go_sem high] eqA23 eqA30
/-! ### cracknellaw13_alive: function 4 -/
def cracknellaw13_alive.f (k : Nat)  : Option (Bool) := (cracknellaw13_one.f (⟨#[97]⟩ : ByteArray) (⟨#[120]⟩ : ByteArray)).bind fun bt147 => ((cracknellaw13_one.f (⟨#[98]⟩ : ByteArray) (⟨#[120]⟩ : ByteArray)).bind fun bt158 => ((cookie_Right.f k bt147.1 bt147.2.1 bt147.2.2.1 bt147.2.2.2.1 bt147.2.2.2.2.1 bt147.2.2.2.2.2.1 bt147.2.2.2.2.2.2.1 bt147.2.2.2.2.2.2.2.1 bt147.2.2.2.2.2.2.2.2.1 bt147.2.2.2.2.2.2.2.2.2.1 bt147.2.2.2.2.2.2.2.2.2.2).bind fun t174 => (if t174 = true then ((cracknellaw13_one.f (⟨#[97]⟩ : ByteArray) (⟨#[]⟩ : ByteArray)).bind fun bt175 => ((cookie_Right.f k bt175.1 bt175.2.1 bt175.2.2.1 bt175.2.2.2.1 bt175.2.2.2.2.1 bt175.2.2.2.2.2.1 bt175.2.2.2.2.2.2.1 bt175.2.2.2.2.2.2.2.1 bt175.2.2.2.2.2.2.2.2.1 bt175.2.2.2.2.2.2.2.2.2.1 bt175.2.2.2.2.2.2.2.2.2.2).bind fun t186 => (if t186 = true then (some false) else ((PrintC.cookie_Of.f bt147.1 bt147.2.1 bt147.2.2.1 bt147.2.2.2.1 bt147.2.2.2.2.1 bt147.2.2.2.2.2.1 bt147.2.2.2.2.2.2.1 bt147.2.2.2.2.2.2.2.1 bt147.2.2.2.2.2.2.2.2.1 bt147.2.2.2.2.2.2.2.2.2.1 bt147.2.2.2.2.2.2.2.2.2.2).bind fun bt187 => (if (bt187.1.toList == ([97] : List UInt8) && (bt187.2.1.toList == ([47] : List UInt8) && (bt187.2.2.toList == ([120] : List UInt8)))) = true then ((PrintC.cookie_Of.f bt147.1 bt147.2.1 bt147.2.2.1 bt147.2.2.2.1 bt147.2.2.2.2.1 bt147.2.2.2.2.2.1 bt147.2.2.2.2.2.2.1 bt147.2.2.2.2.2.2.2.1 bt147.2.2.2.2.2.2.2.2.1 bt147.2.2.2.2.2.2.2.2.2.1 bt147.2.2.2.2.2.2.2.2.2.2).bind fun bt190 => ((PrintC.cookie_Of.f bt158.1 bt158.2.1 bt158.2.2.1 bt158.2.2.2.1 bt158.2.2.2.2.1 bt158.2.2.2.2.2.1 bt158.2.2.2.2.2.2.1 bt158.2.2.2.2.2.2.2.1 bt158.2.2.2.2.2.2.2.2.1 bt158.2.2.2.2.2.2.2.2.2.1 bt158.2.2.2.2.2.2.2.2.2.2).bind fun bt193 => ((PrintC.cookie_Key_Cmp.f k bt190.1 bt190.2.1 bt190.2.2 bt193.1 bt193.2.1 bt193.2.2).bind fun t196 => (if t196 = (-1) then ((cookie_Cmp.f bt147.1 bt147.2.1 bt147.2.2.1 bt147.2.2.2.1 bt147.2.2.2.2.1 bt147.2.2.2.2.2.1 bt147.2.2.2.2.2.2.1 bt147.2.2.2.2.2.2.2.1 bt147.2.2.2.2.2.2.2.2.1 bt147.2.2.2.2.2.2.2.2.2.1 bt147.2.2.2.2.2.2.2.2.2.2 bt158.1 bt158.2.1 bt158.2.2.1 bt158.2.2.2.1 bt158.2.2.2.2.1 bt158.2.2.2.2.2.1 bt158.2.2.2.2.2.2.1 bt158.2.2.2.2.2.2.2.1 bt158.2.2.2.2.2.2.2.2.1 bt158.2.2.2.2.2.2.2.2.2.1 bt158.2.2.2.2.2.2.2.2.2.2).bind fun t197 => (if t197 = (-1) then ((cookie_Cmp.f bt147.1 bt147.2.1 bt147.2.2.1 bt147.2.2.2.1 bt147.2.2.2.2.1 1 bt147.2.2.2.2.2.2.1 bt147.2.2.2.2.2.2.2.1 bt147.2.2.2.2.2.2.2.2.1 bt147.2.2.2.2.2.2.2.2.2.1 bt147.2.2.2.2.2.2.2.2.2.2 bt147.1 bt147.2.1 bt147.2.2.1 bt147.2.2.2.1 bt147.2.2.2.2.1 bt147.2.2.2.2.2.1 bt147.2.2.2.2.2.2.1 bt147.2.2.2.2.2.2.2.1 bt147.2.2.2.2.2.2.2.2.1 bt147.2.2.2.2.2.2.2.2.2.1 bt147.2.2.2.2.2.2.2.2.2.2).bind fun t198 => (if t198 = 1 then ((cookie_Greater.f bt147.1 bt147.2.1 bt147.2.2.1 bt147.2.2.2.1 bt147.2.2.2.2.1 bt147.2.2.2.2.2.1 bt147.2.2.2.2.2.2.1 bt147.2.2.2.2.2.2.2.1 bt147.2.2.2.2.2.2.2.2.1 bt147.2.2.2.2.2.2.2.2.2.1 bt147.2.2.2.2.2.2.2.2.2.2 bt147.1 bt147.2.1 bt147.2.2.1 bt147.2.2.2.1 bt147.2.2.2.2.1 1 bt147.2.2.2.2.2.2.1 bt147.2.2.2.2.2.2.2.1 bt147.2.2.2.2.2.2.2.2.1 bt147.2.2.2.2.2.2.2.2.2.1 bt147.2.2.2.2.2.2.2.2.2.2).bind fun bt199 => (if (bt199.1.toList == bt147.1.toList && (bt199.2.1.toList == bt147.2.1.toList && (bt199.2.2.1.toList == bt147.2.2.1.toList && (bt199.2.2.2.1.toList == bt147.2.2.2.1.toList && (bt199.2.2.2.2.1 == bt147.2.2.2.2.1 && (bt199.2.2.2.2.2.1 == 1 && (bt199.2.2.2.2.2.2.1 == bt147.2.2.2.2.2.2.1 && (bt199.2.2.2.2.2.2.2.1 == bt147.2.2.2.2.2.2.2.1 && (bt199.2.2.2.2.2.2.2.2.1 == bt147.2.2.2.2.2.2.2.2.1 && (bt199.2.2.2.2.2.2.2.2.2.1 == bt147.2.2.2.2.2.2.2.2.2.1 && (bt199.2.2.2.2.2.2.2.2.2.2 == bt147.2.2.2.2.2.2.2.2.2.2))))))))))) = true then ((cookie_Live.f bt147.1 bt147.2.1 bt147.2.2.1 bt147.2.2.2.1 bt147.2.2.2.2.1 bt147.2.2.2.2.2.1 bt147.2.2.2.2.2.2.1 bt147.2.2.2.2.2.2.2.1 bt147.2.2.2.2.2.2.2.2.1 bt147.2.2.2.2.2.2.2.2.2.1 bt147.2.2.2.2.2.2.2.2.2.2 9).bind fun t210 => (if t210 = true then ((cookie_Sends.f k bt147.1 bt147.2.1 bt147.2.2.1 bt147.2.2.2.1 bt147.2.2.2.2.1 bt147.2.2.2.2.2.1 bt147.2.2.2.2.2.2.1 bt147.2.2.2.2.2.2.2.1 bt147.2.2.2.2.2.2.2.2.1 bt147.2.2.2.2.2.2.2.2.2.1 bt147.2.2.2.2.2.2.2.2.2.2 false (⟨#[121, 46, 97]⟩ : ByteArray) (⟨#[47, 122]⟩ : ByteArray) 9).bind fun t211 => (if t211 = true then ((cookie_Sends.f k bt147.1 bt147.2.1 bt147.2.2.1 bt147.2.2.2.1 bt147.2.2.2.2.1 bt147.2.2.2.2.2.1 bt147.2.2.2.2.2.2.1 true bt147.2.2.2.2.2.2.2.2.1 bt147.2.2.2.2.2.2.2.2.2.1 bt147.2.2.2.2.2.2.2.2.2.2 false (⟨#[121, 46, 97]⟩ : ByteArray) (⟨#[47, 122]⟩ : ByteArray) 9).bind fun t212 => (some (!t212))) else (some false))) else (some false))) else (some false))) else (some false))) else (some false))) else (some false))))) else (some false)))))) else (some false))))
theorem cracknellaw13_alive.mono : ∀ k, LeO (cracknellaw13_alive.f k ) (cracknellaw13_alive.f (k + 1) ) := by
  intro  k
  unfold cracknellaw13_alive.f
  repeat' first
      | (with_reducible exact PrintC.cookie_Key_Cmp.mono _ _ _ _ _ _ _)
      | (with_reducible exact cookie_Right.mono _ _ _ _ _ _ _ _ _ _ _ _)
      | (with_reducible exact cookie_Sends.mono _ _ _ _ _ _ _ _ _ _ _ _ _ _ _ _)
      | (with_reducible exact LeO.refl _)
      | (with_reducible exact LeO.none _)
      | (with_reducible refine LeO.ite ?_ ?_)
      | (with_reducible refine LeO.bind ?_ (fun _ => ?_))
      | exact PrintC.cookie_Key_Cmp.mono _ _ _ _ _ _ _
      | exact cookie_Right.mono _ _ _ _ _ _ _ _ _ _ _ _
      | exact cookie_Sends.mono _ _ _ _ _ _ _ _ _ _ _ _ _ _ _ _
      | exact LeO.none _
      | refine LeO.ite ?_ ?_
      | refine LeO.bind ?_ (fun _ => ?_)
def cracknellaw13_alive.T7 : Bool × List (List Nat × List Nat) := (true, [([], []), ([0], [0]), ([1, 1], [1]), ([2, 2], [2]), ([3, 3, 2], [2, 3]), ([4, 2], [2, 4]), ([2, 5], [2, 5]), ([6, 4], [6]), ([7], [7]), ([8, 7, 7], [7, 8]), ([7], [7]), ([9, 10, 7], [7, 9, 10]), ([7, 11], [7, 11]), ([12, 9], [12]), ([13], [13]), ([14, 13, 13], [13, 14]), ([13], [13]), ([16, 15, 13], [13, 16]), ([15, 17, 17, 13], [13, 15, 17]), ([18, 13], [13, 18]), ([13, 19], [13, 19]), ([20, 18], [20]), ([21], [21]), ([21], [21]), ([22, 23, 21, 21], [21, 22, 23]), ([24, 21], [21, 24]), ([21, 25], [21, 25]), ([26, 24], [26]), ([27], [27]), ([27], [27]), ([28, 29, 27, 27], [27, 28, 29]), ([30, 27], [27, 30]), ([27, 31], [27, 31]), ([32, 30], [32]), ([33], [33]), ([33], [33]), ([34, 35, 33, 33], [33, 34, 35]), ([33], [33]), ([36, 37, 33], [33, 36, 37]), ([33, 38], [33, 38]), ([39, 36], [39]), ([40], [40]), ([41, 40, 40], [40, 41]), ([40, 42], [40, 42]), ([43, 42], [43]), ([44], [44]), ([44], [44]), ([45, 46, 44, 44], [44, 45, 46]), ([44, 47], [44, 47]), ([48, 47], [48]), ([49], [49]), ([49], [49]), ([50, 51, 49, 49], [49, 50, 51]), ([52, 49], [49, 52]), ([49, 53], [49, 53]), ([54, 52, 0, 1, 2, 3, 4, 5, 6, 7, 8, 9, 10, 11, 12, 13, 14, 15, 16, 17, 18, 19, 20, 21, 22, 23, 24, 25, 26, 27, 28, 29, 30, 31, 32, 33, 34, 35, 36, 37, 38, 39, 40, 41, 42, 43, 44, 45, 46, 47, 48, 49, 50, 51, 52, 53, 54], [54])])
def cracknellaw13_alive.B7 : List Nat := [0, 1, 3, 7, 15, 31, 63, 127, 255, 511, 255, 2047, 4095, 8191, 16383, 32767, 16383, 131071, 262143, 524287, 1048575, 2097151, 4194303, 4194303, 16777215, 33554431, 67108863, 134217727, 268435455, 268435455, 1073741823, 2147483647, 4294967295, 8589934591, 17179869183, 17179869183, 68719476735, 17179869183, 274877906943, 549755813887, 1099511627775, 2199023255551, 4398046511103, 8796093022207, 17592186044415, 35184372088831, 35184372088831, 140737488355327, 281474976710655, 562949953421311, 1125899906842623, 1125899906842623, 4503599627370495, 9007199254740991, 18014398509481983, 36028797018963967]
theorem cracknellaw13_alive.tab7 : rtab .any (opsOf Tryz.f4 7) = cracknellaw13_alive.T7 := by kernel_rfl
theorem cracknellaw13_alive.bits7 : waitsOk cracknellaw13_alive.T7.2 cracknellaw13_alive.B7 = true := by kernel_rfl
set_option maxHeartbeats 8000000 in
set_option maxRecDepth 100000 in
theorem cracknellaw13_alive.calls (k : Nat)  (r : Bool) (w : World) (hG : Aside0 (LaidG w)) (hT_ : Aside0 (r = true)) (h : cracknellaw13_alive.f k  = some r) :
    Calls Tryz.prog 4 #[] w fun e w' => e = .returned (.bool r) ∧ Below w.heap.size w w' := by
  have hu23 := Tryz.underlying23
  have hu28 := Tryz.underlying28
  have hu30 := Tryz.underlying30
  have HB := Aside0.mk (Below.refl w.heap.size w)
  have H : ((cracknellaw13_one.f (⟨#[97]⟩ : ByteArray) (⟨#[120]⟩ : ByteArray)).bind fun bt147 => ((cracknellaw13_one.f (⟨#[98]⟩ : ByteArray) (⟨#[120]⟩ : ByteArray)).bind fun bt158 => ((cookie_Right.f k bt147.1 bt147.2.1 bt147.2.2.1 bt147.2.2.2.1 bt147.2.2.2.2.1 bt147.2.2.2.2.2.1 bt147.2.2.2.2.2.2.1 bt147.2.2.2.2.2.2.2.1 bt147.2.2.2.2.2.2.2.2.1 bt147.2.2.2.2.2.2.2.2.2.1 bt147.2.2.2.2.2.2.2.2.2.2).bind fun t174 => (if t174 = true then ((cracknellaw13_one.f (⟨#[97]⟩ : ByteArray) (⟨#[]⟩ : ByteArray)).bind fun bt175 => ((cookie_Right.f k bt175.1 bt175.2.1 bt175.2.2.1 bt175.2.2.2.1 bt175.2.2.2.2.1 bt175.2.2.2.2.2.1 bt175.2.2.2.2.2.2.1 bt175.2.2.2.2.2.2.2.1 bt175.2.2.2.2.2.2.2.2.1 bt175.2.2.2.2.2.2.2.2.2.1 bt175.2.2.2.2.2.2.2.2.2.2).bind fun t186 => (if t186 = true then (some false) else ((PrintC.cookie_Of.f bt147.1 bt147.2.1 bt147.2.2.1 bt147.2.2.2.1 bt147.2.2.2.2.1 bt147.2.2.2.2.2.1 bt147.2.2.2.2.2.2.1 bt147.2.2.2.2.2.2.2.1 bt147.2.2.2.2.2.2.2.2.1 bt147.2.2.2.2.2.2.2.2.2.1 bt147.2.2.2.2.2.2.2.2.2.2).bind fun bt187 => (if (bt187.1.toList == ([97] : List UInt8) && (bt187.2.1.toList == ([47] : List UInt8) && (bt187.2.2.toList == ([120] : List UInt8)))) = true then ((PrintC.cookie_Of.f bt147.1 bt147.2.1 bt147.2.2.1 bt147.2.2.2.1 bt147.2.2.2.2.1 bt147.2.2.2.2.2.1 bt147.2.2.2.2.2.2.1 bt147.2.2.2.2.2.2.2.1 bt147.2.2.2.2.2.2.2.2.1 bt147.2.2.2.2.2.2.2.2.2.1 bt147.2.2.2.2.2.2.2.2.2.2).bind fun bt190 => ((PrintC.cookie_Of.f bt158.1 bt158.2.1 bt158.2.2.1 bt158.2.2.2.1 bt158.2.2.2.2.1 bt158.2.2.2.2.2.1 bt158.2.2.2.2.2.2.1 bt158.2.2.2.2.2.2.2.1 bt158.2.2.2.2.2.2.2.2.1 bt158.2.2.2.2.2.2.2.2.2.1 bt158.2.2.2.2.2.2.2.2.2.2).bind fun bt193 => ((PrintC.cookie_Key_Cmp.f k bt190.1 bt190.2.1 bt190.2.2 bt193.1 bt193.2.1 bt193.2.2).bind fun t196 => (if t196 = (-1) then ((cookie_Cmp.f bt147.1 bt147.2.1 bt147.2.2.1 bt147.2.2.2.1 bt147.2.2.2.2.1 bt147.2.2.2.2.2.1 bt147.2.2.2.2.2.2.1 bt147.2.2.2.2.2.2.2.1 bt147.2.2.2.2.2.2.2.2.1 bt147.2.2.2.2.2.2.2.2.2.1 bt147.2.2.2.2.2.2.2.2.2.2 bt158.1 bt158.2.1 bt158.2.2.1 bt158.2.2.2.1 bt158.2.2.2.2.1 bt158.2.2.2.2.2.1 bt158.2.2.2.2.2.2.1 bt158.2.2.2.2.2.2.2.1 bt158.2.2.2.2.2.2.2.2.1 bt158.2.2.2.2.2.2.2.2.2.1 bt158.2.2.2.2.2.2.2.2.2.2).bind fun t197 => (if t197 = (-1) then ((cookie_Cmp.f bt147.1 bt147.2.1 bt147.2.2.1 bt147.2.2.2.1 bt147.2.2.2.2.1 1 bt147.2.2.2.2.2.2.1 bt147.2.2.2.2.2.2.2.1 bt147.2.2.2.2.2.2.2.2.1 bt147.2.2.2.2.2.2.2.2.2.1 bt147.2.2.2.2.2.2.2.2.2.2 bt147.1 bt147.2.1 bt147.2.2.1 bt147.2.2.2.1 bt147.2.2.2.2.1 bt147.2.2.2.2.2.1 bt147.2.2.2.2.2.2.1 bt147.2.2.2.2.2.2.2.1 bt147.2.2.2.2.2.2.2.2.1 bt147.2.2.2.2.2.2.2.2.2.1 bt147.2.2.2.2.2.2.2.2.2.2).bind fun t198 => (if t198 = 1 then ((cookie_Greater.f bt147.1 bt147.2.1 bt147.2.2.1 bt147.2.2.2.1 bt147.2.2.2.2.1 bt147.2.2.2.2.2.1 bt147.2.2.2.2.2.2.1 bt147.2.2.2.2.2.2.2.1 bt147.2.2.2.2.2.2.2.2.1 bt147.2.2.2.2.2.2.2.2.2.1 bt147.2.2.2.2.2.2.2.2.2.2 bt147.1 bt147.2.1 bt147.2.2.1 bt147.2.2.2.1 bt147.2.2.2.2.1 1 bt147.2.2.2.2.2.2.1 bt147.2.2.2.2.2.2.2.1 bt147.2.2.2.2.2.2.2.2.1 bt147.2.2.2.2.2.2.2.2.2.1 bt147.2.2.2.2.2.2.2.2.2.2).bind fun bt199 => (if (bt199.1.toList == bt147.1.toList && (bt199.2.1.toList == bt147.2.1.toList && (bt199.2.2.1.toList == bt147.2.2.1.toList && (bt199.2.2.2.1.toList == bt147.2.2.2.1.toList && (bt199.2.2.2.2.1 == bt147.2.2.2.2.1 && (bt199.2.2.2.2.2.1 == 1 && (bt199.2.2.2.2.2.2.1 == bt147.2.2.2.2.2.2.1 && (bt199.2.2.2.2.2.2.2.1 == bt147.2.2.2.2.2.2.2.1 && (bt199.2.2.2.2.2.2.2.2.1 == bt147.2.2.2.2.2.2.2.2.1 && (bt199.2.2.2.2.2.2.2.2.2.1 == bt147.2.2.2.2.2.2.2.2.2.1 && (bt199.2.2.2.2.2.2.2.2.2.2 == bt147.2.2.2.2.2.2.2.2.2.2))))))))))) = true then ((cookie_Live.f bt147.1 bt147.2.1 bt147.2.2.1 bt147.2.2.2.1 bt147.2.2.2.2.1 bt147.2.2.2.2.2.1 bt147.2.2.2.2.2.2.1 bt147.2.2.2.2.2.2.2.1 bt147.2.2.2.2.2.2.2.2.1 bt147.2.2.2.2.2.2.2.2.2.1 bt147.2.2.2.2.2.2.2.2.2.2 9).bind fun t210 => (if t210 = true then ((cookie_Sends.f k bt147.1 bt147.2.1 bt147.2.2.1 bt147.2.2.2.1 bt147.2.2.2.2.1 bt147.2.2.2.2.2.1 bt147.2.2.2.2.2.2.1 bt147.2.2.2.2.2.2.2.1 bt147.2.2.2.2.2.2.2.2.1 bt147.2.2.2.2.2.2.2.2.2.1 bt147.2.2.2.2.2.2.2.2.2.2 false (⟨#[121, 46, 97]⟩ : ByteArray) (⟨#[47, 122]⟩ : ByteArray) 9).bind fun t211 => (if t211 = true then ((cookie_Sends.f k bt147.1 bt147.2.1 bt147.2.2.1 bt147.2.2.2.1 bt147.2.2.2.2.1 bt147.2.2.2.2.2.1 bt147.2.2.2.2.2.2.1 true bt147.2.2.2.2.2.2.2.2.1 bt147.2.2.2.2.2.2.2.2.2.1 bt147.2.2.2.2.2.2.2.2.2.2 false (⟨#[121, 46, 97]⟩ : ByteArray) (⟨#[47, 122]⟩ : ByteArray) 9).bind fun t212 => (some (!t212))) else (some false))) else (some false))) else (some false))) else (some false))) else (some false))) else (some false))))) else (some false)))))) else (some false))))) = some r := h
  clear h
  replace H := Option.bind_eq_some_iff.mp H
  obtain ⟨⟨t147, t148, t149, t150, t151, t152, t153, t154, t155, t156, t157⟩, A10, H⟩ := H
  replace H : ((cracknellaw13_one.f (⟨#[98]⟩ : ByteArray) (⟨#[120]⟩ : ByteArray)).bind fun bt158 => ((cookie_Right.f k t147 t148 t149 t150 t151 t152 t153 t154 t155 t156 t157).bind fun t174 => (if t174 = true then ((cracknellaw13_one.f (⟨#[97]⟩ : ByteArray) (⟨#[]⟩ : ByteArray)).bind fun bt175 => ((cookie_Right.f k bt175.1 bt175.2.1 bt175.2.2.1 bt175.2.2.2.1 bt175.2.2.2.2.1 bt175.2.2.2.2.2.1 bt175.2.2.2.2.2.2.1 bt175.2.2.2.2.2.2.2.1 bt175.2.2.2.2.2.2.2.2.1 bt175.2.2.2.2.2.2.2.2.2.1 bt175.2.2.2.2.2.2.2.2.2.2).bind fun t186 => (if t186 = true then (some false) else ((PrintC.cookie_Of.f t147 t148 t149 t150 t151 t152 t153 t154 t155 t156 t157).bind fun bt187 => (if (bt187.1.toList == ([97] : List UInt8) && (bt187.2.1.toList == ([47] : List UInt8) && (bt187.2.2.toList == ([120] : List UInt8)))) = true then ((PrintC.cookie_Of.f t147 t148 t149 t150 t151 t152 t153 t154 t155 t156 t157).bind fun bt190 => ((PrintC.cookie_Of.f bt158.1 bt158.2.1 bt158.2.2.1 bt158.2.2.2.1 bt158.2.2.2.2.1 bt158.2.2.2.2.2.1 bt158.2.2.2.2.2.2.1 bt158.2.2.2.2.2.2.2.1 bt158.2.2.2.2.2.2.2.2.1 bt158.2.2.2.2.2.2.2.2.2.1 bt158.2.2.2.2.2.2.2.2.2.2).bind fun bt193 => ((PrintC.cookie_Key_Cmp.f k bt190.1 bt190.2.1 bt190.2.2 bt193.1 bt193.2.1 bt193.2.2).bind fun t196 => (if t196 = (-1) then ((cookie_Cmp.f t147 t148 t149 t150 t151 t152 t153 t154 t155 t156 t157 bt158.1 bt158.2.1 bt158.2.2.1 bt158.2.2.2.1 bt158.2.2.2.2.1 bt158.2.2.2.2.2.1 bt158.2.2.2.2.2.2.1 bt158.2.2.2.2.2.2.2.1 bt158.2.2.2.2.2.2.2.2.1 bt158.2.2.2.2.2.2.2.2.2.1 bt158.2.2.2.2.2.2.2.2.2.2).bind fun t197 => (if t197 = (-1) then ((cookie_Cmp.f t147 t148 t149 t150 t151 1 t153 t154 t155 t156 t157 t147 t148 t149 t150 t151 t152 t153 t154 t155 t156 t157).bind fun t198 => (if t198 = 1 then ((cookie_Greater.f t147 t148 t149 t150 t151 t152 t153 t154 t155 t156 t157 t147 t148 t149 t150 t151 1 t153 t154 t155 t156 t157).bind fun bt199 => (if (bt199.1.toList == t147.toList && (bt199.2.1.toList == t148.toList && (bt199.2.2.1.toList == t149.toList && (bt199.2.2.2.1.toList == t150.toList && (bt199.2.2.2.2.1 == t151 && (bt199.2.2.2.2.2.1 == 1 && (bt199.2.2.2.2.2.2.1 == t153 && (bt199.2.2.2.2.2.2.2.1 == t154 && (bt199.2.2.2.2.2.2.2.2.1 == t155 && (bt199.2.2.2.2.2.2.2.2.2.1 == t156 && (bt199.2.2.2.2.2.2.2.2.2.2 == t157))))))))))) = true then ((cookie_Live.f t147 t148 t149 t150 t151 t152 t153 t154 t155 t156 t157 9).bind fun t210 => (if t210 = true then ((cookie_Sends.f k t147 t148 t149 t150 t151 t152 t153 t154 t155 t156 t157 false (⟨#[121, 46, 97]⟩ : ByteArray) (⟨#[47, 122]⟩ : ByteArray) 9).bind fun t211 => (if t211 = true then ((cookie_Sends.f k t147 t148 t149 t150 t151 t152 t153 true t155 t156 t157 false (⟨#[121, 46, 97]⟩ : ByteArray) (⟨#[47, 122]⟩ : ByteArray) 9).bind fun t212 => (some (!t212))) else (some false))) else (some false))) else (some false))) else (some false))) else (some false))) else (some false))))) else (some false)))))) else (some false)))) = some r := H
  have A1 := Aside0.mk A10
  clear A10
  replace H := Option.bind_eq_some_iff.mp H
  obtain ⟨⟨t158, t159, t160, t161, t162, t163, t164, t165, t166, t167, t168⟩, A20, H⟩ := H
  replace H : ((cookie_Right.f k t147 t148 t149 t150 t151 t152 t153 t154 t155 t156 t157).bind fun t174 => (if t174 = true then ((cracknellaw13_one.f (⟨#[97]⟩ : ByteArray) (⟨#[]⟩ : ByteArray)).bind fun bt175 => ((cookie_Right.f k bt175.1 bt175.2.1 bt175.2.2.1 bt175.2.2.2.1 bt175.2.2.2.2.1 bt175.2.2.2.2.2.1 bt175.2.2.2.2.2.2.1 bt175.2.2.2.2.2.2.2.1 bt175.2.2.2.2.2.2.2.2.1 bt175.2.2.2.2.2.2.2.2.2.1 bt175.2.2.2.2.2.2.2.2.2.2).bind fun t186 => (if t186 = true then (some false) else ((PrintC.cookie_Of.f t147 t148 t149 t150 t151 t152 t153 t154 t155 t156 t157).bind fun bt187 => (if (bt187.1.toList == ([97] : List UInt8) && (bt187.2.1.toList == ([47] : List UInt8) && (bt187.2.2.toList == ([120] : List UInt8)))) = true then ((PrintC.cookie_Of.f t147 t148 t149 t150 t151 t152 t153 t154 t155 t156 t157).bind fun bt190 => ((PrintC.cookie_Of.f t158 t159 t160 t161 t162 t163 t164 t165 t166 t167 t168).bind fun bt193 => ((PrintC.cookie_Key_Cmp.f k bt190.1 bt190.2.1 bt190.2.2 bt193.1 bt193.2.1 bt193.2.2).bind fun t196 => (if t196 = (-1) then ((cookie_Cmp.f t147 t148 t149 t150 t151 t152 t153 t154 t155 t156 t157 t158 t159 t160 t161 t162 t163 t164 t165 t166 t167 t168).bind fun t197 => (if t197 = (-1) then ((cookie_Cmp.f t147 t148 t149 t150 t151 1 t153 t154 t155 t156 t157 t147 t148 t149 t150 t151 t152 t153 t154 t155 t156 t157).bind fun t198 => (if t198 = 1 then ((cookie_Greater.f t147 t148 t149 t150 t151 t152 t153 t154 t155 t156 t157 t147 t148 t149 t150 t151 1 t153 t154 t155 t156 t157).bind fun bt199 => (if (bt199.1.toList == t147.toList && (bt199.2.1.toList == t148.toList && (bt199.2.2.1.toList == t149.toList && (bt199.2.2.2.1.toList == t150.toList && (bt199.2.2.2.2.1 == t151 && (bt199.2.2.2.2.2.1 == 1 && (bt199.2.2.2.2.2.2.1 == t153 && (bt199.2.2.2.2.2.2.2.1 == t154 && (bt199.2.2.2.2.2.2.2.2.1 == t155 && (bt199.2.2.2.2.2.2.2.2.2.1 == t156 && (bt199.2.2.2.2.2.2.2.2.2.2 == t157))))))))))) = true then ((cookie_Live.f t147 t148 t149 t150 t151 t152 t153 t154 t155 t156 t157 9).bind fun t210 => (if t210 = true then ((cookie_Sends.f k t147 t148 t149 t150 t151 t152 t153 t154 t155 t156 t157 false (⟨#[121, 46, 97]⟩ : ByteArray) (⟨#[47, 122]⟩ : ByteArray) 9).bind fun t211 => (if t211 = true then ((cookie_Sends.f k t147 t148 t149 t150 t151 t152 t153 true t155 t156 t157 false (⟨#[121, 46, 97]⟩ : ByteArray) (⟨#[47, 122]⟩ : ByteArray) 9).bind fun t212 => (some (!t212))) else (some false))) else (some false))) else (some false))) else (some false))) else (some false))) else (some false))))) else (some false)))))) else (some false))) = some r := H
  have A2 := Aside0.mk A20
  clear A20
  replace H := Option.bind_eq_some_iff.mp H
  obtain ⟨t174, A30, H⟩ := H
  replace H : (if t174 = true then ((cracknellaw13_one.f (⟨#[97]⟩ : ByteArray) (⟨#[]⟩ : ByteArray)).bind fun bt175 => ((cookie_Right.f k bt175.1 bt175.2.1 bt175.2.2.1 bt175.2.2.2.1 bt175.2.2.2.2.1 bt175.2.2.2.2.2.1 bt175.2.2.2.2.2.2.1 bt175.2.2.2.2.2.2.2.1 bt175.2.2.2.2.2.2.2.2.1 bt175.2.2.2.2.2.2.2.2.2.1 bt175.2.2.2.2.2.2.2.2.2.2).bind fun t186 => (if t186 = true then (some false) else ((PrintC.cookie_Of.f t147 t148 t149 t150 t151 t152 t153 t154 t155 t156 t157).bind fun bt187 => (if (bt187.1.toList == ([97] : List UInt8) && (bt187.2.1.toList == ([47] : List UInt8) && (bt187.2.2.toList == ([120] : List UInt8)))) = true then ((PrintC.cookie_Of.f t147 t148 t149 t150 t151 t152 t153 t154 t155 t156 t157).bind fun bt190 => ((PrintC.cookie_Of.f t158 t159 t160 t161 t162 t163 t164 t165 t166 t167 t168).bind fun bt193 => ((PrintC.cookie_Key_Cmp.f k bt190.1 bt190.2.1 bt190.2.2 bt193.1 bt193.2.1 bt193.2.2).bind fun t196 => (if t196 = (-1) then ((cookie_Cmp.f t147 t148 t149 t150 t151 t152 t153 t154 t155 t156 t157 t158 t159 t160 t161 t162 t163 t164 t165 t166 t167 t168).bind fun t197 => (if t197 = (-1) then ((cookie_Cmp.f t147 t148 t149 t150 t151 1 t153 t154 t155 t156 t157 t147 t148 t149 t150 t151 t152 t153 t154 t155 t156 t157).bind fun t198 => (if t198 = 1 then ((cookie_Greater.f t147 t148 t149 t150 t151 t152 t153 t154 t155 t156 t157 t147 t148 t149 t150 t151 1 t153 t154 t155 t156 t157).bind fun bt199 => (if (bt199.1.toList == t147.toList && (bt199.2.1.toList == t148.toList && (bt199.2.2.1.toList == t149.toList && (bt199.2.2.2.1.toList == t150.toList && (bt199.2.2.2.2.1 == t151 && (bt199.2.2.2.2.2.1 == 1 && (bt199.2.2.2.2.2.2.1 == t153 && (bt199.2.2.2.2.2.2.2.1 == t154 && (bt199.2.2.2.2.2.2.2.2.1 == t155 && (bt199.2.2.2.2.2.2.2.2.2.1 == t156 && (bt199.2.2.2.2.2.2.2.2.2.2 == t157))))))))))) = true then ((cookie_Live.f t147 t148 t149 t150 t151 t152 t153 t154 t155 t156 t157 9).bind fun t210 => (if t210 = true then ((cookie_Sends.f k t147 t148 t149 t150 t151 t152 t153 t154 t155 t156 t157 false (⟨#[121, 46, 97]⟩ : ByteArray) (⟨#[47, 122]⟩ : ByteArray) 9).bind fun t211 => (if t211 = true then ((cookie_Sends.f k t147 t148 t149 t150 t151 t152 t153 true t155 t156 t157 false (⟨#[121, 46, 97]⟩ : ByteArray) (⟨#[47, 122]⟩ : ByteArray) 9).bind fun t212 => (some (!t212))) else (some false))) else (some false))) else (some false))) else (some false))) else (some false))) else (some false))))) else (some false)))))) else (some false)) = some r := H
  have A3 := Aside0.mk A30
  clear A30
  by_cases c4 : t174 = true
  · subst c4
    have H1 : ((cracknellaw13_one.f (⟨#[97]⟩ : ByteArray) (⟨#[]⟩ : ByteArray)).bind fun bt175 => ((cookie_Right.f k bt175.1 bt175.2.1 bt175.2.2.1 bt175.2.2.2.1 bt175.2.2.2.2.1 bt175.2.2.2.2.2.1 bt175.2.2.2.2.2.2.1 bt175.2.2.2.2.2.2.2.1 bt175.2.2.2.2.2.2.2.2.1 bt175.2.2.2.2.2.2.2.2.2.1 bt175.2.2.2.2.2.2.2.2.2.2).bind fun t186 => (if t186 = true then (some false) else ((PrintC.cookie_Of.f t147 t148 t149 t150 t151 t152 t153 t154 t155 t156 t157).bind fun bt187 => (if (bt187.1.toList == ([97] : List UInt8) && (bt187.2.1.toList == ([47] : List UInt8) && (bt187.2.2.toList == ([120] : List UInt8)))) = true then ((PrintC.cookie_Of.f t147 t148 t149 t150 t151 t152 t153 t154 t155 t156 t157).bind fun bt190 => ((PrintC.cookie_Of.f t158 t159 t160 t161 t162 t163 t164 t165 t166 t167 t168).bind fun bt193 => ((PrintC.cookie_Key_Cmp.f k bt190.1 bt190.2.1 bt190.2.2 bt193.1 bt193.2.1 bt193.2.2).bind fun t196 => (if t196 = (-1) then ((cookie_Cmp.f t147 t148 t149 t150 t151 t152 t153 t154 t155 t156 t157 t158 t159 t160 t161 t162 t163 t164 t165 t166 t167 t168).bind fun t197 => (if t197 = (-1) then ((cookie_Cmp.f t147 t148 t149 t150 t151 1 t153 t154 t155 t156 t157 t147 t148 t149 t150 t151 t152 t153 t154 t155 t156 t157).bind fun t198 => (if t198 = 1 then ((cookie_Greater.f t147 t148 t149 t150 t151 t152 t153 t154 t155 t156 t157 t147 t148 t149 t150 t151 1 t153 t154 t155 t156 t157).bind fun bt199 => (if (bt199.1.toList == t147.toList && (bt199.2.1.toList == t148.toList && (bt199.2.2.1.toList == t149.toList && (bt199.2.2.2.1.toList == t150.toList && (bt199.2.2.2.2.1 == t151 && (bt199.2.2.2.2.2.1 == 1 && (bt199.2.2.2.2.2.2.1 == t153 && (bt199.2.2.2.2.2.2.2.1 == t154 && (bt199.2.2.2.2.2.2.2.2.1 == t155 && (bt199.2.2.2.2.2.2.2.2.2.1 == t156 && (bt199.2.2.2.2.2.2.2.2.2.2 == t157))))))))))) = true then ((cookie_Live.f t147 t148 t149 t150 t151 t152 t153 t154 t155 t156 t157 9).bind fun t210 => (if t210 = true then ((cookie_Sends.f k t147 t148 t149 t150 t151 t152 t153 t154 t155 t156 t157 false (⟨#[121, 46, 97]⟩ : ByteArray) (⟨#[47, 122]⟩ : ByteArray) 9).bind fun t211 => (if t211 = true then ((cookie_Sends.f k t147 t148 t149 t150 t151 t152 t153 true t155 t156 t157 false (⟨#[121, 46, 97]⟩ : ByteArray) (⟨#[47, 122]⟩ : ByteArray) 9).bind fun t212 => (some (!t212))) else (some false))) else (some false))) else (some false))) else (some false))) else (some false))) else (some false))))) else (some false)))))) = some r := by rw [if_pos rfl] at H; exact H
    clear H
    have H := H1
    clear H1
    replace H := Option.bind_eq_some_iff.mp H
    obtain ⟨⟨t175, t176, t177, t178, t179, t180, t181, t182, t183, t184, t185⟩, A50, H⟩ := H
    replace H : ((cookie_Right.f k t175 t176 t177 t178 t179 t180 t181 t182 t183 t184 t185).bind fun t186 => (if t186 = true then (some false) else ((PrintC.cookie_Of.f t147 t148 t149 t150 t151 t152 t153 t154 t155 t156 t157).bind fun bt187 => (if (bt187.1.toList == ([97] : List UInt8) && (bt187.2.1.toList == ([47] : List UInt8) && (bt187.2.2.toList == ([120] : List UInt8)))) = true then ((PrintC.cookie_Of.f t147 t148 t149 t150 t151 t152 t153 t154 t155 t156 t157).bind fun bt190 => ((PrintC.cookie_Of.f t158 t159 t160 t161 t162 t163 t164 t165 t166 t167 t168).bind fun bt193 => ((PrintC.cookie_Key_Cmp.f k bt190.1 bt190.2.1 bt190.2.2 bt193.1 bt193.2.1 bt193.2.2).bind fun t196 => (if t196 = (-1) then ((cookie_Cmp.f t147 t148 t149 t150 t151 t152 t153 t154 t155 t156 t157 t158 t159 t160 t161 t162 t163 t164 t165 t166 t167 t168).bind fun t197 => (if t197 = (-1) then ((cookie_Cmp.f t147 t148 t149 t150 t151 1 t153 t154 t155 t156 t157 t147 t148 t149 t150 t151 t152 t153 t154 t155 t156 t157).bind fun t198 => (if t198 = 1 then ((cookie_Greater.f t147 t148 t149 t150 t151 t152 t153 t154 t155 t156 t157 t147 t148 t149 t150 t151 1 t153 t154 t155 t156 t157).bind fun bt199 => (if (bt199.1.toList == t147.toList && (bt199.2.1.toList == t148.toList && (bt199.2.2.1.toList == t149.toList && (bt199.2.2.2.1.toList == t150.toList && (bt199.2.2.2.2.1 == t151 && (bt199.2.2.2.2.2.1 == 1 && (bt199.2.2.2.2.2.2.1 == t153 && (bt199.2.2.2.2.2.2.2.1 == t154 && (bt199.2.2.2.2.2.2.2.2.1 == t155 && (bt199.2.2.2.2.2.2.2.2.2.1 == t156 && (bt199.2.2.2.2.2.2.2.2.2.2 == t157))))))))))) = true then ((cookie_Live.f t147 t148 t149 t150 t151 t152 t153 t154 t155 t156 t157 9).bind fun t210 => (if t210 = true then ((cookie_Sends.f k t147 t148 t149 t150 t151 t152 t153 t154 t155 t156 t157 false (⟨#[121, 46, 97]⟩ : ByteArray) (⟨#[47, 122]⟩ : ByteArray) 9).bind fun t211 => (if t211 = true then ((cookie_Sends.f k t147 t148 t149 t150 t151 t152 t153 true t155 t156 t157 false (⟨#[121, 46, 97]⟩ : ByteArray) (⟨#[47, 122]⟩ : ByteArray) 9).bind fun t212 => (some (!t212))) else (some false))) else (some false))) else (some false))) else (some false))) else (some false))) else (some false))))) else (some false))))) = some r := H
    have A5 := Aside0.mk A50
    clear A50
    replace H := Option.bind_eq_some_iff.mp H
    obtain ⟨t186, A60, H⟩ := H
    replace H : (if t186 = true then (some false) else ((PrintC.cookie_Of.f t147 t148 t149 t150 t151 t152 t153 t154 t155 t156 t157).bind fun bt187 => (if (bt187.1.toList == ([97] : List UInt8) && (bt187.2.1.toList == ([47] : List UInt8) && (bt187.2.2.toList == ([120] : List UInt8)))) = true then ((PrintC.cookie_Of.f t147 t148 t149 t150 t151 t152 t153 t154 t155 t156 t157).bind fun bt190 => ((PrintC.cookie_Of.f t158 t159 t160 t161 t162 t163 t164 t165 t166 t167 t168).bind fun bt193 => ((PrintC.cookie_Key_Cmp.f k bt190.1 bt190.2.1 bt190.2.2 bt193.1 bt193.2.1 bt193.2.2).bind fun t196 => (if t196 = (-1) then ((cookie_Cmp.f t147 t148 t149 t150 t151 t152 t153 t154 t155 t156 t157 t158 t159 t160 t161 t162 t163 t164 t165 t166 t167 t168).bind fun t197 => (if t197 = (-1) then ((cookie_Cmp.f t147 t148 t149 t150 t151 1 t153 t154 t155 t156 t157 t147 t148 t149 t150 t151 t152 t153 t154 t155 t156 t157).bind fun t198 => (if t198 = 1 then ((cookie_Greater.f t147 t148 t149 t150 t151 t152 t153 t154 t155 t156 t157 t147 t148 t149 t150 t151 1 t153 t154 t155 t156 t157).bind fun bt199 => (if (bt199.1.toList == t147.toList && (bt199.2.1.toList == t148.toList && (bt199.2.2.1.toList == t149.toList && (bt199.2.2.2.1.toList == t150.toList && (bt199.2.2.2.2.1 == t151 && (bt199.2.2.2.2.2.1 == 1 && (bt199.2.2.2.2.2.2.1 == t153 && (bt199.2.2.2.2.2.2.2.1 == t154 && (bt199.2.2.2.2.2.2.2.2.1 == t155 && (bt199.2.2.2.2.2.2.2.2.2.1 == t156 && (bt199.2.2.2.2.2.2.2.2.2.2 == t157))))))))))) = true then ((cookie_Live.f t147 t148 t149 t150 t151 t152 t153 t154 t155 t156 t157 9).bind fun t210 => (if t210 = true then ((cookie_Sends.f k t147 t148 t149 t150 t151 t152 t153 t154 t155 t156 t157 false (⟨#[121, 46, 97]⟩ : ByteArray) (⟨#[47, 122]⟩ : ByteArray) 9).bind fun t211 => (if t211 = true then ((cookie_Sends.f k t147 t148 t149 t150 t151 t152 t153 true t155 t156 t157 false (⟨#[121, 46, 97]⟩ : ByteArray) (⟨#[47, 122]⟩ : ByteArray) 9).bind fun t212 => (some (!t212))) else (some false))) else (some false))) else (some false))) else (some false))) else (some false))) else (some false))))) else (some false)))) = some r := H
    have A6 := Aside0.mk A60
    clear A60
    by_cases c7 : t186 = true
    · subst c7
      have H1 : (some false) = some r := by rw [if_pos rfl] at H; exact H
      clear H
      have H := H1
      clear H1
      obtain rfl := Option.some.inj H
      exact absurd hT_.out (by decide)
    · replace c7 := Bool.eq_false_iff.mpr c7
      subst c7
      have H1 : ((PrintC.cookie_Of.f t147 t148 t149 t150 t151 t152 t153 t154 t155 t156 t157).bind fun bt187 => (if (bt187.1.toList == ([97] : List UInt8) && (bt187.2.1.toList == ([47] : List UInt8) && (bt187.2.2.toList == ([120] : List UInt8)))) = true then ((PrintC.cookie_Of.f t147 t148 t149 t150 t151 t152 t153 t154 t155 t156 t157).bind fun bt190 => ((PrintC.cookie_Of.f t158 t159 t160 t161 t162 t163 t164 t165 t166 t167 t168).bind fun bt193 => ((PrintC.cookie_Key_Cmp.f k bt190.1 bt190.2.1 bt190.2.2 bt193.1 bt193.2.1 bt193.2.2).bind fun t196 => (if t196 = (-1) then ((cookie_Cmp.f t147 t148 t149 t150 t151 t152 t153 t154 t155 t156 t157 t158 t159 t160 t161 t162 t163 t164 t165 t166 t167 t168).bind fun t197 => (if t197 = (-1) then ((cookie_Cmp.f t147 t148 t149 t150 t151 1 t153 t154 t155 t156 t157 t147 t148 t149 t150 t151 t152 t153 t154 t155 t156 t157).bind fun t198 => (if t198 = 1 then ((cookie_Greater.f t147 t148 t149 t150 t151 t152 t153 t154 t155 t156 t157 t147 t148 t149 t150 t151 1 t153 t154 t155 t156 t157).bind fun bt199 => (if (bt199.1.toList == t147.toList && (bt199.2.1.toList == t148.toList && (bt199.2.2.1.toList == t149.toList && (bt199.2.2.2.1.toList == t150.toList && (bt199.2.2.2.2.1 == t151 && (bt199.2.2.2.2.2.1 == 1 && (bt199.2.2.2.2.2.2.1 == t153 && (bt199.2.2.2.2.2.2.2.1 == t154 && (bt199.2.2.2.2.2.2.2.2.1 == t155 && (bt199.2.2.2.2.2.2.2.2.2.1 == t156 && (bt199.2.2.2.2.2.2.2.2.2.2 == t157))))))))))) = true then ((cookie_Live.f t147 t148 t149 t150 t151 t152 t153 t154 t155 t156 t157 9).bind fun t210 => (if t210 = true then ((cookie_Sends.f k t147 t148 t149 t150 t151 t152 t153 t154 t155 t156 t157 false (⟨#[121, 46, 97]⟩ : ByteArray) (⟨#[47, 122]⟩ : ByteArray) 9).bind fun t211 => (if t211 = true then ((cookie_Sends.f k t147 t148 t149 t150 t151 t152 t153 true t155 t156 t157 false (⟨#[121, 46, 97]⟩ : ByteArray) (⟨#[47, 122]⟩ : ByteArray) 9).bind fun t212 => (some (!t212))) else (some false))) else (some false))) else (some false))) else (some false))) else (some false))) else (some false))))) else (some false))) = some r := by rw [if_neg (show ¬ (false = true) by decide)] at H; exact H
      clear H
      have H := H1
      clear H1
      replace H := Option.bind_eq_some_iff.mp H
      obtain ⟨⟨t187, t188, t189⟩, A80, H⟩ := H
      replace H : (if (t187.toList == ([97] : List UInt8) && (t188.toList == ([47] : List UInt8) && (t189.toList == ([120] : List UInt8)))) = true then ((PrintC.cookie_Of.f t147 t148 t149 t150 t151 t152 t153 t154 t155 t156 t157).bind fun bt190 => ((PrintC.cookie_Of.f t158 t159 t160 t161 t162 t163 t164 t165 t166 t167 t168).bind fun bt193 => ((PrintC.cookie_Key_Cmp.f k bt190.1 bt190.2.1 bt190.2.2 bt193.1 bt193.2.1 bt193.2.2).bind fun t196 => (if t196 = (-1) then ((cookie_Cmp.f t147 t148 t149 t150 t151 t152 t153 t154 t155 t156 t157 t158 t159 t160 t161 t162 t163 t164 t165 t166 t167 t168).bind fun t197 => (if t197 = (-1) then ((cookie_Cmp.f t147 t148 t149 t150 t151 1 t153 t154 t155 t156 t157 t147 t148 t149 t150 t151 t152 t153 t154 t155 t156 t157).bind fun t198 => (if t198 = 1 then ((cookie_Greater.f t147 t148 t149 t150 t151 t152 t153 t154 t155 t156 t157 t147 t148 t149 t150 t151 1 t153 t154 t155 t156 t157).bind fun bt199 => (if (bt199.1.toList == t147.toList && (bt199.2.1.toList == t148.toList && (bt199.2.2.1.toList == t149.toList && (bt199.2.2.2.1.toList == t150.toList && (bt199.2.2.2.2.1 == t151 && (bt199.2.2.2.2.2.1 == 1 && (bt199.2.2.2.2.2.2.1 == t153 && (bt199.2.2.2.2.2.2.2.1 == t154 && (bt199.2.2.2.2.2.2.2.2.1 == t155 && (bt199.2.2.2.2.2.2.2.2.2.1 == t156 && (bt199.2.2.2.2.2.2.2.2.2.2 == t157))))))))))) = true then ((cookie_Live.f t147 t148 t149 t150 t151 t152 t153 t154 t155 t156 t157 9).bind fun t210 => (if t210 = true then ((cookie_Sends.f k t147 t148 t149 t150 t151 t152 t153 t154 t155 t156 t157 false (⟨#[121, 46, 97]⟩ : ByteArray) (⟨#[47, 122]⟩ : ByteArray) 9).bind fun t211 => (if t211 = true then ((cookie_Sends.f k t147 t148 t149 t150 t151 t152 t153 true t155 t156 t157 false (⟨#[121, 46, 97]⟩ : ByteArray) (⟨#[47, 122]⟩ : ByteArray) 9).bind fun t212 => (some (!t212))) else (some false))) else (some false))) else (some false))) else (some false))) else (some false))) else (some false))))) else (some false)) = some r := H
      have A8 := Aside0.mk A80
      clear A80
      by_cases c9 : (t187.toList == ([97] : List UInt8) && (t188.toList == ([47] : List UInt8) && (t189.toList == ([120] : List UInt8)))) = true
      · rw [if_pos c9] at H
        have c9b0 : (t187.toList == ([97] : List UInt8) && (t188.toList == ([47] : List UInt8) && (t189.toList == ([120] : List UInt8)))) = true := c9
        (try (have c9b1 : decide (t187.toList = ([97] : List UInt8) && (t188.toList == ([47] : List UInt8) && (t189.toList == ([120] : List UInt8)))) = true := by simpa using c9))
        (try (have c9b2 : (t187.toList == ([97] : List UInt8) && (t188.toList == ([47] : List UInt8) && (t189.toList == ([120] : List UInt8)))) = true := by simpa using c9))
        clear c9
        replace H := Option.bind_eq_some_iff.mp H
        obtain ⟨⟨t190, t191, t192⟩, A100, H⟩ := H
        replace H : ((PrintC.cookie_Of.f t158 t159 t160 t161 t162 t163 t164 t165 t166 t167 t168).bind fun bt193 => ((PrintC.cookie_Key_Cmp.f k t190 t191 t192 bt193.1 bt193.2.1 bt193.2.2).bind fun t196 => (if t196 = (-1) then ((cookie_Cmp.f t147 t148 t149 t150 t151 t152 t153 t154 t155 t156 t157 t158 t159 t160 t161 t162 t163 t164 t165 t166 t167 t168).bind fun t197 => (if t197 = (-1) then ((cookie_Cmp.f t147 t148 t149 t150 t151 1 t153 t154 t155 t156 t157 t147 t148 t149 t150 t151 t152 t153 t154 t155 t156 t157).bind fun t198 => (if t198 = 1 then ((cookie_Greater.f t147 t148 t149 t150 t151 t152 t153 t154 t155 t156 t157 t147 t148 t149 t150 t151 1 t153 t154 t155 t156 t157).bind fun bt199 => (if (bt199.1.toList == t147.toList && (bt199.2.1.toList == t148.toList && (bt199.2.2.1.toList == t149.toList && (bt199.2.2.2.1.toList == t150.toList && (bt199.2.2.2.2.1 == t151 && (bt199.2.2.2.2.2.1 == 1 && (bt199.2.2.2.2.2.2.1 == t153 && (bt199.2.2.2.2.2.2.2.1 == t154 && (bt199.2.2.2.2.2.2.2.2.1 == t155 && (bt199.2.2.2.2.2.2.2.2.2.1 == t156 && (bt199.2.2.2.2.2.2.2.2.2.2 == t157))))))))))) = true then ((cookie_Live.f t147 t148 t149 t150 t151 t152 t153 t154 t155 t156 t157 9).bind fun t210 => (if t210 = true then ((cookie_Sends.f k t147 t148 t149 t150 t151 t152 t153 t154 t155 t156 t157 false (⟨#[121, 46, 97]⟩ : ByteArray) (⟨#[47, 122]⟩ : ByteArray) 9).bind fun t211 => (if t211 = true then ((cookie_Sends.f k t147 t148 t149 t150 t151 t152 t153 true t155 t156 t157 false (⟨#[121, 46, 97]⟩ : ByteArray) (⟨#[47, 122]⟩ : ByteArray) 9).bind fun t212 => (some (!t212))) else (some false))) else (some false))) else (some false))) else (some false))) else (some false))) else (some false)))) = some r := H
        have A10 := Aside0.mk A100
        clear A100
        replace H := Option.bind_eq_some_iff.mp H
        obtain ⟨⟨t193, t194, t195⟩, A110, H⟩ := H
        replace H : ((PrintC.cookie_Key_Cmp.f k t190 t191 t192 t193 t194 t195).bind fun t196 => (if t196 = (-1) then ((cookie_Cmp.f t147 t148 t149 t150 t151 t152 t153 t154 t155 t156 t157 t158 t159 t160 t161 t162 t163 t164 t165 t166 t167 t168).bind fun t197 => (if t197 = (-1) then ((cookie_Cmp.f t147 t148 t149 t150 t151 1 t153 t154 t155 t156 t157 t147 t148 t149 t150 t151 t152 t153 t154 t155 t156 t157).bind fun t198 => (if t198 = 1 then ((cookie_Greater.f t147 t148 t149 t150 t151 t152 t153 t154 t155 t156 t157 t147 t148 t149 t150 t151 1 t153 t154 t155 t156 t157).bind fun bt199 => (if (bt199.1.toList == t147.toList && (bt199.2.1.toList == t148.toList && (bt199.2.2.1.toList == t149.toList && (bt199.2.2.2.1.toList == t150.toList && (bt199.2.2.2.2.1 == t151 && (bt199.2.2.2.2.2.1 == 1 && (bt199.2.2.2.2.2.2.1 == t153 && (bt199.2.2.2.2.2.2.2.1 == t154 && (bt199.2.2.2.2.2.2.2.2.1 == t155 && (bt199.2.2.2.2.2.2.2.2.2.1 == t156 && (bt199.2.2.2.2.2.2.2.2.2.2 == t157))))))))))) = true then ((cookie_Live.f t147 t148 t149 t150 t151 t152 t153 t154 t155 t156 t157 9).bind fun t210 => (if t210 = true then ((cookie_Sends.f k t147 t148 t149 t150 t151 t152 t153 t154 t155 t156 t157 false (⟨#[121, 46, 97]⟩ : ByteArray) (⟨#[47, 122]⟩ : ByteArray) 9).bind fun t211 => (if t211 = true then ((cookie_Sends.f k t147 t148 t149 t150 t151 t152 t153 true t155 t156 t157 false (⟨#[121, 46, 97]⟩ : ByteArray) (⟨#[47, 122]⟩ : ByteArray) 9).bind fun t212 => (some (!t212))) else (some false))) else (some false))) else (some false))) else (some false))) else (some false))) else (some false))) = some r := H
        have A11 := Aside0.mk A110
        clear A110
        replace H := Option.bind_eq_some_iff.mp H
        obtain ⟨t196, A120, H⟩ := H
        replace H : (if t196 = (-1) then ((cookie_Cmp.f t147 t148 t149 t150 t151 t152 t153 t154 t155 t156 t157 t158 t159 t160 t161 t162 t163 t164 t165 t166 t167 t168).bind fun t197 => (if t197 = (-1) then ((cookie_Cmp.f t147 t148 t149 t150 t151 1 t153 t154 t155 t156 t157 t147 t148 t149 t150 t151 t152 t153 t154 t155 t156 t157).bind fun t198 => (if t198 = 1 then ((cookie_Greater.f t147 t148 t149 t150 t151 t152 t153 t154 t155 t156 t157 t147 t148 t149 t150 t151 1 t153 t154 t155 t156 t157).bind fun bt199 => (if (bt199.1.toList == t147.toList && (bt199.2.1.toList == t148.toList && (bt199.2.2.1.toList == t149.toList && (bt199.2.2.2.1.toList == t150.toList && (bt199.2.2.2.2.1 == t151 && (bt199.2.2.2.2.2.1 == 1 && (bt199.2.2.2.2.2.2.1 == t153 && (bt199.2.2.2.2.2.2.2.1 == t154 && (bt199.2.2.2.2.2.2.2.2.1 == t155 && (bt199.2.2.2.2.2.2.2.2.2.1 == t156 && (bt199.2.2.2.2.2.2.2.2.2.2 == t157))))))))))) = true then ((cookie_Live.f t147 t148 t149 t150 t151 t152 t153 t154 t155 t156 t157 9).bind fun t210 => (if t210 = true then ((cookie_Sends.f k t147 t148 t149 t150 t151 t152 t153 t154 t155 t156 t157 false (⟨#[121, 46, 97]⟩ : ByteArray) (⟨#[47, 122]⟩ : ByteArray) 9).bind fun t211 => (if t211 = true then ((cookie_Sends.f k t147 t148 t149 t150 t151 t152 t153 true t155 t156 t157 false (⟨#[121, 46, 97]⟩ : ByteArray) (⟨#[47, 122]⟩ : ByteArray) 9).bind fun t212 => (some (!t212))) else (some false))) else (some false))) else (some false))) else (some false))) else (some false))) else (some false)) = some r := H
        have A12 := Aside0.mk A120
        clear A120
        by_cases c13 : t196 = (-1)
        · rw [if_pos c13] at H
          have c13b0 : (t196 == (-1)) = true := beq_iff_eq.mpr c13
          have c13b1 : (t196 != (-1)) = false := bne_eq_false_iff_eq.mpr c13
          clear c13
          replace H := Option.bind_eq_some_iff.mp H
          obtain ⟨t197, A140, H⟩ := H
          replace H : (if t197 = (-1) then ((cookie_Cmp.f t147 t148 t149 t150 t151 1 t153 t154 t155 t156 t157 t147 t148 t149 t150 t151 t152 t153 t154 t155 t156 t157).bind fun t198 => (if t198 = 1 then ((cookie_Greater.f t147 t148 t149 t150 t151 t152 t153 t154 t155 t156 t157 t147 t148 t149 t150 t151 1 t153 t154 t155 t156 t157).bind fun bt199 => (if (bt199.1.toList == t147.toList && (bt199.2.1.toList == t148.toList && (bt199.2.2.1.toList == t149.toList && (bt199.2.2.2.1.toList == t150.toList && (bt199.2.2.2.2.1 == t151 && (bt199.2.2.2.2.2.1 == 1 && (bt199.2.2.2.2.2.2.1 == t153 && (bt199.2.2.2.2.2.2.2.1 == t154 && (bt199.2.2.2.2.2.2.2.2.1 == t155 && (bt199.2.2.2.2.2.2.2.2.2.1 == t156 && (bt199.2.2.2.2.2.2.2.2.2.2 == t157))))))))))) = true then ((cookie_Live.f t147 t148 t149 t150 t151 t152 t153 t154 t155 t156 t157 9).bind fun t210 => (if t210 = true then ((cookie_Sends.f k t147 t148 t149 t150 t151 t152 t153 t154 t155 t156 t157 false (⟨#[121, 46, 97]⟩ : ByteArray) (⟨#[47, 122]⟩ : ByteArray) 9).bind fun t211 => (if t211 = true then ((cookie_Sends.f k t147 t148 t149 t150 t151 t152 t153 true t155 t156 t157 false (⟨#[121, 46, 97]⟩ : ByteArray) (⟨#[47, 122]⟩ : ByteArray) 9).bind fun t212 => (some (!t212))) else (some false))) else (some false))) else (some false))) else (some false))) else (some false)) = some r := H
          have A14 := Aside0.mk A140
          clear A140
          by_cases c15 : t197 = (-1)
          · rw [if_pos c15] at H
            have c15b0 : (t197 == (-1)) = true := beq_iff_eq.mpr c15
            have c15b1 : (t197 != (-1)) = false := bne_eq_false_iff_eq.mpr c15
            clear c15
            replace H := Option.bind_eq_some_iff.mp H
            obtain ⟨t198, A160, H⟩ := H
            replace H : (if t198 = 1 then ((cookie_Greater.f t147 t148 t149 t150 t151 t152 t153 t154 t155 t156 t157 t147 t148 t149 t150 t151 1 t153 t154 t155 t156 t157).bind fun bt199 => (if (bt199.1.toList == t147.toList && (bt199.2.1.toList == t148.toList && (bt199.2.2.1.toList == t149.toList && (bt199.2.2.2.1.toList == t150.toList && (bt199.2.2.2.2.1 == t151 && (bt199.2.2.2.2.2.1 == 1 && (bt199.2.2.2.2.2.2.1 == t153 && (bt199.2.2.2.2.2.2.2.1 == t154 && (bt199.2.2.2.2.2.2.2.2.1 == t155 && (bt199.2.2.2.2.2.2.2.2.2.1 == t156 && (bt199.2.2.2.2.2.2.2.2.2.2 == t157))))))))))) = true then ((cookie_Live.f t147 t148 t149 t150 t151 t152 t153 t154 t155 t156 t157 9).bind fun t210 => (if t210 = true then ((cookie_Sends.f k t147 t148 t149 t150 t151 t152 t153 t154 t155 t156 t157 false (⟨#[121, 46, 97]⟩ : ByteArray) (⟨#[47, 122]⟩ : ByteArray) 9).bind fun t211 => (if t211 = true then ((cookie_Sends.f k t147 t148 t149 t150 t151 t152 t153 true t155 t156 t157 false (⟨#[121, 46, 97]⟩ : ByteArray) (⟨#[47, 122]⟩ : ByteArray) 9).bind fun t212 => (some (!t212))) else (some false))) else (some false))) else (some false))) else (some false)) = some r := H
            have A16 := Aside0.mk A160
            clear A160
            by_cases c17 : t198 = 1
            · rw [if_pos c17] at H
              have c17b0 : (t198 == 1) = true := beq_iff_eq.mpr c17
              have c17b1 : (t198 != 1) = false := bne_eq_false_iff_eq.mpr c17
              clear c17
              replace H := Option.bind_eq_some_iff.mp H
              obtain ⟨⟨t199, t200, t201, t202, t203, t204, t205, t206, t207, t208, t209⟩, A180, H⟩ := H
              replace H : (if (t199.toList == t147.toList && (t200.toList == t148.toList && (t201.toList == t149.toList && (t202.toList == t150.toList && (t203 == t151 && (t204 == 1 && (t205 == t153 && (t206 == t154 && (t207 == t155 && (t208 == t156 && (t209 == t157))))))))))) = true then ((cookie_Live.f t147 t148 t149 t150 t151 t152 t153 t154 t155 t156 t157 9).bind fun t210 => (if t210 = true then ((cookie_Sends.f k t147 t148 t149 t150 t151 t152 t153 t154 t155 t156 t157 false (⟨#[121, 46, 97]⟩ : ByteArray) (⟨#[47, 122]⟩ : ByteArray) 9).bind fun t211 => (if t211 = true then ((cookie_Sends.f k t147 t148 t149 t150 t151 t152 t153 true t155 t156 t157 false (⟨#[121, 46, 97]⟩ : ByteArray) (⟨#[47, 122]⟩ : ByteArray) 9).bind fun t212 => (some (!t212))) else (some false))) else (some false))) else (some false)) = some r := H
              have A18 := Aside0.mk A180
              clear A180
              by_cases c19 : (t199.toList == t147.toList && (t200.toList == t148.toList && (t201.toList == t149.toList && (t202.toList == t150.toList && (t203 == t151 && (t204 == 1 && (t205 == t153 && (t206 == t154 && (t207 == t155 && (t208 == t156 && (t209 == t157))))))))))) = true
              · rw [if_pos c19] at H
                have c19b0 : (t199.toList == t147.toList && (t200.toList == t148.toList && (t201.toList == t149.toList && (t202.toList == t150.toList && (t203 == t151 && (t204 == 1 && (t205 == t153 && (t206 == t154 && (t207 == t155 && (t208 == t156 && (t209 == t157))))))))))) = true := c19
                (try (have c19b1 : decide (t199.toList = t147.toList && (t200.toList == t148.toList && (t201.toList == t149.toList && (t202.toList == t150.toList && (t203 == t151 && (t204 == 1 && (t205 == t153 && (t206 == t154 && (t207 == t155 && (t208 == t156 && (t209 == t157))))))))))) = true := by simpa using c19))
                (try (have c19b2 : (t199.toList == t147.toList && (t200.toList == t148.toList && (t201.toList == t149.toList && (t202.toList == t150.toList && (t203 == t151 && (t204 == 1 && (t205 == t153 && (t206 == t154 && (t207 == t155 && (t208 == t156 && (t209 == t157))))))))))) = true := by simpa using c19))
                clear c19
                replace H := Option.bind_eq_some_iff.mp H
                obtain ⟨t210, A200, H⟩ := H
                replace H : (if t210 = true then ((cookie_Sends.f k t147 t148 t149 t150 t151 t152 t153 t154 t155 t156 t157 false (⟨#[121, 46, 97]⟩ : ByteArray) (⟨#[47, 122]⟩ : ByteArray) 9).bind fun t211 => (if t211 = true then ((cookie_Sends.f k t147 t148 t149 t150 t151 t152 t153 true t155 t156 t157 false (⟨#[121, 46, 97]⟩ : ByteArray) (⟨#[47, 122]⟩ : ByteArray) 9).bind fun t212 => (some (!t212))) else (some false))) else (some false)) = some r := H
                have A20 := Aside0.mk A200
                clear A200
                by_cases c21 : t210 = true
                · subst c21
                  have H1 : ((cookie_Sends.f k t147 t148 t149 t150 t151 t152 t153 t154 t155 t156 t157 false (⟨#[121, 46, 97]⟩ : ByteArray) (⟨#[47, 122]⟩ : ByteArray) 9).bind fun t211 => (if t211 = true then ((cookie_Sends.f k t147 t148 t149 t150 t151 t152 t153 true t155 t156 t157 false (⟨#[121, 46, 97]⟩ : ByteArray) (⟨#[47, 122]⟩ : ByteArray) 9).bind fun t212 => (some (!t212))) else (some false))) = some r := by rw [if_pos rfl] at H; exact H
                  clear H
                  have H := H1
                  clear H1
                  replace H := Option.bind_eq_some_iff.mp H
                  obtain ⟨t211, A220, H⟩ := H
                  replace H : (if t211 = true then ((cookie_Sends.f k t147 t148 t149 t150 t151 t152 t153 true t155 t156 t157 false (⟨#[121, 46, 97]⟩ : ByteArray) (⟨#[47, 122]⟩ : ByteArray) 9).bind fun t212 => (some (!t212))) else (some false)) = some r := H
                  have A22 := Aside0.mk A220
                  clear A220
                  by_cases c23 : t211 = true
                  · subst c23
                    have H1 : ((cookie_Sends.f k t147 t148 t149 t150 t151 t152 t153 true t155 t156 t157 false (⟨#[121, 46, 97]⟩ : ByteArray) (⟨#[47, 122]⟩ : ByteArray) 9).bind fun t212 => (some (!t212))) = some r := by rw [if_pos rfl] at H; exact H
                    clear H
                    have H := H1
                    clear H1
                    replace H := Option.bind_eq_some_iff.mp H
                    obtain ⟨t212, A240, H⟩ := H
                    replace H : (some (!t212)) = some r := H
                    have A24 := Aside0.mk A240
                    clear A240
                    obtain rfl := Option.some.inj H
                    go_enter Tryz.func4, Tryz.ntmps4
                    try go_wp2_with (first | ((with_reducible refine gate_callee (f := 7) rfl ?_); refine goesL_ (some 6) rfl rfl Tryz.func7 (by kernel_rfl) rfl #[.string (⟨#[97]⟩ : ByteArray), .string (⟨#[120]⟩ : ByteArray)] rfl xg ?_; (with_reducible refine (cracknellaw13_one.calls (⟨#[97]⟩ : ByteArray) (⟨#[120]⟩ : ByteArray) t147 t148 t149 t150 t151 t152 t153 t154 t155 t156 t157 _ A1.out).mono ?_); rintro e w25 ⟨rfl, hb⟩; refine ⟨_, rfl, ?_⟩; have n0_ := Aside0.mk (below_step xb hb); clear HB; have HB := n0_; clear n0_; (try clear hb); (try clear hb2); (try clear hk); (try clear hi)) | ((with_reducible refine gate_callee (f := 7) rfl ?_); refine goesL_ (some 7) rfl rfl Tryz.func7 (by kernel_rfl) rfl #[.string (⟨#[98]⟩ : ByteArray), .string (⟨#[120]⟩ : ByteArray)] rfl xg ?_; (with_reducible refine (cracknellaw13_one.calls (⟨#[98]⟩ : ByteArray) (⟨#[120]⟩ : ByteArray) t158 t159 t160 t161 t162 t163 t164 t165 t166 t167 t168 _ A2.out).mono ?_); rintro e w26 ⟨rfl, hb⟩; refine ⟨_, rfl, ?_⟩; have n0_ := Aside0.mk (below_step xb hb); clear HB; have HB := n0_; clear n0_; (try clear hb); (try clear hb2); (try clear hk); (try clear hi)) | ((with_reducible refine gate_dst (N := 1) rfl ?_); refine box_event ?hg (N := 1) ?hd (cs := #[.string (⟨#[]⟩ : ByteArray), .string (⟨#[]⟩ : ByteArray), .string (⟨#[]⟩ : ByteArray), .string (⟨#[]⟩ : ByteArray), .int .i64 0, .int .i64 0, .int .i64 0, .bool false, .bool false, .bool false, .int .i64 0]) (t := 23) ?hr ?_; (case hd => rfl); (case hg => rfl); (case hr => first | (go_simp; done) | (go_simp; rfl)); intro gb169 hg w27 hbox hb; have n0_ := Aside0.mk (below_step xb hb); have n1_ := Aside0.mk (hbox); have n2_ := Aside0.mk ((by rw [hg]; exact (below_size xb) : w.heap.size ≤ gb169)); have n3_ := Aside0.mk ((by rw [hg]; exact (below_size xb) : w.heap.size ≤ gb169)); clear HB; have HB := n0_; have BK169 := n1_; have GW169 := n2_; have GE169 := n3_; clear n0_ n1_ n2_ n3_; clear hb hbox hg) | ((with_reducible refine gate_dst (N := 2) rfl ?_); refine box_event ?hg (N := 2) ?hd (cs := #[.string (⟨#[]⟩ : ByteArray), .string (⟨#[]⟩ : ByteArray), .string (⟨#[]⟩ : ByteArray), .string (⟨#[]⟩ : ByteArray), .int .i64 0, .int .i64 0, .int .i64 0, .bool false, .bool false, .bool false, .int .i64 0]) (t := 23) ?hr ?_; (case hd => rfl); (case hg => rfl); (case hr => first | (go_simp; done) | (go_simp; rfl)); intro gb170 hg w28 hbox hb; have n0_ := blkB BK169 hb; have n1_ := Aside0.mk (below_step xb hb); have n2_ := Aside0.mk (hbox); have n3_ := Aside0.mk ((by rw [hg]; exact (below_size xb) : w.heap.size ≤ gb170)); have n4_ := Aside0.mk ((by rw [hg]; exact (below_size xb) : w.heap.size ≤ gb170)); have n5_ := Aside0.mk ((by rw [hg]; exact Nat.ne_of_lt (blkL BK169) : gb169 ≠ gb170)); have n6_ := Aside0.mk ((by rw [hg]; exact Nat.ne_of_gt (blkL BK169) : gb170 ≠ gb169)); clear BK169; clear HB; have BK169 := n0_; have HB := n1_; have BK170 := n2_; have GW170 := n3_; have GE170 := n4_; have NB169_170 := n5_; have NB170_169 := n6_; clear n0_ n1_ n2_ n3_ n4_ n5_ n6_; clear hb hbox hg; have hnb29 := NB169_170.out; have hnc29 := NB170_169.out; have hcz30_0 : w28.cell? ⟨gb169, 0, none⟩ = some (.string (⟨#[]⟩ : ByteArray)) := (blk_cell BK169.out 0).trans rfl; have hcz30_1 : w28.cell? ⟨gb169, 1, none⟩ = some (.string (⟨#[]⟩ : ByteArray)) := (blk_cell BK169.out 1).trans rfl; have hcz30_2 : w28.cell? ⟨gb169, 2, none⟩ = some (.string (⟨#[]⟩ : ByteArray)) := (blk_cell BK169.out 2).trans rfl; have hcz30_3 : w28.cell? ⟨gb169, 3, none⟩ = some (.string (⟨#[]⟩ : ByteArray)) := (blk_cell BK169.out 3).trans rfl; have hcz30_4 : w28.cell? ⟨gb169, 4, none⟩ = some (.int .i64 0) := (blk_cell BK169.out 4).trans rfl; have hcz30_5 : w28.cell? ⟨gb169, 5, none⟩ = some (.int .i64 0) := (blk_cell BK169.out 5).trans rfl; have hcz30_6 : w28.cell? ⟨gb169, 6, none⟩ = some (.int .i64 0) := (blk_cell BK169.out 6).trans rfl; have hcz30_7 : w28.cell? ⟨gb169, 7, none⟩ = some (.bool false) := (blk_cell BK169.out 7).trans rfl; have hcz30_8 : w28.cell? ⟨gb169, 8, none⟩ = some (.bool false) := (blk_cell BK169.out 8).trans rfl; have hcz30_9 : w28.cell? ⟨gb169, 9, none⟩ = some (.bool false) := (blk_cell BK169.out 9).trans rfl; have hcz30_10 : w28.cell? ⟨gb169, 10, none⟩ = some (.int .i64 0) := (blk_cell BK169.out 10).trans rfl; have hfz30_0 := blk_frozen BK169.out 0; have hfz30_1 := blk_frozen BK169.out 1; have hfz30_2 := blk_frozen BK169.out 2; have hfz30_3 := blk_frozen BK169.out 3; have hfz30_4 := blk_frozen BK169.out 4; have hfz30_5 := blk_frozen BK169.out 5; have hfz30_6 := blk_frozen BK169.out 6; have hfz30_7 := blk_frozen BK169.out 7; have hfz30_8 := blk_frozen BK169.out 8; have hfz30_9 := blk_frozen BK169.out 9; have hfz30_10 := blk_frozen BK169.out 10; have hcz31_0 : w28.cell? ⟨gb170, 0, none⟩ = some (.string (⟨#[]⟩ : ByteArray)) := (blk_cell BK170.out 0).trans rfl; have hcz31_1 : w28.cell? ⟨gb170, 1, none⟩ = some (.string (⟨#[]⟩ : ByteArray)) := (blk_cell BK170.out 1).trans rfl; have hcz31_2 : w28.cell? ⟨gb170, 2, none⟩ = some (.string (⟨#[]⟩ : ByteArray)) := (blk_cell BK170.out 2).trans rfl; have hcz31_3 : w28.cell? ⟨gb170, 3, none⟩ = some (.string (⟨#[]⟩ : ByteArray)) := (blk_cell BK170.out 3).trans rfl; have hcz31_4 : w28.cell? ⟨gb170, 4, none⟩ = some (.int .i64 0) := (blk_cell BK170.out 4).trans rfl; have hcz31_5 : w28.cell? ⟨gb170, 5, none⟩ = some (.int .i64 0) := (blk_cell BK170.out 5).trans rfl; have hcz31_6 : w28.cell? ⟨gb170, 6, none⟩ = some (.int .i64 0) := (blk_cell BK170.out 6).trans rfl; have hcz31_7 : w28.cell? ⟨gb170, 7, none⟩ = some (.bool false) := (blk_cell BK170.out 7).trans rfl; have hcz31_8 : w28.cell? ⟨gb170, 8, none⟩ = some (.bool false) := (blk_cell BK170.out 8).trans rfl; have hcz31_9 : w28.cell? ⟨gb170, 9, none⟩ = some (.bool false) := (blk_cell BK170.out 9).trans rfl; have hcz31_10 : w28.cell? ⟨gb170, 10, none⟩ = some (.int .i64 0) := (blk_cell BK170.out 10).trans rfl; have hfz31_0 := blk_frozen BK170.out 0; have hfz31_1 := blk_frozen BK170.out 1; have hfz31_2 := blk_frozen BK170.out 2; have hfz31_3 := blk_frozen BK170.out 3; have hfz31_4 := blk_frozen BK170.out 4; have hfz31_5 := blk_frozen BK170.out 5; have hfz31_6 := blk_frozen BK170.out 6; have hfz31_7 := blk_frozen BK170.out 7; have hfz31_8 := blk_frozen BK170.out 8; have hfz31_9 := blk_frozen BK170.out 9; have hfz31_10 := blk_frozen BK170.out 10) | ((with_reducible refine gate_dst (N := 3) rfl ?_); refine box_event ?hg (N := 3) ?hd (cs := #[.string (⟨#[]⟩ : ByteArray), .string (⟨#[]⟩ : ByteArray), .string (⟨#[]⟩ : ByteArray), .string (⟨#[]⟩ : ByteArray), .int .i64 0, .int .i64 0, .int .i64 0, .bool false, .bool false, .bool false, .int .i64 0]) (t := 23) ?hr ?_; (case hd => rfl); (case hg => rfl); (case hr => first | (go_simp; done) | (go_simp; rfl)); intro gb171 hg w32 hbox hb; have n0_ := Aside0.mk (blk_below (g := gb169) (o := .cells #[.string t147, .string t148, .string t149, .string t150, .int .i64 t151, .int .i64 t152, .int .i64 t153, .bool t154, .bool t155, .bool t156, .int .i64 t157] 23 (0, 0)) xk hb); have n1_ := Aside0.mk (blk_below (g := gb170) (o := .cells #[.string t158, .string t159, .string t160, .string t161, .int .i64 t162, .int .i64 t163, .int .i64 t164, .bool t165, .bool t166, .bool t167, .int .i64 t168] 23 (0, 0)) xk hb); have n2_ := Aside0.mk (below_step xb hb); have n3_ := Aside0.mk (hbox); have n4_ := Aside0.mk ((by rw [hg]; exact (below_size xb) : w.heap.size ≤ gb171)); have n5_ := Aside0.mk ((by rw [hg]; exact (below_size xb) : w.heap.size ≤ gb171)); have n6_ := Aside0.mk ((by rw [hg]; exact Nat.ne_of_lt (blk_lt (g := gb169) (o := .cells #[.string t147, .string t148, .string t149, .string t150, .int .i64 t151, .int .i64 t152, .int .i64 t153, .bool t154, .bool t155, .bool t156, .int .i64 t157] 23 (0, 0)) xk) : gb169 ≠ gb171)); have n7_ := Aside0.mk ((by rw [hg]; exact Nat.ne_of_gt (blk_lt (g := gb169) (o := .cells #[.string t147, .string t148, .string t149, .string t150, .int .i64 t151, .int .i64 t152, .int .i64 t153, .bool t154, .bool t155, .bool t156, .int .i64 t157] 23 (0, 0)) xk) : gb171 ≠ gb169)); have n8_ := Aside0.mk ((by rw [hg]; exact Nat.ne_of_lt (blk_lt (g := gb170) (o := .cells #[.string t158, .string t159, .string t160, .string t161, .int .i64 t162, .int .i64 t163, .int .i64 t164, .bool t165, .bool t166, .bool t167, .int .i64 t168] 23 (0, 0)) xk) : gb170 ≠ gb171)); have n9_ := Aside0.mk ((by rw [hg]; exact Nat.ne_of_gt (blk_lt (g := gb170) (o := .cells #[.string t158, .string t159, .string t160, .string t161, .int .i64 t162, .int .i64 t163, .int .i64 t164, .bool t165, .bool t166, .bool t167, .int .i64 t168] 23 (0, 0)) xk) : gb171 ≠ gb170)); clear BK169; clear BK170; clear HB; have BK169 := n0_; have BK170 := n1_; have HB := n2_; have BK171 := n3_; have GW171 := n4_; have GE171 := n5_; have NB169_171 := n6_; have NB171_169 := n7_; have NB170_171 := n8_; have NB171_170 := n9_; clear n0_ n1_ n2_ n3_ n4_ n5_ n6_ n7_ n8_ n9_; clear hb hbox hg; have hnb33 := NB171_169.out; have hnc33 := NB169_171.out; have hnb34 := NB171_170.out; have hnc34 := NB170_171.out; have hcz35_0 : w32.cell? ⟨gb171, 0, none⟩ = some (.string (⟨#[]⟩ : ByteArray)) := (blk_cell BK171.out 0).trans rfl; have hcz35_1 : w32.cell? ⟨gb171, 1, none⟩ = some (.string (⟨#[]⟩ : ByteArray)) := (blk_cell BK171.out 1).trans rfl; have hcz35_2 : w32.cell? ⟨gb171, 2, none⟩ = some (.string (⟨#[]⟩ : ByteArray)) := (blk_cell BK171.out 2).trans rfl; have hcz35_3 : w32.cell? ⟨gb171, 3, none⟩ = some (.string (⟨#[]⟩ : ByteArray)) := (blk_cell BK171.out 3).trans rfl; have hcz35_4 : w32.cell? ⟨gb171, 4, none⟩ = some (.int .i64 0) := (blk_cell BK171.out 4).trans rfl; have hcz35_5 : w32.cell? ⟨gb171, 5, none⟩ = some (.int .i64 0) := (blk_cell BK171.out 5).trans rfl; have hcz35_6 : w32.cell? ⟨gb171, 6, none⟩ = some (.int .i64 0) := (blk_cell BK171.out 6).trans rfl; have hcz35_7 : w32.cell? ⟨gb171, 7, none⟩ = some (.bool false) := (blk_cell BK171.out 7).trans rfl; have hcz35_8 : w32.cell? ⟨gb171, 8, none⟩ = some (.bool false) := (blk_cell BK171.out 8).trans rfl; have hcz35_9 : w32.cell? ⟨gb171, 9, none⟩ = some (.bool false) := (blk_cell BK171.out 9).trans rfl; have hcz35_10 : w32.cell? ⟨gb171, 10, none⟩ = some (.int .i64 0) := (blk_cell BK171.out 10).trans rfl; have hfz35_0 := blk_frozen BK171.out 0; have hfz35_1 := blk_frozen BK171.out 1; have hfz35_2 := blk_frozen BK171.out 2; have hfz35_3 := blk_frozen BK171.out 3; have hfz35_4 := blk_frozen BK171.out 4; have hfz35_5 := blk_frozen BK171.out 5; have hfz35_6 := blk_frozen BK171.out 6; have hfz35_7 := blk_frozen BK171.out 7; have hfz35_8 := blk_frozen BK171.out 8; have hfz35_9 := blk_frozen BK171.out 9; have hfz35_10 := blk_frozen BK171.out 10; have hcz36_0 : w32.cell? ⟨gb169, 0, none⟩ = some (.string t147) := (blk_cell BK169.out 0).trans rfl; have hcz36_1 : w32.cell? ⟨gb169, 1, none⟩ = some (.string t148) := (blk_cell BK169.out 1).trans rfl; have hcz36_2 : w32.cell? ⟨gb169, 2, none⟩ = some (.string t149) := (blk_cell BK169.out 2).trans rfl; have hcz36_3 : w32.cell? ⟨gb169, 3, none⟩ = some (.string t150) := (blk_cell BK169.out 3).trans rfl; have hcz36_4 : w32.cell? ⟨gb169, 4, none⟩ = some (.int .i64 t151) := (blk_cell BK169.out 4).trans rfl; have hcz36_5 : w32.cell? ⟨gb169, 5, none⟩ = some (.int .i64 t152) := (blk_cell BK169.out 5).trans rfl; have hcz36_6 : w32.cell? ⟨gb169, 6, none⟩ = some (.int .i64 t153) := (blk_cell BK169.out 6).trans rfl; have hcz36_7 : w32.cell? ⟨gb169, 7, none⟩ = some (.bool t154) := (blk_cell BK169.out 7).trans rfl; have hcz36_8 : w32.cell? ⟨gb169, 8, none⟩ = some (.bool t155) := (blk_cell BK169.out 8).trans rfl; have hcz36_9 : w32.cell? ⟨gb169, 9, none⟩ = some (.bool t156) := (blk_cell BK169.out 9).trans rfl; have hcz36_10 : w32.cell? ⟨gb169, 10, none⟩ = some (.int .i64 t157) := (blk_cell BK169.out 10).trans rfl; have hfz36_0 := blk_frozen BK169.out 0; have hfz36_1 := blk_frozen BK169.out 1; have hfz36_2 := blk_frozen BK169.out 2; have hfz36_3 := blk_frozen BK169.out 3; have hfz36_4 := blk_frozen BK169.out 4; have hfz36_5 := blk_frozen BK169.out 5; have hfz36_6 := blk_frozen BK169.out 6; have hfz36_7 := blk_frozen BK169.out 7; have hfz36_8 := blk_frozen BK169.out 8; have hfz36_9 := blk_frozen BK169.out 9; have hfz36_10 := blk_frozen BK169.out 10) | ((with_reducible refine gate_dst (N := 4) rfl ?_); refine box_event ?hg (N := 4) ?hd (cs := #[.string (⟨#[]⟩ : ByteArray), .string (⟨#[]⟩ : ByteArray), .string (⟨#[]⟩ : ByteArray), .string (⟨#[]⟩ : ByteArray), .int .i64 0, .int .i64 0, .int .i64 0, .bool false, .bool false, .bool false, .int .i64 0]) (t := 23) ?hr ?_; (case hd => rfl); (case hg => rfl); (case hr => first | (go_simp; done) | (go_simp; rfl)); intro gb172 hg w37 hbox hb; have n0_ := blkB BK169 hb; have n1_ := blkB BK170 hb; have n2_ := Aside0.mk (blk_below (g := gb171) (o := .cells #[.string t147, .string t148, .string t149, .string t150, .int .i64 t151, .int .i64 1, .int .i64 t153, .bool t154, .bool t155, .bool t156, .int .i64 t157] 23 (0, 0)) xk hb); have n3_ := Aside0.mk (below_step xb hb); have n4_ := Aside0.mk (hbox); have n5_ := Aside0.mk ((by rw [hg]; exact (below_size xb) : w.heap.size ≤ gb172)); have n6_ := Aside0.mk ((by rw [hg]; exact (below_size xb) : w.heap.size ≤ gb172)); have n7_ := Aside0.mk ((by rw [hg]; exact Nat.ne_of_lt (blkL BK169) : gb169 ≠ gb172)); have n8_ := Aside0.mk ((by rw [hg]; exact Nat.ne_of_gt (blkL BK169) : gb172 ≠ gb169)); have n9_ := Aside0.mk ((by rw [hg]; exact Nat.ne_of_lt (blkL BK170) : gb170 ≠ gb172)); have n10_ := Aside0.mk ((by rw [hg]; exact Nat.ne_of_gt (blkL BK170) : gb172 ≠ gb170)); have n11_ := Aside0.mk ((by rw [hg]; exact Nat.ne_of_lt (blk_lt (g := gb171) (o := .cells #[.string t147, .string t148, .string t149, .string t150, .int .i64 t151, .int .i64 1, .int .i64 t153, .bool t154, .bool t155, .bool t156, .int .i64 t157] 23 (0, 0)) xk) : gb171 ≠ gb172)); have n12_ := Aside0.mk ((by rw [hg]; exact Nat.ne_of_gt (blk_lt (g := gb171) (o := .cells #[.string t147, .string t148, .string t149, .string t150, .int .i64 t151, .int .i64 1, .int .i64 t153, .bool t154, .bool t155, .bool t156, .int .i64 t157] 23 (0, 0)) xk) : gb172 ≠ gb171)); clear BK169; clear BK170; clear BK171; clear HB; have BK169 := n0_; have BK170 := n1_; have BK171 := n2_; have HB := n3_; have BK172 := n4_; have GW172 := n5_; have GE172 := n6_; have NB169_172 := n7_; have NB172_169 := n8_; have NB170_172 := n9_; have NB172_170 := n10_; have NB171_172 := n11_; have NB172_171 := n12_; clear n0_ n1_ n2_ n3_ n4_ n5_ n6_ n7_ n8_ n9_ n10_ n11_ n12_; clear hb hbox hg; have hnb38 := NB172_169.out; have hnc38 := NB169_172.out; have hnb39 := NB172_170.out; have hnc39 := NB170_172.out; have hnb40 := NB172_171.out; have hnc40 := NB171_172.out; have hcz41_0 : w37.cell? ⟨gb172, 0, none⟩ = some (.string (⟨#[]⟩ : ByteArray)) := (blk_cell BK172.out 0).trans rfl; have hcz41_1 : w37.cell? ⟨gb172, 1, none⟩ = some (.string (⟨#[]⟩ : ByteArray)) := (blk_cell BK172.out 1).trans rfl; have hcz41_2 : w37.cell? ⟨gb172, 2, none⟩ = some (.string (⟨#[]⟩ : ByteArray)) := (blk_cell BK172.out 2).trans rfl; have hcz41_3 : w37.cell? ⟨gb172, 3, none⟩ = some (.string (⟨#[]⟩ : ByteArray)) := (blk_cell BK172.out 3).trans rfl; have hcz41_4 : w37.cell? ⟨gb172, 4, none⟩ = some (.int .i64 0) := (blk_cell BK172.out 4).trans rfl; have hcz41_5 : w37.cell? ⟨gb172, 5, none⟩ = some (.int .i64 0) := (blk_cell BK172.out 5).trans rfl; have hcz41_6 : w37.cell? ⟨gb172, 6, none⟩ = some (.int .i64 0) := (blk_cell BK172.out 6).trans rfl; have hcz41_7 : w37.cell? ⟨gb172, 7, none⟩ = some (.bool false) := (blk_cell BK172.out 7).trans rfl; have hcz41_8 : w37.cell? ⟨gb172, 8, none⟩ = some (.bool false) := (blk_cell BK172.out 8).trans rfl; have hcz41_9 : w37.cell? ⟨gb172, 9, none⟩ = some (.bool false) := (blk_cell BK172.out 9).trans rfl; have hcz41_10 : w37.cell? ⟨gb172, 10, none⟩ = some (.int .i64 0) := (blk_cell BK172.out 10).trans rfl; have hfz41_0 := blk_frozen BK172.out 0; have hfz41_1 := blk_frozen BK172.out 1; have hfz41_2 := blk_frozen BK172.out 2; have hfz41_3 := blk_frozen BK172.out 3; have hfz41_4 := blk_frozen BK172.out 4; have hfz41_5 := blk_frozen BK172.out 5; have hfz41_6 := blk_frozen BK172.out 6; have hfz41_7 := blk_frozen BK172.out 7; have hfz41_8 := blk_frozen BK172.out 8; have hfz41_9 := blk_frozen BK172.out 9; have hfz41_10 := blk_frozen BK172.out 10) | ((with_reducible refine gate_dst (N := 5) rfl ?_); refine box_event ?hg (N := 5) ?hd (cs := #[.bool false, .string (⟨#[]⟩ : ByteArray), .string (⟨#[]⟩ : ByteArray)]) (t := 28) ?hr ?_; (case hd => rfl); (case hg => rfl); (case hr => first | (go_simp; done) | (go_simp; rfl)); intro gb173 hg w42 hbox hb; have n0_ := blkB BK169 hb; have n1_ := blkB BK170 hb; have n2_ := blkB BK171 hb; have n3_ := Aside0.mk (blk_below (g := gb172) (o := .cells #[.string t147, .string t148, .string t149, .string t150, .int .i64 t151, .int .i64 t152, .int .i64 t153, .bool true, .bool t155, .bool t156, .int .i64 t157] 23 (0, 0)) xk hb); have n4_ := Aside0.mk (below_step xb hb); have n5_ := Aside0.mk (hbox); have n6_ := Aside0.mk ((by rw [hg]; exact (below_size xb) : w.heap.size ≤ gb173)); have n7_ := Aside0.mk ((by rw [hg]; exact (below_size xb) : w.heap.size ≤ gb173)); have n8_ := Aside0.mk ((by rw [hg]; exact Nat.ne_of_lt (blkL BK169) : gb169 ≠ gb173)); have n9_ := Aside0.mk ((by rw [hg]; exact Nat.ne_of_gt (blkL BK169) : gb173 ≠ gb169)); have n10_ := Aside0.mk ((by rw [hg]; exact Nat.ne_of_lt (blkL BK170) : gb170 ≠ gb173)); have n11_ := Aside0.mk ((by rw [hg]; exact Nat.ne_of_gt (blkL BK170) : gb173 ≠ gb170)); have n12_ := Aside0.mk ((by rw [hg]; exact Nat.ne_of_lt (blkL BK171) : gb171 ≠ gb173)); have n13_ := Aside0.mk ((by rw [hg]; exact Nat.ne_of_gt (blkL BK171) : gb173 ≠ gb171)); have n14_ := Aside0.mk ((by rw [hg]; exact Nat.ne_of_lt (blk_lt (g := gb172) (o := .cells #[.string t147, .string t148, .string t149, .string t150, .int .i64 t151, .int .i64 t152, .int .i64 t153, .bool true, .bool t155, .bool t156, .int .i64 t157] 23 (0, 0)) xk) : gb172 ≠ gb173)); have n15_ := Aside0.mk ((by rw [hg]; exact Nat.ne_of_gt (blk_lt (g := gb172) (o := .cells #[.string t147, .string t148, .string t149, .string t150, .int .i64 t151, .int .i64 t152, .int .i64 t153, .bool true, .bool t155, .bool t156, .int .i64 t157] 23 (0, 0)) xk) : gb173 ≠ gb172)); clear BK169; clear BK170; clear BK171; clear BK172; clear HB; have BK169 := n0_; have BK170 := n1_; have BK171 := n2_; have BK172 := n3_; have HB := n4_; have BK173 := n5_; have GW173 := n6_; have GE173 := n7_; have NB169_173 := n8_; have NB173_169 := n9_; have NB170_173 := n10_; have NB173_170 := n11_; have NB171_173 := n12_; have NB173_171 := n13_; have NB172_173 := n14_; have NB173_172 := n15_; clear n0_ n1_ n2_ n3_ n4_ n5_ n6_ n7_ n8_ n9_ n10_ n11_ n12_ n13_ n14_ n15_; clear hb hbox hg; have hnb43 := NB173_169.out; have hnc43 := NB169_173.out; have hnb44 := NB173_170.out; have hnc44 := NB170_173.out; have hnb45 := NB173_171.out; have hnc45 := NB171_173.out; have hnb46 := NB173_172.out; have hnc46 := NB172_173.out; have hcz47_0 : w42.cell? ⟨gb173, 0, none⟩ = some (.bool false) := (blk_cell BK173.out 0).trans rfl; have hcz47_1 : w42.cell? ⟨gb173, 1, none⟩ = some (.string (⟨#[]⟩ : ByteArray)) := (blk_cell BK173.out 1).trans rfl; have hcz47_2 : w42.cell? ⟨gb173, 2, none⟩ = some (.string (⟨#[]⟩ : ByteArray)) := (blk_cell BK173.out 2).trans rfl; have hfz47_0 := blk_frozen BK173.out 0; have hfz47_1 := blk_frozen BK173.out 1; have hfz47_2 := blk_frozen BK173.out 2))
                    have n0_ : Aside0 ((((w42.setCell ⟨gb173, 0, none⟩ (.bool false)).setCell ⟨gb173, 1, none⟩ (.string (⟨#[121, 46, 97]⟩ : ByteArray))).setCell ⟨gb173, 2, none⟩ (.string (⟨#[47, 122]⟩ : ByteArray))).heap[gb169]? = some (.cells #[.string t147, .string t148, .string t149, .string t150, .int .i64 t151, .int .i64 t152, .int .i64 t153, .bool t154, .bool t155, .bool t156, .int .i64 t157] 23 (0, 0))) := ⟨xk⟩
                    have n1_ : Aside0 ((((w42.setCell ⟨gb173, 0, none⟩ (.bool false)).setCell ⟨gb173, 1, none⟩ (.string (⟨#[121, 46, 97]⟩ : ByteArray))).setCell ⟨gb173, 2, none⟩ (.string (⟨#[47, 122]⟩ : ByteArray))).heap[gb170]? = some (.cells #[.string t158, .string t159, .string t160, .string t161, .int .i64 t162, .int .i64 t163, .int .i64 t164, .bool t165, .bool t166, .bool t167, .int .i64 t168] 23 (0, 0))) := ⟨xk⟩
                    have n2_ : Aside0 ((((w42.setCell ⟨gb173, 0, none⟩ (.bool false)).setCell ⟨gb173, 1, none⟩ (.string (⟨#[121, 46, 97]⟩ : ByteArray))).setCell ⟨gb173, 2, none⟩ (.string (⟨#[47, 122]⟩ : ByteArray))).heap[gb171]? = some (.cells #[.string t147, .string t148, .string t149, .string t150, .int .i64 t151, .int .i64 1, .int .i64 t153, .bool t154, .bool t155, .bool t156, .int .i64 t157] 23 (0, 0))) := ⟨xk⟩
                    have n3_ : Aside0 ((((w42.setCell ⟨gb173, 0, none⟩ (.bool false)).setCell ⟨gb173, 1, none⟩ (.string (⟨#[121, 46, 97]⟩ : ByteArray))).setCell ⟨gb173, 2, none⟩ (.string (⟨#[47, 122]⟩ : ByteArray))).heap[gb172]? = some (.cells #[.string t147, .string t148, .string t149, .string t150, .int .i64 t151, .int .i64 t152, .int .i64 t153, .bool true, .bool t155, .bool t156, .int .i64 t157] 23 (0, 0))) := ⟨xk⟩
                    have n4_ : Aside0 ((((w42.setCell ⟨gb173, 0, none⟩ (.bool false)).setCell ⟨gb173, 1, none⟩ (.string (⟨#[121, 46, 97]⟩ : ByteArray))).setCell ⟨gb173, 2, none⟩ (.string (⟨#[47, 122]⟩ : ByteArray))).heap[gb173]? = some (.cells #[.bool false, .string (⟨#[121, 46, 97]⟩ : ByteArray), .string (⟨#[47, 122]⟩ : ByteArray)] 28 (0, 0))) := ⟨xk⟩
                    have n5_ : Aside0 (Below w.heap.size w (((w42.setCell ⟨gb173, 0, none⟩ (.bool false)).setCell ⟨gb173, 1, none⟩ (.string (⟨#[121, 46, 97]⟩ : ByteArray))).setCell ⟨gb173, 2, none⟩ (.string (⟨#[47, 122]⟩ : ByteArray)))) := ⟨xb⟩
                    (try clear BK169)
                    (try clear BK170)
                    (try clear BK171)
                    (try clear BK172)
                    (try clear BK173)
                    (try clear HB)
                    generalize (((w42.setCell ⟨gb173, 0, none⟩ (.bool false)).setCell ⟨gb173, 1, none⟩ (.string (⟨#[121, 46, 97]⟩ : ByteArray))).setCell ⟨gb173, 2, none⟩ (.string (⟨#[47, 122]⟩ : ByteArray))) = w48 at n0_ n1_ n2_ n3_ n4_ n5_ ⊢
                    have BK169 := n0_
                    have BK170 := n1_
                    have BK171 := n2_
                    have BK172 := n3_
                    have BK173 := n4_
                    have HB := n5_
                    clear n0_ n1_ n2_ n3_ n4_ n5_
                    have n0_ := Aside0.mk (blk_drew BK169.out)
                    have n1_ := Aside0.mk (blk_drew BK170.out)
                    have n2_ := Aside0.mk (blk_drew BK171.out)
                    have n3_ := Aside0.mk (blk_drew BK172.out)
                    have n4_ := Aside0.mk (blk_drew BK173.out)
                    have n5_ := Aside0.mk (below_drew1 HB.out)
                    clear BK169
                    clear BK170
                    clear BK171
                    clear BK172
                    clear BK173
                    clear HB
                    have BK169 := n0_
                    have BK170 := n1_
                    have BK171 := n2_
                    have BK172 := n3_
                    have BK173 := n4_
                    have HB := n5_
                    clear n0_ n1_ n2_ n3_ n4_ n5_
                    refine start_ (n := 56) (S := fun w' => w'.cell? ⟨gb169, 0, none⟩ = some (.string t147) ∧ w'.cell? ⟨gb169, 1, none⟩ = some (.string t148) ∧ w'.cell? ⟨gb169, 2, none⟩ = some (.string t149) ∧ w'.cell? ⟨gb169, 3, none⟩ = some (.string t150) ∧ w'.cell? ⟨gb169, 4, none⟩ = some (.int .i64 t151) ∧ w'.cell? ⟨gb169, 5, none⟩ = some (.int .i64 t152) ∧ w'.cell? ⟨gb169, 6, none⟩ = some (.int .i64 t153) ∧ w'.cell? ⟨gb169, 7, none⟩ = some (.bool t154) ∧ w'.cell? ⟨gb169, 8, none⟩ = some (.bool t155) ∧ w'.cell? ⟨gb169, 9, none⟩ = some (.bool t156) ∧ w'.cell? ⟨gb169, 10, none⟩ = some (.int .i64 t157) ∧ w'.cell? ⟨gb170, 0, none⟩ = some (.string t158) ∧ w'.cell? ⟨gb170, 1, none⟩ = some (.string t159) ∧ w'.cell? ⟨gb170, 2, none⟩ = some (.string t160) ∧ w'.cell? ⟨gb170, 3, none⟩ = some (.string t161) ∧ w'.cell? ⟨gb170, 4, none⟩ = some (.int .i64 t162) ∧ w'.cell? ⟨gb170, 5, none⟩ = some (.int .i64 t163) ∧ w'.cell? ⟨gb170, 6, none⟩ = some (.int .i64 t164) ∧ w'.cell? ⟨gb170, 7, none⟩ = some (.bool t165) ∧ w'.cell? ⟨gb170, 8, none⟩ = some (.bool t166) ∧ w'.cell? ⟨gb170, 9, none⟩ = some (.bool t167) ∧ w'.cell? ⟨gb170, 10, none⟩ = some (.int .i64 t168) ∧ w'.cell? ⟨gb171, 0, none⟩ = some (.string t147) ∧ w'.cell? ⟨gb171, 1, none⟩ = some (.string t148) ∧ w'.cell? ⟨gb171, 2, none⟩ = some (.string t149) ∧ w'.cell? ⟨gb171, 3, none⟩ = some (.string t150) ∧ w'.cell? ⟨gb171, 4, none⟩ = some (.int .i64 t151) ∧ w'.cell? ⟨gb171, 5, none⟩ = some (.int .i64 1) ∧ w'.cell? ⟨gb171, 6, none⟩ = some (.int .i64 t153) ∧ w'.cell? ⟨gb171, 7, none⟩ = some (.bool t154) ∧ w'.cell? ⟨gb171, 8, none⟩ = some (.bool t155) ∧ w'.cell? ⟨gb171, 9, none⟩ = some (.bool t156) ∧ w'.cell? ⟨gb171, 10, none⟩ = some (.int .i64 t157) ∧ w'.cell? ⟨gb173, 0, none⟩ = some (.bool false) ∧ w'.cell? ⟨gb173, 1, none⟩ = some (.string (⟨#[121, 46, 97]⟩ : ByteArray)) ∧ w'.cell? ⟨gb173, 2, none⟩ = some (.string (⟨#[47, 122]⟩ : ByteArray)) ∧ w'.cell? ⟨gb172, 0, none⟩ = some (.string t147) ∧ w'.cell? ⟨gb172, 1, none⟩ = some (.string t148) ∧ w'.cell? ⟨gb172, 2, none⟩ = some (.string t149) ∧ w'.cell? ⟨gb172, 3, none⟩ = some (.string t150) ∧ w'.cell? ⟨gb172, 4, none⟩ = some (.int .i64 t151) ∧ w'.cell? ⟨gb172, 5, none⟩ = some (.int .i64 t152) ∧ w'.cell? ⟨gb172, 6, none⟩ = some (.int .i64 t153) ∧ w'.cell? ⟨gb172, 7, none⟩ = some (.bool true) ∧ w'.cell? ⟨gb172, 8, none⟩ = some (.bool t155) ∧ w'.cell? ⟨gb172, 9, none⟩ = some (.bool t156) ∧ w'.cell? ⟨gb172, 10, none⟩ = some (.int .i64 t157)) (ds := []) #[false, false, false, false, false, false, false, false, false, false, false, false, false, false, false, false, false, false, false, false, false, false, false, false, false, false, false, false, false, false, false, false, false, false, false, false, false, false, false, false, false, false, false, false, false, false, false, false, false, false, false, false, false, false, false, false] (by kernel_rfl) rfl rfl ⟨(blk_cell BK169.out 0).trans rfl, (blk_cell BK169.out 1).trans rfl, (blk_cell BK169.out 2).trans rfl, (blk_cell BK169.out 3).trans rfl, (blk_cell BK169.out 4).trans rfl, (blk_cell BK169.out 5).trans rfl, (blk_cell BK169.out 6).trans rfl, (blk_cell BK169.out 7).trans rfl, (blk_cell BK169.out 8).trans rfl, (blk_cell BK169.out 9).trans rfl, (blk_cell BK169.out 10).trans rfl, (blk_cell BK170.out 0).trans rfl, (blk_cell BK170.out 1).trans rfl, (blk_cell BK170.out 2).trans rfl, (blk_cell BK170.out 3).trans rfl, (blk_cell BK170.out 4).trans rfl, (blk_cell BK170.out 5).trans rfl, (blk_cell BK170.out 6).trans rfl, (blk_cell BK170.out 7).trans rfl, (blk_cell BK170.out 8).trans rfl, (blk_cell BK170.out 9).trans rfl, (blk_cell BK170.out 10).trans rfl, (blk_cell BK171.out 0).trans rfl, (blk_cell BK171.out 1).trans rfl, (blk_cell BK171.out 2).trans rfl, (blk_cell BK171.out 3).trans rfl, (blk_cell BK171.out 4).trans rfl, (blk_cell BK171.out 5).trans rfl, (blk_cell BK171.out 6).trans rfl, (blk_cell BK171.out 7).trans rfl, (blk_cell BK171.out 8).trans rfl, (blk_cell BK171.out 9).trans rfl, (blk_cell BK171.out 10).trans rfl, (blk_cell BK173.out 0).trans rfl, (blk_cell BK173.out 1).trans rfl, (blk_cell BK173.out 2).trans rfl, (blk_cell BK172.out 0).trans rfl, (blk_cell BK172.out 1).trans rfl, (blk_cell BK172.out 2).trans rfl, (blk_cell BK172.out 3).trans rfl, (blk_cell BK172.out 4).trans rfl, (blk_cell BK172.out 5).trans rfl, (blk_cell BK172.out 6).trans rfl, (blk_cell BK172.out 7).trans rfl, (blk_cell BK172.out 8).trans rfl, (blk_cell BK172.out 9).trans rfl, (blk_cell BK172.out 10).trans rfl⟩ (fun hHeld => ?_); refine with_tabW cracknellaw13_alive.tab7 cracknellaw13_alive.bits7 (fun HT_ HW_ => ?_)
                    generalize w48.drew = w49 at BK169 BK170 BK171 BK172 BK173 HB hHeld ⊢
                    refine take_ (i := 0) (N := some 13) (v := ?_) (a' := ?_) #[true, false, false, false, false, false, false, false, false, false, false, false, false, false, false, false, false, false, false, false, false, false, false, false, false, false, false, false, false, false, false, false, false, false, false, false, false, false, false, false, false, false, false, false, false, false, false, false, false, false, false, false, false, false, false, false] rfl rfl (take_ofW HT_.out HW_.out (by kernel_rfl)) (fun _ _ _ h => h) (Or.inl ⟨by rfl, ?_⟩) hHeld ?_ ?_
                    rotate_left
                    · rintro w' ⟨s0, s1, s2, s3, s4, s5, s6, s7, s8, s9, s10, s11, s12, s13, s14, s15, s16, s17, s18, s19, s20, s21, s22, s23, s24, s25, s26, s27, s28, s29, s30, s31, s32, s33, s34, s35, s36, s37, s38, s39, s40, s41, s42, s43, s44, s45, s46⟩
                      go_simp
                      with_reducible rfl
                    rotate_left
                    · simp only [Act.put, List.setIfInBounds_toArray, List.set_cons_zero, List.set_cons_succ, i64_w, i32_w]
                      rfl
                    refine one_ (i := 1) (N := some 14) #[true, true, false, false, false, false, false, false, false, false, false, false, false, false, false, false, false, false, false, false, false, false, false, false, false, false, false, false, false, false, false, false, false, false, false, false, false, false, false, false, false, false, false, false, false, false, false, false, false, false, false, false, false, false, false, false] rfl rfl (one_of HT_.out (by kernel_rfl)) (by decide) (fun K hK => ?_)
                    refine goes_ Tryz.func5 (by kernel_rfl) rfl #[.agg #[.string t147, .string t148, .string t149, .string t150, .int .i64 t151, .int .i64 t152, .int .i64 t153, .bool t154, .bool t155, .bool t156, .int .i64 t157]] (by rfl) rfl rfl xg ?_
                    with_reducible refine (cookie_Right.calls k t147 t148 t149 t150 t151 t152 t153 t154 t155 t156 t157 true _ (Aside0.mk (by first | exact hG.out | ((with_reducible repeat (first | apply LaidG.drewN | apply LaidG.drew | apply LaidG.alloc)); exact hG.out) | exact LaidG.below hG.out xb)) A3.out).mono ?_
                    rintro e w50 ⟨rfl, hb⟩
                    refine ⟨_, rfl, ?_⟩
                    have n0_ := blkB BK169 hb
                    have n1_ := blkB BK170 hb
                    have n2_ := blkB BK171 hb
                    have n3_ := blkB BK172 hb
                    have n4_ := blkB BK173 hb
                    have n5_ := Aside0.mk (below_step xb hb)
                    clear BK169
                    clear BK170
                    clear BK171
                    clear BK172
                    clear BK173
                    clear HB
                    have BK169 := n0_
                    have BK170 := n1_
                    have BK171 := n2_
                    have BK172 := n3_
                    have BK173 := n4_
                    have HB := n5_
                    clear n0_ n1_ n2_ n3_ n4_ n5_
                    (try clear hb)
                    (try clear hb2)
                    (try clear hk)
                    (try clear hi)
                    refine hK.out _ _ xc (fun hHeld => ?_)
                    clear hK K
                    refine norm_ (a' := ?_) ?_ ?_
                    rotate_left
                    · show Act.put _ (some 14) _ = _
                      simp only [Act.put, List.setIfInBounds_toArray, List.set_cons_zero, List.set_cons_succ, i64_w, i32_w]
                      rfl
                    refine pure_ (i := 2) (N := some 15) (v := ?_) (a' := ?_) #[true, true, true, false, false, false, false, false, false, false, false, false, false, false, false, false, false, false, false, false, false, false, false, false, false, false, false, false, false, false, false, false, false, false, false, false, false, false, false, false, false, false, false, false, false, false, false, false, false, false, false, false, false, false, false, false] rfl rfl (any_of HT_.out (by kernel_rfl)) (fun _ _ _ h => h) (Or.inl ⟨by rfl, ?_⟩) ?_ ?_
                    rotate_left
                    · intro w'
                      go_simp
                      with_reducible rfl
                    rotate_left
                    · simp only [Act.put, List.setIfInBounds_toArray, List.set_cons_zero, List.set_cons_succ, i64_w, i32_w]
                      rfl
                    refine one_ (i := 3) (N := some 16) #[true, true, true, true, false, false, false, false, false, false, false, false, false, false, false, false, false, false, false, false, false, false, false, false, false, false, false, false, false, false, false, false, false, false, false, false, false, false, false, false, false, false, false, false, false, false, false, false, false, false, false, false, false, false, false, false] rfl rfl (one_of HT_.out (by kernel_rfl)) (by decide) (fun K hK => ?_)
                    refine goes_ Tryz.func7 (by kernel_rfl) rfl #[.string (⟨#[97]⟩ : ByteArray), .string (⟨#[]⟩ : ByteArray)] (by rfl) rfl rfl xg ?_
                    with_reducible refine (cracknellaw13_one.calls (⟨#[97]⟩ : ByteArray) (⟨#[]⟩ : ByteArray) t175 t176 t177 t178 t179 t180 t181 t182 t183 t184 t185 _ A5.out).mono ?_
                    rintro e w51 ⟨rfl, hb⟩
                    refine ⟨_, rfl, ?_⟩
                    have n0_ := blkB BK169 hb
                    have n1_ := blkB BK170 hb
                    have n2_ := blkB BK171 hb
                    have n3_ := blkB BK172 hb
                    have n4_ := blkB BK173 hb
                    have n5_ := Aside0.mk (below_step xb hb)
                    clear BK169
                    clear BK170
                    clear BK171
                    clear BK172
                    clear BK173
                    clear HB
                    have BK169 := n0_
                    have BK170 := n1_
                    have BK171 := n2_
                    have BK172 := n3_
                    have BK173 := n4_
                    have HB := n5_
                    clear n0_ n1_ n2_ n3_ n4_ n5_
                    (try clear hb)
                    (try clear hb2)
                    (try clear hk)
                    (try clear hi)
                    refine hK.out _ _ xc (fun hHeld => ?_)
                    clear hK K
                    refine norm_ (a' := ?_) ?_ ?_
                    rotate_left
                    · show Act.put _ (some 16) _ = _
                      simp only [Act.put, List.setIfInBounds_toArray, List.set_cons_zero, List.set_cons_succ, i64_w, i32_w]
                      rfl
                    refine one_ (i := 4) (N := some 17) #[true, true, true, true, true, false, false, false, false, false, false, false, false, false, false, false, false, false, false, false, false, false, false, false, false, false, false, false, false, false, false, false, false, false, false, false, false, false, false, false, false, false, false, false, false, false, false, false, false, false, false, false, false, false, false, false] rfl rfl (one_of HT_.out (by kernel_rfl)) (by decide) (fun K hK => ?_)
                    refine goes_ Tryz.func5 (by kernel_rfl) rfl #[.agg #[.string t175, .string t176, .string t177, .string t178, .int .i64 t179, .int .i64 t180, .int .i64 t181, .bool t182, .bool t183, .bool t184, .int .i64 t185]] (by rfl) rfl rfl xg ?_
                    with_reducible refine (cookie_Right.calls k t175 t176 t177 t178 t179 t180 t181 t182 t183 t184 t185 false _ (Aside0.mk (by first | exact hG.out | ((with_reducible repeat (first | apply LaidG.drewN | apply LaidG.drew | apply LaidG.alloc)); exact hG.out) | exact LaidG.below hG.out xb)) A6.out).mono ?_
                    rintro e w52 ⟨rfl, hb⟩
                    refine ⟨_, rfl, ?_⟩
                    have n0_ := blkB BK169 hb
                    have n1_ := blkB BK170 hb
                    have n2_ := blkB BK171 hb
                    have n3_ := blkB BK172 hb
                    have n4_ := blkB BK173 hb
                    have n5_ := Aside0.mk (below_step xb hb)
                    clear BK169
                    clear BK170
                    clear BK171
                    clear BK172
                    clear BK173
                    clear HB
                    have BK169 := n0_
                    have BK170 := n1_
                    have BK171 := n2_
                    have BK172 := n3_
                    have BK173 := n4_
                    have HB := n5_
                    clear n0_ n1_ n2_ n3_ n4_ n5_
                    (try clear hb)
                    (try clear hb2)
                    (try clear hk)
                    (try clear hi)
                    refine hK.out _ _ xc (fun hHeld => ?_)
                    clear hK K
                    refine norm_ (a' := ?_) ?_ ?_
                    rotate_left
                    · show Act.put _ (some 17) _ = _
                      simp only [Act.put, List.setIfInBounds_toArray, List.set_cons_zero, List.set_cons_succ, i64_w, i32_w]
                      rfl
                    refine pure_ (i := 5) (N := some 18) (v := ?_) (a' := ?_) #[true, true, true, true, true, true, false, false, false, false, false, false, false, false, false, false, false, false, false, false, false, false, false, false, false, false, false, false, false, false, false, false, false, false, false, false, false, false, false, false, false, false, false, false, false, false, false, false, false, false, false, false, false, false, false, false] rfl rfl (any_of HT_.out (by kernel_rfl)) (fun _ _ _ h => h) (Or.inl ⟨by rfl, ?_⟩) ?_ ?_
                    rotate_left
                    · intro w'
                      go_simp
                      with_reducible rfl
                    rotate_left
                    · simp only [Act.put, List.setIfInBounds_toArray, List.set_cons_zero, List.set_cons_succ, i64_w, i32_w]
                      rfl
                    refine pure_ (i := 6) (N := some 19) (v := ?_) (a' := ?_) #[true, true, true, true, true, true, true, false, false, false, false, false, false, false, false, false, false, false, false, false, false, false, false, false, false, false, false, false, false, false, false, false, false, false, false, false, false, false, false, false, false, false, false, false, false, false, false, false, false, false, false, false, false, false, false, false] rfl rfl (any_of HT_.out (by kernel_rfl)) (fun _ _ _ h => h) (Or.inl ⟨by rfl, ?_⟩) ?_ ?_
                    rotate_left
                    · intro w'
                      go_simp
                      with_reducible rfl
                    rotate_left
                    · simp only [Act.put, List.setIfInBounds_toArray, List.set_cons_zero, List.set_cons_succ, i64_w, i32_w]
                      rfl
                    refine pure_ (i := 7) (N := some 20) (v := ?_) (a' := ?_) #[true, true, true, true, true, true, true, true, false, false, false, false, false, false, false, false, false, false, false, false, false, false, false, false, false, false, false, false, false, false, false, false, false, false, false, false, false, false, false, false, false, false, false, false, false, false, false, false, false, false, false, false, false, false, false, false] rfl rfl (any_of HT_.out (by kernel_rfl)) (fun _ _ _ h => h) (Or.inl ⟨by rfl, ?_⟩) ?_ ?_
                    rotate_left
                    · intro w'
                      go_simp
                      with_reducible rfl
                    rotate_left
                    · simp only [Act.put, List.setIfInBounds_toArray, List.set_cons_zero, List.set_cons_succ, i64_w, i32_w]
                      rfl
                    refine pure_ (i := 10) (N := some 23) (v := ?_) (a' := ?_) #[true, true, true, true, true, true, true, true, false, false, true, false, false, false, false, false, false, false, false, false, false, false, false, false, false, false, false, false, false, false, false, false, false, false, false, false, false, false, false, false, false, false, false, false, false, false, false, false, false, false, false, false, false, false, false, false] rfl rfl (any_of HT_.out (by kernel_rfl)) (fun _ _ _ h => h) (Or.inl ⟨by rfl, ?_⟩) ?_ ?_
                    rotate_left
                    · intro w'
                      go_simp
                      with_reducible rfl
                    rotate_left
                    · simp only [Act.put, List.setIfInBounds_toArray, List.set_cons_zero, List.set_cons_succ, i64_w, i32_w]
                      rfl
                    refine take_ (i := 8) (N := some 21) (v := ?_) (a' := ?_) #[true, true, true, true, true, true, true, true, true, false, true, false, false, false, false, false, false, false, false, false, false, false, false, false, false, false, false, false, false, false, false, false, false, false, false, false, false, false, false, false, false, false, false, false, false, false, false, false, false, false, false, false, false, false, false, false] rfl rfl (take_ofW HT_.out HW_.out (by kernel_rfl)) (fun _ _ _ h => h) (Or.inl ⟨by rfl, ?_⟩) hHeld ?_ ?_
                    rotate_left
                    · rintro w' ⟨s0, s1, s2, s3, s4, s5, s6, s7, s8, s9, s10, s11, s12, s13, s14, s15, s16, s17, s18, s19, s20, s21, s22, s23, s24, s25, s26, s27, s28, s29, s30, s31, s32, s33, s34, s35, s36, s37, s38, s39, s40, s41, s42, s43, s44, s45, s46⟩
                      go_simp
                      with_reducible rfl
                    rotate_left
                    · simp only [Act.put, List.setIfInBounds_toArray, List.set_cons_zero, List.set_cons_succ, i64_w, i32_w]
                      rfl
                    refine one_ (i := 9) (N := some 22) #[true, true, true, true, true, true, true, true, true, true, true, false, false, false, false, false, false, false, false, false, false, false, false, false, false, false, false, false, false, false, false, false, false, false, false, false, false, false, false, false, false, false, false, false, false, false, false, false, false, false, false, false, false, false, false, false] rfl rfl (one_of HT_.out (by kernel_rfl)) (by decide) (fun K hK => ?_)
                    refine goes_ Tryz.func8 (by kernel_rfl) rfl #[.agg #[.string t147, .string t148, .string t149, .string t150, .int .i64 t151, .int .i64 t152, .int .i64 t153, .bool t154, .bool t155, .bool t156, .int .i64 t157]] (by rfl) rfl rfl xg ?_
                    with_reducible refine (PrintC.cookie_Of.calls t147 t148 t149 t150 t151 t152 t153 t154 t155 t156 t157 t187 t188 t189 _ A8.out).mono ?_
                    rintro e w53 ⟨rfl, hb⟩
                    refine ⟨_, rfl, ?_⟩
                    have n0_ := blkB BK169 hb
                    have n1_ := blkB BK170 hb
                    have n2_ := blkB BK171 hb
                    have n3_ := blkB BK172 hb
                    have n4_ := blkB BK173 hb
                    have n5_ := Aside0.mk (below_step xb hb)
                    clear BK169
                    clear BK170
                    clear BK171
                    clear BK172
                    clear BK173
                    clear HB
                    have BK169 := n0_
                    have BK170 := n1_
                    have BK171 := n2_
                    have BK172 := n3_
                    have BK173 := n4_
                    have HB := n5_
                    clear n0_ n1_ n2_ n3_ n4_ n5_
                    (try clear hb)
                    (try clear hb2)
                    (try clear hk)
                    (try clear hi)
                    refine hK.out _ _ xc (fun hHeld => ?_)
                    clear hK K
                    refine norm_ (a' := ?_) ?_ ?_
                    rotate_left
                    · show Act.put _ (some 22) _ = _
                      simp only [Act.put, List.setIfInBounds_toArray, List.set_cons_zero, List.set_cons_succ, i64_w, i32_w]
                      rfl
                    refine pure_ (i := 11) (N := some 24) (v := ?_) (a' := ?_) #[true, true, true, true, true, true, true, true, true, true, true, true, false, false, false, false, false, false, false, false, false, false, false, false, false, false, false, false, false, false, false, false, false, false, false, false, false, false, false, false, false, false, false, false, false, false, false, false, false, false, false, false, false, false, false, false] rfl rfl (any_of HT_.out (by kernel_rfl)) (fun _ _ _ h => h) (Or.inl ⟨by rfl, ?_⟩) ?_ ?_
                    rotate_left
                    · intro w'
                      go_simp
                      with_reducible rfl
                    rotate_left
                    · simp only [Act.put, List.setIfInBounds_toArray, List.set_cons_zero, List.set_cons_succ, i64_w, i32_w]
                      rfl
                    refine pure_ (i := 12) (N := some 25) (v := ?_) (a' := ?_) #[true, true, true, true, true, true, true, true, true, true, true, true, true, false, false, false, false, false, false, false, false, false, false, false, false, false, false, false, false, false, false, false, false, false, false, false, false, false, false, false, false, false, false, false, false, false, false, false, false, false, false, false, false, false, false, false] rfl rfl (any_of HT_.out (by kernel_rfl)) (fun _ _ _ h => h) (Or.inl ⟨by rfl, ?_⟩) ?_ ?_
                    rotate_left
                    · intro w'
                      go_simp
                      with_reducible rfl
                    rotate_left
                    · simp only [Act.put, List.setIfInBounds_toArray, List.set_cons_zero, List.set_cons_succ, i64_w, i32_w]
                      rfl
                    refine pure_ (i := 13) (N := some 26) (v := ?_) (a' := ?_) #[true, true, true, true, true, true, true, true, true, true, true, true, true, true, false, false, false, false, false, false, false, false, false, false, false, false, false, false, false, false, false, false, false, false, false, false, false, false, false, false, false, false, false, false, false, false, false, false, false, false, false, false, false, false, false, false] rfl rfl (any_of HT_.out (by kernel_rfl)) (fun _ _ _ h => h) (Or.inl ⟨by rfl, ?_⟩) ?_ ?_
                    rotate_left
                    · intro w'
                      go_simp
                      with_reducible rfl
                    rotate_left
                    · simp only [Act.put, List.setIfInBounds_toArray, List.set_cons_zero, List.set_cons_succ, i64_w, i32_w]
                      rfl
                    refine take_ (i := 14) (N := some 27) (v := ?_) (a' := ?_) #[true, true, true, true, true, true, true, true, true, true, true, true, true, true, true, false, false, false, false, false, false, false, false, false, false, false, false, false, false, false, false, false, false, false, false, false, false, false, false, false, false, false, false, false, false, false, false, false, false, false, false, false, false, false, false, false] rfl rfl (take_ofW HT_.out HW_.out (by kernel_rfl)) (fun _ _ _ h => h) (Or.inl ⟨by rfl, ?_⟩) hHeld ?_ ?_
                    rotate_left
                    · rintro w' ⟨s0, s1, s2, s3, s4, s5, s6, s7, s8, s9, s10, s11, s12, s13, s14, s15, s16, s17, s18, s19, s20, s21, s22, s23, s24, s25, s26, s27, s28, s29, s30, s31, s32, s33, s34, s35, s36, s37, s38, s39, s40, s41, s42, s43, s44, s45, s46⟩
                      go_simp
                      with_reducible rfl
                    rotate_left
                    · simp only [Act.put, List.setIfInBounds_toArray, List.set_cons_zero, List.set_cons_succ, i64_w, i32_w]
                      rfl
                    refine take_ (i := 16) (N := some 29) (v := ?_) (a' := ?_) #[true, true, true, true, true, true, true, true, true, true, true, true, true, true, true, false, true, false, false, false, false, false, false, false, false, false, false, false, false, false, false, false, false, false, false, false, false, false, false, false, false, false, false, false, false, false, false, false, false, false, false, false, false, false, false, false] rfl rfl (take_ofW HT_.out HW_.out (by kernel_rfl)) (fun _ _ _ h => h) (Or.inl ⟨by rfl, ?_⟩) hHeld ?_ ?_
                    rotate_left
                    · rintro w' ⟨s0, s1, s2, s3, s4, s5, s6, s7, s8, s9, s10, s11, s12, s13, s14, s15, s16, s17, s18, s19, s20, s21, s22, s23, s24, s25, s26, s27, s28, s29, s30, s31, s32, s33, s34, s35, s36, s37, s38, s39, s40, s41, s42, s43, s44, s45, s46⟩
                      go_simp
                      with_reducible rfl
                    rotate_left
                    · simp only [Act.put, List.setIfInBounds_toArray, List.set_cons_zero, List.set_cons_succ, i64_w, i32_w]
                      rfl
                    refine one_ (i := 15) (N := some 28) #[true, true, true, true, true, true, true, true, true, true, true, true, true, true, true, true, true, false, false, false, false, false, false, false, false, false, false, false, false, false, false, false, false, false, false, false, false, false, false, false, false, false, false, false, false, false, false, false, false, false, false, false, false, false, false, false] rfl rfl (one_of HT_.out (by kernel_rfl)) (by decide) (fun K hK => ?_)
                    refine goes_ Tryz.func8 (by kernel_rfl) rfl #[.agg #[.string t147, .string t148, .string t149, .string t150, .int .i64 t151, .int .i64 t152, .int .i64 t153, .bool t154, .bool t155, .bool t156, .int .i64 t157]] (by rfl) rfl rfl xg ?_
                    with_reducible refine (PrintC.cookie_Of.calls t147 t148 t149 t150 t151 t152 t153 t154 t155 t156 t157 t190 t191 t192 _ A10.out).mono ?_
                    rintro e w54 ⟨rfl, hb⟩
                    refine ⟨_, rfl, ?_⟩
                    have n0_ := blkB BK169 hb
                    have n1_ := blkB BK170 hb
                    have n2_ := blkB BK171 hb
                    have n3_ := blkB BK172 hb
                    have n4_ := blkB BK173 hb
                    have n5_ := Aside0.mk (below_step xb hb)
                    clear BK169
                    clear BK170
                    clear BK171
                    clear BK172
                    clear BK173
                    clear HB
                    have BK169 := n0_
                    have BK170 := n1_
                    have BK171 := n2_
                    have BK172 := n3_
                    have BK173 := n4_
                    have HB := n5_
                    clear n0_ n1_ n2_ n3_ n4_ n5_
                    (try clear hb)
                    (try clear hb2)
                    (try clear hk)
                    (try clear hi)
                    refine hK.out _ _ xc (fun hHeld => ?_)
                    clear hK K
                    refine norm_ (a' := ?_) ?_ ?_
                    rotate_left
                    · show Act.put _ (some 28) _ = _
                      simp only [Act.put, List.setIfInBounds_toArray, List.set_cons_zero, List.set_cons_succ, i64_w, i32_w]
                      rfl
                    refine one_ (i := 17) (N := some 30) #[true, true, true, true, true, true, true, true, true, true, true, true, true, true, true, true, true, true, false, false, false, false, false, false, false, false, false, false, false, false, false, false, false, false, false, false, false, false, false, false, false, false, false, false, false, false, false, false, false, false, false, false, false, false, false, false] rfl rfl (one_of HT_.out (by kernel_rfl)) (by decide) (fun K hK => ?_)
                    refine goes_ Tryz.func8 (by kernel_rfl) rfl #[.agg #[.string t158, .string t159, .string t160, .string t161, .int .i64 t162, .int .i64 t163, .int .i64 t164, .bool t165, .bool t166, .bool t167, .int .i64 t168]] (by rfl) rfl rfl xg ?_
                    with_reducible refine (PrintC.cookie_Of.calls t158 t159 t160 t161 t162 t163 t164 t165 t166 t167 t168 t193 t194 t195 _ A11.out).mono ?_
                    rintro e w55 ⟨rfl, hb⟩
                    refine ⟨_, rfl, ?_⟩
                    have n0_ := blkB BK169 hb
                    have n1_ := blkB BK170 hb
                    have n2_ := blkB BK171 hb
                    have n3_ := blkB BK172 hb
                    have n4_ := blkB BK173 hb
                    have n5_ := Aside0.mk (below_step xb hb)
                    clear BK169
                    clear BK170
                    clear BK171
                    clear BK172
                    clear BK173
                    clear HB
                    have BK169 := n0_
                    have BK170 := n1_
                    have BK171 := n2_
                    have BK172 := n3_
                    have BK173 := n4_
                    have HB := n5_
                    clear n0_ n1_ n2_ n3_ n4_ n5_
                    (try clear hb)
                    (try clear hb2)
                    (try clear hk)
                    (try clear hi)
                    refine hK.out _ _ xc (fun hHeld => ?_)
                    clear hK K
                    refine norm_ (a' := ?_) ?_ ?_
                    rotate_left
                    · show Act.put _ (some 30) _ = _
                      simp only [Act.put, List.setIfInBounds_toArray, List.set_cons_zero, List.set_cons_succ, i64_w, i32_w]
                      rfl
                    refine one_ (i := 18) (N := some 31) #[true, true, true, true, true, true, true, true, true, true, true, true, true, true, true, true, true, true, true, false, false, false, false, false, false, false, false, false, false, false, false, false, false, false, false, false, false, false, false, false, false, false, false, false, false, false, false, false, false, false, false, false, false, false, false, false] rfl rfl (one_of HT_.out (by kernel_rfl)) (by decide) (fun K hK => ?_)
                    refine goes_ Tryz.func9 (by kernel_rfl) rfl #[.agg #[.string t190, .string t191, .string t192], .agg #[.string t193, .string t194, .string t195]] (by rfl) rfl rfl xg ?_
                    with_reducible refine (PrintC.cookie_Key_Cmp.calls k t190 t191 t192 t193 t194 t195 t196 _ A12.out).mono ?_
                    rintro e w56 ⟨rfl, hb⟩
                    refine ⟨_, rfl, ?_⟩
                    have n0_ := blkB BK169 hb
                    have n1_ := blkB BK170 hb
                    have n2_ := blkB BK171 hb
                    have n3_ := blkB BK172 hb
                    have n4_ := blkB BK173 hb
                    have n5_ := Aside0.mk (below_step xb hb)
                    clear BK169
                    clear BK170
                    clear BK171
                    clear BK172
                    clear BK173
                    clear HB
                    have BK169 := n0_
                    have BK170 := n1_
                    have BK171 := n2_
                    have BK172 := n3_
                    have BK173 := n4_
                    have HB := n5_
                    clear n0_ n1_ n2_ n3_ n4_ n5_
                    (try clear hb)
                    (try clear hb2)
                    (try clear hk)
                    (try clear hi)
                    refine hK.out _ _ xc (fun hHeld => ?_)
                    clear hK K
                    refine norm_ (a' := ?_) ?_ ?_
                    rotate_left
                    · show Act.put _ (some 31) _ = _
                      simp only [Act.put, List.setIfInBounds_toArray, List.set_cons_zero, List.set_cons_succ, i64_w, i32_w]
                      rfl
                    refine pure_ (i := 19) (N := some 32) (v := ?_) (a' := ?_) #[true, true, true, true, true, true, true, true, true, true, true, true, true, true, true, true, true, true, true, true, false, false, false, false, false, false, false, false, false, false, false, false, false, false, false, false, false, false, false, false, false, false, false, false, false, false, false, false, false, false, false, false, false, false, false, false] rfl rfl (any_of HT_.out (by kernel_rfl)) (fun _ _ _ h => h) (Or.inl ⟨by rfl, ?_⟩) ?_ ?_
                    rotate_left
                    · intro w'
                      go_simp
                      with_reducible rfl
                    rotate_left
                    · simp only [Act.put, List.setIfInBounds_toArray, List.set_cons_zero, List.set_cons_succ, i64_w, i32_w]
                      rfl
                    refine pure_ (i := 20) (N := some 33) (v := ?_) (a' := ?_) #[true, true, true, true, true, true, true, true, true, true, true, true, true, true, true, true, true, true, true, true, true, false, false, false, false, false, false, false, false, false, false, false, false, false, false, false, false, false, false, false, false, false, false, false, false, false, false, false, false, false, false, false, false, false, false, false] rfl rfl (any_of HT_.out (by kernel_rfl)) (fun _ _ _ h => h) (Or.inl ⟨by rfl, ?_⟩) ?_ ?_
                    rotate_left
                    · intro w'
                      go_simp
                      with_reducible rfl
                    rotate_left
                    · simp only [Act.put, List.setIfInBounds_toArray, List.set_cons_zero, List.set_cons_succ, i64_w, i32_w]
                      rfl
                    refine pure_ (i := 21) (N := some 34) (v := ?_) (a' := ?_) #[true, true, true, true, true, true, true, true, true, true, true, true, true, true, true, true, true, true, true, true, true, true, false, false, false, false, false, false, false, false, false, false, false, false, false, false, false, false, false, false, false, false, false, false, false, false, false, false, false, false, false, false, false, false, false, false] rfl rfl (any_of HT_.out (by kernel_rfl)) (fun _ _ _ h => h) (Or.inl ⟨by rfl, ?_⟩) ?_ ?_
                    rotate_left
                    · intro w'
                      go_simp
                      with_reducible rfl
                    rotate_left
                    · simp only [Act.put, List.setIfInBounds_toArray, List.set_cons_zero, List.set_cons_succ, i64_w, i32_w]
                      rfl
                    refine take_ (i := 22) (N := some 35) (v := ?_) (a' := ?_) #[true, true, true, true, true, true, true, true, true, true, true, true, true, true, true, true, true, true, true, true, true, true, true, false, false, false, false, false, false, false, false, false, false, false, false, false, false, false, false, false, false, false, false, false, false, false, false, false, false, false, false, false, false, false, false, false] rfl rfl (take_ofW HT_.out HW_.out (by kernel_rfl)) (fun _ _ _ h => h) (Or.inl ⟨by rfl, ?_⟩) hHeld ?_ ?_
                    rotate_left
                    · rintro w' ⟨s0, s1, s2, s3, s4, s5, s6, s7, s8, s9, s10, s11, s12, s13, s14, s15, s16, s17, s18, s19, s20, s21, s22, s23, s24, s25, s26, s27, s28, s29, s30, s31, s32, s33, s34, s35, s36, s37, s38, s39, s40, s41, s42, s43, s44, s45, s46⟩
                      go_simp
                      with_reducible rfl
                    rotate_left
                    · simp only [Act.put, List.setIfInBounds_toArray, List.set_cons_zero, List.set_cons_succ, i64_w, i32_w]
                      rfl
                    refine take_ (i := 23) (N := some 36) (v := ?_) (a' := ?_) #[true, true, true, true, true, true, true, true, true, true, true, true, true, true, true, true, true, true, true, true, true, true, true, true, false, false, false, false, false, false, false, false, false, false, false, false, false, false, false, false, false, false, false, false, false, false, false, false, false, false, false, false, false, false, false, false] rfl rfl (take_ofW HT_.out HW_.out (by kernel_rfl)) (fun _ _ _ h => h) (Or.inl ⟨by rfl, ?_⟩) hHeld ?_ ?_
                    rotate_left
                    · rintro w' ⟨s0, s1, s2, s3, s4, s5, s6, s7, s8, s9, s10, s11, s12, s13, s14, s15, s16, s17, s18, s19, s20, s21, s22, s23, s24, s25, s26, s27, s28, s29, s30, s31, s32, s33, s34, s35, s36, s37, s38, s39, s40, s41, s42, s43, s44, s45, s46⟩
                      go_simp
                      with_reducible rfl
                    rotate_left
                    · simp only [Act.put, List.setIfInBounds_toArray, List.set_cons_zero, List.set_cons_succ, i64_w, i32_w]
                      rfl
                    refine one_ (i := 24) (N := some 37) #[true, true, true, true, true, true, true, true, true, true, true, true, true, true, true, true, true, true, true, true, true, true, true, true, true, false, false, false, false, false, false, false, false, false, false, false, false, false, false, false, false, false, false, false, false, false, false, false, false, false, false, false, false, false, false, false] rfl rfl (one_of HT_.out (by kernel_rfl)) (by decide) (fun K hK => ?_)
                    refine goes_ Tryz.func10 (by kernel_rfl) rfl #[.agg #[.string t147, .string t148, .string t149, .string t150, .int .i64 t151, .int .i64 t152, .int .i64 t153, .bool t154, .bool t155, .bool t156, .int .i64 t157], .agg #[.string t158, .string t159, .string t160, .string t161, .int .i64 t162, .int .i64 t163, .int .i64 t164, .bool t165, .bool t166, .bool t167, .int .i64 t168]] (by rfl) rfl rfl xg ?_
                    with_reducible refine (cookie_Cmp.calls t147 t148 t149 t150 t151 t152 t153 t154 t155 t156 t157 t158 t159 t160 t161 t162 t163 t164 t165 t166 t167 t168 t197 _ A14.out).mono ?_
                    rintro e w57 ⟨rfl, hb⟩
                    refine ⟨_, rfl, ?_⟩
                    have n0_ := blkB BK169 hb
                    have n1_ := blkB BK170 hb
                    have n2_ := blkB BK171 hb
                    have n3_ := blkB BK172 hb
                    have n4_ := blkB BK173 hb
                    have n5_ := Aside0.mk (below_step xb hb)
                    clear BK169
                    clear BK170
                    clear BK171
                    clear BK172
                    clear BK173
                    clear HB
                    have BK169 := n0_
                    have BK170 := n1_
                    have BK171 := n2_
                    have BK172 := n3_
                    have BK173 := n4_
                    have HB := n5_
                    clear n0_ n1_ n2_ n3_ n4_ n5_
                    (try clear hb)
                    (try clear hb2)
                    (try clear hk)
                    (try clear hi)
                    refine hK.out _ _ xc (fun hHeld => ?_)
                    clear hK K
                    refine norm_ (a' := ?_) ?_ ?_
                    rotate_left
                    · show Act.put _ (some 37) _ = _
                      simp only [Act.put, List.setIfInBounds_toArray, List.set_cons_zero, List.set_cons_succ, i64_w, i32_w]
                      rfl
                    refine pure_ (i := 25) (N := some 38) (v := ?_) (a' := ?_) #[true, true, true, true, true, true, true, true, true, true, true, true, true, true, true, true, true, true, true, true, true, true, true, true, true, true, false, false, false, false, false, false, false, false, false, false, false, false, false, false, false, false, false, false, false, false, false, false, false, false, false, false, false, false, false, false] rfl rfl (any_of HT_.out (by kernel_rfl)) (fun _ _ _ h => h) (Or.inl ⟨by rfl, ?_⟩) ?_ ?_
                    rotate_left
                    · intro w'
                      go_simp
                      with_reducible rfl
                    rotate_left
                    · simp only [Act.put, List.setIfInBounds_toArray, List.set_cons_zero, List.set_cons_succ, i64_w, i32_w]
                      rfl
                    refine pure_ (i := 26) (N := some 39) (v := ?_) (a' := ?_) #[true, true, true, true, true, true, true, true, true, true, true, true, true, true, true, true, true, true, true, true, true, true, true, true, true, true, true, false, false, false, false, false, false, false, false, false, false, false, false, false, false, false, false, false, false, false, false, false, false, false, false, false, false, false, false, false] rfl rfl (any_of HT_.out (by kernel_rfl)) (fun _ _ _ h => h) (Or.inl ⟨by rfl, ?_⟩) ?_ ?_
                    rotate_left
                    · intro w'
                      go_simp
                      with_reducible rfl
                    rotate_left
                    · simp only [Act.put, List.setIfInBounds_toArray, List.set_cons_zero, List.set_cons_succ, i64_w, i32_w]
                      rfl
                    refine pure_ (i := 27) (N := some 40) (v := ?_) (a' := ?_) #[true, true, true, true, true, true, true, true, true, true, true, true, true, true, true, true, true, true, true, true, true, true, true, true, true, true, true, true, false, false, false, false, false, false, false, false, false, false, false, false, false, false, false, false, false, false, false, false, false, false, false, false, false, false, false, false] rfl rfl (any_of HT_.out (by kernel_rfl)) (fun _ _ _ h => h) (Or.inl ⟨by rfl, ?_⟩) ?_ ?_
                    rotate_left
                    · intro w'
                      go_simp
                      with_reducible rfl
                    rotate_left
                    · simp only [Act.put, List.setIfInBounds_toArray, List.set_cons_zero, List.set_cons_succ, i64_w, i32_w]
                      rfl
                    refine take_ (i := 28) (N := some 41) (v := ?_) (a' := ?_) #[true, true, true, true, true, true, true, true, true, true, true, true, true, true, true, true, true, true, true, true, true, true, true, true, true, true, true, true, true, false, false, false, false, false, false, false, false, false, false, false, false, false, false, false, false, false, false, false, false, false, false, false, false, false, false, false] rfl rfl (take_ofW HT_.out HW_.out (by kernel_rfl)) (fun _ _ _ h => h) (Or.inl ⟨by rfl, ?_⟩) hHeld ?_ ?_
                    rotate_left
                    · rintro w' ⟨s0, s1, s2, s3, s4, s5, s6, s7, s8, s9, s10, s11, s12, s13, s14, s15, s16, s17, s18, s19, s20, s21, s22, s23, s24, s25, s26, s27, s28, s29, s30, s31, s32, s33, s34, s35, s36, s37, s38, s39, s40, s41, s42, s43, s44, s45, s46⟩
                      go_simp
                      with_reducible rfl
                    rotate_left
                    · simp only [Act.put, List.setIfInBounds_toArray, List.set_cons_zero, List.set_cons_succ, i64_w, i32_w]
                      rfl
                    refine take_ (i := 29) (N := some 42) (v := ?_) (a' := ?_) #[true, true, true, true, true, true, true, true, true, true, true, true, true, true, true, true, true, true, true, true, true, true, true, true, true, true, true, true, true, true, false, false, false, false, false, false, false, false, false, false, false, false, false, false, false, false, false, false, false, false, false, false, false, false, false, false] rfl rfl (take_ofW HT_.out HW_.out (by kernel_rfl)) (fun _ _ _ h => h) (Or.inl ⟨by rfl, ?_⟩) hHeld ?_ ?_
                    rotate_left
                    · rintro w' ⟨s0, s1, s2, s3, s4, s5, s6, s7, s8, s9, s10, s11, s12, s13, s14, s15, s16, s17, s18, s19, s20, s21, s22, s23, s24, s25, s26, s27, s28, s29, s30, s31, s32, s33, s34, s35, s36, s37, s38, s39, s40, s41, s42, s43, s44, s45, s46⟩
                      go_simp
                      with_reducible rfl
                    rotate_left
                    · simp only [Act.put, List.setIfInBounds_toArray, List.set_cons_zero, List.set_cons_succ, i64_w, i32_w]
                      rfl
                    refine one_ (i := 30) (N := some 43) #[true, true, true, true, true, true, true, true, true, true, true, true, true, true, true, true, true, true, true, true, true, true, true, true, true, true, true, true, true, true, true, false, false, false, false, false, false, false, false, false, false, false, false, false, false, false, false, false, false, false, false, false, false, false, false, false] rfl rfl (one_of HT_.out (by kernel_rfl)) (by decide) (fun K hK => ?_)
                    refine goes_ Tryz.func10 (by kernel_rfl) rfl #[.agg #[.string t147, .string t148, .string t149, .string t150, .int .i64 t151, .int .i64 1, .int .i64 t153, .bool t154, .bool t155, .bool t156, .int .i64 t157], .agg #[.string t147, .string t148, .string t149, .string t150, .int .i64 t151, .int .i64 t152, .int .i64 t153, .bool t154, .bool t155, .bool t156, .int .i64 t157]] (by rfl) rfl rfl xg ?_
                    with_reducible refine (cookie_Cmp.calls t147 t148 t149 t150 t151 1 t153 t154 t155 t156 t157 t147 t148 t149 t150 t151 t152 t153 t154 t155 t156 t157 t198 _ A16.out).mono ?_
                    rintro e w58 ⟨rfl, hb⟩
                    refine ⟨_, rfl, ?_⟩
                    have n0_ := blkB BK169 hb
                    have n1_ := blkB BK170 hb
                    have n2_ := blkB BK171 hb
                    have n3_ := blkB BK172 hb
                    have n4_ := blkB BK173 hb
                    have n5_ := Aside0.mk (below_step xb hb)
                    clear BK169
                    clear BK170
                    clear BK171
                    clear BK172
                    clear BK173
                    clear HB
                    have BK169 := n0_
                    have BK170 := n1_
                    have BK171 := n2_
                    have BK172 := n3_
                    have BK173 := n4_
                    have HB := n5_
                    clear n0_ n1_ n2_ n3_ n4_ n5_
                    (try clear hb)
                    (try clear hb2)
                    (try clear hk)
                    (try clear hi)
                    refine hK.out _ _ xc (fun hHeld => ?_)
                    clear hK K
                    refine norm_ (a' := ?_) ?_ ?_
                    rotate_left
                    · show Act.put _ (some 43) _ = _
                      simp only [Act.put, List.setIfInBounds_toArray, List.set_cons_zero, List.set_cons_succ, i64_w, i32_w]
                      rfl
                    refine pure_ (i := 31) (N := some 44) (v := ?_) (a' := ?_) #[true, true, true, true, true, true, true, true, true, true, true, true, true, true, true, true, true, true, true, true, true, true, true, true, true, true, true, true, true, true, true, true, false, false, false, false, false, false, false, false, false, false, false, false, false, false, false, false, false, false, false, false, false, false, false, false] rfl rfl (any_of HT_.out (by kernel_rfl)) (fun _ _ _ h => h) (Or.inl ⟨by rfl, ?_⟩) ?_ ?_
                    rotate_left
                    · intro w'
                      go_simp
                      with_reducible rfl
                    rotate_left
                    · simp only [Act.put, List.setIfInBounds_toArray, List.set_cons_zero, List.set_cons_succ, i64_w, i32_w]
                      rfl
                    refine pure_ (i := 32) (N := some 45) (v := ?_) (a' := ?_) #[true, true, true, true, true, true, true, true, true, true, true, true, true, true, true, true, true, true, true, true, true, true, true, true, true, true, true, true, true, true, true, true, true, false, false, false, false, false, false, false, false, false, false, false, false, false, false, false, false, false, false, false, false, false, false, false] rfl rfl (any_of HT_.out (by kernel_rfl)) (fun _ _ _ h => h) (Or.inl ⟨by rfl, ?_⟩) ?_ ?_
                    rotate_left
                    · intro w'
                      go_simp
                      with_reducible rfl
                    rotate_left
                    · simp only [Act.put, List.setIfInBounds_toArray, List.set_cons_zero, List.set_cons_succ, i64_w, i32_w]
                      rfl
                    refine pure_ (i := 33) (N := some 46) (v := ?_) (a' := ?_) #[true, true, true, true, true, true, true, true, true, true, true, true, true, true, true, true, true, true, true, true, true, true, true, true, true, true, true, true, true, true, true, true, true, true, false, false, false, false, false, false, false, false, false, false, false, false, false, false, false, false, false, false, false, false, false, false] rfl rfl (any_of HT_.out (by kernel_rfl)) (fun _ _ _ h => h) (Or.inl ⟨by rfl, ?_⟩) ?_ ?_
                    rotate_left
                    · intro w'
                      go_simp
                      with_reducible rfl
                    rotate_left
                    · simp only [Act.put, List.setIfInBounds_toArray, List.set_cons_zero, List.set_cons_succ, i64_w, i32_w]
                      rfl
                    refine take_ (i := 34) (N := some 47) (v := ?_) (a' := ?_) #[true, true, true, true, true, true, true, true, true, true, true, true, true, true, true, true, true, true, true, true, true, true, true, true, true, true, true, true, true, true, true, true, true, true, true, false, false, false, false, false, false, false, false, false, false, false, false, false, false, false, false, false, false, false, false, false] rfl rfl (take_ofW HT_.out HW_.out (by kernel_rfl)) (fun _ _ _ h => h) (Or.inl ⟨by rfl, ?_⟩) hHeld ?_ ?_
                    rotate_left
                    · rintro w' ⟨s0, s1, s2, s3, s4, s5, s6, s7, s8, s9, s10, s11, s12, s13, s14, s15, s16, s17, s18, s19, s20, s21, s22, s23, s24, s25, s26, s27, s28, s29, s30, s31, s32, s33, s34, s35, s36, s37, s38, s39, s40, s41, s42, s43, s44, s45, s46⟩
                      go_simp
                      with_reducible rfl
                    rotate_left
                    · simp only [Act.put, List.setIfInBounds_toArray, List.set_cons_zero, List.set_cons_succ, i64_w, i32_w]
                      rfl
                    refine take_ (i := 35) (N := some 48) (v := ?_) (a' := ?_) #[true, true, true, true, true, true, true, true, true, true, true, true, true, true, true, true, true, true, true, true, true, true, true, true, true, true, true, true, true, true, true, true, true, true, true, true, false, false, false, false, false, false, false, false, false, false, false, false, false, false, false, false, false, false, false, false] rfl rfl (take_ofW HT_.out HW_.out (by kernel_rfl)) (fun _ _ _ h => h) (Or.inl ⟨by rfl, ?_⟩) hHeld ?_ ?_
                    rotate_left
                    · rintro w' ⟨s0, s1, s2, s3, s4, s5, s6, s7, s8, s9, s10, s11, s12, s13, s14, s15, s16, s17, s18, s19, s20, s21, s22, s23, s24, s25, s26, s27, s28, s29, s30, s31, s32, s33, s34, s35, s36, s37, s38, s39, s40, s41, s42, s43, s44, s45, s46⟩
                      go_simp
                      with_reducible rfl
                    rotate_left
                    · simp only [Act.put, List.setIfInBounds_toArray, List.set_cons_zero, List.set_cons_succ, i64_w, i32_w]
                      rfl
                    refine take_ (i := 37) (N := some 50) (v := ?_) (a' := ?_) #[true, true, true, true, true, true, true, true, true, true, true, true, true, true, true, true, true, true, true, true, true, true, true, true, true, true, true, true, true, true, true, true, true, true, true, true, false, true, false, false, false, false, false, false, false, false, false, false, false, false, false, false, false, false, false, false] rfl rfl (take_ofW HT_.out HW_.out (by kernel_rfl)) (fun _ _ _ h => h) (Or.inl ⟨by rfl, ?_⟩) hHeld ?_ ?_
                    rotate_left
                    · rintro w' ⟨s0, s1, s2, s3, s4, s5, s6, s7, s8, s9, s10, s11, s12, s13, s14, s15, s16, s17, s18, s19, s20, s21, s22, s23, s24, s25, s26, s27, s28, s29, s30, s31, s32, s33, s34, s35, s36, s37, s38, s39, s40, s41, s42, s43, s44, s45, s46⟩
                      go_simp
                      with_reducible rfl
                    rotate_left
                    · simp only [Act.put, List.setIfInBounds_toArray, List.set_cons_zero, List.set_cons_succ, i64_w, i32_w]
                      rfl
                    refine one_ (i := 36) (N := some 49) #[true, true, true, true, true, true, true, true, true, true, true, true, true, true, true, true, true, true, true, true, true, true, true, true, true, true, true, true, true, true, true, true, true, true, true, true, true, true, false, false, false, false, false, false, false, false, false, false, false, false, false, false, false, false, false, false] rfl rfl (one_of HT_.out (by kernel_rfl)) (by decide) (fun K hK => ?_)
                    refine goes_ Tryz.func11 (by kernel_rfl) rfl #[.agg #[.string t147, .string t148, .string t149, .string t150, .int .i64 t151, .int .i64 t152, .int .i64 t153, .bool t154, .bool t155, .bool t156, .int .i64 t157], .agg #[.string t147, .string t148, .string t149, .string t150, .int .i64 t151, .int .i64 1, .int .i64 t153, .bool t154, .bool t155, .bool t156, .int .i64 t157]] (by rfl) rfl rfl xg ?_
                    with_reducible refine (cookie_Greater.calls t147 t148 t149 t150 t151 t152 t153 t154 t155 t156 t157 t147 t148 t149 t150 t151 1 t153 t154 t155 t156 t157 t199 t200 t201 t202 t203 t204 t205 t206 t207 t208 t209 _ A18.out).mono ?_
                    rintro e w59 ⟨rfl, hb⟩
                    refine ⟨_, rfl, ?_⟩
                    have n0_ := blkB BK169 hb
                    have n1_ := blkB BK170 hb
                    have n2_ := blkB BK171 hb
                    have n3_ := blkB BK172 hb
                    have n4_ := blkB BK173 hb
                    have n5_ := Aside0.mk (below_step xb hb)
                    clear BK169
                    clear BK170
                    clear BK171
                    clear BK172
                    clear BK173
                    clear HB
                    have BK169 := n0_
                    have BK170 := n1_
                    have BK171 := n2_
                    have BK172 := n3_
                    have BK173 := n4_
                    have HB := n5_
                    clear n0_ n1_ n2_ n3_ n4_ n5_
                    (try clear hb)
                    (try clear hb2)
                    (try clear hk)
                    (try clear hi)
                    refine hK.out _ _ xc (fun hHeld => ?_)
                    clear hK K
                    refine norm_ (a' := ?_) ?_ ?_
                    rotate_left
                    · show Act.put _ (some 49) _ = _
                      simp only [Act.put, List.setIfInBounds_toArray, List.set_cons_zero, List.set_cons_succ, i64_w, i32_w]
                      rfl
                    refine pure_ (i := 38) (N := some 51) (v := ?_) (a' := ?_) #[true, true, true, true, true, true, true, true, true, true, true, true, true, true, true, true, true, true, true, true, true, true, true, true, true, true, true, true, true, true, true, true, true, true, true, true, true, true, true, false, false, false, false, false, false, false, false, false, false, false, false, false, false, false, false, false] rfl rfl (any_of HT_.out (by kernel_rfl)) (fun _ _ _ h => h) (Or.inl ⟨by rfl, ?_⟩) ?_ ?_
                    rotate_left
                    · intro w'
                      go_simp
                      with_reducible rfl
                    rotate_left
                    · simp only [Act.put, List.setIfInBounds_toArray, List.set_cons_zero, List.set_cons_succ, i64_w, i32_w]
                      rfl
                    refine pure_ (i := 39) (N := some 52) (v := ?_) (a' := ?_) #[true, true, true, true, true, true, true, true, true, true, true, true, true, true, true, true, true, true, true, true, true, true, true, true, true, true, true, true, true, true, true, true, true, true, true, true, true, true, true, true, false, false, false, false, false, false, false, false, false, false, false, false, false, false, false, false] rfl rfl (any_of HT_.out (by kernel_rfl)) (fun _ _ _ h => h) (Or.inl ⟨by rfl, ?_⟩) ?_ ?_
                    rotate_left
                    · intro w'
                      go_simp
                      with_reducible rfl
                    rotate_left
                    · simp only [Act.put, List.setIfInBounds_toArray, List.set_cons_zero, List.set_cons_succ, i64_w, i32_w]
                      rfl
                    refine pure_ (i := 40) (N := some 53) (v := ?_) (a' := ?_) #[true, true, true, true, true, true, true, true, true, true, true, true, true, true, true, true, true, true, true, true, true, true, true, true, true, true, true, true, true, true, true, true, true, true, true, true, true, true, true, true, true, false, false, false, false, false, false, false, false, false, false, false, false, false, false, false] rfl rfl (any_of HT_.out (by kernel_rfl)) (fun _ _ _ h => h) (Or.inl ⟨by rfl, ?_⟩) ?_ ?_
                    rotate_left
                    · intro w'
                      go_simp
                      with_reducible rfl
                    rotate_left
                    · simp only [Act.put, List.setIfInBounds_toArray, List.set_cons_zero, List.set_cons_succ, i64_w, i32_w]
                      rfl
                    refine take_ (i := 41) (N := some 54) (v := ?_) (a' := ?_) #[true, true, true, true, true, true, true, true, true, true, true, true, true, true, true, true, true, true, true, true, true, true, true, true, true, true, true, true, true, true, true, true, true, true, true, true, true, true, true, true, true, true, false, false, false, false, false, false, false, false, false, false, false, false, false, false] rfl rfl (take_ofW HT_.out HW_.out (by kernel_rfl)) (fun _ _ _ h => h) (Or.inl ⟨by rfl, ?_⟩) hHeld ?_ ?_
                    rotate_left
                    · rintro w' ⟨s0, s1, s2, s3, s4, s5, s6, s7, s8, s9, s10, s11, s12, s13, s14, s15, s16, s17, s18, s19, s20, s21, s22, s23, s24, s25, s26, s27, s28, s29, s30, s31, s32, s33, s34, s35, s36, s37, s38, s39, s40, s41, s42, s43, s44, s45, s46⟩
                      go_simp
                      with_reducible rfl
                    rotate_left
                    · simp only [Act.put, List.setIfInBounds_toArray, List.set_cons_zero, List.set_cons_succ, i64_w, i32_w]
                      rfl
                    refine one_ (i := 42) (N := some 55) #[true, true, true, true, true, true, true, true, true, true, true, true, true, true, true, true, true, true, true, true, true, true, true, true, true, true, true, true, true, true, true, true, true, true, true, true, true, true, true, true, true, true, true, false, false, false, false, false, false, false, false, false, false, false, false, false] rfl rfl (one_of HT_.out (by kernel_rfl)) (by decide) (fun K hK => ?_)
                    refine goes_ Tryz.func12 (by kernel_rfl) rfl #[.agg #[.string t147, .string t148, .string t149, .string t150, .int .i64 t151, .int .i64 t152, .int .i64 t153, .bool t154, .bool t155, .bool t156, .int .i64 t157], .int .i64 9] (by rfl) rfl rfl xg ?_
                    with_reducible refine (cookie_Live.calls t147 t148 t149 t150 t151 t152 t153 t154 t155 t156 t157 9 true _ A20.out).mono ?_
                    rintro e w60 ⟨rfl, hb⟩
                    refine ⟨_, rfl, ?_⟩
                    have n0_ := blkB BK169 hb
                    have n1_ := blkB BK170 hb
                    have n2_ := blkB BK171 hb
                    have n3_ := blkB BK172 hb
                    have n4_ := blkB BK173 hb
                    have n5_ := Aside0.mk (below_step xb hb)
                    clear BK169
                    clear BK170
                    clear BK171
                    clear BK172
                    clear BK173
                    clear HB
                    have BK169 := n0_
                    have BK170 := n1_
                    have BK171 := n2_
                    have BK172 := n3_
                    have BK173 := n4_
                    have HB := n5_
                    clear n0_ n1_ n2_ n3_ n4_ n5_
                    (try clear hb)
                    (try clear hb2)
                    (try clear hk)
                    (try clear hi)
                    refine hK.out _ _ xc (fun hHeld => ?_)
                    clear hK K
                    refine norm_ (a' := ?_) ?_ ?_
                    rotate_left
                    · show Act.put _ (some 55) _ = _
                      simp only [Act.put, List.setIfInBounds_toArray, List.set_cons_zero, List.set_cons_succ, i64_w, i32_w]
                      rfl
                    refine pure_ (i := 43) (N := some 56) (v := ?_) (a' := ?_) #[true, true, true, true, true, true, true, true, true, true, true, true, true, true, true, true, true, true, true, true, true, true, true, true, true, true, true, true, true, true, true, true, true, true, true, true, true, true, true, true, true, true, true, true, false, false, false, false, false, false, false, false, false, false, false, false] rfl rfl (any_of HT_.out (by kernel_rfl)) (fun _ _ _ h => h) (Or.inl ⟨by rfl, ?_⟩) ?_ ?_
                    rotate_left
                    · intro w'
                      go_simp
                      with_reducible rfl
                    rotate_left
                    · simp only [Act.put, List.setIfInBounds_toArray, List.set_cons_zero, List.set_cons_succ, i64_w, i32_w]
                      rfl
                    refine pure_ (i := 44) (N := some 57) (v := ?_) (a' := ?_) #[true, true, true, true, true, true, true, true, true, true, true, true, true, true, true, true, true, true, true, true, true, true, true, true, true, true, true, true, true, true, true, true, true, true, true, true, true, true, true, true, true, true, true, true, true, false, false, false, false, false, false, false, false, false, false, false] rfl rfl (any_of HT_.out (by kernel_rfl)) (fun _ _ _ h => h) (Or.inl ⟨by rfl, ?_⟩) ?_ ?_
                    rotate_left
                    · intro w'
                      go_simp
                      with_reducible rfl
                    rotate_left
                    · simp only [Act.put, List.setIfInBounds_toArray, List.set_cons_zero, List.set_cons_succ, i64_w, i32_w]
                      rfl
                    refine take_ (i := 45) (N := some 58) (v := ?_) (a' := ?_) #[true, true, true, true, true, true, true, true, true, true, true, true, true, true, true, true, true, true, true, true, true, true, true, true, true, true, true, true, true, true, true, true, true, true, true, true, true, true, true, true, true, true, true, true, true, true, false, false, false, false, false, false, false, false, false, false] rfl rfl (take_ofW HT_.out HW_.out (by kernel_rfl)) (fun _ _ _ h => h) (Or.inl ⟨by rfl, ?_⟩) hHeld ?_ ?_
                    rotate_left
                    · rintro w' ⟨s0, s1, s2, s3, s4, s5, s6, s7, s8, s9, s10, s11, s12, s13, s14, s15, s16, s17, s18, s19, s20, s21, s22, s23, s24, s25, s26, s27, s28, s29, s30, s31, s32, s33, s34, s35, s36, s37, s38, s39, s40, s41, s42, s43, s44, s45, s46⟩
                      go_simp
                      with_reducible rfl
                    rotate_left
                    · simp only [Act.put, List.setIfInBounds_toArray, List.set_cons_zero, List.set_cons_succ, i64_w, i32_w]
                      rfl
                    refine take_ (i := 46) (N := some 59) (v := ?_) (a' := ?_) #[true, true, true, true, true, true, true, true, true, true, true, true, true, true, true, true, true, true, true, true, true, true, true, true, true, true, true, true, true, true, true, true, true, true, true, true, true, true, true, true, true, true, true, true, true, true, true, false, false, false, false, false, false, false, false, false] rfl rfl (take_ofW HT_.out HW_.out (by kernel_rfl)) (fun _ _ _ h => h) (Or.inl ⟨by rfl, ?_⟩) hHeld ?_ ?_
                    rotate_left
                    · rintro w' ⟨s0, s1, s2, s3, s4, s5, s6, s7, s8, s9, s10, s11, s12, s13, s14, s15, s16, s17, s18, s19, s20, s21, s22, s23, s24, s25, s26, s27, s28, s29, s30, s31, s32, s33, s34, s35, s36, s37, s38, s39, s40, s41, s42, s43, s44, s45, s46⟩
                      go_simp
                      with_reducible rfl
                    rotate_left
                    · simp only [Act.put, List.setIfInBounds_toArray, List.set_cons_zero, List.set_cons_succ, i64_w, i32_w]
                      rfl
                    refine one_ (i := 47) (N := some 60) #[true, true, true, true, true, true, true, true, true, true, true, true, true, true, true, true, true, true, true, true, true, true, true, true, true, true, true, true, true, true, true, true, true, true, true, true, true, true, true, true, true, true, true, true, true, true, true, true, false, false, false, false, false, false, false, false] rfl rfl (one_of HT_.out (by kernel_rfl)) (by decide) (fun K hK => ?_)
                    refine goes_ Tryz.func13 (by kernel_rfl) rfl #[.agg #[.string t147, .string t148, .string t149, .string t150, .int .i64 t151, .int .i64 t152, .int .i64 t153, .bool t154, .bool t155, .bool t156, .int .i64 t157], .agg #[.bool false, .string (⟨#[121, 46, 97]⟩ : ByteArray), .string (⟨#[47, 122]⟩ : ByteArray)], .int .i64 9] (by rfl) rfl rfl xg ?_
                    with_reducible refine (cookie_Sends.calls k t147 t148 t149 t150 t151 t152 t153 t154 t155 t156 t157 false (⟨#[121, 46, 97]⟩ : ByteArray) (⟨#[47, 122]⟩ : ByteArray) 9 true _ (Aside0.mk (by first | exact hG.out | ((with_reducible repeat (first | apply LaidG.drewN | apply LaidG.drew | apply LaidG.alloc)); exact hG.out) | exact LaidG.below hG.out xb)) A22.out).mono ?_
                    rintro e w61 ⟨rfl, hb⟩
                    refine ⟨_, rfl, ?_⟩
                    have n0_ := blkB BK169 hb
                    have n1_ := blkB BK170 hb
                    have n2_ := blkB BK171 hb
                    have n3_ := blkB BK172 hb
                    have n4_ := blkB BK173 hb
                    have n5_ := Aside0.mk (below_step xb hb)
                    clear BK169
                    clear BK170
                    clear BK171
                    clear BK172
                    clear BK173
                    clear HB
                    have BK169 := n0_
                    have BK170 := n1_
                    have BK171 := n2_
                    have BK172 := n3_
                    have BK173 := n4_
                    have HB := n5_
                    clear n0_ n1_ n2_ n3_ n4_ n5_
                    (try clear hb)
                    (try clear hb2)
                    (try clear hk)
                    (try clear hi)
                    refine hK.out _ _ xc (fun hHeld => ?_)
                    clear hK K
                    refine norm_ (a' := ?_) ?_ ?_
                    rotate_left
                    · show Act.put _ (some 60) _ = _
                      simp only [Act.put, List.setIfInBounds_toArray, List.set_cons_zero, List.set_cons_succ, i64_w, i32_w]
                      rfl
                    refine pure_ (i := 48) (N := some 61) (v := ?_) (a' := ?_) #[true, true, true, true, true, true, true, true, true, true, true, true, true, true, true, true, true, true, true, true, true, true, true, true, true, true, true, true, true, true, true, true, true, true, true, true, true, true, true, true, true, true, true, true, true, true, true, true, true, false, false, false, false, false, false, false] rfl rfl (any_of HT_.out (by kernel_rfl)) (fun _ _ _ h => h) (Or.inl ⟨by rfl, ?_⟩) ?_ ?_
                    rotate_left
                    · intro w'
                      go_simp
                      with_reducible rfl
                    rotate_left
                    · simp only [Act.put, List.setIfInBounds_toArray, List.set_cons_zero, List.set_cons_succ, i64_w, i32_w]
                      rfl
                    refine pure_ (i := 49) (N := some 62) (v := ?_) (a' := ?_) #[true, true, true, true, true, true, true, true, true, true, true, true, true, true, true, true, true, true, true, true, true, true, true, true, true, true, true, true, true, true, true, true, true, true, true, true, true, true, true, true, true, true, true, true, true, true, true, true, true, true, false, false, false, false, false, false] rfl rfl (any_of HT_.out (by kernel_rfl)) (fun _ _ _ h => h) (Or.inl ⟨by rfl, ?_⟩) ?_ ?_
                    rotate_left
                    · intro w'
                      go_simp
                      with_reducible rfl
                    rotate_left
                    · simp only [Act.put, List.setIfInBounds_toArray, List.set_cons_zero, List.set_cons_succ, i64_w, i32_w]
                      rfl
                    refine take_ (i := 50) (N := some 63) (v := ?_) (a' := ?_) #[true, true, true, true, true, true, true, true, true, true, true, true, true, true, true, true, true, true, true, true, true, true, true, true, true, true, true, true, true, true, true, true, true, true, true, true, true, true, true, true, true, true, true, true, true, true, true, true, true, true, true, false, false, false, false, false] rfl rfl (take_ofW HT_.out HW_.out (by kernel_rfl)) (fun _ _ _ h => h) (Or.inl ⟨by rfl, ?_⟩) hHeld ?_ ?_
                    rotate_left
                    · rintro w' ⟨s0, s1, s2, s3, s4, s5, s6, s7, s8, s9, s10, s11, s12, s13, s14, s15, s16, s17, s18, s19, s20, s21, s22, s23, s24, s25, s26, s27, s28, s29, s30, s31, s32, s33, s34, s35, s36, s37, s38, s39, s40, s41, s42, s43, s44, s45, s46⟩
                      go_simp
                      with_reducible rfl
                    rotate_left
                    · simp only [Act.put, List.setIfInBounds_toArray, List.set_cons_zero, List.set_cons_succ, i64_w, i32_w]
                      rfl
                    refine take_ (i := 51) (N := some 64) (v := ?_) (a' := ?_) #[true, true, true, true, true, true, true, true, true, true, true, true, true, true, true, true, true, true, true, true, true, true, true, true, true, true, true, true, true, true, true, true, true, true, true, true, true, true, true, true, true, true, true, true, true, true, true, true, true, true, true, true, false, false, false, false] rfl rfl (take_ofW HT_.out HW_.out (by kernel_rfl)) (fun _ _ _ h => h) (Or.inl ⟨by rfl, ?_⟩) hHeld ?_ ?_
                    rotate_left
                    · rintro w' ⟨s0, s1, s2, s3, s4, s5, s6, s7, s8, s9, s10, s11, s12, s13, s14, s15, s16, s17, s18, s19, s20, s21, s22, s23, s24, s25, s26, s27, s28, s29, s30, s31, s32, s33, s34, s35, s36, s37, s38, s39, s40, s41, s42, s43, s44, s45, s46⟩
                      go_simp
                      with_reducible rfl
                    rotate_left
                    · simp only [Act.put, List.setIfInBounds_toArray, List.set_cons_zero, List.set_cons_succ, i64_w, i32_w]
                      rfl
                    refine one_ (i := 52) (N := some 65) #[true, true, true, true, true, true, true, true, true, true, true, true, true, true, true, true, true, true, true, true, true, true, true, true, true, true, true, true, true, true, true, true, true, true, true, true, true, true, true, true, true, true, true, true, true, true, true, true, true, true, true, true, true, false, false, false] rfl rfl (one_of HT_.out (by kernel_rfl)) (by decide) (fun K hK => ?_)
                    refine goes_ Tryz.func13 (by kernel_rfl) rfl #[.agg #[.string t147, .string t148, .string t149, .string t150, .int .i64 t151, .int .i64 t152, .int .i64 t153, .bool true, .bool t155, .bool t156, .int .i64 t157], .agg #[.bool false, .string (⟨#[121, 46, 97]⟩ : ByteArray), .string (⟨#[47, 122]⟩ : ByteArray)], .int .i64 9] (by rfl) rfl rfl xg ?_
                    with_reducible refine (cookie_Sends.calls k t147 t148 t149 t150 t151 t152 t153 true t155 t156 t157 false (⟨#[121, 46, 97]⟩ : ByteArray) (⟨#[47, 122]⟩ : ByteArray) 9 t212 _ (Aside0.mk (by first | exact hG.out | ((with_reducible repeat (first | apply LaidG.drewN | apply LaidG.drew | apply LaidG.alloc)); exact hG.out) | exact LaidG.below hG.out xb)) A24.out).mono ?_
                    rintro e w62 ⟨rfl, hb⟩
                    refine ⟨_, rfl, ?_⟩
                    have n0_ := blkB BK169 hb
                    have n1_ := blkB BK170 hb
                    have n2_ := blkB BK171 hb
                    have n3_ := blkB BK172 hb
                    have n4_ := blkB BK173 hb
                    have n5_ := Aside0.mk (below_step xb hb)
                    clear BK169
                    clear BK170
                    clear BK171
                    clear BK172
                    clear BK173
                    clear HB
                    have BK169 := n0_
                    have BK170 := n1_
                    have BK171 := n2_
                    have BK172 := n3_
                    have BK173 := n4_
                    have HB := n5_
                    clear n0_ n1_ n2_ n3_ n4_ n5_
                    (try clear hb)
                    (try clear hb2)
                    (try clear hk)
                    (try clear hi)
                    refine hK.out _ _ xc (fun hHeld => ?_)
                    clear hK K
                    refine norm_ (a' := ?_) ?_ ?_
                    rotate_left
                    · show Act.put _ (some 65) _ = _
                      simp only [Act.put, List.setIfInBounds_toArray, List.set_cons_zero, List.set_cons_succ, i64_w, i32_w]
                      rfl
                    refine pure_ (i := 53) (N := some 66) (v := ?_) (a' := ?_) #[true, true, true, true, true, true, true, true, true, true, true, true, true, true, true, true, true, true, true, true, true, true, true, true, true, true, true, true, true, true, true, true, true, true, true, true, true, true, true, true, true, true, true, true, true, true, true, true, true, true, true, true, true, true, false, false] rfl rfl (any_of HT_.out (by kernel_rfl)) (fun _ _ _ h => h) (Or.inl ⟨by rfl, ?_⟩) ?_ ?_
                    rotate_left
                    · intro w'
                      go_simp
                      with_reducible rfl
                    rotate_left
                    · simp only [Act.put, List.setIfInBounds_toArray, List.set_cons_zero, List.set_cons_succ, i64_w, i32_w]
                      rfl
                    refine pure_ (i := 54) (N := some 67) (v := ?_) (a' := ?_) #[true, true, true, true, true, true, true, true, true, true, true, true, true, true, true, true, true, true, true, true, true, true, true, true, true, true, true, true, true, true, true, true, true, true, true, true, true, true, true, true, true, true, true, true, true, true, true, true, true, true, true, true, true, true, true, false] rfl rfl (any_of HT_.out (by kernel_rfl)) (fun _ _ _ h => h) (Or.inl ⟨by rfl, ?_⟩) ?_ ?_
                    rotate_left
                    · intro w'
                      go_simp
                      with_reducible rfl
                    rotate_left
                    · simp only [Act.put, List.setIfInBounds_toArray, List.set_cons_zero, List.set_cons_succ, i64_w, i32_w]
                      rfl
                    refine pure_ (i := 55) (N := some 0) (v := ?_) (a' := ?_) #[true, true, true, true, true, true, true, true, true, true, true, true, true, true, true, true, true, true, true, true, true, true, true, true, true, true, true, true, true, true, true, true, true, true, true, true, true, true, true, true, true, true, true, true, true, true, true, true, true, true, true, true, true, true, true, true] rfl rfl (any_of HT_.out (by kernel_rfl)) (fun _ _ _ h => h) (Or.inl ⟨by rfl, ?_⟩) ?_ ?_
                    rotate_left
                    · intro w'
                      go_simp
                      with_reducible rfl
                    rotate_left
                    · simp only [Act.put, List.setIfInBounds_toArray, List.set_cons_zero, List.set_cons_succ, i64_w, i32_w]
                      rfl
                    refine done_ (done_of HT_.out (by kernel_rfl)) ?_
                    try go_wp2
                    go_ret
                    exact ⟨by first | rfl | (simp [errW_none, errW_some] <;> rfl) | (simp [*, errW_none, errW_some] <;> rfl), by repeat (first | (with_reducible first | exact HB.out | apply below_alloc | apply pw_below_drewN | apply below_drew1 | refine below_set ?_ GE169.out | refine below_set ?_ GE170.out | refine below_set ?_ GE171.out | refine below_set ?_ GE172.out | refine below_set ?_ GE173.out) | exact HB.out)⟩
                  · replace c23 := Bool.eq_false_iff.mpr c23
                    subst c23
                    have H1 : (some false) = some r := by rw [if_neg (show ¬ (false = true) by decide)] at H; exact H
                    clear H
                    have H := H1
                    clear H1
                    obtain rfl := Option.some.inj H
                    exact absurd hT_.out (by decide)
                · replace c21 := Bool.eq_false_iff.mpr c21
                  subst c21
                  have H1 : (some false) = some r := by rw [if_neg (show ¬ (false = true) by decide)] at H; exact H
                  clear H
                  have H := H1
                  clear H1
                  obtain rfl := Option.some.inj H
                  exact absurd hT_.out (by decide)
              · rw [if_neg c19] at H
                have c19b0 : (t199.toList == t147.toList && (t200.toList == t148.toList && (t201.toList == t149.toList && (t202.toList == t150.toList && (t203 == t151 && (t204 == 1 && (t205 == t153 && (t206 == t154 && (t207 == t155 && (t208 == t156 && (t209 == t157))))))))))) = false := by simpa using c19
                (try (have c19b1 : decide (t199.toList = t147.toList && (t200.toList == t148.toList && (t201.toList == t149.toList && (t202.toList == t150.toList && (t203 == t151 && (t204 == 1 && (t205 == t153 && (t206 == t154 && (t207 == t155 && (t208 == t156 && (t209 == t157))))))))))) = false := by simpa using c19))
                (try (have c19b2 : (t199.toList == t147.toList && (t200.toList == t148.toList && (t201.toList == t149.toList && (t202.toList == t150.toList && (t203 == t151 && (t204 == 1 && (t205 == t153 && (t206 == t154 && (t207 == t155 && (t208 == t156 && (t209 == t157))))))))))) = false := by simpa using c19))
                (try (have c19b3 : ¬ (t199.toList = t147.toList && (t200.toList == t148.toList && (t201.toList == t149.toList && (t202.toList == t150.toList && (t203 == t151 && (t204 == 1 && (t205 == t153 && (t206 == t154 && (t207 == t155 && (t208 == t156 && (t209 == t157))))))))))) := by simpa using c19))
                clear c19
                obtain rfl := Option.some.inj H
                exact absurd hT_.out (by decide)
            · rw [if_neg c17] at H
              have c17b0 : (t198 == 1) = false := beq_eq_false_iff_ne.mpr c17
              have c17b1 : (t198 != 1) = true := bne_iff_ne.mpr c17
              obtain rfl := Option.some.inj H
              exact absurd hT_.out (by decide)
          · rw [if_neg c15] at H
            have c15b0 : (t197 == (-1)) = false := beq_eq_false_iff_ne.mpr c15
            have c15b1 : (t197 != (-1)) = true := bne_iff_ne.mpr c15
            obtain rfl := Option.some.inj H
            exact absurd hT_.out (by decide)
        · rw [if_neg c13] at H
          have c13b0 : (t196 == (-1)) = false := beq_eq_false_iff_ne.mpr c13
          have c13b1 : (t196 != (-1)) = true := bne_iff_ne.mpr c13
          obtain rfl := Option.some.inj H
          exact absurd hT_.out (by decide)
      · rw [if_neg c9] at H
        have c9b0 : (t187.toList == ([97] : List UInt8) && (t188.toList == ([47] : List UInt8) && (t189.toList == ([120] : List UInt8)))) = false := by simpa using c9
        (try (have c9b1 : decide (t187.toList = ([97] : List UInt8) && (t188.toList == ([47] : List UInt8) && (t189.toList == ([120] : List UInt8)))) = false := by simpa using c9))
        (try (have c9b2 : (t187.toList == ([97] : List UInt8) && (t188.toList == ([47] : List UInt8) && (t189.toList == ([120] : List UInt8)))) = false := by simpa using c9))
        (try (have c9b3 : ¬ (t187.toList = ([97] : List UInt8) && (t188.toList == ([47] : List UInt8) && (t189.toList == ([120] : List UInt8)))) := by simpa using c9))
        clear c9
        obtain rfl := Option.some.inj H
        exact absurd hT_.out (by decide)
  · replace c4 := Bool.eq_false_iff.mpr c4
    subst c4
    have H1 : (some false) = some r := by rw [if_neg (show ¬ (false = true) by decide)] at H; exact H
    clear H
    have H := H1
    clear H1
    obtain rfl := Option.some.inj H
    exact absurd hT_.out (by decide)

end Go.Proofs.YtpcakfldmcfhlaaGreatDoor.Print
