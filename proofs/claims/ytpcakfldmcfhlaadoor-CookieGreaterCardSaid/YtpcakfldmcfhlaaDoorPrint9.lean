/- Printed by a program of this claim's session (xprint.py): the machine's side: each Go function as a Lean function, and that a call of it comes to what that tells; the row of a statement. No condition. -/
import Derived.Test.YtpcakfldmcfhlaaDoorPrint0
import Derived.Test.YtpcakfldmcfhlaaDoorPrint1
import Derived.Test.YtpcakfldmcfhlaaDoorPrint3
import Derived.Test.YtpcakfldmcfhlaaDoorPrint6
import Derived.Test.YtpcakfldmcfhlaaDoorPrint8
namespace Go.Proofs.YtpcakfldmcfhlaaDoor.Print
open Go.RowKit Go.Proofs.YtpcakfldmcfhlaaDoorW.PrintWords Go.Proofs.YtpcakfldmcfhlaaDoorW.PrintLast Go.Proofs.YtpcakfldmcfhlaaDoorW.PrintMore
attribute [local go_sem] max2_int min2_int max_two min_two max_three min_three max_four min_four   -- for this text's walks alone
set_option linter.unusedVariables false
set_option linter.unusedSimpArgs false

attribute [local go_sem high] eqA23
/-! ### cracknellaw13_CookieGreater: function 6 -/
def cracknellaw13_CookieGreater.f (k : Nat) (a0_0 : ByteArray) (a0_1 : ByteArray) (a0_2 : ByteArray) (a0_3 : ByteArray) (a0_4 : Int) (a0_5 : Int) (a0_6 : Int) (a0_7 : Bool) (a0_8 : Bool) (a0_9 : Bool) (a0_10 : Int) (a1_0 : ByteArray) (a1_1 : ByteArray) (a1_2 : ByteArray) (a1_3 : ByteArray) (a1_4 : Int) (a1_5 : Int) (a1_6 : Int) (a1_7 : Bool) (a1_8 : Bool) (a1_9 : Bool) (a1_10 : Int) (a2_0 : ByteArray) (a2_1 : ByteArray) (a2_2 : ByteArray) (a2_3 : ByteArray) (a2_4 : Int) (a2_5 : Int) (a2_6 : Int) (a2_7 : Bool) (a2_8 : Bool) (a2_9 : Bool) (a2_10 : Int) : Option (Bool) := (cookie_Greater.f a0_0 a0_1 a0_2 a0_3 a0_4 a0_5 a0_6 a0_7 a0_8 a0_9 a0_10 a1_0 a1_1 a1_2 a1_3 a1_4 a1_5 a1_6 a1_7 a1_8 a1_9 a1_10).bind fun bt256 => ((cookie_Greater.f bt256.1 bt256.2.1 bt256.2.2.1 bt256.2.2.2.1 bt256.2.2.2.2.1 bt256.2.2.2.2.2.1 bt256.2.2.2.2.2.2.1 bt256.2.2.2.2.2.2.2.1 bt256.2.2.2.2.2.2.2.2.1 bt256.2.2.2.2.2.2.2.2.2.1 bt256.2.2.2.2.2.2.2.2.2.2 a2_0 a2_1 a2_2 a2_3 a2_4 a2_5 a2_6 a2_7 a2_8 a2_9 a2_10).bind fun bt268 => ((cracknellaw13_alive.f k).bind fun t280 => (if t280 = true then ((cracknelref13_Greater.f k a0_0 a0_1 a0_2 a0_3 a0_4 a0_5 a0_6 a0_7 a0_8 a0_9 a0_10 a1_0 a1_1 a1_2 a1_3 a1_4 a1_5 a1_6 a1_7 a1_8 a1_9 a1_10).bind fun bt281 => (if (bt256.1.toList == bt281.1.toList && (bt256.2.1.toList == bt281.2.1.toList && (bt256.2.2.1.toList == bt281.2.2.1.toList && (bt256.2.2.2.1.toList == bt281.2.2.2.1.toList && (bt256.2.2.2.2.1 == bt281.2.2.2.2.1 && (bt256.2.2.2.2.2.1 == bt281.2.2.2.2.2.1 && (bt256.2.2.2.2.2.2.1 == bt281.2.2.2.2.2.2.1 && (bt256.2.2.2.2.2.2.2.1 == bt281.2.2.2.2.2.2.2.1 && (bt256.2.2.2.2.2.2.2.2.1 == bt281.2.2.2.2.2.2.2.2.1 && (bt256.2.2.2.2.2.2.2.2.2.1 == bt281.2.2.2.2.2.2.2.2.2.1 && (bt256.2.2.2.2.2.2.2.2.2.2 == bt281.2.2.2.2.2.2.2.2.2.2))))))))))) = true then ((cookie_Greater.f a1_0 a1_1 a1_2 a1_3 a1_4 a1_5 a1_6 a1_7 a1_8 a1_9 a1_10 a0_0 a0_1 a0_2 a0_3 a0_4 a0_5 a0_6 a0_7 a0_8 a0_9 a0_10).bind fun bt292 => (if (bt292.1.toList == bt256.1.toList && (bt292.2.1.toList == bt256.2.1.toList && (bt292.2.2.1.toList == bt256.2.2.1.toList && (bt292.2.2.2.1.toList == bt256.2.2.2.1.toList && (bt292.2.2.2.2.1 == bt256.2.2.2.2.1 && (bt292.2.2.2.2.2.1 == bt256.2.2.2.2.2.1 && (bt292.2.2.2.2.2.2.1 == bt256.2.2.2.2.2.2.1 && (bt292.2.2.2.2.2.2.2.1 == bt256.2.2.2.2.2.2.2.1 && (bt292.2.2.2.2.2.2.2.2.1 == bt256.2.2.2.2.2.2.2.2.1 && (bt292.2.2.2.2.2.2.2.2.2.1 == bt256.2.2.2.2.2.2.2.2.2.1 && (bt292.2.2.2.2.2.2.2.2.2.2 == bt256.2.2.2.2.2.2.2.2.2.2))))))))))) = true then ((cookie_Greater.f a0_0 a0_1 a0_2 a0_3 a0_4 a0_5 a0_6 a0_7 a0_8 a0_9 a0_10 a0_0 a0_1 a0_2 a0_3 a0_4 a0_5 a0_6 a0_7 a0_8 a0_9 a0_10).bind fun bt303 => (if (bt303.1.toList == a0_0.toList && (bt303.2.1.toList == a0_1.toList && (bt303.2.2.1.toList == a0_2.toList && (bt303.2.2.2.1.toList == a0_3.toList && (bt303.2.2.2.2.1 == a0_4 && (bt303.2.2.2.2.2.1 == a0_5 && (bt303.2.2.2.2.2.2.1 == a0_6 && (bt303.2.2.2.2.2.2.2.1 == a0_7 && (bt303.2.2.2.2.2.2.2.2.1 == a0_8 && (bt303.2.2.2.2.2.2.2.2.2.1 == a0_9 && (bt303.2.2.2.2.2.2.2.2.2.2 == a0_10))))))))))) = true then (if (bt256.1.toList == a0_0.toList && (bt256.2.1.toList == a0_1.toList && (bt256.2.2.1.toList == a0_2.toList && (bt256.2.2.2.1.toList == a0_3.toList && (bt256.2.2.2.2.1 == a0_4 && (bt256.2.2.2.2.2.1 == a0_5 && (bt256.2.2.2.2.2.2.1 == a0_6 && (bt256.2.2.2.2.2.2.2.1 == a0_7 && (bt256.2.2.2.2.2.2.2.2.1 == a0_8 && (bt256.2.2.2.2.2.2.2.2.2.1 == a0_9 && (bt256.2.2.2.2.2.2.2.2.2.2 == a0_10))))))))))) = true then ((cookie_Cmp.f bt256.1 bt256.2.1 bt256.2.2.1 bt256.2.2.2.1 bt256.2.2.2.2.1 bt256.2.2.2.2.2.1 bt256.2.2.2.2.2.2.1 bt256.2.2.2.2.2.2.2.1 bt256.2.2.2.2.2.2.2.2.1 bt256.2.2.2.2.2.2.2.2.2.1 bt256.2.2.2.2.2.2.2.2.2.2 a0_0 a0_1 a0_2 a0_3 a0_4 a0_5 a0_6 a0_7 a0_8 a0_9 a0_10).bind fun t314 => (if t314 ≥ 0 then ((cookie_Cmp.f bt256.1 bt256.2.1 bt256.2.2.1 bt256.2.2.2.1 bt256.2.2.2.2.1 bt256.2.2.2.2.2.1 bt256.2.2.2.2.2.2.1 bt256.2.2.2.2.2.2.2.1 bt256.2.2.2.2.2.2.2.2.1 bt256.2.2.2.2.2.2.2.2.2.1 bt256.2.2.2.2.2.2.2.2.2.2 a1_0 a1_1 a1_2 a1_3 a1_4 a1_5 a1_6 a1_7 a1_8 a1_9 a1_10).bind fun t315 => (if t315 ≥ 0 then ((cookie_Greater.f a1_0 a1_1 a1_2 a1_3 a1_4 a1_5 a1_6 a1_7 a1_8 a1_9 a1_10 a2_0 a2_1 a2_2 a2_3 a2_4 a2_5 a2_6 a2_7 a2_8 a2_9 a2_10).bind fun bt316 => ((cookie_Greater.f a0_0 a0_1 a0_2 a0_3 a0_4 a0_5 a0_6 a0_7 a0_8 a0_9 a0_10 bt316.1 bt316.2.1 bt316.2.2.1 bt316.2.2.2.1 bt316.2.2.2.2.1 bt316.2.2.2.2.2.1 bt316.2.2.2.2.2.2.1 bt316.2.2.2.2.2.2.2.1 bt316.2.2.2.2.2.2.2.2.1 bt316.2.2.2.2.2.2.2.2.2.1 bt316.2.2.2.2.2.2.2.2.2.2).bind fun bt327 => (some (bt327.1.toList == bt268.1.toList && (bt327.2.1.toList == bt268.2.1.toList && (bt327.2.2.1.toList == bt268.2.2.1.toList && (bt327.2.2.2.1.toList == bt268.2.2.2.1.toList && (bt327.2.2.2.2.1 == bt268.2.2.2.2.1 && (bt327.2.2.2.2.2.1 == bt268.2.2.2.2.2.1 && (bt327.2.2.2.2.2.2.1 == bt268.2.2.2.2.2.2.1 && (bt327.2.2.2.2.2.2.2.1 == bt268.2.2.2.2.2.2.2.1 && (bt327.2.2.2.2.2.2.2.2.1 == bt268.2.2.2.2.2.2.2.2.1 && (bt327.2.2.2.2.2.2.2.2.2.1 == bt268.2.2.2.2.2.2.2.2.2.1 && (bt327.2.2.2.2.2.2.2.2.2.2 == bt268.2.2.2.2.2.2.2.2.2.2)))))))))))))) else (some false))) else (some false))) else (if (bt256.1.toList == a1_0.toList && (bt256.2.1.toList == a1_1.toList && (bt256.2.2.1.toList == a1_2.toList && (bt256.2.2.2.1.toList == a1_3.toList && (bt256.2.2.2.2.1 == a1_4 && (bt256.2.2.2.2.2.1 == a1_5 && (bt256.2.2.2.2.2.2.1 == a1_6 && (bt256.2.2.2.2.2.2.2.1 == a1_7 && (bt256.2.2.2.2.2.2.2.2.1 == a1_8 && (bt256.2.2.2.2.2.2.2.2.2.1 == a1_9 && (bt256.2.2.2.2.2.2.2.2.2.2 == a1_10))))))))))) = true then ((cookie_Cmp.f bt256.1 bt256.2.1 bt256.2.2.1 bt256.2.2.2.1 bt256.2.2.2.2.1 bt256.2.2.2.2.2.1 bt256.2.2.2.2.2.2.1 bt256.2.2.2.2.2.2.2.1 bt256.2.2.2.2.2.2.2.2.1 bt256.2.2.2.2.2.2.2.2.2.1 bt256.2.2.2.2.2.2.2.2.2.2 a0_0 a0_1 a0_2 a0_3 a0_4 a0_5 a0_6 a0_7 a0_8 a0_9 a0_10).bind fun t338 => (if t338 ≥ 0 then ((cookie_Cmp.f bt256.1 bt256.2.1 bt256.2.2.1 bt256.2.2.2.1 bt256.2.2.2.2.1 bt256.2.2.2.2.2.1 bt256.2.2.2.2.2.2.1 bt256.2.2.2.2.2.2.2.1 bt256.2.2.2.2.2.2.2.2.1 bt256.2.2.2.2.2.2.2.2.2.1 bt256.2.2.2.2.2.2.2.2.2.2 a1_0 a1_1 a1_2 a1_3 a1_4 a1_5 a1_6 a1_7 a1_8 a1_9 a1_10).bind fun t339 => (if t339 ≥ 0 then ((cookie_Greater.f a1_0 a1_1 a1_2 a1_3 a1_4 a1_5 a1_6 a1_7 a1_8 a1_9 a1_10 a2_0 a2_1 a2_2 a2_3 a2_4 a2_5 a2_6 a2_7 a2_8 a2_9 a2_10).bind fun bt340 => ((cookie_Greater.f a0_0 a0_1 a0_2 a0_3 a0_4 a0_5 a0_6 a0_7 a0_8 a0_9 a0_10 bt340.1 bt340.2.1 bt340.2.2.1 bt340.2.2.2.1 bt340.2.2.2.2.1 bt340.2.2.2.2.2.1 bt340.2.2.2.2.2.2.1 bt340.2.2.2.2.2.2.2.1 bt340.2.2.2.2.2.2.2.2.1 bt340.2.2.2.2.2.2.2.2.2.1 bt340.2.2.2.2.2.2.2.2.2.2).bind fun bt351 => (some (bt351.1.toList == bt268.1.toList && (bt351.2.1.toList == bt268.2.1.toList && (bt351.2.2.1.toList == bt268.2.2.1.toList && (bt351.2.2.2.1.toList == bt268.2.2.2.1.toList && (bt351.2.2.2.2.1 == bt268.2.2.2.2.1 && (bt351.2.2.2.2.2.1 == bt268.2.2.2.2.2.1 && (bt351.2.2.2.2.2.2.1 == bt268.2.2.2.2.2.2.1 && (bt351.2.2.2.2.2.2.2.1 == bt268.2.2.2.2.2.2.2.1 && (bt351.2.2.2.2.2.2.2.2.1 == bt268.2.2.2.2.2.2.2.2.1 && (bt351.2.2.2.2.2.2.2.2.2.1 == bt268.2.2.2.2.2.2.2.2.2.1 && (bt351.2.2.2.2.2.2.2.2.2.2 == bt268.2.2.2.2.2.2.2.2.2.2)))))))))))))) else (some false))) else (some false))) else (some false))) else (some false))) else (some false))) else (some false))) else (some false))))
theorem cracknellaw13_CookieGreater.mono : ∀ a0 a1 a2 a3 a4 a5 a6 a7 a8 a9 a10 a11 a12 a13 a14 a15 a16 a17 a18 a19 a20 a21 a22 a23 a24 a25 a26 a27 a28 a29 a30 a31 a32 k, LeO (cracknellaw13_CookieGreater.f k a0 a1 a2 a3 a4 a5 a6 a7 a8 a9 a10 a11 a12 a13 a14 a15 a16 a17 a18 a19 a20 a21 a22 a23 a24 a25 a26 a27 a28 a29 a30 a31 a32) (cracknellaw13_CookieGreater.f (k + 1) a0 a1 a2 a3 a4 a5 a6 a7 a8 a9 a10 a11 a12 a13 a14 a15 a16 a17 a18 a19 a20 a21 a22 a23 a24 a25 a26 a27 a28 a29 a30 a31 a32) := by
  intro a0 a1 a2 a3 a4 a5 a6 a7 a8 a9 a10 a11 a12 a13 a14 a15 a16 a17 a18 a19 a20 a21 a22 a23 a24 a25 a26 a27 a28 a29 a30 a31 a32 k
  unfold cracknellaw13_CookieGreater.f
  repeat' first
      | (with_reducible exact cracknellaw13_alive.mono _)
      | (with_reducible exact cracknelref13_Greater.mono _ _ _ _ _ _ _ _ _ _ _ _ _ _ _ _ _ _ _ _ _ _ _)
      | (with_reducible exact LeO.refl _)
      | (with_reducible exact LeO.none _)
      | (with_reducible refine LeO.ite ?_ ?_)
      | (with_reducible refine LeO.bind ?_ (fun _ => ?_))
      | exact cracknellaw13_alive.mono _
      | exact cracknelref13_Greater.mono _ _ _ _ _ _ _ _ _ _ _ _ _ _ _ _ _ _ _ _ _ _ _
      | exact LeO.none _
      | refine LeO.ite ?_ ?_
      | refine LeO.bind ?_ (fun _ => ?_)
def cracknellaw13_CookieGreater.T3 : Bool × List (List Nat × List Nat) := (true, [([], []), ([0, 0], [0]), ([1], [1]), ([1], [1]), ([1], [1]), ([3, 4, 1, 1], [1, 3, 4]), ([2, 5, 1], [1, 2, 5]), ([1, 6], [1, 6]), ([7, 5], [7]), ([8], [8]), ([8], [8]), ([9, 10, 8, 8], [8, 9, 10]), ([8], [8]), ([11, 12, 8], [8, 11, 12]), ([8, 13], [8, 13]), ([14, 11], [14]), ([15], [15]), ([15], [15]), ([16, 17, 15, 15], [15, 16, 17]), ([15], [15]), ([18, 19, 15], [15, 18, 19]), ([15, 20], [15, 20]), ([21, 18], [21]), ([22], [22]), ([22], [22]), ([23, 24, 22], [22, 23, 24]), ([25, 22, 22], [22, 25]), ([26], [26]), ([26], [26]), ([27, 28, 26], [26, 27, 28]), ([26, 29, 22], [22, 26, 29]), ([22, 30], [22, 30]), ([31, 26], [31]), ([32], [32]), ([32], [32]), ([33, 34, 32, 32], [32, 33, 34]), ([35, 32], [32, 35]), ([32, 36], [32, 36]), ([37, 35], [37]), ([38], [38]), ([38], [38]), ([39, 40, 38, 38], [38, 39, 40]), ([41, 38], [38, 41]), ([38, 42], [38, 42]), ([43, 41], [43]), ([44], [44]), ([44], [44]), ([44], [44]), ([46, 47, 44, 44], [44, 46, 47]), ([45, 48, 48, 44], [44, 45, 48]), ([44], [44]), ([49, 50, 44], [44, 49, 50]), ([44, 51], [44, 51]), ([52, 49, 0, 1, 2, 3, 4, 5, 6, 7, 8, 9, 10, 11, 12, 13, 14, 15, 16, 17, 18, 19, 20, 21, 22, 23, 24, 25, 26, 27, 28, 29, 30, 31, 32, 33, 34, 35, 36, 37, 38, 39, 40, 41, 42, 43, 44, 45, 46, 47, 48, 49, 50, 51, 52], [52])])
def cracknellaw13_CookieGreater.B3 : List Nat := [0, 1, 3, 3, 3, 27, 63, 127, 255, 511, 511, 2047, 511, 8191, 16383, 32767, 65535, 65535, 262143, 65535, 1048575, 2097151, 4194303, 8388607, 8388607, 33554431, 67108863, 134217727, 134217727, 536870911, 1073741823, 2147483647, 4294967295, 8589934591, 8589934591, 34359738367, 68719476735, 137438953471, 274877906943, 549755813887, 549755813887, 2199023255551, 4398046511103, 8796093022207, 17592186044415, 35184372088831, 35184372088831, 35184372088831, 246290604621823, 562949953421311, 35184372088831, 2251799813685247, 4503599627370495, 9007199254740991]
theorem cracknellaw13_CookieGreater.tab3 : rtab .any (opsOf Tryd.f6 3) = cracknellaw13_CookieGreater.T3 := by kernel_rfl
theorem cracknellaw13_CookieGreater.bits3 : waitsOk cracknellaw13_CookieGreater.T3.2 cracknellaw13_CookieGreater.B3 = true := by kernel_rfl
set_option maxHeartbeats 8000000 in
set_option maxRecDepth 100000 in
theorem cracknellaw13_CookieGreater.calls (k : Nat) (a0_0 : ByteArray) (a0_1 : ByteArray) (a0_2 : ByteArray) (a0_3 : ByteArray) (a0_4 : Int) (a0_5 : Int) (a0_6 : Int) (a0_7 : Bool) (a0_8 : Bool) (a0_9 : Bool) (a0_10 : Int) (a1_0 : ByteArray) (a1_1 : ByteArray) (a1_2 : ByteArray) (a1_3 : ByteArray) (a1_4 : Int) (a1_5 : Int) (a1_6 : Int) (a1_7 : Bool) (a1_8 : Bool) (a1_9 : Bool) (a1_10 : Int) (a2_0 : ByteArray) (a2_1 : ByteArray) (a2_2 : ByteArray) (a2_3 : ByteArray) (a2_4 : Int) (a2_5 : Int) (a2_6 : Int) (a2_7 : Bool) (a2_8 : Bool) (a2_9 : Bool) (a2_10 : Int) (r : Bool) (w : World) (hG : Aside0 (LaidG w)) (hT_ : Aside0 (r = true)) (h : cracknellaw13_CookieGreater.f k a0_0 a0_1 a0_2 a0_3 a0_4 a0_5 a0_6 a0_7 a0_8 a0_9 a0_10 a1_0 a1_1 a1_2 a1_3 a1_4 a1_5 a1_6 a1_7 a1_8 a1_9 a1_10 a2_0 a2_1 a2_2 a2_3 a2_4 a2_5 a2_6 a2_7 a2_8 a2_9 a2_10 = some r) :
    Calls Tryd.prog 6 #[.agg #[.string a0_0, .string a0_1, .string a0_2, .string a0_3, .int .i64 a0_4, .int .i64 a0_5, .int .i64 a0_6, .bool a0_7, .bool a0_8, .bool a0_9, .int .i64 a0_10], .agg #[.string a1_0, .string a1_1, .string a1_2, .string a1_3, .int .i64 a1_4, .int .i64 a1_5, .int .i64 a1_6, .bool a1_7, .bool a1_8, .bool a1_9, .int .i64 a1_10], .agg #[.string a2_0, .string a2_1, .string a2_2, .string a2_3, .int .i64 a2_4, .int .i64 a2_5, .int .i64 a2_6, .bool a2_7, .bool a2_8, .bool a2_9, .int .i64 a2_10]] w fun e w' => e = .returned (.bool r) ∧ Below w.heap.size w w' := by
  have hu23 := Tryd.underlying23
  have HB := Aside0.mk (Below.refl w.heap.size w)
  have H : ((cookie_Greater.f a0_0 a0_1 a0_2 a0_3 a0_4 a0_5 a0_6 a0_7 a0_8 a0_9 a0_10 a1_0 a1_1 a1_2 a1_3 a1_4 a1_5 a1_6 a1_7 a1_8 a1_9 a1_10).bind fun bt256 => ((cookie_Greater.f bt256.1 bt256.2.1 bt256.2.2.1 bt256.2.2.2.1 bt256.2.2.2.2.1 bt256.2.2.2.2.2.1 bt256.2.2.2.2.2.2.1 bt256.2.2.2.2.2.2.2.1 bt256.2.2.2.2.2.2.2.2.1 bt256.2.2.2.2.2.2.2.2.2.1 bt256.2.2.2.2.2.2.2.2.2.2 a2_0 a2_1 a2_2 a2_3 a2_4 a2_5 a2_6 a2_7 a2_8 a2_9 a2_10).bind fun bt268 => ((cracknellaw13_alive.f k).bind fun t280 => (if t280 = true then ((cracknelref13_Greater.f k a0_0 a0_1 a0_2 a0_3 a0_4 a0_5 a0_6 a0_7 a0_8 a0_9 a0_10 a1_0 a1_1 a1_2 a1_3 a1_4 a1_5 a1_6 a1_7 a1_8 a1_9 a1_10).bind fun bt281 => (if (bt256.1.toList == bt281.1.toList && (bt256.2.1.toList == bt281.2.1.toList && (bt256.2.2.1.toList == bt281.2.2.1.toList && (bt256.2.2.2.1.toList == bt281.2.2.2.1.toList && (bt256.2.2.2.2.1 == bt281.2.2.2.2.1 && (bt256.2.2.2.2.2.1 == bt281.2.2.2.2.2.1 && (bt256.2.2.2.2.2.2.1 == bt281.2.2.2.2.2.2.1 && (bt256.2.2.2.2.2.2.2.1 == bt281.2.2.2.2.2.2.2.1 && (bt256.2.2.2.2.2.2.2.2.1 == bt281.2.2.2.2.2.2.2.2.1 && (bt256.2.2.2.2.2.2.2.2.2.1 == bt281.2.2.2.2.2.2.2.2.2.1 && (bt256.2.2.2.2.2.2.2.2.2.2 == bt281.2.2.2.2.2.2.2.2.2.2))))))))))) = true then ((cookie_Greater.f a1_0 a1_1 a1_2 a1_3 a1_4 a1_5 a1_6 a1_7 a1_8 a1_9 a1_10 a0_0 a0_1 a0_2 a0_3 a0_4 a0_5 a0_6 a0_7 a0_8 a0_9 a0_10).bind fun bt292 => (if (bt292.1.toList == bt256.1.toList && (bt292.2.1.toList == bt256.2.1.toList && (bt292.2.2.1.toList == bt256.2.2.1.toList && (bt292.2.2.2.1.toList == bt256.2.2.2.1.toList && (bt292.2.2.2.2.1 == bt256.2.2.2.2.1 && (bt292.2.2.2.2.2.1 == bt256.2.2.2.2.2.1 && (bt292.2.2.2.2.2.2.1 == bt256.2.2.2.2.2.2.1 && (bt292.2.2.2.2.2.2.2.1 == bt256.2.2.2.2.2.2.2.1 && (bt292.2.2.2.2.2.2.2.2.1 == bt256.2.2.2.2.2.2.2.2.1 && (bt292.2.2.2.2.2.2.2.2.2.1 == bt256.2.2.2.2.2.2.2.2.2.1 && (bt292.2.2.2.2.2.2.2.2.2.2 == bt256.2.2.2.2.2.2.2.2.2.2))))))))))) = true then ((cookie_Greater.f a0_0 a0_1 a0_2 a0_3 a0_4 a0_5 a0_6 a0_7 a0_8 a0_9 a0_10 a0_0 a0_1 a0_2 a0_3 a0_4 a0_5 a0_6 a0_7 a0_8 a0_9 a0_10).bind fun bt303 => (if (bt303.1.toList == a0_0.toList && (bt303.2.1.toList == a0_1.toList && (bt303.2.2.1.toList == a0_2.toList && (bt303.2.2.2.1.toList == a0_3.toList && (bt303.2.2.2.2.1 == a0_4 && (bt303.2.2.2.2.2.1 == a0_5 && (bt303.2.2.2.2.2.2.1 == a0_6 && (bt303.2.2.2.2.2.2.2.1 == a0_7 && (bt303.2.2.2.2.2.2.2.2.1 == a0_8 && (bt303.2.2.2.2.2.2.2.2.2.1 == a0_9 && (bt303.2.2.2.2.2.2.2.2.2.2 == a0_10))))))))))) = true then (if (bt256.1.toList == a0_0.toList && (bt256.2.1.toList == a0_1.toList && (bt256.2.2.1.toList == a0_2.toList && (bt256.2.2.2.1.toList == a0_3.toList && (bt256.2.2.2.2.1 == a0_4 && (bt256.2.2.2.2.2.1 == a0_5 && (bt256.2.2.2.2.2.2.1 == a0_6 && (bt256.2.2.2.2.2.2.2.1 == a0_7 && (bt256.2.2.2.2.2.2.2.2.1 == a0_8 && (bt256.2.2.2.2.2.2.2.2.2.1 == a0_9 && (bt256.2.2.2.2.2.2.2.2.2.2 == a0_10))))))))))) = true then ((cookie_Cmp.f bt256.1 bt256.2.1 bt256.2.2.1 bt256.2.2.2.1 bt256.2.2.2.2.1 bt256.2.2.2.2.2.1 bt256.2.2.2.2.2.2.1 bt256.2.2.2.2.2.2.2.1 bt256.2.2.2.2.2.2.2.2.1 bt256.2.2.2.2.2.2.2.2.2.1 bt256.2.2.2.2.2.2.2.2.2.2 a0_0 a0_1 a0_2 a0_3 a0_4 a0_5 a0_6 a0_7 a0_8 a0_9 a0_10).bind fun t314 => (if t314 ≥ 0 then ((cookie_Cmp.f bt256.1 bt256.2.1 bt256.2.2.1 bt256.2.2.2.1 bt256.2.2.2.2.1 bt256.2.2.2.2.2.1 bt256.2.2.2.2.2.2.1 bt256.2.2.2.2.2.2.2.1 bt256.2.2.2.2.2.2.2.2.1 bt256.2.2.2.2.2.2.2.2.2.1 bt256.2.2.2.2.2.2.2.2.2.2 a1_0 a1_1 a1_2 a1_3 a1_4 a1_5 a1_6 a1_7 a1_8 a1_9 a1_10).bind fun t315 => (if t315 ≥ 0 then ((cookie_Greater.f a1_0 a1_1 a1_2 a1_3 a1_4 a1_5 a1_6 a1_7 a1_8 a1_9 a1_10 a2_0 a2_1 a2_2 a2_3 a2_4 a2_5 a2_6 a2_7 a2_8 a2_9 a2_10).bind fun bt316 => ((cookie_Greater.f a0_0 a0_1 a0_2 a0_3 a0_4 a0_5 a0_6 a0_7 a0_8 a0_9 a0_10 bt316.1 bt316.2.1 bt316.2.2.1 bt316.2.2.2.1 bt316.2.2.2.2.1 bt316.2.2.2.2.2.1 bt316.2.2.2.2.2.2.1 bt316.2.2.2.2.2.2.2.1 bt316.2.2.2.2.2.2.2.2.1 bt316.2.2.2.2.2.2.2.2.2.1 bt316.2.2.2.2.2.2.2.2.2.2).bind fun bt327 => (some (bt327.1.toList == bt268.1.toList && (bt327.2.1.toList == bt268.2.1.toList && (bt327.2.2.1.toList == bt268.2.2.1.toList && (bt327.2.2.2.1.toList == bt268.2.2.2.1.toList && (bt327.2.2.2.2.1 == bt268.2.2.2.2.1 && (bt327.2.2.2.2.2.1 == bt268.2.2.2.2.2.1 && (bt327.2.2.2.2.2.2.1 == bt268.2.2.2.2.2.2.1 && (bt327.2.2.2.2.2.2.2.1 == bt268.2.2.2.2.2.2.2.1 && (bt327.2.2.2.2.2.2.2.2.1 == bt268.2.2.2.2.2.2.2.2.1 && (bt327.2.2.2.2.2.2.2.2.2.1 == bt268.2.2.2.2.2.2.2.2.2.1 && (bt327.2.2.2.2.2.2.2.2.2.2 == bt268.2.2.2.2.2.2.2.2.2.2)))))))))))))) else (some false))) else (some false))) else (if (bt256.1.toList == a1_0.toList && (bt256.2.1.toList == a1_1.toList && (bt256.2.2.1.toList == a1_2.toList && (bt256.2.2.2.1.toList == a1_3.toList && (bt256.2.2.2.2.1 == a1_4 && (bt256.2.2.2.2.2.1 == a1_5 && (bt256.2.2.2.2.2.2.1 == a1_6 && (bt256.2.2.2.2.2.2.2.1 == a1_7 && (bt256.2.2.2.2.2.2.2.2.1 == a1_8 && (bt256.2.2.2.2.2.2.2.2.2.1 == a1_9 && (bt256.2.2.2.2.2.2.2.2.2.2 == a1_10))))))))))) = true then ((cookie_Cmp.f bt256.1 bt256.2.1 bt256.2.2.1 bt256.2.2.2.1 bt256.2.2.2.2.1 bt256.2.2.2.2.2.1 bt256.2.2.2.2.2.2.1 bt256.2.2.2.2.2.2.2.1 bt256.2.2.2.2.2.2.2.2.1 bt256.2.2.2.2.2.2.2.2.2.1 bt256.2.2.2.2.2.2.2.2.2.2 a0_0 a0_1 a0_2 a0_3 a0_4 a0_5 a0_6 a0_7 a0_8 a0_9 a0_10).bind fun t338 => (if t338 ≥ 0 then ((cookie_Cmp.f bt256.1 bt256.2.1 bt256.2.2.1 bt256.2.2.2.1 bt256.2.2.2.2.1 bt256.2.2.2.2.2.1 bt256.2.2.2.2.2.2.1 bt256.2.2.2.2.2.2.2.1 bt256.2.2.2.2.2.2.2.2.1 bt256.2.2.2.2.2.2.2.2.2.1 bt256.2.2.2.2.2.2.2.2.2.2 a1_0 a1_1 a1_2 a1_3 a1_4 a1_5 a1_6 a1_7 a1_8 a1_9 a1_10).bind fun t339 => (if t339 ≥ 0 then ((cookie_Greater.f a1_0 a1_1 a1_2 a1_3 a1_4 a1_5 a1_6 a1_7 a1_8 a1_9 a1_10 a2_0 a2_1 a2_2 a2_3 a2_4 a2_5 a2_6 a2_7 a2_8 a2_9 a2_10).bind fun bt340 => ((cookie_Greater.f a0_0 a0_1 a0_2 a0_3 a0_4 a0_5 a0_6 a0_7 a0_8 a0_9 a0_10 bt340.1 bt340.2.1 bt340.2.2.1 bt340.2.2.2.1 bt340.2.2.2.2.1 bt340.2.2.2.2.2.1 bt340.2.2.2.2.2.2.1 bt340.2.2.2.2.2.2.2.1 bt340.2.2.2.2.2.2.2.2.1 bt340.2.2.2.2.2.2.2.2.2.1 bt340.2.2.2.2.2.2.2.2.2.2).bind fun bt351 => (some (bt351.1.toList == bt268.1.toList && (bt351.2.1.toList == bt268.2.1.toList && (bt351.2.2.1.toList == bt268.2.2.1.toList && (bt351.2.2.2.1.toList == bt268.2.2.2.1.toList && (bt351.2.2.2.2.1 == bt268.2.2.2.2.1 && (bt351.2.2.2.2.2.1 == bt268.2.2.2.2.2.1 && (bt351.2.2.2.2.2.2.1 == bt268.2.2.2.2.2.2.1 && (bt351.2.2.2.2.2.2.2.1 == bt268.2.2.2.2.2.2.2.1 && (bt351.2.2.2.2.2.2.2.2.1 == bt268.2.2.2.2.2.2.2.2.1 && (bt351.2.2.2.2.2.2.2.2.2.1 == bt268.2.2.2.2.2.2.2.2.2.1 && (bt351.2.2.2.2.2.2.2.2.2.2 == bt268.2.2.2.2.2.2.2.2.2.2)))))))))))))) else (some false))) else (some false))) else (some false))) else (some false))) else (some false))) else (some false))) else (some false))))) = some r := h
  clear h
  replace H := Option.bind_eq_some_iff.mp H
  obtain ⟨⟨t256, t257, t258, t259, t260, t261, t262, t263, t264, t265, t266⟩, A40, H⟩ := H
  replace H : ((cookie_Greater.f t256 t257 t258 t259 t260 t261 t262 t263 t264 t265 t266 a2_0 a2_1 a2_2 a2_3 a2_4 a2_5 a2_6 a2_7 a2_8 a2_9 a2_10).bind fun bt268 => ((cracknellaw13_alive.f k).bind fun t280 => (if t280 = true then ((cracknelref13_Greater.f k a0_0 a0_1 a0_2 a0_3 a0_4 a0_5 a0_6 a0_7 a0_8 a0_9 a0_10 a1_0 a1_1 a1_2 a1_3 a1_4 a1_5 a1_6 a1_7 a1_8 a1_9 a1_10).bind fun bt281 => (if (t256.toList == bt281.1.toList && (t257.toList == bt281.2.1.toList && (t258.toList == bt281.2.2.1.toList && (t259.toList == bt281.2.2.2.1.toList && (t260 == bt281.2.2.2.2.1 && (t261 == bt281.2.2.2.2.2.1 && (t262 == bt281.2.2.2.2.2.2.1 && (t263 == bt281.2.2.2.2.2.2.2.1 && (t264 == bt281.2.2.2.2.2.2.2.2.1 && (t265 == bt281.2.2.2.2.2.2.2.2.2.1 && (t266 == bt281.2.2.2.2.2.2.2.2.2.2))))))))))) = true then ((cookie_Greater.f a1_0 a1_1 a1_2 a1_3 a1_4 a1_5 a1_6 a1_7 a1_8 a1_9 a1_10 a0_0 a0_1 a0_2 a0_3 a0_4 a0_5 a0_6 a0_7 a0_8 a0_9 a0_10).bind fun bt292 => (if (bt292.1.toList == t256.toList && (bt292.2.1.toList == t257.toList && (bt292.2.2.1.toList == t258.toList && (bt292.2.2.2.1.toList == t259.toList && (bt292.2.2.2.2.1 == t260 && (bt292.2.2.2.2.2.1 == t261 && (bt292.2.2.2.2.2.2.1 == t262 && (bt292.2.2.2.2.2.2.2.1 == t263 && (bt292.2.2.2.2.2.2.2.2.1 == t264 && (bt292.2.2.2.2.2.2.2.2.2.1 == t265 && (bt292.2.2.2.2.2.2.2.2.2.2 == t266))))))))))) = true then ((cookie_Greater.f a0_0 a0_1 a0_2 a0_3 a0_4 a0_5 a0_6 a0_7 a0_8 a0_9 a0_10 a0_0 a0_1 a0_2 a0_3 a0_4 a0_5 a0_6 a0_7 a0_8 a0_9 a0_10).bind fun bt303 => (if (bt303.1.toList == a0_0.toList && (bt303.2.1.toList == a0_1.toList && (bt303.2.2.1.toList == a0_2.toList && (bt303.2.2.2.1.toList == a0_3.toList && (bt303.2.2.2.2.1 == a0_4 && (bt303.2.2.2.2.2.1 == a0_5 && (bt303.2.2.2.2.2.2.1 == a0_6 && (bt303.2.2.2.2.2.2.2.1 == a0_7 && (bt303.2.2.2.2.2.2.2.2.1 == a0_8 && (bt303.2.2.2.2.2.2.2.2.2.1 == a0_9 && (bt303.2.2.2.2.2.2.2.2.2.2 == a0_10))))))))))) = true then (if (t256.toList == a0_0.toList && (t257.toList == a0_1.toList && (t258.toList == a0_2.toList && (t259.toList == a0_3.toList && (t260 == a0_4 && (t261 == a0_5 && (t262 == a0_6 && (t263 == a0_7 && (t264 == a0_8 && (t265 == a0_9 && (t266 == a0_10))))))))))) = true then ((cookie_Cmp.f t256 t257 t258 t259 t260 t261 t262 t263 t264 t265 t266 a0_0 a0_1 a0_2 a0_3 a0_4 a0_5 a0_6 a0_7 a0_8 a0_9 a0_10).bind fun t314 => (if t314 ≥ 0 then ((cookie_Cmp.f t256 t257 t258 t259 t260 t261 t262 t263 t264 t265 t266 a1_0 a1_1 a1_2 a1_3 a1_4 a1_5 a1_6 a1_7 a1_8 a1_9 a1_10).bind fun t315 => (if t315 ≥ 0 then ((cookie_Greater.f a1_0 a1_1 a1_2 a1_3 a1_4 a1_5 a1_6 a1_7 a1_8 a1_9 a1_10 a2_0 a2_1 a2_2 a2_3 a2_4 a2_5 a2_6 a2_7 a2_8 a2_9 a2_10).bind fun bt316 => ((cookie_Greater.f a0_0 a0_1 a0_2 a0_3 a0_4 a0_5 a0_6 a0_7 a0_8 a0_9 a0_10 bt316.1 bt316.2.1 bt316.2.2.1 bt316.2.2.2.1 bt316.2.2.2.2.1 bt316.2.2.2.2.2.1 bt316.2.2.2.2.2.2.1 bt316.2.2.2.2.2.2.2.1 bt316.2.2.2.2.2.2.2.2.1 bt316.2.2.2.2.2.2.2.2.2.1 bt316.2.2.2.2.2.2.2.2.2.2).bind fun bt327 => (some (bt327.1.toList == bt268.1.toList && (bt327.2.1.toList == bt268.2.1.toList && (bt327.2.2.1.toList == bt268.2.2.1.toList && (bt327.2.2.2.1.toList == bt268.2.2.2.1.toList && (bt327.2.2.2.2.1 == bt268.2.2.2.2.1 && (bt327.2.2.2.2.2.1 == bt268.2.2.2.2.2.1 && (bt327.2.2.2.2.2.2.1 == bt268.2.2.2.2.2.2.1 && (bt327.2.2.2.2.2.2.2.1 == bt268.2.2.2.2.2.2.2.1 && (bt327.2.2.2.2.2.2.2.2.1 == bt268.2.2.2.2.2.2.2.2.1 && (bt327.2.2.2.2.2.2.2.2.2.1 == bt268.2.2.2.2.2.2.2.2.2.1 && (bt327.2.2.2.2.2.2.2.2.2.2 == bt268.2.2.2.2.2.2.2.2.2.2)))))))))))))) else (some false))) else (some false))) else (if (t256.toList == a1_0.toList && (t257.toList == a1_1.toList && (t258.toList == a1_2.toList && (t259.toList == a1_3.toList && (t260 == a1_4 && (t261 == a1_5 && (t262 == a1_6 && (t263 == a1_7 && (t264 == a1_8 && (t265 == a1_9 && (t266 == a1_10))))))))))) = true then ((cookie_Cmp.f t256 t257 t258 t259 t260 t261 t262 t263 t264 t265 t266 a0_0 a0_1 a0_2 a0_3 a0_4 a0_5 a0_6 a0_7 a0_8 a0_9 a0_10).bind fun t338 => (if t338 ≥ 0 then ((cookie_Cmp.f t256 t257 t258 t259 t260 t261 t262 t263 t264 t265 t266 a1_0 a1_1 a1_2 a1_3 a1_4 a1_5 a1_6 a1_7 a1_8 a1_9 a1_10).bind fun t339 => (if t339 ≥ 0 then ((cookie_Greater.f a1_0 a1_1 a1_2 a1_3 a1_4 a1_5 a1_6 a1_7 a1_8 a1_9 a1_10 a2_0 a2_1 a2_2 a2_3 a2_4 a2_5 a2_6 a2_7 a2_8 a2_9 a2_10).bind fun bt340 => ((cookie_Greater.f a0_0 a0_1 a0_2 a0_3 a0_4 a0_5 a0_6 a0_7 a0_8 a0_9 a0_10 bt340.1 bt340.2.1 bt340.2.2.1 bt340.2.2.2.1 bt340.2.2.2.2.1 bt340.2.2.2.2.2.1 bt340.2.2.2.2.2.2.1 bt340.2.2.2.2.2.2.2.1 bt340.2.2.2.2.2.2.2.2.1 bt340.2.2.2.2.2.2.2.2.2.1 bt340.2.2.2.2.2.2.2.2.2.2).bind fun bt351 => (some (bt351.1.toList == bt268.1.toList && (bt351.2.1.toList == bt268.2.1.toList && (bt351.2.2.1.toList == bt268.2.2.1.toList && (bt351.2.2.2.1.toList == bt268.2.2.2.1.toList && (bt351.2.2.2.2.1 == bt268.2.2.2.2.1 && (bt351.2.2.2.2.2.1 == bt268.2.2.2.2.2.1 && (bt351.2.2.2.2.2.2.1 == bt268.2.2.2.2.2.2.1 && (bt351.2.2.2.2.2.2.2.1 == bt268.2.2.2.2.2.2.2.1 && (bt351.2.2.2.2.2.2.2.2.1 == bt268.2.2.2.2.2.2.2.2.1 && (bt351.2.2.2.2.2.2.2.2.2.1 == bt268.2.2.2.2.2.2.2.2.2.1 && (bt351.2.2.2.2.2.2.2.2.2.2 == bt268.2.2.2.2.2.2.2.2.2.2)))))))))))))) else (some false))) else (some false))) else (some false))) else (some false))) else (some false))) else (some false))) else (some false)))) = some r := H
  have A4 := Aside0.mk A40
  clear A40
  replace H := Option.bind_eq_some_iff.mp H
  obtain ⟨⟨t268, t269, t270, t271, t272, t273, t274, t275, t276, t277, t278⟩, A50, H⟩ := H
  replace H : ((cracknellaw13_alive.f k).bind fun t280 => (if t280 = true then ((cracknelref13_Greater.f k a0_0 a0_1 a0_2 a0_3 a0_4 a0_5 a0_6 a0_7 a0_8 a0_9 a0_10 a1_0 a1_1 a1_2 a1_3 a1_4 a1_5 a1_6 a1_7 a1_8 a1_9 a1_10).bind fun bt281 => (if (t256.toList == bt281.1.toList && (t257.toList == bt281.2.1.toList && (t258.toList == bt281.2.2.1.toList && (t259.toList == bt281.2.2.2.1.toList && (t260 == bt281.2.2.2.2.1 && (t261 == bt281.2.2.2.2.2.1 && (t262 == bt281.2.2.2.2.2.2.1 && (t263 == bt281.2.2.2.2.2.2.2.1 && (t264 == bt281.2.2.2.2.2.2.2.2.1 && (t265 == bt281.2.2.2.2.2.2.2.2.2.1 && (t266 == bt281.2.2.2.2.2.2.2.2.2.2))))))))))) = true then ((cookie_Greater.f a1_0 a1_1 a1_2 a1_3 a1_4 a1_5 a1_6 a1_7 a1_8 a1_9 a1_10 a0_0 a0_1 a0_2 a0_3 a0_4 a0_5 a0_6 a0_7 a0_8 a0_9 a0_10).bind fun bt292 => (if (bt292.1.toList == t256.toList && (bt292.2.1.toList == t257.toList && (bt292.2.2.1.toList == t258.toList && (bt292.2.2.2.1.toList == t259.toList && (bt292.2.2.2.2.1 == t260 && (bt292.2.2.2.2.2.1 == t261 && (bt292.2.2.2.2.2.2.1 == t262 && (bt292.2.2.2.2.2.2.2.1 == t263 && (bt292.2.2.2.2.2.2.2.2.1 == t264 && (bt292.2.2.2.2.2.2.2.2.2.1 == t265 && (bt292.2.2.2.2.2.2.2.2.2.2 == t266))))))))))) = true then ((cookie_Greater.f a0_0 a0_1 a0_2 a0_3 a0_4 a0_5 a0_6 a0_7 a0_8 a0_9 a0_10 a0_0 a0_1 a0_2 a0_3 a0_4 a0_5 a0_6 a0_7 a0_8 a0_9 a0_10).bind fun bt303 => (if (bt303.1.toList == a0_0.toList && (bt303.2.1.toList == a0_1.toList && (bt303.2.2.1.toList == a0_2.toList && (bt303.2.2.2.1.toList == a0_3.toList && (bt303.2.2.2.2.1 == a0_4 && (bt303.2.2.2.2.2.1 == a0_5 && (bt303.2.2.2.2.2.2.1 == a0_6 && (bt303.2.2.2.2.2.2.2.1 == a0_7 && (bt303.2.2.2.2.2.2.2.2.1 == a0_8 && (bt303.2.2.2.2.2.2.2.2.2.1 == a0_9 && (bt303.2.2.2.2.2.2.2.2.2.2 == a0_10))))))))))) = true then (if (t256.toList == a0_0.toList && (t257.toList == a0_1.toList && (t258.toList == a0_2.toList && (t259.toList == a0_3.toList && (t260 == a0_4 && (t261 == a0_5 && (t262 == a0_6 && (t263 == a0_7 && (t264 == a0_8 && (t265 == a0_9 && (t266 == a0_10))))))))))) = true then ((cookie_Cmp.f t256 t257 t258 t259 t260 t261 t262 t263 t264 t265 t266 a0_0 a0_1 a0_2 a0_3 a0_4 a0_5 a0_6 a0_7 a0_8 a0_9 a0_10).bind fun t314 => (if t314 ≥ 0 then ((cookie_Cmp.f t256 t257 t258 t259 t260 t261 t262 t263 t264 t265 t266 a1_0 a1_1 a1_2 a1_3 a1_4 a1_5 a1_6 a1_7 a1_8 a1_9 a1_10).bind fun t315 => (if t315 ≥ 0 then ((cookie_Greater.f a1_0 a1_1 a1_2 a1_3 a1_4 a1_5 a1_6 a1_7 a1_8 a1_9 a1_10 a2_0 a2_1 a2_2 a2_3 a2_4 a2_5 a2_6 a2_7 a2_8 a2_9 a2_10).bind fun bt316 => ((cookie_Greater.f a0_0 a0_1 a0_2 a0_3 a0_4 a0_5 a0_6 a0_7 a0_8 a0_9 a0_10 bt316.1 bt316.2.1 bt316.2.2.1 bt316.2.2.2.1 bt316.2.2.2.2.1 bt316.2.2.2.2.2.1 bt316.2.2.2.2.2.2.1 bt316.2.2.2.2.2.2.2.1 bt316.2.2.2.2.2.2.2.2.1 bt316.2.2.2.2.2.2.2.2.2.1 bt316.2.2.2.2.2.2.2.2.2.2).bind fun bt327 => (some (bt327.1.toList == t268.toList && (bt327.2.1.toList == t269.toList && (bt327.2.2.1.toList == t270.toList && (bt327.2.2.2.1.toList == t271.toList && (bt327.2.2.2.2.1 == t272 && (bt327.2.2.2.2.2.1 == t273 && (bt327.2.2.2.2.2.2.1 == t274 && (bt327.2.2.2.2.2.2.2.1 == t275 && (bt327.2.2.2.2.2.2.2.2.1 == t276 && (bt327.2.2.2.2.2.2.2.2.2.1 == t277 && (bt327.2.2.2.2.2.2.2.2.2.2 == t278)))))))))))))) else (some false))) else (some false))) else (if (t256.toList == a1_0.toList && (t257.toList == a1_1.toList && (t258.toList == a1_2.toList && (t259.toList == a1_3.toList && (t260 == a1_4 && (t261 == a1_5 && (t262 == a1_6 && (t263 == a1_7 && (t264 == a1_8 && (t265 == a1_9 && (t266 == a1_10))))))))))) = true then ((cookie_Cmp.f t256 t257 t258 t259 t260 t261 t262 t263 t264 t265 t266 a0_0 a0_1 a0_2 a0_3 a0_4 a0_5 a0_6 a0_7 a0_8 a0_9 a0_10).bind fun t338 => (if t338 ≥ 0 then ((cookie_Cmp.f t256 t257 t258 t259 t260 t261 t262 t263 t264 t265 t266 a1_0 a1_1 a1_2 a1_3 a1_4 a1_5 a1_6 a1_7 a1_8 a1_9 a1_10).bind fun t339 => (if t339 ≥ 0 then ((cookie_Greater.f a1_0 a1_1 a1_2 a1_3 a1_4 a1_5 a1_6 a1_7 a1_8 a1_9 a1_10 a2_0 a2_1 a2_2 a2_3 a2_4 a2_5 a2_6 a2_7 a2_8 a2_9 a2_10).bind fun bt340 => ((cookie_Greater.f a0_0 a0_1 a0_2 a0_3 a0_4 a0_5 a0_6 a0_7 a0_8 a0_9 a0_10 bt340.1 bt340.2.1 bt340.2.2.1 bt340.2.2.2.1 bt340.2.2.2.2.1 bt340.2.2.2.2.2.1 bt340.2.2.2.2.2.2.1 bt340.2.2.2.2.2.2.2.1 bt340.2.2.2.2.2.2.2.2.1 bt340.2.2.2.2.2.2.2.2.2.1 bt340.2.2.2.2.2.2.2.2.2.2).bind fun bt351 => (some (bt351.1.toList == t268.toList && (bt351.2.1.toList == t269.toList && (bt351.2.2.1.toList == t270.toList && (bt351.2.2.2.1.toList == t271.toList && (bt351.2.2.2.2.1 == t272 && (bt351.2.2.2.2.2.1 == t273 && (bt351.2.2.2.2.2.2.1 == t274 && (bt351.2.2.2.2.2.2.2.1 == t275 && (bt351.2.2.2.2.2.2.2.2.1 == t276 && (bt351.2.2.2.2.2.2.2.2.2.1 == t277 && (bt351.2.2.2.2.2.2.2.2.2.2 == t278)))))))))))))) else (some false))) else (some false))) else (some false))) else (some false))) else (some false))) else (some false))) else (some false))) = some r := H
  have A5 := Aside0.mk A50
  clear A50
  replace H := Option.bind_eq_some_iff.mp H
  obtain ⟨t280, A60, H⟩ := H
  replace H : (if t280 = true then ((cracknelref13_Greater.f k a0_0 a0_1 a0_2 a0_3 a0_4 a0_5 a0_6 a0_7 a0_8 a0_9 a0_10 a1_0 a1_1 a1_2 a1_3 a1_4 a1_5 a1_6 a1_7 a1_8 a1_9 a1_10).bind fun bt281 => (if (t256.toList == bt281.1.toList && (t257.toList == bt281.2.1.toList && (t258.toList == bt281.2.2.1.toList && (t259.toList == bt281.2.2.2.1.toList && (t260 == bt281.2.2.2.2.1 && (t261 == bt281.2.2.2.2.2.1 && (t262 == bt281.2.2.2.2.2.2.1 && (t263 == bt281.2.2.2.2.2.2.2.1 && (t264 == bt281.2.2.2.2.2.2.2.2.1 && (t265 == bt281.2.2.2.2.2.2.2.2.2.1 && (t266 == bt281.2.2.2.2.2.2.2.2.2.2))))))))))) = true then ((cookie_Greater.f a1_0 a1_1 a1_2 a1_3 a1_4 a1_5 a1_6 a1_7 a1_8 a1_9 a1_10 a0_0 a0_1 a0_2 a0_3 a0_4 a0_5 a0_6 a0_7 a0_8 a0_9 a0_10).bind fun bt292 => (if (bt292.1.toList == t256.toList && (bt292.2.1.toList == t257.toList && (bt292.2.2.1.toList == t258.toList && (bt292.2.2.2.1.toList == t259.toList && (bt292.2.2.2.2.1 == t260 && (bt292.2.2.2.2.2.1 == t261 && (bt292.2.2.2.2.2.2.1 == t262 && (bt292.2.2.2.2.2.2.2.1 == t263 && (bt292.2.2.2.2.2.2.2.2.1 == t264 && (bt292.2.2.2.2.2.2.2.2.2.1 == t265 && (bt292.2.2.2.2.2.2.2.2.2.2 == t266))))))))))) = true then ((cookie_Greater.f a0_0 a0_1 a0_2 a0_3 a0_4 a0_5 a0_6 a0_7 a0_8 a0_9 a0_10 a0_0 a0_1 a0_2 a0_3 a0_4 a0_5 a0_6 a0_7 a0_8 a0_9 a0_10).bind fun bt303 => (if (bt303.1.toList == a0_0.toList && (bt303.2.1.toList == a0_1.toList && (bt303.2.2.1.toList == a0_2.toList && (bt303.2.2.2.1.toList == a0_3.toList && (bt303.2.2.2.2.1 == a0_4 && (bt303.2.2.2.2.2.1 == a0_5 && (bt303.2.2.2.2.2.2.1 == a0_6 && (bt303.2.2.2.2.2.2.2.1 == a0_7 && (bt303.2.2.2.2.2.2.2.2.1 == a0_8 && (bt303.2.2.2.2.2.2.2.2.2.1 == a0_9 && (bt303.2.2.2.2.2.2.2.2.2.2 == a0_10))))))))))) = true then (if (t256.toList == a0_0.toList && (t257.toList == a0_1.toList && (t258.toList == a0_2.toList && (t259.toList == a0_3.toList && (t260 == a0_4 && (t261 == a0_5 && (t262 == a0_6 && (t263 == a0_7 && (t264 == a0_8 && (t265 == a0_9 && (t266 == a0_10))))))))))) = true then ((cookie_Cmp.f t256 t257 t258 t259 t260 t261 t262 t263 t264 t265 t266 a0_0 a0_1 a0_2 a0_3 a0_4 a0_5 a0_6 a0_7 a0_8 a0_9 a0_10).bind fun t314 => (if t314 ≥ 0 then ((cookie_Cmp.f t256 t257 t258 t259 t260 t261 t262 t263 t264 t265 t266 a1_0 a1_1 a1_2 a1_3 a1_4 a1_5 a1_6 a1_7 a1_8 a1_9 a1_10).bind fun t315 => (if t315 ≥ 0 then ((cookie_Greater.f a1_0 a1_1 a1_2 a1_3 a1_4 a1_5 a1_6 a1_7 a1_8 a1_9 a1_10 a2_0 a2_1 a2_2 a2_3 a2_4 a2_5 a2_6 a2_7 a2_8 a2_9 a2_10).bind fun bt316 => ((cookie_Greater.f a0_0 a0_1 a0_2 a0_3 a0_4 a0_5 a0_6 a0_7 a0_8 a0_9 a0_10 bt316.1 bt316.2.1 bt316.2.2.1 bt316.2.2.2.1 bt316.2.2.2.2.1 bt316.2.2.2.2.2.1 bt316.2.2.2.2.2.2.1 bt316.2.2.2.2.2.2.2.1 bt316.2.2.2.2.2.2.2.2.1 bt316.2.2.2.2.2.2.2.2.2.1 bt316.2.2.2.2.2.2.2.2.2.2).bind fun bt327 => (some (bt327.1.toList == t268.toList && (bt327.2.1.toList == t269.toList && (bt327.2.2.1.toList == t270.toList && (bt327.2.2.2.1.toList == t271.toList && (bt327.2.2.2.2.1 == t272 && (bt327.2.2.2.2.2.1 == t273 && (bt327.2.2.2.2.2.2.1 == t274 && (bt327.2.2.2.2.2.2.2.1 == t275 && (bt327.2.2.2.2.2.2.2.2.1 == t276 && (bt327.2.2.2.2.2.2.2.2.2.1 == t277 && (bt327.2.2.2.2.2.2.2.2.2.2 == t278)))))))))))))) else (some false))) else (some false))) else (if (t256.toList == a1_0.toList && (t257.toList == a1_1.toList && (t258.toList == a1_2.toList && (t259.toList == a1_3.toList && (t260 == a1_4 && (t261 == a1_5 && (t262 == a1_6 && (t263 == a1_7 && (t264 == a1_8 && (t265 == a1_9 && (t266 == a1_10))))))))))) = true then ((cookie_Cmp.f t256 t257 t258 t259 t260 t261 t262 t263 t264 t265 t266 a0_0 a0_1 a0_2 a0_3 a0_4 a0_5 a0_6 a0_7 a0_8 a0_9 a0_10).bind fun t338 => (if t338 ≥ 0 then ((cookie_Cmp.f t256 t257 t258 t259 t260 t261 t262 t263 t264 t265 t266 a1_0 a1_1 a1_2 a1_3 a1_4 a1_5 a1_6 a1_7 a1_8 a1_9 a1_10).bind fun t339 => (if t339 ≥ 0 then ((cookie_Greater.f a1_0 a1_1 a1_2 a1_3 a1_4 a1_5 a1_6 a1_7 a1_8 a1_9 a1_10 a2_0 a2_1 a2_2 a2_3 a2_4 a2_5 a2_6 a2_7 a2_8 a2_9 a2_10).bind fun bt340 => ((cookie_Greater.f a0_0 a0_1 a0_2 a0_3 a0_4 a0_5 a0_6 a0_7 a0_8 a0_9 a0_10 bt340.1 bt340.2.1 bt340.2.2.1 bt340.2.2.2.1 bt340.2.2.2.2.1 bt340.2.2.2.2.2.1 bt340.2.2.2.2.2.2.1 bt340.2.2.2.2.2.2.2.1 bt340.2.2.2.2.2.2.2.2.1 bt340.2.2.2.2.2.2.2.2.2.1 bt340.2.2.2.2.2.2.2.2.2.2).bind fun bt351 => (some (bt351.1.toList == t268.toList && (bt351.2.1.toList == t269.toList && (bt351.2.2.1.toList == t270.toList && (bt351.2.2.2.1.toList == t271.toList && (bt351.2.2.2.2.1 == t272 && (bt351.2.2.2.2.2.1 == t273 && (bt351.2.2.2.2.2.2.1 == t274 && (bt351.2.2.2.2.2.2.2.1 == t275 && (bt351.2.2.2.2.2.2.2.2.1 == t276 && (bt351.2.2.2.2.2.2.2.2.2.1 == t277 && (bt351.2.2.2.2.2.2.2.2.2.2 == t278)))))))))))))) else (some false))) else (some false))) else (some false))) else (some false))) else (some false))) else (some false))) else (some false)) = some r := H
  have A6 := Aside0.mk A60
  clear A60
  by_cases c7 : t280 = true
  · subst c7
    have H1 : ((cracknelref13_Greater.f k a0_0 a0_1 a0_2 a0_3 a0_4 a0_5 a0_6 a0_7 a0_8 a0_9 a0_10 a1_0 a1_1 a1_2 a1_3 a1_4 a1_5 a1_6 a1_7 a1_8 a1_9 a1_10).bind fun bt281 => (if (t256.toList == bt281.1.toList && (t257.toList == bt281.2.1.toList && (t258.toList == bt281.2.2.1.toList && (t259.toList == bt281.2.2.2.1.toList && (t260 == bt281.2.2.2.2.1 && (t261 == bt281.2.2.2.2.2.1 && (t262 == bt281.2.2.2.2.2.2.1 && (t263 == bt281.2.2.2.2.2.2.2.1 && (t264 == bt281.2.2.2.2.2.2.2.2.1 && (t265 == bt281.2.2.2.2.2.2.2.2.2.1 && (t266 == bt281.2.2.2.2.2.2.2.2.2.2))))))))))) = true then ((cookie_Greater.f a1_0 a1_1 a1_2 a1_3 a1_4 a1_5 a1_6 a1_7 a1_8 a1_9 a1_10 a0_0 a0_1 a0_2 a0_3 a0_4 a0_5 a0_6 a0_7 a0_8 a0_9 a0_10).bind fun bt292 => (if (bt292.1.toList == t256.toList && (bt292.2.1.toList == t257.toList && (bt292.2.2.1.toList == t258.toList && (bt292.2.2.2.1.toList == t259.toList && (bt292.2.2.2.2.1 == t260 && (bt292.2.2.2.2.2.1 == t261 && (bt292.2.2.2.2.2.2.1 == t262 && (bt292.2.2.2.2.2.2.2.1 == t263 && (bt292.2.2.2.2.2.2.2.2.1 == t264 && (bt292.2.2.2.2.2.2.2.2.2.1 == t265 && (bt292.2.2.2.2.2.2.2.2.2.2 == t266))))))))))) = true then ((cookie_Greater.f a0_0 a0_1 a0_2 a0_3 a0_4 a0_5 a0_6 a0_7 a0_8 a0_9 a0_10 a0_0 a0_1 a0_2 a0_3 a0_4 a0_5 a0_6 a0_7 a0_8 a0_9 a0_10).bind fun bt303 => (if (bt303.1.toList == a0_0.toList && (bt303.2.1.toList == a0_1.toList && (bt303.2.2.1.toList == a0_2.toList && (bt303.2.2.2.1.toList == a0_3.toList && (bt303.2.2.2.2.1 == a0_4 && (bt303.2.2.2.2.2.1 == a0_5 && (bt303.2.2.2.2.2.2.1 == a0_6 && (bt303.2.2.2.2.2.2.2.1 == a0_7 && (bt303.2.2.2.2.2.2.2.2.1 == a0_8 && (bt303.2.2.2.2.2.2.2.2.2.1 == a0_9 && (bt303.2.2.2.2.2.2.2.2.2.2 == a0_10))))))))))) = true then (if (t256.toList == a0_0.toList && (t257.toList == a0_1.toList && (t258.toList == a0_2.toList && (t259.toList == a0_3.toList && (t260 == a0_4 && (t261 == a0_5 && (t262 == a0_6 && (t263 == a0_7 && (t264 == a0_8 && (t265 == a0_9 && (t266 == a0_10))))))))))) = true then ((cookie_Cmp.f t256 t257 t258 t259 t260 t261 t262 t263 t264 t265 t266 a0_0 a0_1 a0_2 a0_3 a0_4 a0_5 a0_6 a0_7 a0_8 a0_9 a0_10).bind fun t314 => (if t314 ≥ 0 then ((cookie_Cmp.f t256 t257 t258 t259 t260 t261 t262 t263 t264 t265 t266 a1_0 a1_1 a1_2 a1_3 a1_4 a1_5 a1_6 a1_7 a1_8 a1_9 a1_10).bind fun t315 => (if t315 ≥ 0 then ((cookie_Greater.f a1_0 a1_1 a1_2 a1_3 a1_4 a1_5 a1_6 a1_7 a1_8 a1_9 a1_10 a2_0 a2_1 a2_2 a2_3 a2_4 a2_5 a2_6 a2_7 a2_8 a2_9 a2_10).bind fun bt316 => ((cookie_Greater.f a0_0 a0_1 a0_2 a0_3 a0_4 a0_5 a0_6 a0_7 a0_8 a0_9 a0_10 bt316.1 bt316.2.1 bt316.2.2.1 bt316.2.2.2.1 bt316.2.2.2.2.1 bt316.2.2.2.2.2.1 bt316.2.2.2.2.2.2.1 bt316.2.2.2.2.2.2.2.1 bt316.2.2.2.2.2.2.2.2.1 bt316.2.2.2.2.2.2.2.2.2.1 bt316.2.2.2.2.2.2.2.2.2.2).bind fun bt327 => (some (bt327.1.toList == t268.toList && (bt327.2.1.toList == t269.toList && (bt327.2.2.1.toList == t270.toList && (bt327.2.2.2.1.toList == t271.toList && (bt327.2.2.2.2.1 == t272 && (bt327.2.2.2.2.2.1 == t273 && (bt327.2.2.2.2.2.2.1 == t274 && (bt327.2.2.2.2.2.2.2.1 == t275 && (bt327.2.2.2.2.2.2.2.2.1 == t276 && (bt327.2.2.2.2.2.2.2.2.2.1 == t277 && (bt327.2.2.2.2.2.2.2.2.2.2 == t278)))))))))))))) else (some false))) else (some false))) else (if (t256.toList == a1_0.toList && (t257.toList == a1_1.toList && (t258.toList == a1_2.toList && (t259.toList == a1_3.toList && (t260 == a1_4 && (t261 == a1_5 && (t262 == a1_6 && (t263 == a1_7 && (t264 == a1_8 && (t265 == a1_9 && (t266 == a1_10))))))))))) = true then ((cookie_Cmp.f t256 t257 t258 t259 t260 t261 t262 t263 t264 t265 t266 a0_0 a0_1 a0_2 a0_3 a0_4 a0_5 a0_6 a0_7 a0_8 a0_9 a0_10).bind fun t338 => (if t338 ≥ 0 then ((cookie_Cmp.f t256 t257 t258 t259 t260 t261 t262 t263 t264 t265 t266 a1_0 a1_1 a1_2 a1_3 a1_4 a1_5 a1_6 a1_7 a1_8 a1_9 a1_10).bind fun t339 => (if t339 ≥ 0 then ((cookie_Greater.f a1_0 a1_1 a1_2 a1_3 a1_4 a1_5 a1_6 a1_7 a1_8 a1_9 a1_10 a2_0 a2_1 a2_2 a2_3 a2_4 a2_5 a2_6 a2_7 a2_8 a2_9 a2_10).bind fun bt340 => ((cookie_Greater.f a0_0 a0_1 a0_2 a0_3 a0_4 a0_5 a0_6 a0_7 a0_8 a0_9 a0_10 bt340.1 bt340.2.1 bt340.2.2.1 bt340.2.2.2.1 bt340.2.2.2.2.1 bt340.2.2.2.2.2.1 bt340.2.2.2.2.2.2.1 bt340.2.2.2.2.2.2.2.1 bt340.2.2.2.2.2.2.2.2.1 bt340.2.2.2.2.2.2.2.2.2.1 bt340.2.2.2.2.2.2.2.2.2.2).bind fun bt351 => (some (bt351.1.toList == t268.toList && (bt351.2.1.toList == t269.toList && (bt351.2.2.1.toList == t270.toList && (bt351.2.2.2.1.toList == t271.toList && (bt351.2.2.2.2.1 == t272 && (bt351.2.2.2.2.2.1 == t273 && (bt351.2.2.2.2.2.2.1 == t274 && (bt351.2.2.2.2.2.2.2.1 == t275 && (bt351.2.2.2.2.2.2.2.2.1 == t276 && (bt351.2.2.2.2.2.2.2.2.2.1 == t277 && (bt351.2.2.2.2.2.2.2.2.2.2 == t278)))))))))))))) else (some false))) else (some false))) else (some false))) else (some false))) else (some false))) else (some false))) = some r := by rw [if_pos rfl] at H; exact H
    clear H
    have H := H1
    clear H1
    replace H := Option.bind_eq_some_iff.mp H
    obtain ⟨⟨t281, t282, t283, t284, t285, t286, t287, t288, t289, t290, t291⟩, A80, H⟩ := H
    replace H : (if (t256.toList == t281.toList && (t257.toList == t282.toList && (t258.toList == t283.toList && (t259.toList == t284.toList && (t260 == t285 && (t261 == t286 && (t262 == t287 && (t263 == t288 && (t264 == t289 && (t265 == t290 && (t266 == t291))))))))))) = true then ((cookie_Greater.f a1_0 a1_1 a1_2 a1_3 a1_4 a1_5 a1_6 a1_7 a1_8 a1_9 a1_10 a0_0 a0_1 a0_2 a0_3 a0_4 a0_5 a0_6 a0_7 a0_8 a0_9 a0_10).bind fun bt292 => (if (bt292.1.toList == t256.toList && (bt292.2.1.toList == t257.toList && (bt292.2.2.1.toList == t258.toList && (bt292.2.2.2.1.toList == t259.toList && (bt292.2.2.2.2.1 == t260 && (bt292.2.2.2.2.2.1 == t261 && (bt292.2.2.2.2.2.2.1 == t262 && (bt292.2.2.2.2.2.2.2.1 == t263 && (bt292.2.2.2.2.2.2.2.2.1 == t264 && (bt292.2.2.2.2.2.2.2.2.2.1 == t265 && (bt292.2.2.2.2.2.2.2.2.2.2 == t266))))))))))) = true then ((cookie_Greater.f a0_0 a0_1 a0_2 a0_3 a0_4 a0_5 a0_6 a0_7 a0_8 a0_9 a0_10 a0_0 a0_1 a0_2 a0_3 a0_4 a0_5 a0_6 a0_7 a0_8 a0_9 a0_10).bind fun bt303 => (if (bt303.1.toList == a0_0.toList && (bt303.2.1.toList == a0_1.toList && (bt303.2.2.1.toList == a0_2.toList && (bt303.2.2.2.1.toList == a0_3.toList && (bt303.2.2.2.2.1 == a0_4 && (bt303.2.2.2.2.2.1 == a0_5 && (bt303.2.2.2.2.2.2.1 == a0_6 && (bt303.2.2.2.2.2.2.2.1 == a0_7 && (bt303.2.2.2.2.2.2.2.2.1 == a0_8 && (bt303.2.2.2.2.2.2.2.2.2.1 == a0_9 && (bt303.2.2.2.2.2.2.2.2.2.2 == a0_10))))))))))) = true then (if (t256.toList == a0_0.toList && (t257.toList == a0_1.toList && (t258.toList == a0_2.toList && (t259.toList == a0_3.toList && (t260 == a0_4 && (t261 == a0_5 && (t262 == a0_6 && (t263 == a0_7 && (t264 == a0_8 && (t265 == a0_9 && (t266 == a0_10))))))))))) = true then ((cookie_Cmp.f t256 t257 t258 t259 t260 t261 t262 t263 t264 t265 t266 a0_0 a0_1 a0_2 a0_3 a0_4 a0_5 a0_6 a0_7 a0_8 a0_9 a0_10).bind fun t314 => (if t314 ≥ 0 then ((cookie_Cmp.f t256 t257 t258 t259 t260 t261 t262 t263 t264 t265 t266 a1_0 a1_1 a1_2 a1_3 a1_4 a1_5 a1_6 a1_7 a1_8 a1_9 a1_10).bind fun t315 => (if t315 ≥ 0 then ((cookie_Greater.f a1_0 a1_1 a1_2 a1_3 a1_4 a1_5 a1_6 a1_7 a1_8 a1_9 a1_10 a2_0 a2_1 a2_2 a2_3 a2_4 a2_5 a2_6 a2_7 a2_8 a2_9 a2_10).bind fun bt316 => ((cookie_Greater.f a0_0 a0_1 a0_2 a0_3 a0_4 a0_5 a0_6 a0_7 a0_8 a0_9 a0_10 bt316.1 bt316.2.1 bt316.2.2.1 bt316.2.2.2.1 bt316.2.2.2.2.1 bt316.2.2.2.2.2.1 bt316.2.2.2.2.2.2.1 bt316.2.2.2.2.2.2.2.1 bt316.2.2.2.2.2.2.2.2.1 bt316.2.2.2.2.2.2.2.2.2.1 bt316.2.2.2.2.2.2.2.2.2.2).bind fun bt327 => (some (bt327.1.toList == t268.toList && (bt327.2.1.toList == t269.toList && (bt327.2.2.1.toList == t270.toList && (bt327.2.2.2.1.toList == t271.toList && (bt327.2.2.2.2.1 == t272 && (bt327.2.2.2.2.2.1 == t273 && (bt327.2.2.2.2.2.2.1 == t274 && (bt327.2.2.2.2.2.2.2.1 == t275 && (bt327.2.2.2.2.2.2.2.2.1 == t276 && (bt327.2.2.2.2.2.2.2.2.2.1 == t277 && (bt327.2.2.2.2.2.2.2.2.2.2 == t278)))))))))))))) else (some false))) else (some false))) else (if (t256.toList == a1_0.toList && (t257.toList == a1_1.toList && (t258.toList == a1_2.toList && (t259.toList == a1_3.toList && (t260 == a1_4 && (t261 == a1_5 && (t262 == a1_6 && (t263 == a1_7 && (t264 == a1_8 && (t265 == a1_9 && (t266 == a1_10))))))))))) = true then ((cookie_Cmp.f t256 t257 t258 t259 t260 t261 t262 t263 t264 t265 t266 a0_0 a0_1 a0_2 a0_3 a0_4 a0_5 a0_6 a0_7 a0_8 a0_9 a0_10).bind fun t338 => (if t338 ≥ 0 then ((cookie_Cmp.f t256 t257 t258 t259 t260 t261 t262 t263 t264 t265 t266 a1_0 a1_1 a1_2 a1_3 a1_4 a1_5 a1_6 a1_7 a1_8 a1_9 a1_10).bind fun t339 => (if t339 ≥ 0 then ((cookie_Greater.f a1_0 a1_1 a1_2 a1_3 a1_4 a1_5 a1_6 a1_7 a1_8 a1_9 a1_10 a2_0 a2_1 a2_2 a2_3 a2_4 a2_5 a2_6 a2_7 a2_8 a2_9 a2_10).bind fun bt340 => ((cookie_Greater.f a0_0 a0_1 a0_2 a0_3 a0_4 a0_5 a0_6 a0_7 a0_8 a0_9 a0_10 bt340.1 bt340.2.1 bt340.2.2.1 bt340.2.2.2.1 bt340.2.2.2.2.1 bt340.2.2.2.2.2.1 bt340.2.2.2.2.2.2.1 bt340.2.2.2.2.2.2.2.1 bt340.2.2.2.2.2.2.2.2.1 bt340.2.2.2.2.2.2.2.2.2.1 bt340.2.2.2.2.2.2.2.2.2.2).bind fun bt351 => (some (bt351.1.toList == t268.toList && (bt351.2.1.toList == t269.toList && (bt351.2.2.1.toList == t270.toList && (bt351.2.2.2.1.toList == t271.toList && (bt351.2.2.2.2.1 == t272 && (bt351.2.2.2.2.2.1 == t273 && (bt351.2.2.2.2.2.2.1 == t274 && (bt351.2.2.2.2.2.2.2.1 == t275 && (bt351.2.2.2.2.2.2.2.2.1 == t276 && (bt351.2.2.2.2.2.2.2.2.2.1 == t277 && (bt351.2.2.2.2.2.2.2.2.2.2 == t278)))))))))))))) else (some false))) else (some false))) else (some false))) else (some false))) else (some false))) else (some false)) = some r := H
    have A8 := Aside0.mk A80
    clear A80
    by_cases c9 : (t256.toList == t281.toList && (t257.toList == t282.toList && (t258.toList == t283.toList && (t259.toList == t284.toList && (t260 == t285 && (t261 == t286 && (t262 == t287 && (t263 == t288 && (t264 == t289 && (t265 == t290 && (t266 == t291))))))))))) = true
    · rw [if_pos c9] at H
      have c9b0 : (t256.toList == t281.toList && (t257.toList == t282.toList && (t258.toList == t283.toList && (t259.toList == t284.toList && (t260 == t285 && (t261 == t286 && (t262 == t287 && (t263 == t288 && (t264 == t289 && (t265 == t290 && (t266 == t291))))))))))) = true := c9
      (try (have c9b1 : decide (t256.toList = t281.toList && (t257.toList == t282.toList && (t258.toList == t283.toList && (t259.toList == t284.toList && (t260 == t285 && (t261 == t286 && (t262 == t287 && (t263 == t288 && (t264 == t289 && (t265 == t290 && (t266 == t291))))))))))) = true := by simpa using c9))
      (try (have c9b2 : (t256.toList == t281.toList && (t257.toList == t282.toList && (t258.toList == t283.toList && (t259.toList == t284.toList && (t260 == t285 && (t261 == t286 && (t262 == t287 && (t263 == t288 && (t264 == t289 && (t265 == t290 && (t266 == t291))))))))))) = true := by simpa using c9))
      clear c9
      replace H := Option.bind_eq_some_iff.mp H
      obtain ⟨⟨t292, t293, t294, t295, t296, t297, t298, t299, t300, t301, t302⟩, A100, H⟩ := H
      replace H : (if (t292.toList == t256.toList && (t293.toList == t257.toList && (t294.toList == t258.toList && (t295.toList == t259.toList && (t296 == t260 && (t297 == t261 && (t298 == t262 && (t299 == t263 && (t300 == t264 && (t301 == t265 && (t302 == t266))))))))))) = true then ((cookie_Greater.f a0_0 a0_1 a0_2 a0_3 a0_4 a0_5 a0_6 a0_7 a0_8 a0_9 a0_10 a0_0 a0_1 a0_2 a0_3 a0_4 a0_5 a0_6 a0_7 a0_8 a0_9 a0_10).bind fun bt303 => (if (bt303.1.toList == a0_0.toList && (bt303.2.1.toList == a0_1.toList && (bt303.2.2.1.toList == a0_2.toList && (bt303.2.2.2.1.toList == a0_3.toList && (bt303.2.2.2.2.1 == a0_4 && (bt303.2.2.2.2.2.1 == a0_5 && (bt303.2.2.2.2.2.2.1 == a0_6 && (bt303.2.2.2.2.2.2.2.1 == a0_7 && (bt303.2.2.2.2.2.2.2.2.1 == a0_8 && (bt303.2.2.2.2.2.2.2.2.2.1 == a0_9 && (bt303.2.2.2.2.2.2.2.2.2.2 == a0_10))))))))))) = true then (if (t256.toList == a0_0.toList && (t257.toList == a0_1.toList && (t258.toList == a0_2.toList && (t259.toList == a0_3.toList && (t260 == a0_4 && (t261 == a0_5 && (t262 == a0_6 && (t263 == a0_7 && (t264 == a0_8 && (t265 == a0_9 && (t266 == a0_10))))))))))) = true then ((cookie_Cmp.f t256 t257 t258 t259 t260 t261 t262 t263 t264 t265 t266 a0_0 a0_1 a0_2 a0_3 a0_4 a0_5 a0_6 a0_7 a0_8 a0_9 a0_10).bind fun t314 => (if t314 ≥ 0 then ((cookie_Cmp.f t256 t257 t258 t259 t260 t261 t262 t263 t264 t265 t266 a1_0 a1_1 a1_2 a1_3 a1_4 a1_5 a1_6 a1_7 a1_8 a1_9 a1_10).bind fun t315 => (if t315 ≥ 0 then ((cookie_Greater.f a1_0 a1_1 a1_2 a1_3 a1_4 a1_5 a1_6 a1_7 a1_8 a1_9 a1_10 a2_0 a2_1 a2_2 a2_3 a2_4 a2_5 a2_6 a2_7 a2_8 a2_9 a2_10).bind fun bt316 => ((cookie_Greater.f a0_0 a0_1 a0_2 a0_3 a0_4 a0_5 a0_6 a0_7 a0_8 a0_9 a0_10 bt316.1 bt316.2.1 bt316.2.2.1 bt316.2.2.2.1 bt316.2.2.2.2.1 bt316.2.2.2.2.2.1 bt316.2.2.2.2.2.2.1 bt316.2.2.2.2.2.2.2.1 bt316.2.2.2.2.2.2.2.2.1 bt316.2.2.2.2.2.2.2.2.2.1 bt316.2.2.2.2.2.2.2.2.2.2).bind fun bt327 => (some (bt327.1.toList == t268.toList && (bt327.2.1.toList == t269.toList && (bt327.2.2.1.toList == t270.toList && (bt327.2.2.2.1.toList == t271.toList && (bt327.2.2.2.2.1 == t272 && (bt327.2.2.2.2.2.1 == t273 && (bt327.2.2.2.2.2.2.1 == t274 && (bt327.2.2.2.2.2.2.2.1 == t275 && (bt327.2.2.2.2.2.2.2.2.1 == t276 && (bt327.2.2.2.2.2.2.2.2.2.1 == t277 && (bt327.2.2.2.2.2.2.2.2.2.2 == t278)))))))))))))) else (some false))) else (some false))) else (if (t256.toList == a1_0.toList && (t257.toList == a1_1.toList && (t258.toList == a1_2.toList && (t259.toList == a1_3.toList && (t260 == a1_4 && (t261 == a1_5 && (t262 == a1_6 && (t263 == a1_7 && (t264 == a1_8 && (t265 == a1_9 && (t266 == a1_10))))))))))) = true then ((cookie_Cmp.f t256 t257 t258 t259 t260 t261 t262 t263 t264 t265 t266 a0_0 a0_1 a0_2 a0_3 a0_4 a0_5 a0_6 a0_7 a0_8 a0_9 a0_10).bind fun t338 => (if t338 ≥ 0 then ((cookie_Cmp.f t256 t257 t258 t259 t260 t261 t262 t263 t264 t265 t266 a1_0 a1_1 a1_2 a1_3 a1_4 a1_5 a1_6 a1_7 a1_8 a1_9 a1_10).bind fun t339 => (if t339 ≥ 0 then ((cookie_Greater.f a1_0 a1_1 a1_2 a1_3 a1_4 a1_5 a1_6 a1_7 a1_8 a1_9 a1_10 a2_0 a2_1 a2_2 a2_3 a2_4 a2_5 a2_6 a2_7 a2_8 a2_9 a2_10).bind fun bt340 => ((cookie_Greater.f a0_0 a0_1 a0_2 a0_3 a0_4 a0_5 a0_6 a0_7 a0_8 a0_9 a0_10 bt340.1 bt340.2.1 bt340.2.2.1 bt340.2.2.2.1 bt340.2.2.2.2.1 bt340.2.2.2.2.2.1 bt340.2.2.2.2.2.2.1 bt340.2.2.2.2.2.2.2.1 bt340.2.2.2.2.2.2.2.2.1 bt340.2.2.2.2.2.2.2.2.2.1 bt340.2.2.2.2.2.2.2.2.2.2).bind fun bt351 => (some (bt351.1.toList == t268.toList && (bt351.2.1.toList == t269.toList && (bt351.2.2.1.toList == t270.toList && (bt351.2.2.2.1.toList == t271.toList && (bt351.2.2.2.2.1 == t272 && (bt351.2.2.2.2.2.1 == t273 && (bt351.2.2.2.2.2.2.1 == t274 && (bt351.2.2.2.2.2.2.2.1 == t275 && (bt351.2.2.2.2.2.2.2.2.1 == t276 && (bt351.2.2.2.2.2.2.2.2.2.1 == t277 && (bt351.2.2.2.2.2.2.2.2.2.2 == t278)))))))))))))) else (some false))) else (some false))) else (some false))) else (some false))) else (some false)) = some r := H
      have A10 := Aside0.mk A100
      clear A100
      by_cases c11 : (t292.toList == t256.toList && (t293.toList == t257.toList && (t294.toList == t258.toList && (t295.toList == t259.toList && (t296 == t260 && (t297 == t261 && (t298 == t262 && (t299 == t263 && (t300 == t264 && (t301 == t265 && (t302 == t266))))))))))) = true
      · rw [if_pos c11] at H
        have c11b0 : (t292.toList == t256.toList && (t293.toList == t257.toList && (t294.toList == t258.toList && (t295.toList == t259.toList && (t296 == t260 && (t297 == t261 && (t298 == t262 && (t299 == t263 && (t300 == t264 && (t301 == t265 && (t302 == t266))))))))))) = true := c11
        (try (have c11b1 : decide (t292.toList = t256.toList && (t293.toList == t257.toList && (t294.toList == t258.toList && (t295.toList == t259.toList && (t296 == t260 && (t297 == t261 && (t298 == t262 && (t299 == t263 && (t300 == t264 && (t301 == t265 && (t302 == t266))))))))))) = true := by simpa using c11))
        (try (have c11b2 : (t292.toList == t256.toList && (t293.toList == t257.toList && (t294.toList == t258.toList && (t295.toList == t259.toList && (t296 == t260 && (t297 == t261 && (t298 == t262 && (t299 == t263 && (t300 == t264 && (t301 == t265 && (t302 == t266))))))))))) = true := by simpa using c11))
        clear c11
        replace H := Option.bind_eq_some_iff.mp H
        obtain ⟨⟨t303, t304, t305, t306, t307, t308, t309, t310, t311, t312, t313⟩, A120, H⟩ := H
        replace H : (if (t303.toList == a0_0.toList && (t304.toList == a0_1.toList && (t305.toList == a0_2.toList && (t306.toList == a0_3.toList && (t307 == a0_4 && (t308 == a0_5 && (t309 == a0_6 && (t310 == a0_7 && (t311 == a0_8 && (t312 == a0_9 && (t313 == a0_10))))))))))) = true then (if (t256.toList == a0_0.toList && (t257.toList == a0_1.toList && (t258.toList == a0_2.toList && (t259.toList == a0_3.toList && (t260 == a0_4 && (t261 == a0_5 && (t262 == a0_6 && (t263 == a0_7 && (t264 == a0_8 && (t265 == a0_9 && (t266 == a0_10))))))))))) = true then ((cookie_Cmp.f t256 t257 t258 t259 t260 t261 t262 t263 t264 t265 t266 a0_0 a0_1 a0_2 a0_3 a0_4 a0_5 a0_6 a0_7 a0_8 a0_9 a0_10).bind fun t314 => (if t314 ≥ 0 then ((cookie_Cmp.f t256 t257 t258 t259 t260 t261 t262 t263 t264 t265 t266 a1_0 a1_1 a1_2 a1_3 a1_4 a1_5 a1_6 a1_7 a1_8 a1_9 a1_10).bind fun t315 => (if t315 ≥ 0 then ((cookie_Greater.f a1_0 a1_1 a1_2 a1_3 a1_4 a1_5 a1_6 a1_7 a1_8 a1_9 a1_10 a2_0 a2_1 a2_2 a2_3 a2_4 a2_5 a2_6 a2_7 a2_8 a2_9 a2_10).bind fun bt316 => ((cookie_Greater.f a0_0 a0_1 a0_2 a0_3 a0_4 a0_5 a0_6 a0_7 a0_8 a0_9 a0_10 bt316.1 bt316.2.1 bt316.2.2.1 bt316.2.2.2.1 bt316.2.2.2.2.1 bt316.2.2.2.2.2.1 bt316.2.2.2.2.2.2.1 bt316.2.2.2.2.2.2.2.1 bt316.2.2.2.2.2.2.2.2.1 bt316.2.2.2.2.2.2.2.2.2.1 bt316.2.2.2.2.2.2.2.2.2.2).bind fun bt327 => (some (bt327.1.toList == t268.toList && (bt327.2.1.toList == t269.toList && (bt327.2.2.1.toList == t270.toList && (bt327.2.2.2.1.toList == t271.toList && (bt327.2.2.2.2.1 == t272 && (bt327.2.2.2.2.2.1 == t273 && (bt327.2.2.2.2.2.2.1 == t274 && (bt327.2.2.2.2.2.2.2.1 == t275 && (bt327.2.2.2.2.2.2.2.2.1 == t276 && (bt327.2.2.2.2.2.2.2.2.2.1 == t277 && (bt327.2.2.2.2.2.2.2.2.2.2 == t278)))))))))))))) else (some false))) else (some false))) else (if (t256.toList == a1_0.toList && (t257.toList == a1_1.toList && (t258.toList == a1_2.toList && (t259.toList == a1_3.toList && (t260 == a1_4 && (t261 == a1_5 && (t262 == a1_6 && (t263 == a1_7 && (t264 == a1_8 && (t265 == a1_9 && (t266 == a1_10))))))))))) = true then ((cookie_Cmp.f t256 t257 t258 t259 t260 t261 t262 t263 t264 t265 t266 a0_0 a0_1 a0_2 a0_3 a0_4 a0_5 a0_6 a0_7 a0_8 a0_9 a0_10).bind fun t338 => (if t338 ≥ 0 then ((cookie_Cmp.f t256 t257 t258 t259 t260 t261 t262 t263 t264 t265 t266 a1_0 a1_1 a1_2 a1_3 a1_4 a1_5 a1_6 a1_7 a1_8 a1_9 a1_10).bind fun t339 => (if t339 ≥ 0 then ((cookie_Greater.f a1_0 a1_1 a1_2 a1_3 a1_4 a1_5 a1_6 a1_7 a1_8 a1_9 a1_10 a2_0 a2_1 a2_2 a2_3 a2_4 a2_5 a2_6 a2_7 a2_8 a2_9 a2_10).bind fun bt340 => ((cookie_Greater.f a0_0 a0_1 a0_2 a0_3 a0_4 a0_5 a0_6 a0_7 a0_8 a0_9 a0_10 bt340.1 bt340.2.1 bt340.2.2.1 bt340.2.2.2.1 bt340.2.2.2.2.1 bt340.2.2.2.2.2.1 bt340.2.2.2.2.2.2.1 bt340.2.2.2.2.2.2.2.1 bt340.2.2.2.2.2.2.2.2.1 bt340.2.2.2.2.2.2.2.2.2.1 bt340.2.2.2.2.2.2.2.2.2.2).bind fun bt351 => (some (bt351.1.toList == t268.toList && (bt351.2.1.toList == t269.toList && (bt351.2.2.1.toList == t270.toList && (bt351.2.2.2.1.toList == t271.toList && (bt351.2.2.2.2.1 == t272 && (bt351.2.2.2.2.2.1 == t273 && (bt351.2.2.2.2.2.2.1 == t274 && (bt351.2.2.2.2.2.2.2.1 == t275 && (bt351.2.2.2.2.2.2.2.2.1 == t276 && (bt351.2.2.2.2.2.2.2.2.2.1 == t277 && (bt351.2.2.2.2.2.2.2.2.2.2 == t278)))))))))))))) else (some false))) else (some false))) else (some false))) else (some false)) = some r := H
        have A12 := Aside0.mk A120
        clear A120
        by_cases c13 : (t303.toList == a0_0.toList && (t304.toList == a0_1.toList && (t305.toList == a0_2.toList && (t306.toList == a0_3.toList && (t307 == a0_4 && (t308 == a0_5 && (t309 == a0_6 && (t310 == a0_7 && (t311 == a0_8 && (t312 == a0_9 && (t313 == a0_10))))))))))) = true
        · rw [if_pos c13] at H
          have c13b0 : (t303.toList == a0_0.toList && (t304.toList == a0_1.toList && (t305.toList == a0_2.toList && (t306.toList == a0_3.toList && (t307 == a0_4 && (t308 == a0_5 && (t309 == a0_6 && (t310 == a0_7 && (t311 == a0_8 && (t312 == a0_9 && (t313 == a0_10))))))))))) = true := c13
          (try (have c13b1 : decide (t303.toList = a0_0.toList && (t304.toList == a0_1.toList && (t305.toList == a0_2.toList && (t306.toList == a0_3.toList && (t307 == a0_4 && (t308 == a0_5 && (t309 == a0_6 && (t310 == a0_7 && (t311 == a0_8 && (t312 == a0_9 && (t313 == a0_10))))))))))) = true := by simpa using c13))
          (try (have c13b2 : (t303.toList == a0_0.toList && (t304.toList == a0_1.toList && (t305.toList == a0_2.toList && (t306.toList == a0_3.toList && (t307 == a0_4 && (t308 == a0_5 && (t309 == a0_6 && (t310 == a0_7 && (t311 == a0_8 && (t312 == a0_9 && (t313 == a0_10))))))))))) = true := by simpa using c13))
          clear c13
          by_cases c14 : (t256.toList == a0_0.toList && (t257.toList == a0_1.toList && (t258.toList == a0_2.toList && (t259.toList == a0_3.toList && (t260 == a0_4 && (t261 == a0_5 && (t262 == a0_6 && (t263 == a0_7 && (t264 == a0_8 && (t265 == a0_9 && (t266 == a0_10))))))))))) = true
          · rw [if_pos c14] at H
            have c14b0 : (t256.toList == a0_0.toList && (t257.toList == a0_1.toList && (t258.toList == a0_2.toList && (t259.toList == a0_3.toList && (t260 == a0_4 && (t261 == a0_5 && (t262 == a0_6 && (t263 == a0_7 && (t264 == a0_8 && (t265 == a0_9 && (t266 == a0_10))))))))))) = true := c14
            (try (have c14b1 : decide (t256.toList = a0_0.toList && (t257.toList == a0_1.toList && (t258.toList == a0_2.toList && (t259.toList == a0_3.toList && (t260 == a0_4 && (t261 == a0_5 && (t262 == a0_6 && (t263 == a0_7 && (t264 == a0_8 && (t265 == a0_9 && (t266 == a0_10))))))))))) = true := by simpa using c14))
            (try (have c14b2 : (t256.toList == a0_0.toList && (t257.toList == a0_1.toList && (t258.toList == a0_2.toList && (t259.toList == a0_3.toList && (t260 == a0_4 && (t261 == a0_5 && (t262 == a0_6 && (t263 == a0_7 && (t264 == a0_8 && (t265 == a0_9 && (t266 == a0_10))))))))))) = true := by simpa using c14))
            clear c14
            replace H := Option.bind_eq_some_iff.mp H
            obtain ⟨t314, A150, H⟩ := H
            replace H : (if t314 ≥ 0 then ((cookie_Cmp.f t256 t257 t258 t259 t260 t261 t262 t263 t264 t265 t266 a1_0 a1_1 a1_2 a1_3 a1_4 a1_5 a1_6 a1_7 a1_8 a1_9 a1_10).bind fun t315 => (if t315 ≥ 0 then ((cookie_Greater.f a1_0 a1_1 a1_2 a1_3 a1_4 a1_5 a1_6 a1_7 a1_8 a1_9 a1_10 a2_0 a2_1 a2_2 a2_3 a2_4 a2_5 a2_6 a2_7 a2_8 a2_9 a2_10).bind fun bt316 => ((cookie_Greater.f a0_0 a0_1 a0_2 a0_3 a0_4 a0_5 a0_6 a0_7 a0_8 a0_9 a0_10 bt316.1 bt316.2.1 bt316.2.2.1 bt316.2.2.2.1 bt316.2.2.2.2.1 bt316.2.2.2.2.2.1 bt316.2.2.2.2.2.2.1 bt316.2.2.2.2.2.2.2.1 bt316.2.2.2.2.2.2.2.2.1 bt316.2.2.2.2.2.2.2.2.2.1 bt316.2.2.2.2.2.2.2.2.2.2).bind fun bt327 => (some (bt327.1.toList == t268.toList && (bt327.2.1.toList == t269.toList && (bt327.2.2.1.toList == t270.toList && (bt327.2.2.2.1.toList == t271.toList && (bt327.2.2.2.2.1 == t272 && (bt327.2.2.2.2.2.1 == t273 && (bt327.2.2.2.2.2.2.1 == t274 && (bt327.2.2.2.2.2.2.2.1 == t275 && (bt327.2.2.2.2.2.2.2.2.1 == t276 && (bt327.2.2.2.2.2.2.2.2.2.1 == t277 && (bt327.2.2.2.2.2.2.2.2.2.2 == t278)))))))))))))) else (some false))) else (some false)) = some r := H
            have A15 := Aside0.mk A150
            clear A150
            by_cases c16 : t314 ≥ 0
            · rw [if_pos c16] at H
              have c16b0 : decide (0 ≤ t314) = true := decide_eq_true c16
              clear c16
              replace H := Option.bind_eq_some_iff.mp H
              obtain ⟨t315, A170, H⟩ := H
              replace H : (if t315 ≥ 0 then ((cookie_Greater.f a1_0 a1_1 a1_2 a1_3 a1_4 a1_5 a1_6 a1_7 a1_8 a1_9 a1_10 a2_0 a2_1 a2_2 a2_3 a2_4 a2_5 a2_6 a2_7 a2_8 a2_9 a2_10).bind fun bt316 => ((cookie_Greater.f a0_0 a0_1 a0_2 a0_3 a0_4 a0_5 a0_6 a0_7 a0_8 a0_9 a0_10 bt316.1 bt316.2.1 bt316.2.2.1 bt316.2.2.2.1 bt316.2.2.2.2.1 bt316.2.2.2.2.2.1 bt316.2.2.2.2.2.2.1 bt316.2.2.2.2.2.2.2.1 bt316.2.2.2.2.2.2.2.2.1 bt316.2.2.2.2.2.2.2.2.2.1 bt316.2.2.2.2.2.2.2.2.2.2).bind fun bt327 => (some (bt327.1.toList == t268.toList && (bt327.2.1.toList == t269.toList && (bt327.2.2.1.toList == t270.toList && (bt327.2.2.2.1.toList == t271.toList && (bt327.2.2.2.2.1 == t272 && (bt327.2.2.2.2.2.1 == t273 && (bt327.2.2.2.2.2.2.1 == t274 && (bt327.2.2.2.2.2.2.2.1 == t275 && (bt327.2.2.2.2.2.2.2.2.1 == t276 && (bt327.2.2.2.2.2.2.2.2.2.1 == t277 && (bt327.2.2.2.2.2.2.2.2.2.2 == t278)))))))))))))) else (some false)) = some r := H
              have A17 := Aside0.mk A170
              clear A170
              by_cases c18 : t315 ≥ 0
              · rw [if_pos c18] at H
                have c18b0 : decide (0 ≤ t315) = true := decide_eq_true c18
                clear c18
                replace H := Option.bind_eq_some_iff.mp H
                obtain ⟨⟨t316, t317, t318, t319, t320, t321, t322, t323, t324, t325, t326⟩, A190, H⟩ := H
                replace H : ((cookie_Greater.f a0_0 a0_1 a0_2 a0_3 a0_4 a0_5 a0_6 a0_7 a0_8 a0_9 a0_10 t316 t317 t318 t319 t320 t321 t322 t323 t324 t325 t326).bind fun bt327 => (some (bt327.1.toList == t268.toList && (bt327.2.1.toList == t269.toList && (bt327.2.2.1.toList == t270.toList && (bt327.2.2.2.1.toList == t271.toList && (bt327.2.2.2.2.1 == t272 && (bt327.2.2.2.2.2.1 == t273 && (bt327.2.2.2.2.2.2.1 == t274 && (bt327.2.2.2.2.2.2.2.1 == t275 && (bt327.2.2.2.2.2.2.2.2.1 == t276 && (bt327.2.2.2.2.2.2.2.2.2.1 == t277 && (bt327.2.2.2.2.2.2.2.2.2.2 == t278))))))))))))) = some r := H
                have A19 := Aside0.mk A190
                clear A190
                replace H := Option.bind_eq_some_iff.mp H
                obtain ⟨⟨t327, t328, t329, t330, t331, t332, t333, t334, t335, t336, t337⟩, A200, H⟩ := H
                replace H : (some (t327.toList == t268.toList && (t328.toList == t269.toList && (t329.toList == t270.toList && (t330.toList == t271.toList && (t331 == t272 && (t332 == t273 && (t333 == t274 && (t334 == t275 && (t335 == t276 && (t336 == t277 && (t337 == t278)))))))))))) = some r := H
                have A20 := Aside0.mk A200
                clear A200
                obtain rfl := Option.some.inj H
                go_enter Tryd.func6, Tryd.ntmps6
                try go_wp2_with (first | ((with_reducible refine gate_dst (N := 3) rfl ?_); refine box_event ?hg (N := 3) ?hd (cs := #[.string a0_0, .string a0_1, .string a0_2, .string a0_3, .int .i64 a0_4, .int .i64 a0_5, .int .i64 a0_6, .bool a0_7, .bool a0_8, .bool a0_9, .int .i64 a0_10]) (t := 23) ?hr ?_; (case hd => rfl); (case hg => rfl); (case hr => first | (go_simp; done) | (go_simp; rfl)); intro gb253 hg w21 hbox hb; have n0_ := Aside0.mk (below_step xb hb); have n1_ := Aside0.mk (hbox); have n2_ := Aside0.mk ((by rw [hg]; exact (below_size xb) : w.heap.size ≤ gb253)); have n3_ := Aside0.mk ((by rw [hg]; exact (below_size xb) : w.heap.size ≤ gb253)); clear HB; have HB := n0_; have BK253 := n1_; have GW253 := n2_; have GE253 := n3_; clear n0_ n1_ n2_ n3_; clear hb hbox hg) | ((with_reducible refine gate_dst (N := 4) rfl ?_); refine box_event ?hg (N := 4) ?hd (cs := #[.string a1_0, .string a1_1, .string a1_2, .string a1_3, .int .i64 a1_4, .int .i64 a1_5, .int .i64 a1_6, .bool a1_7, .bool a1_8, .bool a1_9, .int .i64 a1_10]) (t := 23) ?hr ?_; (case hd => rfl); (case hg => rfl); (case hr => first | (go_simp; done) | (go_simp; rfl)); intro gb254 hg w22 hbox hb; have n0_ := blkB BK253 hb; have n1_ := Aside0.mk (below_step xb hb); have n2_ := Aside0.mk (hbox); have n3_ := Aside0.mk ((by rw [hg]; exact (below_size xb) : w.heap.size ≤ gb254)); have n4_ := Aside0.mk ((by rw [hg]; exact (below_size xb) : w.heap.size ≤ gb254)); have n5_ := Aside0.mk ((by rw [hg]; exact Nat.ne_of_lt (blkL BK253) : gb253 ≠ gb254)); have n6_ := Aside0.mk ((by rw [hg]; exact Nat.ne_of_gt (blkL BK253) : gb254 ≠ gb253)); clear BK253; clear HB; have BK253 := n0_; have HB := n1_; have BK254 := n2_; have GW254 := n3_; have GE254 := n4_; have NB253_254 := n5_; have NB254_253 := n6_; clear n0_ n1_ n2_ n3_ n4_ n5_ n6_; clear hb hbox hg) | ((with_reducible refine gate_dst (N := 5) rfl ?_); refine box_event ?hg (N := 5) ?hd (cs := #[.string a2_0, .string a2_1, .string a2_2, .string a2_3, .int .i64 a2_4, .int .i64 a2_5, .int .i64 a2_6, .bool a2_7, .bool a2_8, .bool a2_9, .int .i64 a2_10]) (t := 23) ?hr ?_; (case hd => rfl); (case hg => rfl); (case hr => first | (go_simp; done) | (go_simp; rfl)); intro gb255 hg w23 hbox hb; have n0_ := blkB BK253 hb; have n1_ := blkB BK254 hb; have n2_ := Aside0.mk (below_step xb hb); have n3_ := Aside0.mk (hbox); have n4_ := Aside0.mk ((by rw [hg]; exact (below_size xb) : w.heap.size ≤ gb255)); have n5_ := Aside0.mk ((by rw [hg]; exact (below_size xb) : w.heap.size ≤ gb255)); have n6_ := Aside0.mk ((by rw [hg]; exact Nat.ne_of_lt (blkL BK253) : gb253 ≠ gb255)); have n7_ := Aside0.mk ((by rw [hg]; exact Nat.ne_of_gt (blkL BK253) : gb255 ≠ gb253)); have n8_ := Aside0.mk ((by rw [hg]; exact Nat.ne_of_lt (blkL BK254) : gb254 ≠ gb255)); have n9_ := Aside0.mk ((by rw [hg]; exact Nat.ne_of_gt (blkL BK254) : gb255 ≠ gb254)); clear BK253; clear BK254; clear HB; have BK253 := n0_; have BK254 := n1_; have HB := n2_; have BK255 := n3_; have GW255 := n4_; have GE255 := n5_; have NB253_255 := n6_; have NB255_253 := n7_; have NB254_255 := n8_; have NB255_254 := n9_; clear n0_ n1_ n2_ n3_ n4_ n5_ n6_ n7_ n8_ n9_; clear hb hbox hg; have hnb24 := NB253_254.out; have hnc24 := NB254_253.out; have hnb25 := NB253_255.out; have hnc25 := NB255_253.out; have hcz26_0 : w23.cell? ⟨gb253, 0, none⟩ = some (.string a0_0) := (blk_cell BK253.out 0).trans rfl; have hcz26_1 : w23.cell? ⟨gb253, 1, none⟩ = some (.string a0_1) := (blk_cell BK253.out 1).trans rfl; have hcz26_2 : w23.cell? ⟨gb253, 2, none⟩ = some (.string a0_2) := (blk_cell BK253.out 2).trans rfl; have hcz26_3 : w23.cell? ⟨gb253, 3, none⟩ = some (.string a0_3) := (blk_cell BK253.out 3).trans rfl; have hcz26_4 : w23.cell? ⟨gb253, 4, none⟩ = some (.int .i64 a0_4) := (blk_cell BK253.out 4).trans rfl; have hcz26_5 : w23.cell? ⟨gb253, 5, none⟩ = some (.int .i64 a0_5) := (blk_cell BK253.out 5).trans rfl; have hcz26_6 : w23.cell? ⟨gb253, 6, none⟩ = some (.int .i64 a0_6) := (blk_cell BK253.out 6).trans rfl; have hcz26_7 : w23.cell? ⟨gb253, 7, none⟩ = some (.bool a0_7) := (blk_cell BK253.out 7).trans rfl; have hcz26_8 : w23.cell? ⟨gb253, 8, none⟩ = some (.bool a0_8) := (blk_cell BK253.out 8).trans rfl; have hcz26_9 : w23.cell? ⟨gb253, 9, none⟩ = some (.bool a0_9) := (blk_cell BK253.out 9).trans rfl; have hcz26_10 : w23.cell? ⟨gb253, 10, none⟩ = some (.int .i64 a0_10) := (blk_cell BK253.out 10).trans rfl; have hfz26_0 := blk_frozen BK253.out 0; have hfz26_1 := blk_frozen BK253.out 1; have hfz26_2 := blk_frozen BK253.out 2; have hfz26_3 := blk_frozen BK253.out 3; have hfz26_4 := blk_frozen BK253.out 4; have hfz26_5 := blk_frozen BK253.out 5; have hfz26_6 := blk_frozen BK253.out 6; have hfz26_7 := blk_frozen BK253.out 7; have hfz26_8 := blk_frozen BK253.out 8; have hfz26_9 := blk_frozen BK253.out 9; have hfz26_10 := blk_frozen BK253.out 10; have hnb27 := NB254_255.out; have hnc27 := NB255_254.out; have hcz28_0 : w23.cell? ⟨gb254, 0, none⟩ = some (.string a1_0) := (blk_cell BK254.out 0).trans rfl; have hcz28_1 : w23.cell? ⟨gb254, 1, none⟩ = some (.string a1_1) := (blk_cell BK254.out 1).trans rfl; have hcz28_2 : w23.cell? ⟨gb254, 2, none⟩ = some (.string a1_2) := (blk_cell BK254.out 2).trans rfl; have hcz28_3 : w23.cell? ⟨gb254, 3, none⟩ = some (.string a1_3) := (blk_cell BK254.out 3).trans rfl; have hcz28_4 : w23.cell? ⟨gb254, 4, none⟩ = some (.int .i64 a1_4) := (blk_cell BK254.out 4).trans rfl; have hcz28_5 : w23.cell? ⟨gb254, 5, none⟩ = some (.int .i64 a1_5) := (blk_cell BK254.out 5).trans rfl; have hcz28_6 : w23.cell? ⟨gb254, 6, none⟩ = some (.int .i64 a1_6) := (blk_cell BK254.out 6).trans rfl; have hcz28_7 : w23.cell? ⟨gb254, 7, none⟩ = some (.bool a1_7) := (blk_cell BK254.out 7).trans rfl; have hcz28_8 : w23.cell? ⟨gb254, 8, none⟩ = some (.bool a1_8) := (blk_cell BK254.out 8).trans rfl; have hcz28_9 : w23.cell? ⟨gb254, 9, none⟩ = some (.bool a1_9) := (blk_cell BK254.out 9).trans rfl; have hcz28_10 : w23.cell? ⟨gb254, 10, none⟩ = some (.int .i64 a1_10) := (blk_cell BK254.out 10).trans rfl; have hfz28_0 := blk_frozen BK254.out 0; have hfz28_1 := blk_frozen BK254.out 1; have hfz28_2 := blk_frozen BK254.out 2; have hfz28_3 := blk_frozen BK254.out 3; have hfz28_4 := blk_frozen BK254.out 4; have hfz28_5 := blk_frozen BK254.out 5; have hfz28_6 := blk_frozen BK254.out 6; have hfz28_7 := blk_frozen BK254.out 7; have hfz28_8 := blk_frozen BK254.out 8; have hfz28_9 := blk_frozen BK254.out 9; have hfz28_10 := blk_frozen BK254.out 10) | ((with_reducible refine gate_callee (f := 16) rfl ?_); refine goesL_ (some 11) rfl rfl Tryd.func16 (by kernel_rfl) rfl #[.agg #[.string a0_0, .string a0_1, .string a0_2, .string a0_3, .int .i64 a0_4, .int .i64 a0_5, .int .i64 a0_6, .bool a0_7, .bool a0_8, .bool a0_9, .int .i64 a0_10], .agg #[.string a1_0, .string a1_1, .string a1_2, .string a1_3, .int .i64 a1_4, .int .i64 a1_5, .int .i64 a1_6, .bool a1_7, .bool a1_8, .bool a1_9, .int .i64 a1_10]] rfl xg ?_; (with_reducible refine (cookie_Greater.calls a0_0 a0_1 a0_2 a0_3 a0_4 a0_5 a0_6 a0_7 a0_8 a0_9 a0_10 a1_0 a1_1 a1_2 a1_3 a1_4 a1_5 a1_6 a1_7 a1_8 a1_9 a1_10 t256 t257 t258 t259 t260 t261 t262 t263 t264 t265 t266 _ A4.out).mono ?_); rintro e w29 ⟨rfl, hb⟩; refine ⟨_, rfl, ?_⟩; have n0_ := blkB BK253 hb; have n1_ := blkB BK254 hb; have n2_ := blkB BK255 hb; have n3_ := Aside0.mk (below_step xb hb); clear BK253; clear BK254; clear BK255; clear HB; have BK253 := n0_; have BK254 := n1_; have BK255 := n2_; have HB := n3_; clear n0_ n1_ n2_ n3_; (try clear hb); (try clear hb2); (try clear hk); (try clear hi)) | ((with_reducible refine gate_dst (N := 7) rfl ?_); refine box_event ?hg (N := 7) ?hd (cs := #[.string (⟨#[]⟩ : ByteArray), .string (⟨#[]⟩ : ByteArray), .string (⟨#[]⟩ : ByteArray), .string (⟨#[]⟩ : ByteArray), .int .i64 0, .int .i64 0, .int .i64 0, .bool false, .bool false, .bool false, .int .i64 0]) (t := 23) ?hr ?_; (case hd => rfl); (case hg => rfl); (case hr => first | (go_simp; done) | (go_simp; rfl)); intro gb267 hg w30 hbox hb; have n0_ := blkB BK253 hb; have n1_ := blkB BK254 hb; have n2_ := blkB BK255 hb; have n3_ := Aside0.mk (below_step xb hb); have n4_ := Aside0.mk (hbox); have n5_ := Aside0.mk ((by rw [hg]; exact (below_size xb) : w.heap.size ≤ gb267)); have n6_ := Aside0.mk ((by rw [hg]; exact (below_size xb) : w.heap.size ≤ gb267)); have n7_ := Aside0.mk ((by rw [hg]; exact Nat.ne_of_lt (blkL BK253) : gb253 ≠ gb267)); have n8_ := Aside0.mk ((by rw [hg]; exact Nat.ne_of_gt (blkL BK253) : gb267 ≠ gb253)); have n9_ := Aside0.mk ((by rw [hg]; exact Nat.ne_of_lt (blkL BK254) : gb254 ≠ gb267)); have n10_ := Aside0.mk ((by rw [hg]; exact Nat.ne_of_gt (blkL BK254) : gb267 ≠ gb254)); have n11_ := Aside0.mk ((by rw [hg]; exact Nat.ne_of_lt (blkL BK255) : gb255 ≠ gb267)); have n12_ := Aside0.mk ((by rw [hg]; exact Nat.ne_of_gt (blkL BK255) : gb267 ≠ gb255)); clear BK253; clear BK254; clear BK255; clear HB; have BK253 := n0_; have BK254 := n1_; have BK255 := n2_; have HB := n3_; have BK267 := n4_; have GW267 := n5_; have GE267 := n6_; have NB253_267 := n7_; have NB267_253 := n8_; have NB254_267 := n9_; have NB267_254 := n10_; have NB255_267 := n11_; have NB267_255 := n12_; clear n0_ n1_ n2_ n3_ n4_ n5_ n6_ n7_ n8_ n9_ n10_ n11_ n12_; clear hb hbox hg; have hnb31 := NB267_253.out; have hnc31 := NB253_267.out; have hnb32 := NB267_254.out; have hnc32 := NB254_267.out; have hnb33 := NB267_255.out; have hnc33 := NB255_267.out; have hcz34_0 : w30.cell? ⟨gb267, 0, none⟩ = some (.string (⟨#[]⟩ : ByteArray)) := (blk_cell BK267.out 0).trans rfl; have hcz34_1 : w30.cell? ⟨gb267, 1, none⟩ = some (.string (⟨#[]⟩ : ByteArray)) := (blk_cell BK267.out 1).trans rfl; have hcz34_2 : w30.cell? ⟨gb267, 2, none⟩ = some (.string (⟨#[]⟩ : ByteArray)) := (blk_cell BK267.out 2).trans rfl; have hcz34_3 : w30.cell? ⟨gb267, 3, none⟩ = some (.string (⟨#[]⟩ : ByteArray)) := (blk_cell BK267.out 3).trans rfl; have hcz34_4 : w30.cell? ⟨gb267, 4, none⟩ = some (.int .i64 0) := (blk_cell BK267.out 4).trans rfl; have hcz34_5 : w30.cell? ⟨gb267, 5, none⟩ = some (.int .i64 0) := (blk_cell BK267.out 5).trans rfl; have hcz34_6 : w30.cell? ⟨gb267, 6, none⟩ = some (.int .i64 0) := (blk_cell BK267.out 6).trans rfl; have hcz34_7 : w30.cell? ⟨gb267, 7, none⟩ = some (.bool false) := (blk_cell BK267.out 7).trans rfl; have hcz34_8 : w30.cell? ⟨gb267, 8, none⟩ = some (.bool false) := (blk_cell BK267.out 8).trans rfl; have hcz34_9 : w30.cell? ⟨gb267, 9, none⟩ = some (.bool false) := (blk_cell BK267.out 9).trans rfl; have hcz34_10 : w30.cell? ⟨gb267, 10, none⟩ = some (.int .i64 0) := (blk_cell BK267.out 10).trans rfl; have hfz34_0 := blk_frozen BK267.out 0; have hfz34_1 := blk_frozen BK267.out 1; have hfz34_2 := blk_frozen BK267.out 2; have hfz34_3 := blk_frozen BK267.out 3; have hfz34_4 := blk_frozen BK267.out 4; have hfz34_5 := blk_frozen BK267.out 5; have hfz34_6 := blk_frozen BK267.out 6; have hfz34_7 := blk_frozen BK267.out 7; have hfz34_8 := blk_frozen BK267.out 8; have hfz34_9 := blk_frozen BK267.out 9; have hfz34_10 := blk_frozen BK267.out 10; have hcz35_0 : w30.cell? ⟨gb255, 0, none⟩ = some (.string a2_0) := (blk_cell BK255.out 0).trans rfl; have hcz35_1 : w30.cell? ⟨gb255, 1, none⟩ = some (.string a2_1) := (blk_cell BK255.out 1).trans rfl; have hcz35_2 : w30.cell? ⟨gb255, 2, none⟩ = some (.string a2_2) := (blk_cell BK255.out 2).trans rfl; have hcz35_3 : w30.cell? ⟨gb255, 3, none⟩ = some (.string a2_3) := (blk_cell BK255.out 3).trans rfl; have hcz35_4 : w30.cell? ⟨gb255, 4, none⟩ = some (.int .i64 a2_4) := (blk_cell BK255.out 4).trans rfl; have hcz35_5 : w30.cell? ⟨gb255, 5, none⟩ = some (.int .i64 a2_5) := (blk_cell BK255.out 5).trans rfl; have hcz35_6 : w30.cell? ⟨gb255, 6, none⟩ = some (.int .i64 a2_6) := (blk_cell BK255.out 6).trans rfl; have hcz35_7 : w30.cell? ⟨gb255, 7, none⟩ = some (.bool a2_7) := (blk_cell BK255.out 7).trans rfl; have hcz35_8 : w30.cell? ⟨gb255, 8, none⟩ = some (.bool a2_8) := (blk_cell BK255.out 8).trans rfl; have hcz35_9 : w30.cell? ⟨gb255, 9, none⟩ = some (.bool a2_9) := (blk_cell BK255.out 9).trans rfl; have hcz35_10 : w30.cell? ⟨gb255, 10, none⟩ = some (.int .i64 a2_10) := (blk_cell BK255.out 10).trans rfl; have hfz35_0 := blk_frozen BK255.out 0; have hfz35_1 := blk_frozen BK255.out 1; have hfz35_2 := blk_frozen BK255.out 2; have hfz35_3 := blk_frozen BK255.out 3; have hfz35_4 := blk_frozen BK255.out 4; have hfz35_5 := blk_frozen BK255.out 5; have hfz35_6 := blk_frozen BK255.out 6; have hfz35_7 := blk_frozen BK255.out 7; have hfz35_8 := blk_frozen BK255.out 8; have hfz35_9 := blk_frozen BK255.out 9; have hfz35_10 := blk_frozen BK255.out 10) | ((with_reducible refine gate_callee (f := 16) rfl ?_); refine goesL_ (some 14) rfl rfl Tryd.func16 (by kernel_rfl) rfl #[.agg #[.string t256, .string t257, .string t258, .string t259, .int .i64 t260, .int .i64 t261, .int .i64 t262, .bool t263, .bool t264, .bool t265, .int .i64 t266], .agg #[.string a2_0, .string a2_1, .string a2_2, .string a2_3, .int .i64 a2_4, .int .i64 a2_5, .int .i64 a2_6, .bool a2_7, .bool a2_8, .bool a2_9, .int .i64 a2_10]] rfl xg ?_; (with_reducible refine (cookie_Greater.calls t256 t257 t258 t259 t260 t261 t262 t263 t264 t265 t266 a2_0 a2_1 a2_2 a2_3 a2_4 a2_5 a2_6 a2_7 a2_8 a2_9 a2_10 t268 t269 t270 t271 t272 t273 t274 t275 t276 t277 t278 _ A5.out).mono ?_); rintro e w36 ⟨rfl, hb⟩; refine ⟨_, rfl, ?_⟩; have n0_ := blkB BK253 hb; have n1_ := blkB BK254 hb; have n2_ := blkB BK255 hb; have n3_ := Aside0.mk (blk_below (g := gb267) (o := .cells #[.string t256, .string t257, .string t258, .string t259, .int .i64 t260, .int .i64 t261, .int .i64 t262, .bool t263, .bool t264, .bool t265, .int .i64 t266] 23 (0, 0)) xk hb); have n4_ := Aside0.mk (below_step xb hb); clear BK253; clear BK254; clear BK255; clear BK267; clear HB; have BK253 := n0_; have BK254 := n1_; have BK255 := n2_; have BK267 := n3_; have HB := n4_; clear n0_ n1_ n2_ n3_ n4_; (try clear hb); (try clear hb2); (try clear hk); (try clear hi)) | ((with_reducible refine gate_dst (N := 8) rfl ?_); refine box_event ?hg (N := 8) ?hd (cs := #[.string (⟨#[]⟩ : ByteArray), .string (⟨#[]⟩ : ByteArray), .string (⟨#[]⟩ : ByteArray), .string (⟨#[]⟩ : ByteArray), .int .i64 0, .int .i64 0, .int .i64 0, .bool false, .bool false, .bool false, .int .i64 0]) (t := 23) ?hr ?_; (case hd => rfl); (case hg => rfl); (case hr => first | (go_simp; done) | (go_simp; rfl)); intro gb279 hg w37 hbox hb; have n0_ := blkB BK253 hb; have n1_ := blkB BK254 hb; have n2_ := blkB BK255 hb; have n3_ := blkB BK267 hb; have n4_ := Aside0.mk (below_step xb hb); have n5_ := Aside0.mk (hbox); have n6_ := Aside0.mk ((by rw [hg]; exact (below_size xb) : w.heap.size ≤ gb279)); have n7_ := Aside0.mk ((by rw [hg]; exact (below_size xb) : w.heap.size ≤ gb279)); have n8_ := Aside0.mk ((by rw [hg]; exact Nat.ne_of_lt (blkL BK253) : gb253 ≠ gb279)); have n9_ := Aside0.mk ((by rw [hg]; exact Nat.ne_of_gt (blkL BK253) : gb279 ≠ gb253)); have n10_ := Aside0.mk ((by rw [hg]; exact Nat.ne_of_lt (blkL BK254) : gb254 ≠ gb279)); have n11_ := Aside0.mk ((by rw [hg]; exact Nat.ne_of_gt (blkL BK254) : gb279 ≠ gb254)); have n12_ := Aside0.mk ((by rw [hg]; exact Nat.ne_of_lt (blkL BK255) : gb255 ≠ gb279)); have n13_ := Aside0.mk ((by rw [hg]; exact Nat.ne_of_gt (blkL BK255) : gb279 ≠ gb255)); have n14_ := Aside0.mk ((by rw [hg]; exact Nat.ne_of_lt (blkL BK267) : gb267 ≠ gb279)); have n15_ := Aside0.mk ((by rw [hg]; exact Nat.ne_of_gt (blkL BK267) : gb279 ≠ gb267)); clear BK253; clear BK254; clear BK255; clear BK267; clear HB; have BK253 := n0_; have BK254 := n1_; have BK255 := n2_; have BK267 := n3_; have HB := n4_; have BK279 := n5_; have GW279 := n6_; have GE279 := n7_; have NB253_279 := n8_; have NB279_253 := n9_; have NB254_279 := n10_; have NB279_254 := n11_; have NB255_279 := n12_; have NB279_255 := n13_; have NB267_279 := n14_; have NB279_267 := n15_; clear n0_ n1_ n2_ n3_ n4_ n5_ n6_ n7_ n8_ n9_ n10_ n11_ n12_ n13_ n14_ n15_; clear hb hbox hg; have hnb38 := NB279_253.out; have hnc38 := NB253_279.out; have hnb39 := NB279_254.out; have hnc39 := NB254_279.out; have hnb40 := NB279_255.out; have hnc40 := NB255_279.out; have hnb41 := NB279_267.out; have hnc41 := NB267_279.out; have hcz42_0 : w37.cell? ⟨gb279, 0, none⟩ = some (.string (⟨#[]⟩ : ByteArray)) := (blk_cell BK279.out 0).trans rfl; have hcz42_1 : w37.cell? ⟨gb279, 1, none⟩ = some (.string (⟨#[]⟩ : ByteArray)) := (blk_cell BK279.out 1).trans rfl; have hcz42_2 : w37.cell? ⟨gb279, 2, none⟩ = some (.string (⟨#[]⟩ : ByteArray)) := (blk_cell BK279.out 2).trans rfl; have hcz42_3 : w37.cell? ⟨gb279, 3, none⟩ = some (.string (⟨#[]⟩ : ByteArray)) := (blk_cell BK279.out 3).trans rfl; have hcz42_4 : w37.cell? ⟨gb279, 4, none⟩ = some (.int .i64 0) := (blk_cell BK279.out 4).trans rfl; have hcz42_5 : w37.cell? ⟨gb279, 5, none⟩ = some (.int .i64 0) := (blk_cell BK279.out 5).trans rfl; have hcz42_6 : w37.cell? ⟨gb279, 6, none⟩ = some (.int .i64 0) := (blk_cell BK279.out 6).trans rfl; have hcz42_7 : w37.cell? ⟨gb279, 7, none⟩ = some (.bool false) := (blk_cell BK279.out 7).trans rfl; have hcz42_8 : w37.cell? ⟨gb279, 8, none⟩ = some (.bool false) := (blk_cell BK279.out 8).trans rfl; have hcz42_9 : w37.cell? ⟨gb279, 9, none⟩ = some (.bool false) := (blk_cell BK279.out 9).trans rfl; have hcz42_10 : w37.cell? ⟨gb279, 10, none⟩ = some (.int .i64 0) := (blk_cell BK279.out 10).trans rfl; have hfz42_0 := blk_frozen BK279.out 0; have hfz42_1 := blk_frozen BK279.out 1; have hfz42_2 := blk_frozen BK279.out 2; have hfz42_3 := blk_frozen BK279.out 3; have hfz42_4 := blk_frozen BK279.out 4; have hfz42_5 := blk_frozen BK279.out 5; have hfz42_6 := blk_frozen BK279.out 6; have hfz42_7 := blk_frozen BK279.out 7; have hfz42_8 := blk_frozen BK279.out 8; have hfz42_9 := blk_frozen BK279.out 9; have hfz42_10 := blk_frozen BK279.out 10))
                obtain ⟨w43, hw_⟩ : ∃ v_, (((((((((((w37.setCell ⟨gb279, 0, none⟩ (.string t268)).setCell ⟨gb279, 1, none⟩ (.string t269)).setCell ⟨gb279, 2, none⟩ (.string t270)).setCell ⟨gb279, 3, none⟩ (.string t271)).setCell ⟨gb279, 4, none⟩ (.int .i64 t272)).setCell ⟨gb279, 5, none⟩ (.int .i64 t273)).setCell ⟨gb279, 6, none⟩ (.int .i64 t274)).setCell ⟨gb279, 7, none⟩ (.bool t275)).setCell ⟨gb279, 8, none⟩ (.bool t276)).setCell ⟨gb279, 9, none⟩ (.bool t277)).setCell ⟨gb279, 10, none⟩ (.int .i64 t278)) = v_ := ⟨_, rfl⟩
                have n0_ : Aside0 (w43.heap[gb253]? = some (.cells #[.string a0_0, .string a0_1, .string a0_2, .string a0_3, .int .i64 a0_4, .int .i64 a0_5, .int .i64 a0_6, .bool a0_7, .bool a0_8, .bool a0_9, .int .i64 a0_10] 23 (0, 0))) := by rw [← hw_]; exact ⟨xk⟩
                have n1_ : Aside0 (w43.heap[gb254]? = some (.cells #[.string a1_0, .string a1_1, .string a1_2, .string a1_3, .int .i64 a1_4, .int .i64 a1_5, .int .i64 a1_6, .bool a1_7, .bool a1_8, .bool a1_9, .int .i64 a1_10] 23 (0, 0))) := by rw [← hw_]; exact ⟨xk⟩
                have n2_ : Aside0 (w43.heap[gb255]? = some (.cells #[.string a2_0, .string a2_1, .string a2_2, .string a2_3, .int .i64 a2_4, .int .i64 a2_5, .int .i64 a2_6, .bool a2_7, .bool a2_8, .bool a2_9, .int .i64 a2_10] 23 (0, 0))) := by rw [← hw_]; exact ⟨xk⟩
                have n3_ : Aside0 (w43.heap[gb267]? = some (.cells #[.string t256, .string t257, .string t258, .string t259, .int .i64 t260, .int .i64 t261, .int .i64 t262, .bool t263, .bool t264, .bool t265, .int .i64 t266] 23 (0, 0))) := by rw [← hw_]; exact ⟨xk⟩
                have n4_ : Aside0 (w43.heap[gb279]? = some (.cells #[.string t268, .string t269, .string t270, .string t271, .int .i64 t272, .int .i64 t273, .int .i64 t274, .bool t275, .bool t276, .bool t277, .int .i64 t278] 23 (0, 0))) := by rw [← hw_]; exact ⟨xk⟩
                have n5_ : Aside0 (Below w.heap.size w w43) := by rw [← hw_]; exact ⟨xb⟩
                (try clear BK253)
                (try clear BK254)
                (try clear BK255)
                (try clear BK267)
                (try clear BK279)
                (try clear HB)
                (try rewrite [hw_])
                clear hw_
                have BK253 := n0_
                have BK254 := n1_
                have BK255 := n2_
                have BK267 := n3_
                have BK279 := n4_
                have HB := n5_
                clear n0_ n1_ n2_ n3_ n4_ n5_
                have n0_ := Aside0.mk (blk_drew BK253.out)
                have n1_ := Aside0.mk (blk_drew BK254.out)
                have n2_ := Aside0.mk (blk_drew BK255.out)
                have n3_ := Aside0.mk (blk_drew BK267.out)
                have n4_ := Aside0.mk (blk_drew BK279.out)
                have n5_ := Aside0.mk (below_drew1 HB.out)
                clear BK253
                clear BK254
                clear BK255
                clear BK267
                clear BK279
                clear HB
                have BK253 := n0_
                have BK254 := n1_
                have BK255 := n2_
                have BK267 := n3_
                have BK279 := n4_
                have HB := n5_
                clear n0_ n1_ n2_ n3_ n4_ n5_
                refine start_ (n := 54) (S := fun w' => w'.cell? ⟨gb267, 0, none⟩ = some (.string t256) ∧ w'.cell? ⟨gb267, 1, none⟩ = some (.string t257) ∧ w'.cell? ⟨gb267, 2, none⟩ = some (.string t258) ∧ w'.cell? ⟨gb267, 3, none⟩ = some (.string t259) ∧ w'.cell? ⟨gb267, 4, none⟩ = some (.int .i64 t260) ∧ w'.cell? ⟨gb267, 5, none⟩ = some (.int .i64 t261) ∧ w'.cell? ⟨gb267, 6, none⟩ = some (.int .i64 t262) ∧ w'.cell? ⟨gb267, 7, none⟩ = some (.bool t263) ∧ w'.cell? ⟨gb267, 8, none⟩ = some (.bool t264) ∧ w'.cell? ⟨gb267, 9, none⟩ = some (.bool t265) ∧ w'.cell? ⟨gb267, 10, none⟩ = some (.int .i64 t266) ∧ w'.cell? ⟨gb253, 0, none⟩ = some (.string a0_0) ∧ w'.cell? ⟨gb253, 1, none⟩ = some (.string a0_1) ∧ w'.cell? ⟨gb253, 2, none⟩ = some (.string a0_2) ∧ w'.cell? ⟨gb253, 3, none⟩ = some (.string a0_3) ∧ w'.cell? ⟨gb253, 4, none⟩ = some (.int .i64 a0_4) ∧ w'.cell? ⟨gb253, 5, none⟩ = some (.int .i64 a0_5) ∧ w'.cell? ⟨gb253, 6, none⟩ = some (.int .i64 a0_6) ∧ w'.cell? ⟨gb253, 7, none⟩ = some (.bool a0_7) ∧ w'.cell? ⟨gb253, 8, none⟩ = some (.bool a0_8) ∧ w'.cell? ⟨gb253, 9, none⟩ = some (.bool a0_9) ∧ w'.cell? ⟨gb253, 10, none⟩ = some (.int .i64 a0_10) ∧ w'.cell? ⟨gb254, 0, none⟩ = some (.string a1_0) ∧ w'.cell? ⟨gb254, 1, none⟩ = some (.string a1_1) ∧ w'.cell? ⟨gb254, 2, none⟩ = some (.string a1_2) ∧ w'.cell? ⟨gb254, 3, none⟩ = some (.string a1_3) ∧ w'.cell? ⟨gb254, 4, none⟩ = some (.int .i64 a1_4) ∧ w'.cell? ⟨gb254, 5, none⟩ = some (.int .i64 a1_5) ∧ w'.cell? ⟨gb254, 6, none⟩ = some (.int .i64 a1_6) ∧ w'.cell? ⟨gb254, 7, none⟩ = some (.bool a1_7) ∧ w'.cell? ⟨gb254, 8, none⟩ = some (.bool a1_8) ∧ w'.cell? ⟨gb254, 9, none⟩ = some (.bool a1_9) ∧ w'.cell? ⟨gb254, 10, none⟩ = some (.int .i64 a1_10) ∧ w'.cell? ⟨gb255, 0, none⟩ = some (.string a2_0) ∧ w'.cell? ⟨gb255, 1, none⟩ = some (.string a2_1) ∧ w'.cell? ⟨gb255, 2, none⟩ = some (.string a2_2) ∧ w'.cell? ⟨gb255, 3, none⟩ = some (.string a2_3) ∧ w'.cell? ⟨gb255, 4, none⟩ = some (.int .i64 a2_4) ∧ w'.cell? ⟨gb255, 5, none⟩ = some (.int .i64 a2_5) ∧ w'.cell? ⟨gb255, 6, none⟩ = some (.int .i64 a2_6) ∧ w'.cell? ⟨gb255, 7, none⟩ = some (.bool a2_7) ∧ w'.cell? ⟨gb255, 8, none⟩ = some (.bool a2_8) ∧ w'.cell? ⟨gb255, 9, none⟩ = some (.bool a2_9) ∧ w'.cell? ⟨gb255, 10, none⟩ = some (.int .i64 a2_10) ∧ w'.cell? ⟨gb279, 0, none⟩ = some (.string t268) ∧ w'.cell? ⟨gb279, 1, none⟩ = some (.string t269) ∧ w'.cell? ⟨gb279, 2, none⟩ = some (.string t270) ∧ w'.cell? ⟨gb279, 3, none⟩ = some (.string t271) ∧ w'.cell? ⟨gb279, 4, none⟩ = some (.int .i64 t272) ∧ w'.cell? ⟨gb279, 5, none⟩ = some (.int .i64 t273) ∧ w'.cell? ⟨gb279, 6, none⟩ = some (.int .i64 t274) ∧ w'.cell? ⟨gb279, 7, none⟩ = some (.bool t275) ∧ w'.cell? ⟨gb279, 8, none⟩ = some (.bool t276) ∧ w'.cell? ⟨gb279, 9, none⟩ = some (.bool t277) ∧ w'.cell? ⟨gb279, 10, none⟩ = some (.int .i64 t278)) (ds := []) #[false, false, false, false, false, false, false, false, false, false, false, false, false, false, false, false, false, false, false, false, false, false, false, false, false, false, false, false, false, false, false, false, false, false, false, false, false, false, false, false, false, false, false, false, false, false, false, false, false, false, false, false, false, false] (by kernel_rfl) rfl rfl ⟨(blk_cell BK267.out 0).trans rfl, (blk_cell BK267.out 1).trans rfl, (blk_cell BK267.out 2).trans rfl, (blk_cell BK267.out 3).trans rfl, (blk_cell BK267.out 4).trans rfl, (blk_cell BK267.out 5).trans rfl, (blk_cell BK267.out 6).trans rfl, (blk_cell BK267.out 7).trans rfl, (blk_cell BK267.out 8).trans rfl, (blk_cell BK267.out 9).trans rfl, (blk_cell BK267.out 10).trans rfl, (blk_cell BK253.out 0).trans rfl, (blk_cell BK253.out 1).trans rfl, (blk_cell BK253.out 2).trans rfl, (blk_cell BK253.out 3).trans rfl, (blk_cell BK253.out 4).trans rfl, (blk_cell BK253.out 5).trans rfl, (blk_cell BK253.out 6).trans rfl, (blk_cell BK253.out 7).trans rfl, (blk_cell BK253.out 8).trans rfl, (blk_cell BK253.out 9).trans rfl, (blk_cell BK253.out 10).trans rfl, (blk_cell BK254.out 0).trans rfl, (blk_cell BK254.out 1).trans rfl, (blk_cell BK254.out 2).trans rfl, (blk_cell BK254.out 3).trans rfl, (blk_cell BK254.out 4).trans rfl, (blk_cell BK254.out 5).trans rfl, (blk_cell BK254.out 6).trans rfl, (blk_cell BK254.out 7).trans rfl, (blk_cell BK254.out 8).trans rfl, (blk_cell BK254.out 9).trans rfl, (blk_cell BK254.out 10).trans rfl, (blk_cell BK255.out 0).trans rfl, (blk_cell BK255.out 1).trans rfl, (blk_cell BK255.out 2).trans rfl, (blk_cell BK255.out 3).trans rfl, (blk_cell BK255.out 4).trans rfl, (blk_cell BK255.out 5).trans rfl, (blk_cell BK255.out 6).trans rfl, (blk_cell BK255.out 7).trans rfl, (blk_cell BK255.out 8).trans rfl, (blk_cell BK255.out 9).trans rfl, (blk_cell BK255.out 10).trans rfl, (blk_cell BK279.out 0).trans rfl, (blk_cell BK279.out 1).trans rfl, (blk_cell BK279.out 2).trans rfl, (blk_cell BK279.out 3).trans rfl, (blk_cell BK279.out 4).trans rfl, (blk_cell BK279.out 5).trans rfl, (blk_cell BK279.out 6).trans rfl, (blk_cell BK279.out 7).trans rfl, (blk_cell BK279.out 8).trans rfl, (blk_cell BK279.out 9).trans rfl, (blk_cell BK279.out 10).trans rfl⟩ (fun hHeld => ?_); refine with_tabW cracknellaw13_CookieGreater.tab3 cracknellaw13_CookieGreater.bits3 (fun HT_ HW_ => ?_)
                generalize w43.drew = w44 at BK253 BK254 BK255 BK267 BK279 HB hHeld ⊢
                refine one_ (i := 0) (N := some 15) #[true, false, false, false, false, false, false, false, false, false, false, false, false, false, false, false, false, false, false, false, false, false, false, false, false, false, false, false, false, false, false, false, false, false, false, false, false, false, false, false, false, false, false, false, false, false, false, false, false, false, false, false, false, false] rfl rfl (one_of HT_.out (by kernel_rfl)) (by decide) (fun K hK => ?_)
                refine goes_ Tryd.func11 (by kernel_rfl) rfl #[] (by rfl) rfl rfl xg ?_
                with_reducible refine (cracknellaw13_alive.calls k  true _ (Aside0.mk (by first | exact hG.out | ((with_reducible repeat (first | apply LaidG.drewN | apply LaidG.drew | apply LaidG.alloc)); exact hG.out) | exact LaidG.below hG.out xb)) ⟨by first | rfl | assumption | exact hT_.out⟩ A6.out).mono ?_
                rintro e w45 ⟨rfl, hb⟩
                refine ⟨_, rfl, ?_⟩
                have n0_ := blkB BK253 hb
                have n1_ := blkB BK254 hb
                have n2_ := blkB BK255 hb
                have n3_ := blkB BK267 hb
                have n4_ := blkB BK279 hb
                have n5_ := Aside0.mk (below_step xb hb)
                clear BK253
                clear BK254
                clear BK255
                clear BK267
                clear BK279
                clear HB
                have BK253 := n0_
                have BK254 := n1_
                have BK255 := n2_
                have BK267 := n3_
                have BK279 := n4_
                have HB := n5_
                clear n0_ n1_ n2_ n3_ n4_ n5_
                (try clear hb)
                (try clear hb2)
                (try clear hk)
                (try clear hi)
                refine hK.out _ _ xc (fun hHeld => ?_)
                clear hK K
                refine norm_ (a' := ?_) ?_ ?_
                rotate_left
                · show Act.put _ (some 15) _ = _
                  simp only [Act.put, List.setIfInBounds_toArray, List.set_cons_zero, List.set_cons_succ, i64_w, i32_w]
                  rfl
                refine pure_ (i := 1) (N := some 16) (v := ?_) (a' := ?_) #[true, true, false, false, false, false, false, false, false, false, false, false, false, false, false, false, false, false, false, false, false, false, false, false, false, false, false, false, false, false, false, false, false, false, false, false, false, false, false, false, false, false, false, false, false, false, false, false, false, false, false, false, false, false] rfl rfl (any_of HT_.out (by kernel_rfl)) (fun _ _ _ h => h) (Or.inl ⟨by rfl, ?_⟩) ?_ ?_
                rotate_left
                · intro w'
                  go_simp
                  with_reducible rfl
                rotate_left
                · simp only [Act.put, List.setIfInBounds_toArray, List.set_cons_zero, List.set_cons_succ, i64_w, i32_w]
                  rfl
                refine take_ (i := 2) (N := some 17) (v := ?_) (a' := ?_) #[true, true, true, false, false, false, false, false, false, false, false, false, false, false, false, false, false, false, false, false, false, false, false, false, false, false, false, false, false, false, false, false, false, false, false, false, false, false, false, false, false, false, false, false, false, false, false, false, false, false, false, false, false, false] rfl rfl (take_ofW HT_.out HW_.out (by kernel_rfl)) (fun _ _ _ h => h) (Or.inl ⟨by rfl, ?_⟩) hHeld ?_ ?_
                rotate_left
                · rintro w' ⟨s0, s1, s2, s3, s4, s5, s6, s7, s8, s9, s10, s11, s12, s13, s14, s15, s16, s17, s18, s19, s20, s21, s22, s23, s24, s25, s26, s27, s28, s29, s30, s31, s32, s33, s34, s35, s36, s37, s38, s39, s40, s41, s42, s43, s44, s45, s46, s47, s48, s49, s50, s51, s52, s53, s54⟩
                  go_simp
                  with_reducible rfl
                rotate_left
                · simp only [Act.put, List.setIfInBounds_toArray, List.set_cons_zero, List.set_cons_succ, i64_w, i32_w]
                  rfl
                refine take_ (i := 3) (N := some 18) (v := ?_) (a' := ?_) #[true, true, true, true, false, false, false, false, false, false, false, false, false, false, false, false, false, false, false, false, false, false, false, false, false, false, false, false, false, false, false, false, false, false, false, false, false, false, false, false, false, false, false, false, false, false, false, false, false, false, false, false, false, false] rfl rfl (take_ofW HT_.out HW_.out (by kernel_rfl)) (fun _ _ _ h => h) (Or.inl ⟨by rfl, ?_⟩) hHeld ?_ ?_
                rotate_left
                · rintro w' ⟨s0, s1, s2, s3, s4, s5, s6, s7, s8, s9, s10, s11, s12, s13, s14, s15, s16, s17, s18, s19, s20, s21, s22, s23, s24, s25, s26, s27, s28, s29, s30, s31, s32, s33, s34, s35, s36, s37, s38, s39, s40, s41, s42, s43, s44, s45, s46, s47, s48, s49, s50, s51, s52, s53, s54⟩
                  go_simp
                  with_reducible rfl
                rotate_left
                · simp only [Act.put, List.setIfInBounds_toArray, List.set_cons_zero, List.set_cons_succ, i64_w, i32_w]
                  rfl
                refine take_ (i := 4) (N := some 19) (v := ?_) (a' := ?_) #[true, true, true, true, true, false, false, false, false, false, false, false, false, false, false, false, false, false, false, false, false, false, false, false, false, false, false, false, false, false, false, false, false, false, false, false, false, false, false, false, false, false, false, false, false, false, false, false, false, false, false, false, false, false] rfl rfl (take_ofW HT_.out HW_.out (by kernel_rfl)) (fun _ _ _ h => h) (Or.inl ⟨by rfl, ?_⟩) hHeld ?_ ?_
                rotate_left
                · rintro w' ⟨s0, s1, s2, s3, s4, s5, s6, s7, s8, s9, s10, s11, s12, s13, s14, s15, s16, s17, s18, s19, s20, s21, s22, s23, s24, s25, s26, s27, s28, s29, s30, s31, s32, s33, s34, s35, s36, s37, s38, s39, s40, s41, s42, s43, s44, s45, s46, s47, s48, s49, s50, s51, s52, s53, s54⟩
                  go_simp
                  with_reducible rfl
                rotate_left
                · simp only [Act.put, List.setIfInBounds_toArray, List.set_cons_zero, List.set_cons_succ, i64_w, i32_w]
                  rfl
                refine one_ (i := 5) (N := some 20) #[true, true, true, true, true, true, false, false, false, false, false, false, false, false, false, false, false, false, false, false, false, false, false, false, false, false, false, false, false, false, false, false, false, false, false, false, false, false, false, false, false, false, false, false, false, false, false, false, false, false, false, false, false, false] rfl rfl (one_of HT_.out (by kernel_rfl)) (by decide) (fun K hK => ?_)
                refine goes_ Tryd.func17 (by kernel_rfl) rfl #[.agg #[.string a0_0, .string a0_1, .string a0_2, .string a0_3, .int .i64 a0_4, .int .i64 a0_5, .int .i64 a0_6, .bool a0_7, .bool a0_8, .bool a0_9, .int .i64 a0_10], .agg #[.string a1_0, .string a1_1, .string a1_2, .string a1_3, .int .i64 a1_4, .int .i64 a1_5, .int .i64 a1_6, .bool a1_7, .bool a1_8, .bool a1_9, .int .i64 a1_10]] (by rfl) rfl rfl xg ?_
                with_reducible refine (cracknelref13_Greater.calls k a0_0 a0_1 a0_2 a0_3 a0_4 a0_5 a0_6 a0_7 a0_8 a0_9 a0_10 a1_0 a1_1 a1_2 a1_3 a1_4 a1_5 a1_6 a1_7 a1_8 a1_9 a1_10 t281 t282 t283 t284 t285 t286 t287 t288 t289 t290 t291 _ A8.out).mono ?_
                rintro e w46 ⟨rfl, hb⟩
                refine ⟨_, rfl, ?_⟩
                have n0_ := blkB BK253 hb
                have n1_ := blkB BK254 hb
                have n2_ := blkB BK255 hb
                have n3_ := blkB BK267 hb
                have n4_ := blkB BK279 hb
                have n5_ := Aside0.mk (below_step xb hb)
                clear BK253
                clear BK254
                clear BK255
                clear BK267
                clear BK279
                clear HB
                have BK253 := n0_
                have BK254 := n1_
                have BK255 := n2_
                have BK267 := n3_
                have BK279 := n4_
                have HB := n5_
                clear n0_ n1_ n2_ n3_ n4_ n5_
                (try clear hb)
                (try clear hb2)
                (try clear hk)
                (try clear hi)
                refine hK.out _ _ xc (fun hHeld => ?_)
                clear hK K
                refine norm_ (a' := ?_) ?_ ?_
                rotate_left
                · show Act.put _ (some 20) _ = _
                  simp only [Act.put, List.setIfInBounds_toArray, List.set_cons_zero, List.set_cons_succ, i64_w, i32_w]
                  rfl
                refine pure_ (i := 6) (N := some 21) (v := ?_) (a' := ?_) #[true, true, true, true, true, true, true, false, false, false, false, false, false, false, false, false, false, false, false, false, false, false, false, false, false, false, false, false, false, false, false, false, false, false, false, false, false, false, false, false, false, false, false, false, false, false, false, false, false, false, false, false, false, false] rfl rfl (any_of HT_.out (by kernel_rfl)) (fun _ _ _ h => h) (Or.inl ⟨by rfl, ?_⟩) ?_ ?_
                rotate_left
                · intro w'
                  go_simp
                  with_reducible rfl
                rotate_left
                · simp only [Act.put, List.setIfInBounds_toArray, List.set_cons_zero, List.set_cons_succ, i64_w, i32_w]
                  rfl
                refine pure_ (i := 7) (N := some 22) (v := ?_) (a' := ?_) #[true, true, true, true, true, true, true, true, false, false, false, false, false, false, false, false, false, false, false, false, false, false, false, false, false, false, false, false, false, false, false, false, false, false, false, false, false, false, false, false, false, false, false, false, false, false, false, false, false, false, false, false, false, false] rfl rfl (any_of HT_.out (by kernel_rfl)) (fun _ _ _ h => h) (Or.inl ⟨by rfl, ?_⟩) ?_ ?_
                rotate_left
                · intro w'
                  go_simp
                  with_reducible rfl
                rotate_left
                · simp only [Act.put, List.setIfInBounds_toArray, List.set_cons_zero, List.set_cons_succ, i64_w, i32_w]
                  rfl
                refine pure_ (i := 8) (N := some 23) (v := ?_) (a' := ?_) #[true, true, true, true, true, true, true, true, true, false, false, false, false, false, false, false, false, false, false, false, false, false, false, false, false, false, false, false, false, false, false, false, false, false, false, false, false, false, false, false, false, false, false, false, false, false, false, false, false, false, false, false, false, false] rfl rfl (any_of HT_.out (by kernel_rfl)) (fun _ _ _ h => h) (Or.inl ⟨by rfl, ?_⟩) ?_ ?_
                rotate_left
                · intro w'
                  go_simp
                  with_reducible rfl
                rotate_left
                · simp only [Act.put, List.setIfInBounds_toArray, List.set_cons_zero, List.set_cons_succ, i64_w, i32_w]
                  rfl
                refine take_ (i := 9) (N := some 24) (v := ?_) (a' := ?_) #[true, true, true, true, true, true, true, true, true, true, false, false, false, false, false, false, false, false, false, false, false, false, false, false, false, false, false, false, false, false, false, false, false, false, false, false, false, false, false, false, false, false, false, false, false, false, false, false, false, false, false, false, false, false] rfl rfl (take_ofW HT_.out HW_.out (by kernel_rfl)) (fun _ _ _ h => h) (Or.inl ⟨by rfl, ?_⟩) hHeld ?_ ?_
                rotate_left
                · rintro w' ⟨s0, s1, s2, s3, s4, s5, s6, s7, s8, s9, s10, s11, s12, s13, s14, s15, s16, s17, s18, s19, s20, s21, s22, s23, s24, s25, s26, s27, s28, s29, s30, s31, s32, s33, s34, s35, s36, s37, s38, s39, s40, s41, s42, s43, s44, s45, s46, s47, s48, s49, s50, s51, s52, s53, s54⟩
                  go_simp
                  with_reducible rfl
                rotate_left
                · simp only [Act.put, List.setIfInBounds_toArray, List.set_cons_zero, List.set_cons_succ, i64_w, i32_w]
                  rfl
                refine take_ (i := 10) (N := some 25) (v := ?_) (a' := ?_) #[true, true, true, true, true, true, true, true, true, true, true, false, false, false, false, false, false, false, false, false, false, false, false, false, false, false, false, false, false, false, false, false, false, false, false, false, false, false, false, false, false, false, false, false, false, false, false, false, false, false, false, false, false, false] rfl rfl (take_ofW HT_.out HW_.out (by kernel_rfl)) (fun _ _ _ h => h) (Or.inl ⟨by rfl, ?_⟩) hHeld ?_ ?_
                rotate_left
                · rintro w' ⟨s0, s1, s2, s3, s4, s5, s6, s7, s8, s9, s10, s11, s12, s13, s14, s15, s16, s17, s18, s19, s20, s21, s22, s23, s24, s25, s26, s27, s28, s29, s30, s31, s32, s33, s34, s35, s36, s37, s38, s39, s40, s41, s42, s43, s44, s45, s46, s47, s48, s49, s50, s51, s52, s53, s54⟩
                  go_simp
                  with_reducible rfl
                rotate_left
                · simp only [Act.put, List.setIfInBounds_toArray, List.set_cons_zero, List.set_cons_succ, i64_w, i32_w]
                  rfl
                refine take_ (i := 12) (N := some 27) (v := ?_) (a' := ?_) #[true, true, true, true, true, true, true, true, true, true, true, false, true, false, false, false, false, false, false, false, false, false, false, false, false, false, false, false, false, false, false, false, false, false, false, false, false, false, false, false, false, false, false, false, false, false, false, false, false, false, false, false, false, false] rfl rfl (take_ofW HT_.out HW_.out (by kernel_rfl)) (fun _ _ _ h => h) (Or.inl ⟨by rfl, ?_⟩) hHeld ?_ ?_
                rotate_left
                · rintro w' ⟨s0, s1, s2, s3, s4, s5, s6, s7, s8, s9, s10, s11, s12, s13, s14, s15, s16, s17, s18, s19, s20, s21, s22, s23, s24, s25, s26, s27, s28, s29, s30, s31, s32, s33, s34, s35, s36, s37, s38, s39, s40, s41, s42, s43, s44, s45, s46, s47, s48, s49, s50, s51, s52, s53, s54⟩
                  go_simp
                  with_reducible rfl
                rotate_left
                · simp only [Act.put, List.setIfInBounds_toArray, List.set_cons_zero, List.set_cons_succ, i64_w, i32_w]
                  rfl
                refine one_ (i := 11) (N := some 26) #[true, true, true, true, true, true, true, true, true, true, true, true, true, false, false, false, false, false, false, false, false, false, false, false, false, false, false, false, false, false, false, false, false, false, false, false, false, false, false, false, false, false, false, false, false, false, false, false, false, false, false, false, false, false] rfl rfl (one_of HT_.out (by kernel_rfl)) (by decide) (fun K hK => ?_)
                refine goes_ Tryd.func16 (by kernel_rfl) rfl #[.agg #[.string a1_0, .string a1_1, .string a1_2, .string a1_3, .int .i64 a1_4, .int .i64 a1_5, .int .i64 a1_6, .bool a1_7, .bool a1_8, .bool a1_9, .int .i64 a1_10], .agg #[.string a0_0, .string a0_1, .string a0_2, .string a0_3, .int .i64 a0_4, .int .i64 a0_5, .int .i64 a0_6, .bool a0_7, .bool a0_8, .bool a0_9, .int .i64 a0_10]] (by rfl) rfl rfl xg ?_
                with_reducible refine (cookie_Greater.calls a1_0 a1_1 a1_2 a1_3 a1_4 a1_5 a1_6 a1_7 a1_8 a1_9 a1_10 a0_0 a0_1 a0_2 a0_3 a0_4 a0_5 a0_6 a0_7 a0_8 a0_9 a0_10 t292 t293 t294 t295 t296 t297 t298 t299 t300 t301 t302 _ A10.out).mono ?_
                rintro e w47 ⟨rfl, hb⟩
                refine ⟨_, rfl, ?_⟩
                have n0_ := blkB BK253 hb
                have n1_ := blkB BK254 hb
                have n2_ := blkB BK255 hb
                have n3_ := blkB BK267 hb
                have n4_ := blkB BK279 hb
                have n5_ := Aside0.mk (below_step xb hb)
                clear BK253
                clear BK254
                clear BK255
                clear BK267
                clear BK279
                clear HB
                have BK253 := n0_
                have BK254 := n1_
                have BK255 := n2_
                have BK267 := n3_
                have BK279 := n4_
                have HB := n5_
                clear n0_ n1_ n2_ n3_ n4_ n5_
                (try clear hb)
                (try clear hb2)
                (try clear hk)
                (try clear hi)
                refine hK.out _ _ xc (fun hHeld => ?_)
                clear hK K
                refine norm_ (a' := ?_) ?_ ?_
                rotate_left
                · show Act.put _ (some 26) _ = _
                  simp only [Act.put, List.setIfInBounds_toArray, List.set_cons_zero, List.set_cons_succ, i64_w, i32_w]
                  rfl
                refine pure_ (i := 13) (N := some 28) (v := ?_) (a' := ?_) #[true, true, true, true, true, true, true, true, true, true, true, true, true, true, false, false, false, false, false, false, false, false, false, false, false, false, false, false, false, false, false, false, false, false, false, false, false, false, false, false, false, false, false, false, false, false, false, false, false, false, false, false, false, false] rfl rfl (any_of HT_.out (by kernel_rfl)) (fun _ _ _ h => h) (Or.inl ⟨by rfl, ?_⟩) ?_ ?_
                rotate_left
                · intro w'
                  go_simp
                  with_reducible rfl
                rotate_left
                · simp only [Act.put, List.setIfInBounds_toArray, List.set_cons_zero, List.set_cons_succ, i64_w, i32_w]
                  rfl
                refine pure_ (i := 14) (N := some 29) (v := ?_) (a' := ?_) #[true, true, true, true, true, true, true, true, true, true, true, true, true, true, true, false, false, false, false, false, false, false, false, false, false, false, false, false, false, false, false, false, false, false, false, false, false, false, false, false, false, false, false, false, false, false, false, false, false, false, false, false, false, false] rfl rfl (any_of HT_.out (by kernel_rfl)) (fun _ _ _ h => h) (Or.inl ⟨by rfl, ?_⟩) ?_ ?_
                rotate_left
                · intro w'
                  go_simp
                  with_reducible rfl
                rotate_left
                · simp only [Act.put, List.setIfInBounds_toArray, List.set_cons_zero, List.set_cons_succ, i64_w, i32_w]
                  rfl
                refine pure_ (i := 15) (N := some 30) (v := ?_) (a' := ?_) #[true, true, true, true, true, true, true, true, true, true, true, true, true, true, true, true, false, false, false, false, false, false, false, false, false, false, false, false, false, false, false, false, false, false, false, false, false, false, false, false, false, false, false, false, false, false, false, false, false, false, false, false, false, false] rfl rfl (any_of HT_.out (by kernel_rfl)) (fun _ _ _ h => h) (Or.inl ⟨by rfl, ?_⟩) ?_ ?_
                rotate_left
                · intro w'
                  go_simp
                  with_reducible rfl
                rotate_left
                · simp only [Act.put, List.setIfInBounds_toArray, List.set_cons_zero, List.set_cons_succ, i64_w, i32_w]
                  rfl
                refine take_ (i := 16) (N := some 31) (v := ?_) (a' := ?_) #[true, true, true, true, true, true, true, true, true, true, true, true, true, true, true, true, true, false, false, false, false, false, false, false, false, false, false, false, false, false, false, false, false, false, false, false, false, false, false, false, false, false, false, false, false, false, false, false, false, false, false, false, false, false] rfl rfl (take_ofW HT_.out HW_.out (by kernel_rfl)) (fun _ _ _ h => h) (Or.inl ⟨by rfl, ?_⟩) hHeld ?_ ?_
                rotate_left
                · rintro w' ⟨s0, s1, s2, s3, s4, s5, s6, s7, s8, s9, s10, s11, s12, s13, s14, s15, s16, s17, s18, s19, s20, s21, s22, s23, s24, s25, s26, s27, s28, s29, s30, s31, s32, s33, s34, s35, s36, s37, s38, s39, s40, s41, s42, s43, s44, s45, s46, s47, s48, s49, s50, s51, s52, s53, s54⟩
                  go_simp
                  with_reducible rfl
                rotate_left
                · simp only [Act.put, List.setIfInBounds_toArray, List.set_cons_zero, List.set_cons_succ, i64_w, i32_w]
                  rfl
                refine take_ (i := 17) (N := some 32) (v := ?_) (a' := ?_) #[true, true, true, true, true, true, true, true, true, true, true, true, true, true, true, true, true, true, false, false, false, false, false, false, false, false, false, false, false, false, false, false, false, false, false, false, false, false, false, false, false, false, false, false, false, false, false, false, false, false, false, false, false, false] rfl rfl (take_ofW HT_.out HW_.out (by kernel_rfl)) (fun _ _ _ h => h) (Or.inl ⟨by rfl, ?_⟩) hHeld ?_ ?_
                rotate_left
                · rintro w' ⟨s0, s1, s2, s3, s4, s5, s6, s7, s8, s9, s10, s11, s12, s13, s14, s15, s16, s17, s18, s19, s20, s21, s22, s23, s24, s25, s26, s27, s28, s29, s30, s31, s32, s33, s34, s35, s36, s37, s38, s39, s40, s41, s42, s43, s44, s45, s46, s47, s48, s49, s50, s51, s52, s53, s54⟩
                  go_simp
                  with_reducible rfl
                rotate_left
                · simp only [Act.put, List.setIfInBounds_toArray, List.set_cons_zero, List.set_cons_succ, i64_w, i32_w]
                  rfl
                refine take_ (i := 19) (N := some 34) (v := ?_) (a' := ?_) #[true, true, true, true, true, true, true, true, true, true, true, true, true, true, true, true, true, true, false, true, false, false, false, false, false, false, false, false, false, false, false, false, false, false, false, false, false, false, false, false, false, false, false, false, false, false, false, false, false, false, false, false, false, false] rfl rfl (take_ofW HT_.out HW_.out (by kernel_rfl)) (fun _ _ _ h => h) (Or.inl ⟨by rfl, ?_⟩) hHeld ?_ ?_
                rotate_left
                · rintro w' ⟨s0, s1, s2, s3, s4, s5, s6, s7, s8, s9, s10, s11, s12, s13, s14, s15, s16, s17, s18, s19, s20, s21, s22, s23, s24, s25, s26, s27, s28, s29, s30, s31, s32, s33, s34, s35, s36, s37, s38, s39, s40, s41, s42, s43, s44, s45, s46, s47, s48, s49, s50, s51, s52, s53, s54⟩
                  go_simp
                  with_reducible rfl
                rotate_left
                · simp only [Act.put, List.setIfInBounds_toArray, List.set_cons_zero, List.set_cons_succ, i64_w, i32_w]
                  rfl
                refine one_ (i := 18) (N := some 33) #[true, true, true, true, true, true, true, true, true, true, true, true, true, true, true, true, true, true, true, true, false, false, false, false, false, false, false, false, false, false, false, false, false, false, false, false, false, false, false, false, false, false, false, false, false, false, false, false, false, false, false, false, false, false] rfl rfl (one_of HT_.out (by kernel_rfl)) (by decide) (fun K hK => ?_)
                refine goes_ Tryd.func16 (by kernel_rfl) rfl #[.agg #[.string a0_0, .string a0_1, .string a0_2, .string a0_3, .int .i64 a0_4, .int .i64 a0_5, .int .i64 a0_6, .bool a0_7, .bool a0_8, .bool a0_9, .int .i64 a0_10], .agg #[.string a0_0, .string a0_1, .string a0_2, .string a0_3, .int .i64 a0_4, .int .i64 a0_5, .int .i64 a0_6, .bool a0_7, .bool a0_8, .bool a0_9, .int .i64 a0_10]] (by rfl) rfl rfl xg ?_
                with_reducible refine (cookie_Greater.calls a0_0 a0_1 a0_2 a0_3 a0_4 a0_5 a0_6 a0_7 a0_8 a0_9 a0_10 a0_0 a0_1 a0_2 a0_3 a0_4 a0_5 a0_6 a0_7 a0_8 a0_9 a0_10 t303 t304 t305 t306 t307 t308 t309 t310 t311 t312 t313 _ A12.out).mono ?_
                rintro e w48 ⟨rfl, hb⟩
                refine ⟨_, rfl, ?_⟩
                have n0_ := blkB BK253 hb
                have n1_ := blkB BK254 hb
                have n2_ := blkB BK255 hb
                have n3_ := blkB BK267 hb
                have n4_ := blkB BK279 hb
                have n5_ := Aside0.mk (below_step xb hb)
                clear BK253
                clear BK254
                clear BK255
                clear BK267
                clear BK279
                clear HB
                have BK253 := n0_
                have BK254 := n1_
                have BK255 := n2_
                have BK267 := n3_
                have BK279 := n4_
                have HB := n5_
                clear n0_ n1_ n2_ n3_ n4_ n5_
                (try clear hb)
                (try clear hb2)
                (try clear hk)
                (try clear hi)
                refine hK.out _ _ xc (fun hHeld => ?_)
                clear hK K
                refine norm_ (a' := ?_) ?_ ?_
                rotate_left
                · show Act.put _ (some 33) _ = _
                  simp only [Act.put, List.setIfInBounds_toArray, List.set_cons_zero, List.set_cons_succ, i64_w, i32_w]
                  rfl
                refine pure_ (i := 20) (N := some 35) (v := ?_) (a' := ?_) #[true, true, true, true, true, true, true, true, true, true, true, true, true, true, true, true, true, true, true, true, true, false, false, false, false, false, false, false, false, false, false, false, false, false, false, false, false, false, false, false, false, false, false, false, false, false, false, false, false, false, false, false, false, false] rfl rfl (any_of HT_.out (by kernel_rfl)) (fun _ _ _ h => h) (Or.inl ⟨by rfl, ?_⟩) ?_ ?_
                rotate_left
                · intro w'
                  go_simp
                  with_reducible rfl
                rotate_left
                · simp only [Act.put, List.setIfInBounds_toArray, List.set_cons_zero, List.set_cons_succ, i64_w, i32_w]
                  rfl
                refine pure_ (i := 21) (N := some 36) (v := ?_) (a' := ?_) #[true, true, true, true, true, true, true, true, true, true, true, true, true, true, true, true, true, true, true, true, true, true, false, false, false, false, false, false, false, false, false, false, false, false, false, false, false, false, false, false, false, false, false, false, false, false, false, false, false, false, false, false, false, false] rfl rfl (any_of HT_.out (by kernel_rfl)) (fun _ _ _ h => h) (Or.inl ⟨by rfl, ?_⟩) ?_ ?_
                rotate_left
                · intro w'
                  go_simp
                  with_reducible rfl
                rotate_left
                · simp only [Act.put, List.setIfInBounds_toArray, List.set_cons_zero, List.set_cons_succ, i64_w, i32_w]
                  rfl
                refine pure_ (i := 22) (N := some 37) (v := ?_) (a' := ?_) #[true, true, true, true, true, true, true, true, true, true, true, true, true, true, true, true, true, true, true, true, true, true, true, false, false, false, false, false, false, false, false, false, false, false, false, false, false, false, false, false, false, false, false, false, false, false, false, false, false, false, false, false, false, false] rfl rfl (any_of HT_.out (by kernel_rfl)) (fun _ _ _ h => h) (Or.inl ⟨by rfl, ?_⟩) ?_ ?_
                rotate_left
                · intro w'
                  go_simp
                  with_reducible rfl
                rotate_left
                · simp only [Act.put, List.setIfInBounds_toArray, List.set_cons_zero, List.set_cons_succ, i64_w, i32_w]
                  rfl
                refine take_ (i := 23) (N := some 38) (v := ?_) (a' := ?_) #[true, true, true, true, true, true, true, true, true, true, true, true, true, true, true, true, true, true, true, true, true, true, true, true, false, false, false, false, false, false, false, false, false, false, false, false, false, false, false, false, false, false, false, false, false, false, false, false, false, false, false, false, false, false] rfl rfl (take_ofW HT_.out HW_.out (by kernel_rfl)) (fun _ _ _ h => h) (Or.inl ⟨by rfl, ?_⟩) hHeld ?_ ?_
                rotate_left
                · rintro w' ⟨s0, s1, s2, s3, s4, s5, s6, s7, s8, s9, s10, s11, s12, s13, s14, s15, s16, s17, s18, s19, s20, s21, s22, s23, s24, s25, s26, s27, s28, s29, s30, s31, s32, s33, s34, s35, s36, s37, s38, s39, s40, s41, s42, s43, s44, s45, s46, s47, s48, s49, s50, s51, s52, s53, s54⟩
                  go_simp
                  with_reducible rfl
                rotate_left
                · simp only [Act.put, List.setIfInBounds_toArray, List.set_cons_zero, List.set_cons_succ, i64_w, i32_w]
                  rfl
                refine take_ (i := 24) (N := some 39) (v := ?_) (a' := ?_) #[true, true, true, true, true, true, true, true, true, true, true, true, true, true, true, true, true, true, true, true, true, true, true, true, true, false, false, false, false, false, false, false, false, false, false, false, false, false, false, false, false, false, false, false, false, false, false, false, false, false, false, false, false, false] rfl rfl (take_ofW HT_.out HW_.out (by kernel_rfl)) (fun _ _ _ h => h) (Or.inl ⟨by rfl, ?_⟩) hHeld ?_ ?_
                rotate_left
                · rintro w' ⟨s0, s1, s2, s3, s4, s5, s6, s7, s8, s9, s10, s11, s12, s13, s14, s15, s16, s17, s18, s19, s20, s21, s22, s23, s24, s25, s26, s27, s28, s29, s30, s31, s32, s33, s34, s35, s36, s37, s38, s39, s40, s41, s42, s43, s44, s45, s46, s47, s48, s49, s50, s51, s52, s53, s54⟩
                  go_simp
                  with_reducible rfl
                rotate_left
                · simp only [Act.put, List.setIfInBounds_toArray, List.set_cons_zero, List.set_cons_succ, i64_w, i32_w]
                  rfl
                refine pure_ (i := 25) (N := some 40) (v := ?_) (a' := ?_) #[true, true, true, true, true, true, true, true, true, true, true, true, true, true, true, true, true, true, true, true, true, true, true, true, true, true, false, false, false, false, false, false, false, false, false, false, false, false, false, false, false, false, false, false, false, false, false, false, false, false, false, false, false, false] rfl rfl (any_of HT_.out (by kernel_rfl)) (fun _ _ _ h => h) (Or.inl ⟨by rfl, ?_⟩) ?_ ?_
                rotate_left
                · intro w'
                  go_simp
                  with_reducible rfl
                rotate_left
                · simp only [Act.put, List.setIfInBounds_toArray, List.set_cons_zero, List.set_cons_succ, i64_w, i32_w]
                  rfl
                refine pure_ (i := 26) (N := some 41) (v := ?_) (a' := ?_) #[true, true, true, true, true, true, true, true, true, true, true, true, true, true, true, true, true, true, true, true, true, true, true, true, true, true, true, false, false, false, false, false, false, false, false, false, false, false, false, false, false, false, false, false, false, false, false, false, false, false, false, false, false, false] rfl rfl (any_of HT_.out (by kernel_rfl)) (fun _ _ _ h => h) (Or.inl ⟨by rfl, ?_⟩) ?_ ?_
                rotate_left
                · intro w'
                  go_simp
                  with_reducible rfl
                rotate_left
                · simp only [Act.put, List.setIfInBounds_toArray, List.set_cons_zero, List.set_cons_succ, i64_w, i32_w]
                  rfl
                refine pure_ (i := 27) (N := some 42) (v := undef) (a' := ?_) #[true, true, true, true, true, true, true, true, true, true, true, true, true, true, true, true, true, true, true, true, true, true, true, true, true, true, true, true, false, false, false, false, false, false, false, false, false, false, false, false, false, false, false, false, false, false, false, false, false, false, false, false, false, false] rfl rfl (any_of HT_.out (by kernel_rfl)) (fun _ _ _ h => h) (Or.inr ⟨by rfl, rfl⟩) ?_ ?_
                rotate_left
                · simp only [Act.put, List.setIfInBounds_toArray, List.set_cons_zero, List.set_cons_succ, i64_w, i32_w]
                  rfl
                refine pure_ (i := 28) (N := some 43) (v := undef) (a' := ?_) #[true, true, true, true, true, true, true, true, true, true, true, true, true, true, true, true, true, true, true, true, true, true, true, true, true, true, true, true, true, false, false, false, false, false, false, false, false, false, false, false, false, false, false, false, false, false, false, false, false, false, false, false, false, false] rfl rfl (any_of HT_.out (by kernel_rfl)) (fun _ _ _ h => h) (Or.inr ⟨by rfl, rfl⟩) ?_ ?_
                rotate_left
                · simp only [Act.put, List.setIfInBounds_toArray, List.set_cons_zero, List.set_cons_succ, i64_w, i32_w]
                  rfl
                refine pure_ (i := 29) (N := some 44) (v := undef) (a' := ?_) #[true, true, true, true, true, true, true, true, true, true, true, true, true, true, true, true, true, true, true, true, true, true, true, true, true, true, true, true, true, true, false, false, false, false, false, false, false, false, false, false, false, false, false, false, false, false, false, false, false, false, false, false, false, false] rfl rfl (any_of HT_.out (by kernel_rfl)) (fun _ _ _ h => h) (Or.inr ⟨by rfl, rfl⟩) ?_ ?_
                rotate_left
                · simp only [Act.put, List.setIfInBounds_toArray, List.set_cons_zero, List.set_cons_succ, i64_w, i32_w]
                  rfl
                refine pure_ (i := 30) (N := some 45) (v := ?_) (a' := ?_) #[true, true, true, true, true, true, true, true, true, true, true, true, true, true, true, true, true, true, true, true, true, true, true, true, true, true, true, true, true, true, true, false, false, false, false, false, false, false, false, false, false, false, false, false, false, false, false, false, false, false, false, false, false, false] rfl rfl (any_of HT_.out (by kernel_rfl)) (fun _ _ _ h => h) (Or.inl ⟨by rfl, ?_⟩) ?_ ?_
                rotate_left
                · intro w'
                  go_simp
                  with_reducible rfl
                rotate_left
                · simp only [Act.put, List.setIfInBounds_toArray, List.set_cons_zero, List.set_cons_succ, i64_w, i32_w]
                  rfl
                refine pure_ (i := 31) (N := some 46) (v := ?_) (a' := ?_) #[true, true, true, true, true, true, true, true, true, true, true, true, true, true, true, true, true, true, true, true, true, true, true, true, true, true, true, true, true, true, true, true, false, false, false, false, false, false, false, false, false, false, false, false, false, false, false, false, false, false, false, false, false, false] rfl rfl (any_of HT_.out (by kernel_rfl)) (fun _ _ _ h => h) (Or.inl ⟨by rfl, ?_⟩) ?_ ?_
                rotate_left
                · intro w'
                  go_simp
                  with_reducible rfl
                rotate_left
                · simp only [Act.put, List.setIfInBounds_toArray, List.set_cons_zero, List.set_cons_succ, i64_w, i32_w]
                  rfl
                refine pure_ (i := 32) (N := some 47) (v := ?_) (a' := ?_) #[true, true, true, true, true, true, true, true, true, true, true, true, true, true, true, true, true, true, true, true, true, true, true, true, true, true, true, true, true, true, true, true, true, false, false, false, false, false, false, false, false, false, false, false, false, false, false, false, false, false, false, false, false, false] rfl rfl (any_of HT_.out (by kernel_rfl)) (fun _ _ _ h => h) (Or.inl ⟨by rfl, ?_⟩) ?_ ?_
                rotate_left
                · intro w'
                  go_simp
                  with_reducible rfl
                rotate_left
                · simp only [Act.put, List.setIfInBounds_toArray, List.set_cons_zero, List.set_cons_succ, i64_w, i32_w]
                  rfl
                refine take_ (i := 33) (N := some 48) (v := ?_) (a' := ?_) #[true, true, true, true, true, true, true, true, true, true, true, true, true, true, true, true, true, true, true, true, true, true, true, true, true, true, true, true, true, true, true, true, true, true, false, false, false, false, false, false, false, false, false, false, false, false, false, false, false, false, false, false, false, false] rfl rfl (take_ofW HT_.out HW_.out (by kernel_rfl)) (fun _ _ _ h => h) (Or.inl ⟨by rfl, ?_⟩) hHeld ?_ ?_
                rotate_left
                · rintro w' ⟨s0, s1, s2, s3, s4, s5, s6, s7, s8, s9, s10, s11, s12, s13, s14, s15, s16, s17, s18, s19, s20, s21, s22, s23, s24, s25, s26, s27, s28, s29, s30, s31, s32, s33, s34, s35, s36, s37, s38, s39, s40, s41, s42, s43, s44, s45, s46, s47, s48, s49, s50, s51, s52, s53, s54⟩
                  go_simp
                  with_reducible rfl
                rotate_left
                · simp only [Act.put, List.setIfInBounds_toArray, List.set_cons_zero, List.set_cons_succ, i64_w, i32_w]
                  rfl
                refine take_ (i := 34) (N := some 49) (v := ?_) (a' := ?_) #[true, true, true, true, true, true, true, true, true, true, true, true, true, true, true, true, true, true, true, true, true, true, true, true, true, true, true, true, true, true, true, true, true, true, true, false, false, false, false, false, false, false, false, false, false, false, false, false, false, false, false, false, false, false] rfl rfl (take_ofW HT_.out HW_.out (by kernel_rfl)) (fun _ _ _ h => h) (Or.inl ⟨by rfl, ?_⟩) hHeld ?_ ?_
                rotate_left
                · rintro w' ⟨s0, s1, s2, s3, s4, s5, s6, s7, s8, s9, s10, s11, s12, s13, s14, s15, s16, s17, s18, s19, s20, s21, s22, s23, s24, s25, s26, s27, s28, s29, s30, s31, s32, s33, s34, s35, s36, s37, s38, s39, s40, s41, s42, s43, s44, s45, s46, s47, s48, s49, s50, s51, s52, s53, s54⟩
                  go_simp
                  with_reducible rfl
                rotate_left
                · simp only [Act.put, List.setIfInBounds_toArray, List.set_cons_zero, List.set_cons_succ, i64_w, i32_w]
                  rfl
                refine one_ (i := 35) (N := some 50) #[true, true, true, true, true, true, true, true, true, true, true, true, true, true, true, true, true, true, true, true, true, true, true, true, true, true, true, true, true, true, true, true, true, true, true, true, false, false, false, false, false, false, false, false, false, false, false, false, false, false, false, false, false, false] rfl rfl (one_of HT_.out (by kernel_rfl)) (by decide) (fun K hK => ?_)
                refine goes_ Tryd.func14 (by kernel_rfl) rfl #[.agg #[.string t256, .string t257, .string t258, .string t259, .int .i64 t260, .int .i64 t261, .int .i64 t262, .bool t263, .bool t264, .bool t265, .int .i64 t266], .agg #[.string a0_0, .string a0_1, .string a0_2, .string a0_3, .int .i64 a0_4, .int .i64 a0_5, .int .i64 a0_6, .bool a0_7, .bool a0_8, .bool a0_9, .int .i64 a0_10]] (by rfl) rfl rfl xg ?_
                with_reducible refine (cookie_Cmp.calls t256 t257 t258 t259 t260 t261 t262 t263 t264 t265 t266 a0_0 a0_1 a0_2 a0_3 a0_4 a0_5 a0_6 a0_7 a0_8 a0_9 a0_10 t314 _ A15.out).mono ?_
                rintro e w49 ⟨rfl, hb⟩
                refine ⟨_, rfl, ?_⟩
                have n0_ := blkB BK253 hb
                have n1_ := blkB BK254 hb
                have n2_ := blkB BK255 hb
                have n3_ := blkB BK267 hb
                have n4_ := blkB BK279 hb
                have n5_ := Aside0.mk (below_step xb hb)
                clear BK253
                clear BK254
                clear BK255
                clear BK267
                clear BK279
                clear HB
                have BK253 := n0_
                have BK254 := n1_
                have BK255 := n2_
                have BK267 := n3_
                have BK279 := n4_
                have HB := n5_
                clear n0_ n1_ n2_ n3_ n4_ n5_
                (try clear hb)
                (try clear hb2)
                (try clear hk)
                (try clear hi)
                refine hK.out _ _ xc (fun hHeld => ?_)
                clear hK K
                refine norm_ (a' := ?_) ?_ ?_
                rotate_left
                · show Act.put _ (some 50) _ = _
                  simp only [Act.put, List.setIfInBounds_toArray, List.set_cons_zero, List.set_cons_succ, i64_w, i32_w]
                  rfl
                refine pure_ (i := 36) (N := some 51) (v := ?_) (a' := ?_) #[true, true, true, true, true, true, true, true, true, true, true, true, true, true, true, true, true, true, true, true, true, true, true, true, true, true, true, true, true, true, true, true, true, true, true, true, true, false, false, false, false, false, false, false, false, false, false, false, false, false, false, false, false, false] rfl rfl (any_of HT_.out (by kernel_rfl)) (fun _ _ _ h => h) (Or.inl ⟨by rfl, ?_⟩) ?_ ?_
                rotate_left
                · intro w'
                  go_simp
                  with_reducible rfl
                rotate_left
                · simp only [Act.put, List.setIfInBounds_toArray, List.set_cons_zero, List.set_cons_succ, i64_w, i32_w]
                  rfl
                refine pure_ (i := 37) (N := some 52) (v := ?_) (a' := ?_) #[true, true, true, true, true, true, true, true, true, true, true, true, true, true, true, true, true, true, true, true, true, true, true, true, true, true, true, true, true, true, true, true, true, true, true, true, true, true, false, false, false, false, false, false, false, false, false, false, false, false, false, false, false, false] rfl rfl (any_of HT_.out (by kernel_rfl)) (fun _ _ _ h => h) (Or.inl ⟨by rfl, ?_⟩) ?_ ?_
                rotate_left
                · intro w'
                  go_simp
                  with_reducible rfl
                rotate_left
                · simp only [Act.put, List.setIfInBounds_toArray, List.set_cons_zero, List.set_cons_succ, i64_w, i32_w]
                  rfl
                refine pure_ (i := 38) (N := some 53) (v := ?_) (a' := ?_) #[true, true, true, true, true, true, true, true, true, true, true, true, true, true, true, true, true, true, true, true, true, true, true, true, true, true, true, true, true, true, true, true, true, true, true, true, true, true, true, false, false, false, false, false, false, false, false, false, false, false, false, false, false, false] rfl rfl (any_of HT_.out (by kernel_rfl)) (fun _ _ _ h => h) (Or.inl ⟨by rfl, ?_⟩) ?_ ?_
                rotate_left
                · intro w'
                  go_simp
                  with_reducible rfl
                rotate_left
                · simp only [Act.put, List.setIfInBounds_toArray, List.set_cons_zero, List.set_cons_succ, i64_w, i32_w]
                  rfl
                refine take_ (i := 39) (N := some 54) (v := ?_) (a' := ?_) #[true, true, true, true, true, true, true, true, true, true, true, true, true, true, true, true, true, true, true, true, true, true, true, true, true, true, true, true, true, true, true, true, true, true, true, true, true, true, true, true, false, false, false, false, false, false, false, false, false, false, false, false, false, false] rfl rfl (take_ofW HT_.out HW_.out (by kernel_rfl)) (fun _ _ _ h => h) (Or.inl ⟨by rfl, ?_⟩) hHeld ?_ ?_
                rotate_left
                · rintro w' ⟨s0, s1, s2, s3, s4, s5, s6, s7, s8, s9, s10, s11, s12, s13, s14, s15, s16, s17, s18, s19, s20, s21, s22, s23, s24, s25, s26, s27, s28, s29, s30, s31, s32, s33, s34, s35, s36, s37, s38, s39, s40, s41, s42, s43, s44, s45, s46, s47, s48, s49, s50, s51, s52, s53, s54⟩
                  go_simp
                  with_reducible rfl
                rotate_left
                · simp only [Act.put, List.setIfInBounds_toArray, List.set_cons_zero, List.set_cons_succ, i64_w, i32_w]
                  rfl
                refine take_ (i := 40) (N := some 55) (v := ?_) (a' := ?_) #[true, true, true, true, true, true, true, true, true, true, true, true, true, true, true, true, true, true, true, true, true, true, true, true, true, true, true, true, true, true, true, true, true, true, true, true, true, true, true, true, true, false, false, false, false, false, false, false, false, false, false, false, false, false] rfl rfl (take_ofW HT_.out HW_.out (by kernel_rfl)) (fun _ _ _ h => h) (Or.inl ⟨by rfl, ?_⟩) hHeld ?_ ?_
                rotate_left
                · rintro w' ⟨s0, s1, s2, s3, s4, s5, s6, s7, s8, s9, s10, s11, s12, s13, s14, s15, s16, s17, s18, s19, s20, s21, s22, s23, s24, s25, s26, s27, s28, s29, s30, s31, s32, s33, s34, s35, s36, s37, s38, s39, s40, s41, s42, s43, s44, s45, s46, s47, s48, s49, s50, s51, s52, s53, s54⟩
                  go_simp
                  with_reducible rfl
                rotate_left
                · simp only [Act.put, List.setIfInBounds_toArray, List.set_cons_zero, List.set_cons_succ, i64_w, i32_w]
                  rfl
                refine one_ (i := 41) (N := some 56) #[true, true, true, true, true, true, true, true, true, true, true, true, true, true, true, true, true, true, true, true, true, true, true, true, true, true, true, true, true, true, true, true, true, true, true, true, true, true, true, true, true, true, false, false, false, false, false, false, false, false, false, false, false, false] rfl rfl (one_of HT_.out (by kernel_rfl)) (by decide) (fun K hK => ?_)
                refine goes_ Tryd.func14 (by kernel_rfl) rfl #[.agg #[.string t256, .string t257, .string t258, .string t259, .int .i64 t260, .int .i64 t261, .int .i64 t262, .bool t263, .bool t264, .bool t265, .int .i64 t266], .agg #[.string a1_0, .string a1_1, .string a1_2, .string a1_3, .int .i64 a1_4, .int .i64 a1_5, .int .i64 a1_6, .bool a1_7, .bool a1_8, .bool a1_9, .int .i64 a1_10]] (by rfl) rfl rfl xg ?_
                with_reducible refine (cookie_Cmp.calls t256 t257 t258 t259 t260 t261 t262 t263 t264 t265 t266 a1_0 a1_1 a1_2 a1_3 a1_4 a1_5 a1_6 a1_7 a1_8 a1_9 a1_10 t315 _ A17.out).mono ?_
                rintro e w50 ⟨rfl, hb⟩
                refine ⟨_, rfl, ?_⟩
                have n0_ := blkB BK253 hb
                have n1_ := blkB BK254 hb
                have n2_ := blkB BK255 hb
                have n3_ := blkB BK267 hb
                have n4_ := blkB BK279 hb
                have n5_ := Aside0.mk (below_step xb hb)
                clear BK253
                clear BK254
                clear BK255
                clear BK267
                clear BK279
                clear HB
                have BK253 := n0_
                have BK254 := n1_
                have BK255 := n2_
                have BK267 := n3_
                have BK279 := n4_
                have HB := n5_
                clear n0_ n1_ n2_ n3_ n4_ n5_
                (try clear hb)
                (try clear hb2)
                (try clear hk)
                (try clear hi)
                refine hK.out _ _ xc (fun hHeld => ?_)
                clear hK K
                refine norm_ (a' := ?_) ?_ ?_
                rotate_left
                · show Act.put _ (some 56) _ = _
                  simp only [Act.put, List.setIfInBounds_toArray, List.set_cons_zero, List.set_cons_succ, i64_w, i32_w]
                  rfl
                refine pure_ (i := 42) (N := some 57) (v := ?_) (a' := ?_) #[true, true, true, true, true, true, true, true, true, true, true, true, true, true, true, true, true, true, true, true, true, true, true, true, true, true, true, true, true, true, true, true, true, true, true, true, true, true, true, true, true, true, true, false, false, false, false, false, false, false, false, false, false, false] rfl rfl (any_of HT_.out (by kernel_rfl)) (fun _ _ _ h => h) (Or.inl ⟨by rfl, ?_⟩) ?_ ?_
                rotate_left
                · intro w'
                  go_simp
                  with_reducible rfl
                rotate_left
                · simp only [Act.put, List.setIfInBounds_toArray, List.set_cons_zero, List.set_cons_succ, i64_w, i32_w]
                  rfl
                refine pure_ (i := 43) (N := some 58) (v := ?_) (a' := ?_) #[true, true, true, true, true, true, true, true, true, true, true, true, true, true, true, true, true, true, true, true, true, true, true, true, true, true, true, true, true, true, true, true, true, true, true, true, true, true, true, true, true, true, true, true, false, false, false, false, false, false, false, false, false, false] rfl rfl (any_of HT_.out (by kernel_rfl)) (fun _ _ _ h => h) (Or.inl ⟨by rfl, ?_⟩) ?_ ?_
                rotate_left
                · intro w'
                  go_simp
                  with_reducible rfl
                rotate_left
                · simp only [Act.put, List.setIfInBounds_toArray, List.set_cons_zero, List.set_cons_succ, i64_w, i32_w]
                  rfl
                refine pure_ (i := 44) (N := some 59) (v := ?_) (a' := ?_) #[true, true, true, true, true, true, true, true, true, true, true, true, true, true, true, true, true, true, true, true, true, true, true, true, true, true, true, true, true, true, true, true, true, true, true, true, true, true, true, true, true, true, true, true, true, false, false, false, false, false, false, false, false, false] rfl rfl (any_of HT_.out (by kernel_rfl)) (fun _ _ _ h => h) (Or.inl ⟨by rfl, ?_⟩) ?_ ?_
                rotate_left
                · intro w'
                  go_simp
                  with_reducible rfl
                rotate_left
                · simp only [Act.put, List.setIfInBounds_toArray, List.set_cons_zero, List.set_cons_succ, i64_w, i32_w]
                  rfl
                refine take_ (i := 45) (N := some 60) (v := ?_) (a' := ?_) #[true, true, true, true, true, true, true, true, true, true, true, true, true, true, true, true, true, true, true, true, true, true, true, true, true, true, true, true, true, true, true, true, true, true, true, true, true, true, true, true, true, true, true, true, true, true, false, false, false, false, false, false, false, false] rfl rfl (take_ofW HT_.out HW_.out (by kernel_rfl)) (fun _ _ _ h => h) (Or.inl ⟨by rfl, ?_⟩) hHeld ?_ ?_
                rotate_left
                · rintro w' ⟨s0, s1, s2, s3, s4, s5, s6, s7, s8, s9, s10, s11, s12, s13, s14, s15, s16, s17, s18, s19, s20, s21, s22, s23, s24, s25, s26, s27, s28, s29, s30, s31, s32, s33, s34, s35, s36, s37, s38, s39, s40, s41, s42, s43, s44, s45, s46, s47, s48, s49, s50, s51, s52, s53, s54⟩
                  go_simp
                  with_reducible rfl
                rotate_left
                · simp only [Act.put, List.setIfInBounds_toArray, List.set_cons_zero, List.set_cons_succ, i64_w, i32_w]
                  rfl
                refine take_ (i := 46) (N := some 61) (v := ?_) (a' := ?_) #[true, true, true, true, true, true, true, true, true, true, true, true, true, true, true, true, true, true, true, true, true, true, true, true, true, true, true, true, true, true, true, true, true, true, true, true, true, true, true, true, true, true, true, true, true, true, true, false, false, false, false, false, false, false] rfl rfl (take_ofW HT_.out HW_.out (by kernel_rfl)) (fun _ _ _ h => h) (Or.inl ⟨by rfl, ?_⟩) hHeld ?_ ?_
                rotate_left
                · rintro w' ⟨s0, s1, s2, s3, s4, s5, s6, s7, s8, s9, s10, s11, s12, s13, s14, s15, s16, s17, s18, s19, s20, s21, s22, s23, s24, s25, s26, s27, s28, s29, s30, s31, s32, s33, s34, s35, s36, s37, s38, s39, s40, s41, s42, s43, s44, s45, s46, s47, s48, s49, s50, s51, s52, s53, s54⟩
                  go_simp
                  with_reducible rfl
                rotate_left
                · simp only [Act.put, List.setIfInBounds_toArray, List.set_cons_zero, List.set_cons_succ, i64_w, i32_w]
                  rfl
                refine take_ (i := 47) (N := some 62) (v := ?_) (a' := ?_) #[true, true, true, true, true, true, true, true, true, true, true, true, true, true, true, true, true, true, true, true, true, true, true, true, true, true, true, true, true, true, true, true, true, true, true, true, true, true, true, true, true, true, true, true, true, true, true, true, false, false, false, false, false, false] rfl rfl (take_ofW HT_.out HW_.out (by kernel_rfl)) (fun _ _ _ h => h) (Or.inl ⟨by rfl, ?_⟩) hHeld ?_ ?_
                rotate_left
                · rintro w' ⟨s0, s1, s2, s3, s4, s5, s6, s7, s8, s9, s10, s11, s12, s13, s14, s15, s16, s17, s18, s19, s20, s21, s22, s23, s24, s25, s26, s27, s28, s29, s30, s31, s32, s33, s34, s35, s36, s37, s38, s39, s40, s41, s42, s43, s44, s45, s46, s47, s48, s49, s50, s51, s52, s53, s54⟩
                  go_simp
                  with_reducible rfl
                rotate_left
                · simp only [Act.put, List.setIfInBounds_toArray, List.set_cons_zero, List.set_cons_succ, i64_w, i32_w]
                  rfl
                refine take_ (i := 50) (N := some 65) (v := ?_) (a' := ?_) #[true, true, true, true, true, true, true, true, true, true, true, true, true, true, true, true, true, true, true, true, true, true, true, true, true, true, true, true, true, true, true, true, true, true, true, true, true, true, true, true, true, true, true, true, true, true, true, true, false, false, true, false, false, false] rfl rfl (take_ofW HT_.out HW_.out (by kernel_rfl)) (fun _ _ _ h => h) (Or.inl ⟨by rfl, ?_⟩) hHeld ?_ ?_
                rotate_left
                · rintro w' ⟨s0, s1, s2, s3, s4, s5, s6, s7, s8, s9, s10, s11, s12, s13, s14, s15, s16, s17, s18, s19, s20, s21, s22, s23, s24, s25, s26, s27, s28, s29, s30, s31, s32, s33, s34, s35, s36, s37, s38, s39, s40, s41, s42, s43, s44, s45, s46, s47, s48, s49, s50, s51, s52, s53, s54⟩
                  go_simp
                  with_reducible rfl
                rotate_left
                · simp only [Act.put, List.setIfInBounds_toArray, List.set_cons_zero, List.set_cons_succ, i64_w, i32_w]
                  rfl
                refine one_ (i := 48) (N := some 63) #[true, true, true, true, true, true, true, true, true, true, true, true, true, true, true, true, true, true, true, true, true, true, true, true, true, true, true, true, true, true, true, true, true, true, true, true, true, true, true, true, true, true, true, true, true, true, true, true, true, false, true, false, false, false] rfl rfl (one_of HT_.out (by kernel_rfl)) (by decide) (fun K hK => ?_)
                refine goes_ Tryd.func16 (by kernel_rfl) rfl #[.agg #[.string a1_0, .string a1_1, .string a1_2, .string a1_3, .int .i64 a1_4, .int .i64 a1_5, .int .i64 a1_6, .bool a1_7, .bool a1_8, .bool a1_9, .int .i64 a1_10], .agg #[.string a2_0, .string a2_1, .string a2_2, .string a2_3, .int .i64 a2_4, .int .i64 a2_5, .int .i64 a2_6, .bool a2_7, .bool a2_8, .bool a2_9, .int .i64 a2_10]] (by rfl) rfl rfl xg ?_
                with_reducible refine (cookie_Greater.calls a1_0 a1_1 a1_2 a1_3 a1_4 a1_5 a1_6 a1_7 a1_8 a1_9 a1_10 a2_0 a2_1 a2_2 a2_3 a2_4 a2_5 a2_6 a2_7 a2_8 a2_9 a2_10 t316 t317 t318 t319 t320 t321 t322 t323 t324 t325 t326 _ A19.out).mono ?_
                rintro e w51 ⟨rfl, hb⟩
                refine ⟨_, rfl, ?_⟩
                have n0_ := blkB BK253 hb
                have n1_ := blkB BK254 hb
                have n2_ := blkB BK255 hb
                have n3_ := blkB BK267 hb
                have n4_ := blkB BK279 hb
                have n5_ := Aside0.mk (below_step xb hb)
                clear BK253
                clear BK254
                clear BK255
                clear BK267
                clear BK279
                clear HB
                have BK253 := n0_
                have BK254 := n1_
                have BK255 := n2_
                have BK267 := n3_
                have BK279 := n4_
                have HB := n5_
                clear n0_ n1_ n2_ n3_ n4_ n5_
                (try clear hb)
                (try clear hb2)
                (try clear hk)
                (try clear hi)
                refine hK.out _ _ xc (fun hHeld => ?_)
                clear hK K
                refine norm_ (a' := ?_) ?_ ?_
                rotate_left
                · show Act.put _ (some 63) _ = _
                  simp only [Act.put, List.setIfInBounds_toArray, List.set_cons_zero, List.set_cons_succ, i64_w, i32_w]
                  rfl
                refine one_ (i := 49) (N := some 64) #[true, true, true, true, true, true, true, true, true, true, true, true, true, true, true, true, true, true, true, true, true, true, true, true, true, true, true, true, true, true, true, true, true, true, true, true, true, true, true, true, true, true, true, true, true, true, true, true, true, true, true, false, false, false] rfl rfl (one_of HT_.out (by kernel_rfl)) (by decide) (fun K hK => ?_)
                refine goes_ Tryd.func16 (by kernel_rfl) rfl #[.agg #[.string a0_0, .string a0_1, .string a0_2, .string a0_3, .int .i64 a0_4, .int .i64 a0_5, .int .i64 a0_6, .bool a0_7, .bool a0_8, .bool a0_9, .int .i64 a0_10], .agg #[.string t316, .string t317, .string t318, .string t319, .int .i64 t320, .int .i64 t321, .int .i64 t322, .bool t323, .bool t324, .bool t325, .int .i64 t326]] (by rfl) rfl rfl xg ?_
                with_reducible refine (cookie_Greater.calls a0_0 a0_1 a0_2 a0_3 a0_4 a0_5 a0_6 a0_7 a0_8 a0_9 a0_10 t316 t317 t318 t319 t320 t321 t322 t323 t324 t325 t326 t327 t328 t329 t330 t331 t332 t333 t334 t335 t336 t337 _ A20.out).mono ?_
                rintro e w52 ⟨rfl, hb⟩
                refine ⟨_, rfl, ?_⟩
                have n0_ := blkB BK253 hb
                have n1_ := blkB BK254 hb
                have n2_ := blkB BK255 hb
                have n3_ := blkB BK267 hb
                have n4_ := blkB BK279 hb
                have n5_ := Aside0.mk (below_step xb hb)
                clear BK253
                clear BK254
                clear BK255
                clear BK267
                clear BK279
                clear HB
                have BK253 := n0_
                have BK254 := n1_
                have BK255 := n2_
                have BK267 := n3_
                have BK279 := n4_
                have HB := n5_
                clear n0_ n1_ n2_ n3_ n4_ n5_
                (try clear hb)
                (try clear hb2)
                (try clear hk)
                (try clear hi)
                refine hK.out _ _ xc (fun hHeld => ?_)
                clear hK K
                refine norm_ (a' := ?_) ?_ ?_
                rotate_left
                · show Act.put _ (some 64) _ = _
                  simp only [Act.put, List.setIfInBounds_toArray, List.set_cons_zero, List.set_cons_succ, i64_w, i32_w]
                  rfl
                refine pure_ (i := 51) (N := some 66) (v := ?_) (a' := ?_) #[true, true, true, true, true, true, true, true, true, true, true, true, true, true, true, true, true, true, true, true, true, true, true, true, true, true, true, true, true, true, true, true, true, true, true, true, true, true, true, true, true, true, true, true, true, true, true, true, true, true, true, true, false, false] rfl rfl (any_of HT_.out (by kernel_rfl)) (fun _ _ _ h => h) (Or.inl ⟨by rfl, ?_⟩) ?_ ?_
                rotate_left
                · intro w'
                  go_simp
                  with_reducible rfl
                rotate_left
                · simp only [Act.put, List.setIfInBounds_toArray, List.set_cons_zero, List.set_cons_succ, i64_w, i32_w]
                  rfl
                refine pure_ (i := 52) (N := some 67) (v := ?_) (a' := ?_) #[true, true, true, true, true, true, true, true, true, true, true, true, true, true, true, true, true, true, true, true, true, true, true, true, true, true, true, true, true, true, true, true, true, true, true, true, true, true, true, true, true, true, true, true, true, true, true, true, true, true, true, true, true, false] rfl rfl (any_of HT_.out (by kernel_rfl)) (fun _ _ _ h => h) (Or.inl ⟨by rfl, ?_⟩) ?_ ?_
                rotate_left
                · intro w'
                  go_simp
                  with_reducible rfl
                rotate_left
                · simp only [Act.put, List.setIfInBounds_toArray, List.set_cons_zero, List.set_cons_succ, i64_w, i32_w]
                  rfl
                refine pure_ (i := 53) (N := some 6) (v := ?_) (a' := ?_) #[true, true, true, true, true, true, true, true, true, true, true, true, true, true, true, true, true, true, true, true, true, true, true, true, true, true, true, true, true, true, true, true, true, true, true, true, true, true, true, true, true, true, true, true, true, true, true, true, true, true, true, true, true, true] rfl rfl (any_of HT_.out (by kernel_rfl)) (fun _ _ _ h => h) (Or.inl ⟨by rfl, ?_⟩) ?_ ?_
                rotate_left
                · intro w'
                  go_simp
                  with_reducible rfl
                rotate_left
                · simp only [Act.put, List.setIfInBounds_toArray, List.set_cons_zero, List.set_cons_succ, i64_w, i32_w]
                  rfl
                refine done_ (done_of HT_.out (by kernel_rfl)) ?_
                try go_wp2
                go_ret
                exact ⟨by first | rfl | (simp [errW_none, errW_some] <;> rfl) | (simp [*, errW_none, errW_some] <;> rfl), by repeat (first | (with_reducible first | exact HB.out | apply below_alloc | apply pw_below_drewN | apply below_drew1 | refine below_set ?_ GE253.out | refine below_set ?_ GE254.out | refine below_set ?_ GE255.out | refine below_set ?_ GE267.out | refine below_set ?_ GE279.out) | exact HB.out)⟩
              · rw [if_neg c18] at H
                have c18b0 : decide (0 ≤ t315) = false := decide_eq_false c18
                clear c18
                obtain rfl := Option.some.inj H
                exact absurd hT_.out (by decide)
            · rw [if_neg c16] at H
              have c16b0 : decide (0 ≤ t314) = false := decide_eq_false c16
              clear c16
              obtain rfl := Option.some.inj H
              exact absurd hT_.out (by decide)
          · rw [if_neg c14] at H
            have c14b0 : (t256.toList == a0_0.toList && (t257.toList == a0_1.toList && (t258.toList == a0_2.toList && (t259.toList == a0_3.toList && (t260 == a0_4 && (t261 == a0_5 && (t262 == a0_6 && (t263 == a0_7 && (t264 == a0_8 && (t265 == a0_9 && (t266 == a0_10))))))))))) = false := by simpa using c14
            (try (have c14b1 : decide (t256.toList = a0_0.toList && (t257.toList == a0_1.toList && (t258.toList == a0_2.toList && (t259.toList == a0_3.toList && (t260 == a0_4 && (t261 == a0_5 && (t262 == a0_6 && (t263 == a0_7 && (t264 == a0_8 && (t265 == a0_9 && (t266 == a0_10))))))))))) = false := by simpa using c14))
            (try (have c14b2 : (t256.toList == a0_0.toList && (t257.toList == a0_1.toList && (t258.toList == a0_2.toList && (t259.toList == a0_3.toList && (t260 == a0_4 && (t261 == a0_5 && (t262 == a0_6 && (t263 == a0_7 && (t264 == a0_8 && (t265 == a0_9 && (t266 == a0_10))))))))))) = false := by simpa using c14))
            (try (have c14b3 : ¬ (t256.toList = a0_0.toList && (t257.toList == a0_1.toList && (t258.toList == a0_2.toList && (t259.toList == a0_3.toList && (t260 == a0_4 && (t261 == a0_5 && (t262 == a0_6 && (t263 == a0_7 && (t264 == a0_8 && (t265 == a0_9 && (t266 == a0_10))))))))))) := by simpa using c14))
            clear c14
            by_cases c53 : (t256.toList == a1_0.toList && (t257.toList == a1_1.toList && (t258.toList == a1_2.toList && (t259.toList == a1_3.toList && (t260 == a1_4 && (t261 == a1_5 && (t262 == a1_6 && (t263 == a1_7 && (t264 == a1_8 && (t265 == a1_9 && (t266 == a1_10))))))))))) = true
            · rw [if_pos c53] at H
              have c53b0 : (t256.toList == a1_0.toList && (t257.toList == a1_1.toList && (t258.toList == a1_2.toList && (t259.toList == a1_3.toList && (t260 == a1_4 && (t261 == a1_5 && (t262 == a1_6 && (t263 == a1_7 && (t264 == a1_8 && (t265 == a1_9 && (t266 == a1_10))))))))))) = true := c53
              (try (have c53b1 : decide (t256.toList = a1_0.toList && (t257.toList == a1_1.toList && (t258.toList == a1_2.toList && (t259.toList == a1_3.toList && (t260 == a1_4 && (t261 == a1_5 && (t262 == a1_6 && (t263 == a1_7 && (t264 == a1_8 && (t265 == a1_9 && (t266 == a1_10))))))))))) = true := by simpa using c53))
              (try (have c53b2 : (t256.toList == a1_0.toList && (t257.toList == a1_1.toList && (t258.toList == a1_2.toList && (t259.toList == a1_3.toList && (t260 == a1_4 && (t261 == a1_5 && (t262 == a1_6 && (t263 == a1_7 && (t264 == a1_8 && (t265 == a1_9 && (t266 == a1_10))))))))))) = true := by simpa using c53))
              clear c53
              replace H := Option.bind_eq_some_iff.mp H
              obtain ⟨t338, A540, H⟩ := H
              replace H : (if t338 ≥ 0 then ((cookie_Cmp.f t256 t257 t258 t259 t260 t261 t262 t263 t264 t265 t266 a1_0 a1_1 a1_2 a1_3 a1_4 a1_5 a1_6 a1_7 a1_8 a1_9 a1_10).bind fun t339 => (if t339 ≥ 0 then ((cookie_Greater.f a1_0 a1_1 a1_2 a1_3 a1_4 a1_5 a1_6 a1_7 a1_8 a1_9 a1_10 a2_0 a2_1 a2_2 a2_3 a2_4 a2_5 a2_6 a2_7 a2_8 a2_9 a2_10).bind fun bt340 => ((cookie_Greater.f a0_0 a0_1 a0_2 a0_3 a0_4 a0_5 a0_6 a0_7 a0_8 a0_9 a0_10 bt340.1 bt340.2.1 bt340.2.2.1 bt340.2.2.2.1 bt340.2.2.2.2.1 bt340.2.2.2.2.2.1 bt340.2.2.2.2.2.2.1 bt340.2.2.2.2.2.2.2.1 bt340.2.2.2.2.2.2.2.2.1 bt340.2.2.2.2.2.2.2.2.2.1 bt340.2.2.2.2.2.2.2.2.2.2).bind fun bt351 => (some (bt351.1.toList == t268.toList && (bt351.2.1.toList == t269.toList && (bt351.2.2.1.toList == t270.toList && (bt351.2.2.2.1.toList == t271.toList && (bt351.2.2.2.2.1 == t272 && (bt351.2.2.2.2.2.1 == t273 && (bt351.2.2.2.2.2.2.1 == t274 && (bt351.2.2.2.2.2.2.2.1 == t275 && (bt351.2.2.2.2.2.2.2.2.1 == t276 && (bt351.2.2.2.2.2.2.2.2.2.1 == t277 && (bt351.2.2.2.2.2.2.2.2.2.2 == t278)))))))))))))) else (some false))) else (some false)) = some r := H
              have A54 := Aside0.mk A540
              clear A540
              by_cases c55 : t338 ≥ 0
              · rw [if_pos c55] at H
                have c55b0 : decide (0 ≤ t338) = true := decide_eq_true c55
                clear c55
                replace H := Option.bind_eq_some_iff.mp H
                obtain ⟨t339, A560, H⟩ := H
                replace H : (if t339 ≥ 0 then ((cookie_Greater.f a1_0 a1_1 a1_2 a1_3 a1_4 a1_5 a1_6 a1_7 a1_8 a1_9 a1_10 a2_0 a2_1 a2_2 a2_3 a2_4 a2_5 a2_6 a2_7 a2_8 a2_9 a2_10).bind fun bt340 => ((cookie_Greater.f a0_0 a0_1 a0_2 a0_3 a0_4 a0_5 a0_6 a0_7 a0_8 a0_9 a0_10 bt340.1 bt340.2.1 bt340.2.2.1 bt340.2.2.2.1 bt340.2.2.2.2.1 bt340.2.2.2.2.2.1 bt340.2.2.2.2.2.2.1 bt340.2.2.2.2.2.2.2.1 bt340.2.2.2.2.2.2.2.2.1 bt340.2.2.2.2.2.2.2.2.2.1 bt340.2.2.2.2.2.2.2.2.2.2).bind fun bt351 => (some (bt351.1.toList == t268.toList && (bt351.2.1.toList == t269.toList && (bt351.2.2.1.toList == t270.toList && (bt351.2.2.2.1.toList == t271.toList && (bt351.2.2.2.2.1 == t272 && (bt351.2.2.2.2.2.1 == t273 && (bt351.2.2.2.2.2.2.1 == t274 && (bt351.2.2.2.2.2.2.2.1 == t275 && (bt351.2.2.2.2.2.2.2.2.1 == t276 && (bt351.2.2.2.2.2.2.2.2.2.1 == t277 && (bt351.2.2.2.2.2.2.2.2.2.2 == t278)))))))))))))) else (some false)) = some r := H
                have A56 := Aside0.mk A560
                clear A560
                by_cases c57 : t339 ≥ 0
                · rw [if_pos c57] at H
                  have c57b0 : decide (0 ≤ t339) = true := decide_eq_true c57
                  clear c57
                  replace H := Option.bind_eq_some_iff.mp H
                  obtain ⟨⟨t340, t341, t342, t343, t344, t345, t346, t347, t348, t349, t350⟩, A580, H⟩ := H
                  replace H : ((cookie_Greater.f a0_0 a0_1 a0_2 a0_3 a0_4 a0_5 a0_6 a0_7 a0_8 a0_9 a0_10 t340 t341 t342 t343 t344 t345 t346 t347 t348 t349 t350).bind fun bt351 => (some (bt351.1.toList == t268.toList && (bt351.2.1.toList == t269.toList && (bt351.2.2.1.toList == t270.toList && (bt351.2.2.2.1.toList == t271.toList && (bt351.2.2.2.2.1 == t272 && (bt351.2.2.2.2.2.1 == t273 && (bt351.2.2.2.2.2.2.1 == t274 && (bt351.2.2.2.2.2.2.2.1 == t275 && (bt351.2.2.2.2.2.2.2.2.1 == t276 && (bt351.2.2.2.2.2.2.2.2.2.1 == t277 && (bt351.2.2.2.2.2.2.2.2.2.2 == t278))))))))))))) = some r := H
                  have A58 := Aside0.mk A580
                  clear A580
                  replace H := Option.bind_eq_some_iff.mp H
                  obtain ⟨⟨t351, t352, t353, t354, t355, t356, t357, t358, t359, t360, t361⟩, A590, H⟩ := H
                  replace H : (some (t351.toList == t268.toList && (t352.toList == t269.toList && (t353.toList == t270.toList && (t354.toList == t271.toList && (t355 == t272 && (t356 == t273 && (t357 == t274 && (t358 == t275 && (t359 == t276 && (t360 == t277 && (t361 == t278)))))))))))) = some r := H
                  have A59 := Aside0.mk A590
                  clear A590
                  obtain rfl := Option.some.inj H
                  go_enter Tryd.func6, Tryd.ntmps6
                  try go_wp2_with (first | ((with_reducible refine gate_dst (N := 3) rfl ?_); refine box_event ?hg (N := 3) ?hd (cs := #[.string a0_0, .string a0_1, .string a0_2, .string a0_3, .int .i64 a0_4, .int .i64 a0_5, .int .i64 a0_6, .bool a0_7, .bool a0_8, .bool a0_9, .int .i64 a0_10]) (t := 23) ?hr ?_; (case hd => rfl); (case hg => rfl); (case hr => first | (go_simp; done) | (go_simp; rfl)); intro gb253 hg w60 hbox hb; have n0_ := Aside0.mk (below_step xb hb); have n1_ := Aside0.mk (hbox); have n2_ := Aside0.mk ((by rw [hg]; exact (below_size xb) : w.heap.size ≤ gb253)); have n3_ := Aside0.mk ((by rw [hg]; exact (below_size xb) : w.heap.size ≤ gb253)); clear HB; have HB := n0_; have BK253 := n1_; have GW253 := n2_; have GE253 := n3_; clear n0_ n1_ n2_ n3_; clear hb hbox hg) | ((with_reducible refine gate_dst (N := 4) rfl ?_); refine box_event ?hg (N := 4) ?hd (cs := #[.string a1_0, .string a1_1, .string a1_2, .string a1_3, .int .i64 a1_4, .int .i64 a1_5, .int .i64 a1_6, .bool a1_7, .bool a1_8, .bool a1_9, .int .i64 a1_10]) (t := 23) ?hr ?_; (case hd => rfl); (case hg => rfl); (case hr => first | (go_simp; done) | (go_simp; rfl)); intro gb254 hg w61 hbox hb; have n0_ := blkB BK253 hb; have n1_ := Aside0.mk (below_step xb hb); have n2_ := Aside0.mk (hbox); have n3_ := Aside0.mk ((by rw [hg]; exact (below_size xb) : w.heap.size ≤ gb254)); have n4_ := Aside0.mk ((by rw [hg]; exact (below_size xb) : w.heap.size ≤ gb254)); have n5_ := Aside0.mk ((by rw [hg]; exact Nat.ne_of_lt (blkL BK253) : gb253 ≠ gb254)); have n6_ := Aside0.mk ((by rw [hg]; exact Nat.ne_of_gt (blkL BK253) : gb254 ≠ gb253)); clear BK253; clear HB; have BK253 := n0_; have HB := n1_; have BK254 := n2_; have GW254 := n3_; have GE254 := n4_; have NB253_254 := n5_; have NB254_253 := n6_; clear n0_ n1_ n2_ n3_ n4_ n5_ n6_; clear hb hbox hg) | ((with_reducible refine gate_dst (N := 5) rfl ?_); refine box_event ?hg (N := 5) ?hd (cs := #[.string a2_0, .string a2_1, .string a2_2, .string a2_3, .int .i64 a2_4, .int .i64 a2_5, .int .i64 a2_6, .bool a2_7, .bool a2_8, .bool a2_9, .int .i64 a2_10]) (t := 23) ?hr ?_; (case hd => rfl); (case hg => rfl); (case hr => first | (go_simp; done) | (go_simp; rfl)); intro gb255 hg w62 hbox hb; have n0_ := blkB BK253 hb; have n1_ := blkB BK254 hb; have n2_ := Aside0.mk (below_step xb hb); have n3_ := Aside0.mk (hbox); have n4_ := Aside0.mk ((by rw [hg]; exact (below_size xb) : w.heap.size ≤ gb255)); have n5_ := Aside0.mk ((by rw [hg]; exact (below_size xb) : w.heap.size ≤ gb255)); have n6_ := Aside0.mk ((by rw [hg]; exact Nat.ne_of_lt (blkL BK253) : gb253 ≠ gb255)); have n7_ := Aside0.mk ((by rw [hg]; exact Nat.ne_of_gt (blkL BK253) : gb255 ≠ gb253)); have n8_ := Aside0.mk ((by rw [hg]; exact Nat.ne_of_lt (blkL BK254) : gb254 ≠ gb255)); have n9_ := Aside0.mk ((by rw [hg]; exact Nat.ne_of_gt (blkL BK254) : gb255 ≠ gb254)); clear BK253; clear BK254; clear HB; have BK253 := n0_; have BK254 := n1_; have HB := n2_; have BK255 := n3_; have GW255 := n4_; have GE255 := n5_; have NB253_255 := n6_; have NB255_253 := n7_; have NB254_255 := n8_; have NB255_254 := n9_; clear n0_ n1_ n2_ n3_ n4_ n5_ n6_ n7_ n8_ n9_; clear hb hbox hg; have hnb63 := NB253_254.out; have hnc63 := NB254_253.out; have hnb64 := NB253_255.out; have hnc64 := NB255_253.out; have hcz65_0 : w62.cell? ⟨gb253, 0, none⟩ = some (.string a0_0) := (blk_cell BK253.out 0).trans rfl; have hcz65_1 : w62.cell? ⟨gb253, 1, none⟩ = some (.string a0_1) := (blk_cell BK253.out 1).trans rfl; have hcz65_2 : w62.cell? ⟨gb253, 2, none⟩ = some (.string a0_2) := (blk_cell BK253.out 2).trans rfl; have hcz65_3 : w62.cell? ⟨gb253, 3, none⟩ = some (.string a0_3) := (blk_cell BK253.out 3).trans rfl; have hcz65_4 : w62.cell? ⟨gb253, 4, none⟩ = some (.int .i64 a0_4) := (blk_cell BK253.out 4).trans rfl; have hcz65_5 : w62.cell? ⟨gb253, 5, none⟩ = some (.int .i64 a0_5) := (blk_cell BK253.out 5).trans rfl; have hcz65_6 : w62.cell? ⟨gb253, 6, none⟩ = some (.int .i64 a0_6) := (blk_cell BK253.out 6).trans rfl; have hcz65_7 : w62.cell? ⟨gb253, 7, none⟩ = some (.bool a0_7) := (blk_cell BK253.out 7).trans rfl; have hcz65_8 : w62.cell? ⟨gb253, 8, none⟩ = some (.bool a0_8) := (blk_cell BK253.out 8).trans rfl; have hcz65_9 : w62.cell? ⟨gb253, 9, none⟩ = some (.bool a0_9) := (blk_cell BK253.out 9).trans rfl; have hcz65_10 : w62.cell? ⟨gb253, 10, none⟩ = some (.int .i64 a0_10) := (blk_cell BK253.out 10).trans rfl; have hfz65_0 := blk_frozen BK253.out 0; have hfz65_1 := blk_frozen BK253.out 1; have hfz65_2 := blk_frozen BK253.out 2; have hfz65_3 := blk_frozen BK253.out 3; have hfz65_4 := blk_frozen BK253.out 4; have hfz65_5 := blk_frozen BK253.out 5; have hfz65_6 := blk_frozen BK253.out 6; have hfz65_7 := blk_frozen BK253.out 7; have hfz65_8 := blk_frozen BK253.out 8; have hfz65_9 := blk_frozen BK253.out 9; have hfz65_10 := blk_frozen BK253.out 10; have hnb66 := NB254_255.out; have hnc66 := NB255_254.out; have hcz67_0 : w62.cell? ⟨gb254, 0, none⟩ = some (.string a1_0) := (blk_cell BK254.out 0).trans rfl; have hcz67_1 : w62.cell? ⟨gb254, 1, none⟩ = some (.string a1_1) := (blk_cell BK254.out 1).trans rfl; have hcz67_2 : w62.cell? ⟨gb254, 2, none⟩ = some (.string a1_2) := (blk_cell BK254.out 2).trans rfl; have hcz67_3 : w62.cell? ⟨gb254, 3, none⟩ = some (.string a1_3) := (blk_cell BK254.out 3).trans rfl; have hcz67_4 : w62.cell? ⟨gb254, 4, none⟩ = some (.int .i64 a1_4) := (blk_cell BK254.out 4).trans rfl; have hcz67_5 : w62.cell? ⟨gb254, 5, none⟩ = some (.int .i64 a1_5) := (blk_cell BK254.out 5).trans rfl; have hcz67_6 : w62.cell? ⟨gb254, 6, none⟩ = some (.int .i64 a1_6) := (blk_cell BK254.out 6).trans rfl; have hcz67_7 : w62.cell? ⟨gb254, 7, none⟩ = some (.bool a1_7) := (blk_cell BK254.out 7).trans rfl; have hcz67_8 : w62.cell? ⟨gb254, 8, none⟩ = some (.bool a1_8) := (blk_cell BK254.out 8).trans rfl; have hcz67_9 : w62.cell? ⟨gb254, 9, none⟩ = some (.bool a1_9) := (blk_cell BK254.out 9).trans rfl; have hcz67_10 : w62.cell? ⟨gb254, 10, none⟩ = some (.int .i64 a1_10) := (blk_cell BK254.out 10).trans rfl; have hfz67_0 := blk_frozen BK254.out 0; have hfz67_1 := blk_frozen BK254.out 1; have hfz67_2 := blk_frozen BK254.out 2; have hfz67_3 := blk_frozen BK254.out 3; have hfz67_4 := blk_frozen BK254.out 4; have hfz67_5 := blk_frozen BK254.out 5; have hfz67_6 := blk_frozen BK254.out 6; have hfz67_7 := blk_frozen BK254.out 7; have hfz67_8 := blk_frozen BK254.out 8; have hfz67_9 := blk_frozen BK254.out 9; have hfz67_10 := blk_frozen BK254.out 10) | ((with_reducible refine gate_callee (f := 16) rfl ?_); refine goesL_ (some 11) rfl rfl Tryd.func16 (by kernel_rfl) rfl #[.agg #[.string a0_0, .string a0_1, .string a0_2, .string a0_3, .int .i64 a0_4, .int .i64 a0_5, .int .i64 a0_6, .bool a0_7, .bool a0_8, .bool a0_9, .int .i64 a0_10], .agg #[.string a1_0, .string a1_1, .string a1_2, .string a1_3, .int .i64 a1_4, .int .i64 a1_5, .int .i64 a1_6, .bool a1_7, .bool a1_8, .bool a1_9, .int .i64 a1_10]] rfl xg ?_; (with_reducible refine (cookie_Greater.calls a0_0 a0_1 a0_2 a0_3 a0_4 a0_5 a0_6 a0_7 a0_8 a0_9 a0_10 a1_0 a1_1 a1_2 a1_3 a1_4 a1_5 a1_6 a1_7 a1_8 a1_9 a1_10 t256 t257 t258 t259 t260 t261 t262 t263 t264 t265 t266 _ A4.out).mono ?_); rintro e w68 ⟨rfl, hb⟩; refine ⟨_, rfl, ?_⟩; have n0_ := blkB BK253 hb; have n1_ := blkB BK254 hb; have n2_ := blkB BK255 hb; have n3_ := Aside0.mk (below_step xb hb); clear BK253; clear BK254; clear BK255; clear HB; have BK253 := n0_; have BK254 := n1_; have BK255 := n2_; have HB := n3_; clear n0_ n1_ n2_ n3_; (try clear hb); (try clear hb2); (try clear hk); (try clear hi)) | ((with_reducible refine gate_dst (N := 7) rfl ?_); refine box_event ?hg (N := 7) ?hd (cs := #[.string (⟨#[]⟩ : ByteArray), .string (⟨#[]⟩ : ByteArray), .string (⟨#[]⟩ : ByteArray), .string (⟨#[]⟩ : ByteArray), .int .i64 0, .int .i64 0, .int .i64 0, .bool false, .bool false, .bool false, .int .i64 0]) (t := 23) ?hr ?_; (case hd => rfl); (case hg => rfl); (case hr => first | (go_simp; done) | (go_simp; rfl)); intro gb267 hg w69 hbox hb; have n0_ := blkB BK253 hb; have n1_ := blkB BK254 hb; have n2_ := blkB BK255 hb; have n3_ := Aside0.mk (below_step xb hb); have n4_ := Aside0.mk (hbox); have n5_ := Aside0.mk ((by rw [hg]; exact (below_size xb) : w.heap.size ≤ gb267)); have n6_ := Aside0.mk ((by rw [hg]; exact (below_size xb) : w.heap.size ≤ gb267)); have n7_ := Aside0.mk ((by rw [hg]; exact Nat.ne_of_lt (blkL BK253) : gb253 ≠ gb267)); have n8_ := Aside0.mk ((by rw [hg]; exact Nat.ne_of_gt (blkL BK253) : gb267 ≠ gb253)); have n9_ := Aside0.mk ((by rw [hg]; exact Nat.ne_of_lt (blkL BK254) : gb254 ≠ gb267)); have n10_ := Aside0.mk ((by rw [hg]; exact Nat.ne_of_gt (blkL BK254) : gb267 ≠ gb254)); have n11_ := Aside0.mk ((by rw [hg]; exact Nat.ne_of_lt (blkL BK255) : gb255 ≠ gb267)); have n12_ := Aside0.mk ((by rw [hg]; exact Nat.ne_of_gt (blkL BK255) : gb267 ≠ gb255)); clear BK253; clear BK254; clear BK255; clear HB; have BK253 := n0_; have BK254 := n1_; have BK255 := n2_; have HB := n3_; have BK267 := n4_; have GW267 := n5_; have GE267 := n6_; have NB253_267 := n7_; have NB267_253 := n8_; have NB254_267 := n9_; have NB267_254 := n10_; have NB255_267 := n11_; have NB267_255 := n12_; clear n0_ n1_ n2_ n3_ n4_ n5_ n6_ n7_ n8_ n9_ n10_ n11_ n12_; clear hb hbox hg; have hnb70 := NB267_253.out; have hnc70 := NB253_267.out; have hnb71 := NB267_254.out; have hnc71 := NB254_267.out; have hnb72 := NB267_255.out; have hnc72 := NB255_267.out; have hcz73_0 : w69.cell? ⟨gb267, 0, none⟩ = some (.string (⟨#[]⟩ : ByteArray)) := (blk_cell BK267.out 0).trans rfl; have hcz73_1 : w69.cell? ⟨gb267, 1, none⟩ = some (.string (⟨#[]⟩ : ByteArray)) := (blk_cell BK267.out 1).trans rfl; have hcz73_2 : w69.cell? ⟨gb267, 2, none⟩ = some (.string (⟨#[]⟩ : ByteArray)) := (blk_cell BK267.out 2).trans rfl; have hcz73_3 : w69.cell? ⟨gb267, 3, none⟩ = some (.string (⟨#[]⟩ : ByteArray)) := (blk_cell BK267.out 3).trans rfl; have hcz73_4 : w69.cell? ⟨gb267, 4, none⟩ = some (.int .i64 0) := (blk_cell BK267.out 4).trans rfl; have hcz73_5 : w69.cell? ⟨gb267, 5, none⟩ = some (.int .i64 0) := (blk_cell BK267.out 5).trans rfl; have hcz73_6 : w69.cell? ⟨gb267, 6, none⟩ = some (.int .i64 0) := (blk_cell BK267.out 6).trans rfl; have hcz73_7 : w69.cell? ⟨gb267, 7, none⟩ = some (.bool false) := (blk_cell BK267.out 7).trans rfl; have hcz73_8 : w69.cell? ⟨gb267, 8, none⟩ = some (.bool false) := (blk_cell BK267.out 8).trans rfl; have hcz73_9 : w69.cell? ⟨gb267, 9, none⟩ = some (.bool false) := (blk_cell BK267.out 9).trans rfl; have hcz73_10 : w69.cell? ⟨gb267, 10, none⟩ = some (.int .i64 0) := (blk_cell BK267.out 10).trans rfl; have hfz73_0 := blk_frozen BK267.out 0; have hfz73_1 := blk_frozen BK267.out 1; have hfz73_2 := blk_frozen BK267.out 2; have hfz73_3 := blk_frozen BK267.out 3; have hfz73_4 := blk_frozen BK267.out 4; have hfz73_5 := blk_frozen BK267.out 5; have hfz73_6 := blk_frozen BK267.out 6; have hfz73_7 := blk_frozen BK267.out 7; have hfz73_8 := blk_frozen BK267.out 8; have hfz73_9 := blk_frozen BK267.out 9; have hfz73_10 := blk_frozen BK267.out 10; have hcz74_0 : w69.cell? ⟨gb255, 0, none⟩ = some (.string a2_0) := (blk_cell BK255.out 0).trans rfl; have hcz74_1 : w69.cell? ⟨gb255, 1, none⟩ = some (.string a2_1) := (blk_cell BK255.out 1).trans rfl; have hcz74_2 : w69.cell? ⟨gb255, 2, none⟩ = some (.string a2_2) := (blk_cell BK255.out 2).trans rfl; have hcz74_3 : w69.cell? ⟨gb255, 3, none⟩ = some (.string a2_3) := (blk_cell BK255.out 3).trans rfl; have hcz74_4 : w69.cell? ⟨gb255, 4, none⟩ = some (.int .i64 a2_4) := (blk_cell BK255.out 4).trans rfl; have hcz74_5 : w69.cell? ⟨gb255, 5, none⟩ = some (.int .i64 a2_5) := (blk_cell BK255.out 5).trans rfl; have hcz74_6 : w69.cell? ⟨gb255, 6, none⟩ = some (.int .i64 a2_6) := (blk_cell BK255.out 6).trans rfl; have hcz74_7 : w69.cell? ⟨gb255, 7, none⟩ = some (.bool a2_7) := (blk_cell BK255.out 7).trans rfl; have hcz74_8 : w69.cell? ⟨gb255, 8, none⟩ = some (.bool a2_8) := (blk_cell BK255.out 8).trans rfl; have hcz74_9 : w69.cell? ⟨gb255, 9, none⟩ = some (.bool a2_9) := (blk_cell BK255.out 9).trans rfl; have hcz74_10 : w69.cell? ⟨gb255, 10, none⟩ = some (.int .i64 a2_10) := (blk_cell BK255.out 10).trans rfl; have hfz74_0 := blk_frozen BK255.out 0; have hfz74_1 := blk_frozen BK255.out 1; have hfz74_2 := blk_frozen BK255.out 2; have hfz74_3 := blk_frozen BK255.out 3; have hfz74_4 := blk_frozen BK255.out 4; have hfz74_5 := blk_frozen BK255.out 5; have hfz74_6 := blk_frozen BK255.out 6; have hfz74_7 := blk_frozen BK255.out 7; have hfz74_8 := blk_frozen BK255.out 8; have hfz74_9 := blk_frozen BK255.out 9; have hfz74_10 := blk_frozen BK255.out 10) | ((with_reducible refine gate_callee (f := 16) rfl ?_); refine goesL_ (some 14) rfl rfl Tryd.func16 (by kernel_rfl) rfl #[.agg #[.string t256, .string t257, .string t258, .string t259, .int .i64 t260, .int .i64 t261, .int .i64 t262, .bool t263, .bool t264, .bool t265, .int .i64 t266], .agg #[.string a2_0, .string a2_1, .string a2_2, .string a2_3, .int .i64 a2_4, .int .i64 a2_5, .int .i64 a2_6, .bool a2_7, .bool a2_8, .bool a2_9, .int .i64 a2_10]] rfl xg ?_; (with_reducible refine (cookie_Greater.calls t256 t257 t258 t259 t260 t261 t262 t263 t264 t265 t266 a2_0 a2_1 a2_2 a2_3 a2_4 a2_5 a2_6 a2_7 a2_8 a2_9 a2_10 t268 t269 t270 t271 t272 t273 t274 t275 t276 t277 t278 _ A5.out).mono ?_); rintro e w75 ⟨rfl, hb⟩; refine ⟨_, rfl, ?_⟩; have n0_ := blkB BK253 hb; have n1_ := blkB BK254 hb; have n2_ := blkB BK255 hb; have n3_ := Aside0.mk (blk_below (g := gb267) (o := .cells #[.string t256, .string t257, .string t258, .string t259, .int .i64 t260, .int .i64 t261, .int .i64 t262, .bool t263, .bool t264, .bool t265, .int .i64 t266] 23 (0, 0)) xk hb); have n4_ := Aside0.mk (below_step xb hb); clear BK253; clear BK254; clear BK255; clear BK267; clear HB; have BK253 := n0_; have BK254 := n1_; have BK255 := n2_; have BK267 := n3_; have HB := n4_; clear n0_ n1_ n2_ n3_ n4_; (try clear hb); (try clear hb2); (try clear hk); (try clear hi)) | ((with_reducible refine gate_dst (N := 8) rfl ?_); refine box_event ?hg (N := 8) ?hd (cs := #[.string (⟨#[]⟩ : ByteArray), .string (⟨#[]⟩ : ByteArray), .string (⟨#[]⟩ : ByteArray), .string (⟨#[]⟩ : ByteArray), .int .i64 0, .int .i64 0, .int .i64 0, .bool false, .bool false, .bool false, .int .i64 0]) (t := 23) ?hr ?_; (case hd => rfl); (case hg => rfl); (case hr => first | (go_simp; done) | (go_simp; rfl)); intro gb279 hg w76 hbox hb; have n0_ := blkB BK253 hb; have n1_ := blkB BK254 hb; have n2_ := blkB BK255 hb; have n3_ := blkB BK267 hb; have n4_ := Aside0.mk (below_step xb hb); have n5_ := Aside0.mk (hbox); have n6_ := Aside0.mk ((by rw [hg]; exact (below_size xb) : w.heap.size ≤ gb279)); have n7_ := Aside0.mk ((by rw [hg]; exact (below_size xb) : w.heap.size ≤ gb279)); have n8_ := Aside0.mk ((by rw [hg]; exact Nat.ne_of_lt (blkL BK253) : gb253 ≠ gb279)); have n9_ := Aside0.mk ((by rw [hg]; exact Nat.ne_of_gt (blkL BK253) : gb279 ≠ gb253)); have n10_ := Aside0.mk ((by rw [hg]; exact Nat.ne_of_lt (blkL BK254) : gb254 ≠ gb279)); have n11_ := Aside0.mk ((by rw [hg]; exact Nat.ne_of_gt (blkL BK254) : gb279 ≠ gb254)); have n12_ := Aside0.mk ((by rw [hg]; exact Nat.ne_of_lt (blkL BK255) : gb255 ≠ gb279)); have n13_ := Aside0.mk ((by rw [hg]; exact Nat.ne_of_gt (blkL BK255) : gb279 ≠ gb255)); have n14_ := Aside0.mk ((by rw [hg]; exact Nat.ne_of_lt (blkL BK267) : gb267 ≠ gb279)); have n15_ := Aside0.mk ((by rw [hg]; exact Nat.ne_of_gt (blkL BK267) : gb279 ≠ gb267)); clear BK253; clear BK254; clear BK255; clear BK267; clear HB; have BK253 := n0_; have BK254 := n1_; have BK255 := n2_; have BK267 := n3_; have HB := n4_; have BK279 := n5_; have GW279 := n6_; have GE279 := n7_; have NB253_279 := n8_; have NB279_253 := n9_; have NB254_279 := n10_; have NB279_254 := n11_; have NB255_279 := n12_; have NB279_255 := n13_; have NB267_279 := n14_; have NB279_267 := n15_; clear n0_ n1_ n2_ n3_ n4_ n5_ n6_ n7_ n8_ n9_ n10_ n11_ n12_ n13_ n14_ n15_; clear hb hbox hg; have hnb77 := NB279_253.out; have hnc77 := NB253_279.out; have hnb78 := NB279_254.out; have hnc78 := NB254_279.out; have hnb79 := NB279_255.out; have hnc79 := NB255_279.out; have hnb80 := NB279_267.out; have hnc80 := NB267_279.out; have hcz81_0 : w76.cell? ⟨gb279, 0, none⟩ = some (.string (⟨#[]⟩ : ByteArray)) := (blk_cell BK279.out 0).trans rfl; have hcz81_1 : w76.cell? ⟨gb279, 1, none⟩ = some (.string (⟨#[]⟩ : ByteArray)) := (blk_cell BK279.out 1).trans rfl; have hcz81_2 : w76.cell? ⟨gb279, 2, none⟩ = some (.string (⟨#[]⟩ : ByteArray)) := (blk_cell BK279.out 2).trans rfl; have hcz81_3 : w76.cell? ⟨gb279, 3, none⟩ = some (.string (⟨#[]⟩ : ByteArray)) := (blk_cell BK279.out 3).trans rfl; have hcz81_4 : w76.cell? ⟨gb279, 4, none⟩ = some (.int .i64 0) := (blk_cell BK279.out 4).trans rfl; have hcz81_5 : w76.cell? ⟨gb279, 5, none⟩ = some (.int .i64 0) := (blk_cell BK279.out 5).trans rfl; have hcz81_6 : w76.cell? ⟨gb279, 6, none⟩ = some (.int .i64 0) := (blk_cell BK279.out 6).trans rfl; have hcz81_7 : w76.cell? ⟨gb279, 7, none⟩ = some (.bool false) := (blk_cell BK279.out 7).trans rfl; have hcz81_8 : w76.cell? ⟨gb279, 8, none⟩ = some (.bool false) := (blk_cell BK279.out 8).trans rfl; have hcz81_9 : w76.cell? ⟨gb279, 9, none⟩ = some (.bool false) := (blk_cell BK279.out 9).trans rfl; have hcz81_10 : w76.cell? ⟨gb279, 10, none⟩ = some (.int .i64 0) := (blk_cell BK279.out 10).trans rfl; have hfz81_0 := blk_frozen BK279.out 0; have hfz81_1 := blk_frozen BK279.out 1; have hfz81_2 := blk_frozen BK279.out 2; have hfz81_3 := blk_frozen BK279.out 3; have hfz81_4 := blk_frozen BK279.out 4; have hfz81_5 := blk_frozen BK279.out 5; have hfz81_6 := blk_frozen BK279.out 6; have hfz81_7 := blk_frozen BK279.out 7; have hfz81_8 := blk_frozen BK279.out 8; have hfz81_9 := blk_frozen BK279.out 9; have hfz81_10 := blk_frozen BK279.out 10))
                  obtain ⟨w82, hw_⟩ : ∃ v_, (((((((((((w76.setCell ⟨gb279, 0, none⟩ (.string t268)).setCell ⟨gb279, 1, none⟩ (.string t269)).setCell ⟨gb279, 2, none⟩ (.string t270)).setCell ⟨gb279, 3, none⟩ (.string t271)).setCell ⟨gb279, 4, none⟩ (.int .i64 t272)).setCell ⟨gb279, 5, none⟩ (.int .i64 t273)).setCell ⟨gb279, 6, none⟩ (.int .i64 t274)).setCell ⟨gb279, 7, none⟩ (.bool t275)).setCell ⟨gb279, 8, none⟩ (.bool t276)).setCell ⟨gb279, 9, none⟩ (.bool t277)).setCell ⟨gb279, 10, none⟩ (.int .i64 t278)) = v_ := ⟨_, rfl⟩
                  have n0_ : Aside0 (w82.heap[gb253]? = some (.cells #[.string a0_0, .string a0_1, .string a0_2, .string a0_3, .int .i64 a0_4, .int .i64 a0_5, .int .i64 a0_6, .bool a0_7, .bool a0_8, .bool a0_9, .int .i64 a0_10] 23 (0, 0))) := by rw [← hw_]; exact ⟨xk⟩
                  have n1_ : Aside0 (w82.heap[gb254]? = some (.cells #[.string a1_0, .string a1_1, .string a1_2, .string a1_3, .int .i64 a1_4, .int .i64 a1_5, .int .i64 a1_6, .bool a1_7, .bool a1_8, .bool a1_9, .int .i64 a1_10] 23 (0, 0))) := by rw [← hw_]; exact ⟨xk⟩
                  have n2_ : Aside0 (w82.heap[gb255]? = some (.cells #[.string a2_0, .string a2_1, .string a2_2, .string a2_3, .int .i64 a2_4, .int .i64 a2_5, .int .i64 a2_6, .bool a2_7, .bool a2_8, .bool a2_9, .int .i64 a2_10] 23 (0, 0))) := by rw [← hw_]; exact ⟨xk⟩
                  have n3_ : Aside0 (w82.heap[gb267]? = some (.cells #[.string t256, .string t257, .string t258, .string t259, .int .i64 t260, .int .i64 t261, .int .i64 t262, .bool t263, .bool t264, .bool t265, .int .i64 t266] 23 (0, 0))) := by rw [← hw_]; exact ⟨xk⟩
                  have n4_ : Aside0 (w82.heap[gb279]? = some (.cells #[.string t268, .string t269, .string t270, .string t271, .int .i64 t272, .int .i64 t273, .int .i64 t274, .bool t275, .bool t276, .bool t277, .int .i64 t278] 23 (0, 0))) := by rw [← hw_]; exact ⟨xk⟩
                  have n5_ : Aside0 (Below w.heap.size w w82) := by rw [← hw_]; exact ⟨xb⟩
                  (try clear BK253)
                  (try clear BK254)
                  (try clear BK255)
                  (try clear BK267)
                  (try clear BK279)
                  (try clear HB)
                  (try rewrite [hw_])
                  clear hw_
                  have BK253 := n0_
                  have BK254 := n1_
                  have BK255 := n2_
                  have BK267 := n3_
                  have BK279 := n4_
                  have HB := n5_
                  clear n0_ n1_ n2_ n3_ n4_ n5_
                  have n0_ := Aside0.mk (blk_drew BK253.out)
                  have n1_ := Aside0.mk (blk_drew BK254.out)
                  have n2_ := Aside0.mk (blk_drew BK255.out)
                  have n3_ := Aside0.mk (blk_drew BK267.out)
                  have n4_ := Aside0.mk (blk_drew BK279.out)
                  have n5_ := Aside0.mk (below_drew1 HB.out)
                  clear BK253
                  clear BK254
                  clear BK255
                  clear BK267
                  clear BK279
                  clear HB
                  have BK253 := n0_
                  have BK254 := n1_
                  have BK255 := n2_
                  have BK267 := n3_
                  have BK279 := n4_
                  have HB := n5_
                  clear n0_ n1_ n2_ n3_ n4_ n5_
                  refine start_ (n := 54) (S := fun w' => w'.cell? ⟨gb267, 0, none⟩ = some (.string t256) ∧ w'.cell? ⟨gb267, 1, none⟩ = some (.string t257) ∧ w'.cell? ⟨gb267, 2, none⟩ = some (.string t258) ∧ w'.cell? ⟨gb267, 3, none⟩ = some (.string t259) ∧ w'.cell? ⟨gb267, 4, none⟩ = some (.int .i64 t260) ∧ w'.cell? ⟨gb267, 5, none⟩ = some (.int .i64 t261) ∧ w'.cell? ⟨gb267, 6, none⟩ = some (.int .i64 t262) ∧ w'.cell? ⟨gb267, 7, none⟩ = some (.bool t263) ∧ w'.cell? ⟨gb267, 8, none⟩ = some (.bool t264) ∧ w'.cell? ⟨gb267, 9, none⟩ = some (.bool t265) ∧ w'.cell? ⟨gb267, 10, none⟩ = some (.int .i64 t266) ∧ w'.cell? ⟨gb253, 0, none⟩ = some (.string a0_0) ∧ w'.cell? ⟨gb253, 1, none⟩ = some (.string a0_1) ∧ w'.cell? ⟨gb253, 2, none⟩ = some (.string a0_2) ∧ w'.cell? ⟨gb253, 3, none⟩ = some (.string a0_3) ∧ w'.cell? ⟨gb253, 4, none⟩ = some (.int .i64 a0_4) ∧ w'.cell? ⟨gb253, 5, none⟩ = some (.int .i64 a0_5) ∧ w'.cell? ⟨gb253, 6, none⟩ = some (.int .i64 a0_6) ∧ w'.cell? ⟨gb253, 7, none⟩ = some (.bool a0_7) ∧ w'.cell? ⟨gb253, 8, none⟩ = some (.bool a0_8) ∧ w'.cell? ⟨gb253, 9, none⟩ = some (.bool a0_9) ∧ w'.cell? ⟨gb253, 10, none⟩ = some (.int .i64 a0_10) ∧ w'.cell? ⟨gb254, 0, none⟩ = some (.string a1_0) ∧ w'.cell? ⟨gb254, 1, none⟩ = some (.string a1_1) ∧ w'.cell? ⟨gb254, 2, none⟩ = some (.string a1_2) ∧ w'.cell? ⟨gb254, 3, none⟩ = some (.string a1_3) ∧ w'.cell? ⟨gb254, 4, none⟩ = some (.int .i64 a1_4) ∧ w'.cell? ⟨gb254, 5, none⟩ = some (.int .i64 a1_5) ∧ w'.cell? ⟨gb254, 6, none⟩ = some (.int .i64 a1_6) ∧ w'.cell? ⟨gb254, 7, none⟩ = some (.bool a1_7) ∧ w'.cell? ⟨gb254, 8, none⟩ = some (.bool a1_8) ∧ w'.cell? ⟨gb254, 9, none⟩ = some (.bool a1_9) ∧ w'.cell? ⟨gb254, 10, none⟩ = some (.int .i64 a1_10) ∧ w'.cell? ⟨gb255, 0, none⟩ = some (.string a2_0) ∧ w'.cell? ⟨gb255, 1, none⟩ = some (.string a2_1) ∧ w'.cell? ⟨gb255, 2, none⟩ = some (.string a2_2) ∧ w'.cell? ⟨gb255, 3, none⟩ = some (.string a2_3) ∧ w'.cell? ⟨gb255, 4, none⟩ = some (.int .i64 a2_4) ∧ w'.cell? ⟨gb255, 5, none⟩ = some (.int .i64 a2_5) ∧ w'.cell? ⟨gb255, 6, none⟩ = some (.int .i64 a2_6) ∧ w'.cell? ⟨gb255, 7, none⟩ = some (.bool a2_7) ∧ w'.cell? ⟨gb255, 8, none⟩ = some (.bool a2_8) ∧ w'.cell? ⟨gb255, 9, none⟩ = some (.bool a2_9) ∧ w'.cell? ⟨gb255, 10, none⟩ = some (.int .i64 a2_10) ∧ w'.cell? ⟨gb279, 0, none⟩ = some (.string t268) ∧ w'.cell? ⟨gb279, 1, none⟩ = some (.string t269) ∧ w'.cell? ⟨gb279, 2, none⟩ = some (.string t270) ∧ w'.cell? ⟨gb279, 3, none⟩ = some (.string t271) ∧ w'.cell? ⟨gb279, 4, none⟩ = some (.int .i64 t272) ∧ w'.cell? ⟨gb279, 5, none⟩ = some (.int .i64 t273) ∧ w'.cell? ⟨gb279, 6, none⟩ = some (.int .i64 t274) ∧ w'.cell? ⟨gb279, 7, none⟩ = some (.bool t275) ∧ w'.cell? ⟨gb279, 8, none⟩ = some (.bool t276) ∧ w'.cell? ⟨gb279, 9, none⟩ = some (.bool t277) ∧ w'.cell? ⟨gb279, 10, none⟩ = some (.int .i64 t278)) (ds := []) #[false, false, false, false, false, false, false, false, false, false, false, false, false, false, false, false, false, false, false, false, false, false, false, false, false, false, false, false, false, false, false, false, false, false, false, false, false, false, false, false, false, false, false, false, false, false, false, false, false, false, false, false, false, false] (by kernel_rfl) rfl rfl ⟨(blk_cell BK267.out 0).trans rfl, (blk_cell BK267.out 1).trans rfl, (blk_cell BK267.out 2).trans rfl, (blk_cell BK267.out 3).trans rfl, (blk_cell BK267.out 4).trans rfl, (blk_cell BK267.out 5).trans rfl, (blk_cell BK267.out 6).trans rfl, (blk_cell BK267.out 7).trans rfl, (blk_cell BK267.out 8).trans rfl, (blk_cell BK267.out 9).trans rfl, (blk_cell BK267.out 10).trans rfl, (blk_cell BK253.out 0).trans rfl, (blk_cell BK253.out 1).trans rfl, (blk_cell BK253.out 2).trans rfl, (blk_cell BK253.out 3).trans rfl, (blk_cell BK253.out 4).trans rfl, (blk_cell BK253.out 5).trans rfl, (blk_cell BK253.out 6).trans rfl, (blk_cell BK253.out 7).trans rfl, (blk_cell BK253.out 8).trans rfl, (blk_cell BK253.out 9).trans rfl, (blk_cell BK253.out 10).trans rfl, (blk_cell BK254.out 0).trans rfl, (blk_cell BK254.out 1).trans rfl, (blk_cell BK254.out 2).trans rfl, (blk_cell BK254.out 3).trans rfl, (blk_cell BK254.out 4).trans rfl, (blk_cell BK254.out 5).trans rfl, (blk_cell BK254.out 6).trans rfl, (blk_cell BK254.out 7).trans rfl, (blk_cell BK254.out 8).trans rfl, (blk_cell BK254.out 9).trans rfl, (blk_cell BK254.out 10).trans rfl, (blk_cell BK255.out 0).trans rfl, (blk_cell BK255.out 1).trans rfl, (blk_cell BK255.out 2).trans rfl, (blk_cell BK255.out 3).trans rfl, (blk_cell BK255.out 4).trans rfl, (blk_cell BK255.out 5).trans rfl, (blk_cell BK255.out 6).trans rfl, (blk_cell BK255.out 7).trans rfl, (blk_cell BK255.out 8).trans rfl, (blk_cell BK255.out 9).trans rfl, (blk_cell BK255.out 10).trans rfl, (blk_cell BK279.out 0).trans rfl, (blk_cell BK279.out 1).trans rfl, (blk_cell BK279.out 2).trans rfl, (blk_cell BK279.out 3).trans rfl, (blk_cell BK279.out 4).trans rfl, (blk_cell BK279.out 5).trans rfl, (blk_cell BK279.out 6).trans rfl, (blk_cell BK279.out 7).trans rfl, (blk_cell BK279.out 8).trans rfl, (blk_cell BK279.out 9).trans rfl, (blk_cell BK279.out 10).trans rfl⟩ (fun hHeld => ?_); refine with_tabW cracknellaw13_CookieGreater.tab3 cracknellaw13_CookieGreater.bits3 (fun HT_ HW_ => ?_)
                  generalize w82.drew = w83 at BK253 BK254 BK255 BK267 BK279 HB hHeld ⊢
                  refine one_ (i := 0) (N := some 15) #[true, false, false, false, false, false, false, false, false, false, false, false, false, false, false, false, false, false, false, false, false, false, false, false, false, false, false, false, false, false, false, false, false, false, false, false, false, false, false, false, false, false, false, false, false, false, false, false, false, false, false, false, false, false] rfl rfl (one_of HT_.out (by kernel_rfl)) (by decide) (fun K hK => ?_)
                  refine goes_ Tryd.func11 (by kernel_rfl) rfl #[] (by rfl) rfl rfl xg ?_
                  with_reducible refine (cracknellaw13_alive.calls k  true _ (Aside0.mk (by first | exact hG.out | ((with_reducible repeat (first | apply LaidG.drewN | apply LaidG.drew | apply LaidG.alloc)); exact hG.out) | exact LaidG.below hG.out xb)) ⟨by first | rfl | assumption | exact hT_.out⟩ A6.out).mono ?_
                  rintro e w84 ⟨rfl, hb⟩
                  refine ⟨_, rfl, ?_⟩
                  have n0_ := blkB BK253 hb
                  have n1_ := blkB BK254 hb
                  have n2_ := blkB BK255 hb
                  have n3_ := blkB BK267 hb
                  have n4_ := blkB BK279 hb
                  have n5_ := Aside0.mk (below_step xb hb)
                  clear BK253
                  clear BK254
                  clear BK255
                  clear BK267
                  clear BK279
                  clear HB
                  have BK253 := n0_
                  have BK254 := n1_
                  have BK255 := n2_
                  have BK267 := n3_
                  have BK279 := n4_
                  have HB := n5_
                  clear n0_ n1_ n2_ n3_ n4_ n5_
                  (try clear hb)
                  (try clear hb2)
                  (try clear hk)
                  (try clear hi)
                  refine hK.out _ _ xc (fun hHeld => ?_)
                  clear hK K
                  refine norm_ (a' := ?_) ?_ ?_
                  rotate_left
                  · show Act.put _ (some 15) _ = _
                    simp only [Act.put, List.setIfInBounds_toArray, List.set_cons_zero, List.set_cons_succ, i64_w, i32_w]
                    rfl
                  refine pure_ (i := 1) (N := some 16) (v := ?_) (a' := ?_) #[true, true, false, false, false, false, false, false, false, false, false, false, false, false, false, false, false, false, false, false, false, false, false, false, false, false, false, false, false, false, false, false, false, false, false, false, false, false, false, false, false, false, false, false, false, false, false, false, false, false, false, false, false, false] rfl rfl (any_of HT_.out (by kernel_rfl)) (fun _ _ _ h => h) (Or.inl ⟨by rfl, ?_⟩) ?_ ?_
                  rotate_left
                  · intro w'
                    go_simp
                    with_reducible rfl
                  rotate_left
                  · simp only [Act.put, List.setIfInBounds_toArray, List.set_cons_zero, List.set_cons_succ, i64_w, i32_w]
                    rfl
                  refine take_ (i := 2) (N := some 17) (v := ?_) (a' := ?_) #[true, true, true, false, false, false, false, false, false, false, false, false, false, false, false, false, false, false, false, false, false, false, false, false, false, false, false, false, false, false, false, false, false, false, false, false, false, false, false, false, false, false, false, false, false, false, false, false, false, false, false, false, false, false] rfl rfl (take_ofW HT_.out HW_.out (by kernel_rfl)) (fun _ _ _ h => h) (Or.inl ⟨by rfl, ?_⟩) hHeld ?_ ?_
                  rotate_left
                  · rintro w' ⟨s0, s1, s2, s3, s4, s5, s6, s7, s8, s9, s10, s11, s12, s13, s14, s15, s16, s17, s18, s19, s20, s21, s22, s23, s24, s25, s26, s27, s28, s29, s30, s31, s32, s33, s34, s35, s36, s37, s38, s39, s40, s41, s42, s43, s44, s45, s46, s47, s48, s49, s50, s51, s52, s53, s54⟩
                    go_simp
                    with_reducible rfl
                  rotate_left
                  · simp only [Act.put, List.setIfInBounds_toArray, List.set_cons_zero, List.set_cons_succ, i64_w, i32_w]
                    rfl
                  refine take_ (i := 3) (N := some 18) (v := ?_) (a' := ?_) #[true, true, true, true, false, false, false, false, false, false, false, false, false, false, false, false, false, false, false, false, false, false, false, false, false, false, false, false, false, false, false, false, false, false, false, false, false, false, false, false, false, false, false, false, false, false, false, false, false, false, false, false, false, false] rfl rfl (take_ofW HT_.out HW_.out (by kernel_rfl)) (fun _ _ _ h => h) (Or.inl ⟨by rfl, ?_⟩) hHeld ?_ ?_
                  rotate_left
                  · rintro w' ⟨s0, s1, s2, s3, s4, s5, s6, s7, s8, s9, s10, s11, s12, s13, s14, s15, s16, s17, s18, s19, s20, s21, s22, s23, s24, s25, s26, s27, s28, s29, s30, s31, s32, s33, s34, s35, s36, s37, s38, s39, s40, s41, s42, s43, s44, s45, s46, s47, s48, s49, s50, s51, s52, s53, s54⟩
                    go_simp
                    with_reducible rfl
                  rotate_left
                  · simp only [Act.put, List.setIfInBounds_toArray, List.set_cons_zero, List.set_cons_succ, i64_w, i32_w]
                    rfl
                  refine take_ (i := 4) (N := some 19) (v := ?_) (a' := ?_) #[true, true, true, true, true, false, false, false, false, false, false, false, false, false, false, false, false, false, false, false, false, false, false, false, false, false, false, false, false, false, false, false, false, false, false, false, false, false, false, false, false, false, false, false, false, false, false, false, false, false, false, false, false, false] rfl rfl (take_ofW HT_.out HW_.out (by kernel_rfl)) (fun _ _ _ h => h) (Or.inl ⟨by rfl, ?_⟩) hHeld ?_ ?_
                  rotate_left
                  · rintro w' ⟨s0, s1, s2, s3, s4, s5, s6, s7, s8, s9, s10, s11, s12, s13, s14, s15, s16, s17, s18, s19, s20, s21, s22, s23, s24, s25, s26, s27, s28, s29, s30, s31, s32, s33, s34, s35, s36, s37, s38, s39, s40, s41, s42, s43, s44, s45, s46, s47, s48, s49, s50, s51, s52, s53, s54⟩
                    go_simp
                    with_reducible rfl
                  rotate_left
                  · simp only [Act.put, List.setIfInBounds_toArray, List.set_cons_zero, List.set_cons_succ, i64_w, i32_w]
                    rfl
                  refine one_ (i := 5) (N := some 20) #[true, true, true, true, true, true, false, false, false, false, false, false, false, false, false, false, false, false, false, false, false, false, false, false, false, false, false, false, false, false, false, false, false, false, false, false, false, false, false, false, false, false, false, false, false, false, false, false, false, false, false, false, false, false] rfl rfl (one_of HT_.out (by kernel_rfl)) (by decide) (fun K hK => ?_)
                  refine goes_ Tryd.func17 (by kernel_rfl) rfl #[.agg #[.string a0_0, .string a0_1, .string a0_2, .string a0_3, .int .i64 a0_4, .int .i64 a0_5, .int .i64 a0_6, .bool a0_7, .bool a0_8, .bool a0_9, .int .i64 a0_10], .agg #[.string a1_0, .string a1_1, .string a1_2, .string a1_3, .int .i64 a1_4, .int .i64 a1_5, .int .i64 a1_6, .bool a1_7, .bool a1_8, .bool a1_9, .int .i64 a1_10]] (by rfl) rfl rfl xg ?_
                  with_reducible refine (cracknelref13_Greater.calls k a0_0 a0_1 a0_2 a0_3 a0_4 a0_5 a0_6 a0_7 a0_8 a0_9 a0_10 a1_0 a1_1 a1_2 a1_3 a1_4 a1_5 a1_6 a1_7 a1_8 a1_9 a1_10 t281 t282 t283 t284 t285 t286 t287 t288 t289 t290 t291 _ A8.out).mono ?_
                  rintro e w85 ⟨rfl, hb⟩
                  refine ⟨_, rfl, ?_⟩
                  have n0_ := blkB BK253 hb
                  have n1_ := blkB BK254 hb
                  have n2_ := blkB BK255 hb
                  have n3_ := blkB BK267 hb
                  have n4_ := blkB BK279 hb
                  have n5_ := Aside0.mk (below_step xb hb)
                  clear BK253
                  clear BK254
                  clear BK255
                  clear BK267
                  clear BK279
                  clear HB
                  have BK253 := n0_
                  have BK254 := n1_
                  have BK255 := n2_
                  have BK267 := n3_
                  have BK279 := n4_
                  have HB := n5_
                  clear n0_ n1_ n2_ n3_ n4_ n5_
                  (try clear hb)
                  (try clear hb2)
                  (try clear hk)
                  (try clear hi)
                  refine hK.out _ _ xc (fun hHeld => ?_)
                  clear hK K
                  refine norm_ (a' := ?_) ?_ ?_
                  rotate_left
                  · show Act.put _ (some 20) _ = _
                    simp only [Act.put, List.setIfInBounds_toArray, List.set_cons_zero, List.set_cons_succ, i64_w, i32_w]
                    rfl
                  refine pure_ (i := 6) (N := some 21) (v := ?_) (a' := ?_) #[true, true, true, true, true, true, true, false, false, false, false, false, false, false, false, false, false, false, false, false, false, false, false, false, false, false, false, false, false, false, false, false, false, false, false, false, false, false, false, false, false, false, false, false, false, false, false, false, false, false, false, false, false, false] rfl rfl (any_of HT_.out (by kernel_rfl)) (fun _ _ _ h => h) (Or.inl ⟨by rfl, ?_⟩) ?_ ?_
                  rotate_left
                  · intro w'
                    go_simp
                    with_reducible rfl
                  rotate_left
                  · simp only [Act.put, List.setIfInBounds_toArray, List.set_cons_zero, List.set_cons_succ, i64_w, i32_w]
                    rfl
                  refine pure_ (i := 7) (N := some 22) (v := ?_) (a' := ?_) #[true, true, true, true, true, true, true, true, false, false, false, false, false, false, false, false, false, false, false, false, false, false, false, false, false, false, false, false, false, false, false, false, false, false, false, false, false, false, false, false, false, false, false, false, false, false, false, false, false, false, false, false, false, false] rfl rfl (any_of HT_.out (by kernel_rfl)) (fun _ _ _ h => h) (Or.inl ⟨by rfl, ?_⟩) ?_ ?_
                  rotate_left
                  · intro w'
                    go_simp
                    with_reducible rfl
                  rotate_left
                  · simp only [Act.put, List.setIfInBounds_toArray, List.set_cons_zero, List.set_cons_succ, i64_w, i32_w]
                    rfl
                  refine pure_ (i := 8) (N := some 23) (v := ?_) (a' := ?_) #[true, true, true, true, true, true, true, true, true, false, false, false, false, false, false, false, false, false, false, false, false, false, false, false, false, false, false, false, false, false, false, false, false, false, false, false, false, false, false, false, false, false, false, false, false, false, false, false, false, false, false, false, false, false] rfl rfl (any_of HT_.out (by kernel_rfl)) (fun _ _ _ h => h) (Or.inl ⟨by rfl, ?_⟩) ?_ ?_
                  rotate_left
                  · intro w'
                    go_simp
                    with_reducible rfl
                  rotate_left
                  · simp only [Act.put, List.setIfInBounds_toArray, List.set_cons_zero, List.set_cons_succ, i64_w, i32_w]
                    rfl
                  refine take_ (i := 9) (N := some 24) (v := ?_) (a' := ?_) #[true, true, true, true, true, true, true, true, true, true, false, false, false, false, false, false, false, false, false, false, false, false, false, false, false, false, false, false, false, false, false, false, false, false, false, false, false, false, false, false, false, false, false, false, false, false, false, false, false, false, false, false, false, false] rfl rfl (take_ofW HT_.out HW_.out (by kernel_rfl)) (fun _ _ _ h => h) (Or.inl ⟨by rfl, ?_⟩) hHeld ?_ ?_
                  rotate_left
                  · rintro w' ⟨s0, s1, s2, s3, s4, s5, s6, s7, s8, s9, s10, s11, s12, s13, s14, s15, s16, s17, s18, s19, s20, s21, s22, s23, s24, s25, s26, s27, s28, s29, s30, s31, s32, s33, s34, s35, s36, s37, s38, s39, s40, s41, s42, s43, s44, s45, s46, s47, s48, s49, s50, s51, s52, s53, s54⟩
                    go_simp
                    with_reducible rfl
                  rotate_left
                  · simp only [Act.put, List.setIfInBounds_toArray, List.set_cons_zero, List.set_cons_succ, i64_w, i32_w]
                    rfl
                  refine take_ (i := 10) (N := some 25) (v := ?_) (a' := ?_) #[true, true, true, true, true, true, true, true, true, true, true, false, false, false, false, false, false, false, false, false, false, false, false, false, false, false, false, false, false, false, false, false, false, false, false, false, false, false, false, false, false, false, false, false, false, false, false, false, false, false, false, false, false, false] rfl rfl (take_ofW HT_.out HW_.out (by kernel_rfl)) (fun _ _ _ h => h) (Or.inl ⟨by rfl, ?_⟩) hHeld ?_ ?_
                  rotate_left
                  · rintro w' ⟨s0, s1, s2, s3, s4, s5, s6, s7, s8, s9, s10, s11, s12, s13, s14, s15, s16, s17, s18, s19, s20, s21, s22, s23, s24, s25, s26, s27, s28, s29, s30, s31, s32, s33, s34, s35, s36, s37, s38, s39, s40, s41, s42, s43, s44, s45, s46, s47, s48, s49, s50, s51, s52, s53, s54⟩
                    go_simp
                    with_reducible rfl
                  rotate_left
                  · simp only [Act.put, List.setIfInBounds_toArray, List.set_cons_zero, List.set_cons_succ, i64_w, i32_w]
                    rfl
                  refine take_ (i := 12) (N := some 27) (v := ?_) (a' := ?_) #[true, true, true, true, true, true, true, true, true, true, true, false, true, false, false, false, false, false, false, false, false, false, false, false, false, false, false, false, false, false, false, false, false, false, false, false, false, false, false, false, false, false, false, false, false, false, false, false, false, false, false, false, false, false] rfl rfl (take_ofW HT_.out HW_.out (by kernel_rfl)) (fun _ _ _ h => h) (Or.inl ⟨by rfl, ?_⟩) hHeld ?_ ?_
                  rotate_left
                  · rintro w' ⟨s0, s1, s2, s3, s4, s5, s6, s7, s8, s9, s10, s11, s12, s13, s14, s15, s16, s17, s18, s19, s20, s21, s22, s23, s24, s25, s26, s27, s28, s29, s30, s31, s32, s33, s34, s35, s36, s37, s38, s39, s40, s41, s42, s43, s44, s45, s46, s47, s48, s49, s50, s51, s52, s53, s54⟩
                    go_simp
                    with_reducible rfl
                  rotate_left
                  · simp only [Act.put, List.setIfInBounds_toArray, List.set_cons_zero, List.set_cons_succ, i64_w, i32_w]
                    rfl
                  refine one_ (i := 11) (N := some 26) #[true, true, true, true, true, true, true, true, true, true, true, true, true, false, false, false, false, false, false, false, false, false, false, false, false, false, false, false, false, false, false, false, false, false, false, false, false, false, false, false, false, false, false, false, false, false, false, false, false, false, false, false, false, false] rfl rfl (one_of HT_.out (by kernel_rfl)) (by decide) (fun K hK => ?_)
                  refine goes_ Tryd.func16 (by kernel_rfl) rfl #[.agg #[.string a1_0, .string a1_1, .string a1_2, .string a1_3, .int .i64 a1_4, .int .i64 a1_5, .int .i64 a1_6, .bool a1_7, .bool a1_8, .bool a1_9, .int .i64 a1_10], .agg #[.string a0_0, .string a0_1, .string a0_2, .string a0_3, .int .i64 a0_4, .int .i64 a0_5, .int .i64 a0_6, .bool a0_7, .bool a0_8, .bool a0_9, .int .i64 a0_10]] (by rfl) rfl rfl xg ?_
                  with_reducible refine (cookie_Greater.calls a1_0 a1_1 a1_2 a1_3 a1_4 a1_5 a1_6 a1_7 a1_8 a1_9 a1_10 a0_0 a0_1 a0_2 a0_3 a0_4 a0_5 a0_6 a0_7 a0_8 a0_9 a0_10 t292 t293 t294 t295 t296 t297 t298 t299 t300 t301 t302 _ A10.out).mono ?_
                  rintro e w86 ⟨rfl, hb⟩
                  refine ⟨_, rfl, ?_⟩
                  have n0_ := blkB BK253 hb
                  have n1_ := blkB BK254 hb
                  have n2_ := blkB BK255 hb
                  have n3_ := blkB BK267 hb
                  have n4_ := blkB BK279 hb
                  have n5_ := Aside0.mk (below_step xb hb)
                  clear BK253
                  clear BK254
                  clear BK255
                  clear BK267
                  clear BK279
                  clear HB
                  have BK253 := n0_
                  have BK254 := n1_
                  have BK255 := n2_
                  have BK267 := n3_
                  have BK279 := n4_
                  have HB := n5_
                  clear n0_ n1_ n2_ n3_ n4_ n5_
                  (try clear hb)
                  (try clear hb2)
                  (try clear hk)
                  (try clear hi)
                  refine hK.out _ _ xc (fun hHeld => ?_)
                  clear hK K
                  refine norm_ (a' := ?_) ?_ ?_
                  rotate_left
                  · show Act.put _ (some 26) _ = _
                    simp only [Act.put, List.setIfInBounds_toArray, List.set_cons_zero, List.set_cons_succ, i64_w, i32_w]
                    rfl
                  refine pure_ (i := 13) (N := some 28) (v := ?_) (a' := ?_) #[true, true, true, true, true, true, true, true, true, true, true, true, true, true, false, false, false, false, false, false, false, false, false, false, false, false, false, false, false, false, false, false, false, false, false, false, false, false, false, false, false, false, false, false, false, false, false, false, false, false, false, false, false, false] rfl rfl (any_of HT_.out (by kernel_rfl)) (fun _ _ _ h => h) (Or.inl ⟨by rfl, ?_⟩) ?_ ?_
                  rotate_left
                  · intro w'
                    go_simp
                    with_reducible rfl
                  rotate_left
                  · simp only [Act.put, List.setIfInBounds_toArray, List.set_cons_zero, List.set_cons_succ, i64_w, i32_w]
                    rfl
                  refine pure_ (i := 14) (N := some 29) (v := ?_) (a' := ?_) #[true, true, true, true, true, true, true, true, true, true, true, true, true, true, true, false, false, false, false, false, false, false, false, false, false, false, false, false, false, false, false, false, false, false, false, false, false, false, false, false, false, false, false, false, false, false, false, false, false, false, false, false, false, false] rfl rfl (any_of HT_.out (by kernel_rfl)) (fun _ _ _ h => h) (Or.inl ⟨by rfl, ?_⟩) ?_ ?_
                  rotate_left
                  · intro w'
                    go_simp
                    with_reducible rfl
                  rotate_left
                  · simp only [Act.put, List.setIfInBounds_toArray, List.set_cons_zero, List.set_cons_succ, i64_w, i32_w]
                    rfl
                  refine pure_ (i := 15) (N := some 30) (v := ?_) (a' := ?_) #[true, true, true, true, true, true, true, true, true, true, true, true, true, true, true, true, false, false, false, false, false, false, false, false, false, false, false, false, false, false, false, false, false, false, false, false, false, false, false, false, false, false, false, false, false, false, false, false, false, false, false, false, false, false] rfl rfl (any_of HT_.out (by kernel_rfl)) (fun _ _ _ h => h) (Or.inl ⟨by rfl, ?_⟩) ?_ ?_
                  rotate_left
                  · intro w'
                    go_simp
                    with_reducible rfl
                  rotate_left
                  · simp only [Act.put, List.setIfInBounds_toArray, List.set_cons_zero, List.set_cons_succ, i64_w, i32_w]
                    rfl
                  refine take_ (i := 16) (N := some 31) (v := ?_) (a' := ?_) #[true, true, true, true, true, true, true, true, true, true, true, true, true, true, true, true, true, false, false, false, false, false, false, false, false, false, false, false, false, false, false, false, false, false, false, false, false, false, false, false, false, false, false, false, false, false, false, false, false, false, false, false, false, false] rfl rfl (take_ofW HT_.out HW_.out (by kernel_rfl)) (fun _ _ _ h => h) (Or.inl ⟨by rfl, ?_⟩) hHeld ?_ ?_
                  rotate_left
                  · rintro w' ⟨s0, s1, s2, s3, s4, s5, s6, s7, s8, s9, s10, s11, s12, s13, s14, s15, s16, s17, s18, s19, s20, s21, s22, s23, s24, s25, s26, s27, s28, s29, s30, s31, s32, s33, s34, s35, s36, s37, s38, s39, s40, s41, s42, s43, s44, s45, s46, s47, s48, s49, s50, s51, s52, s53, s54⟩
                    go_simp
                    with_reducible rfl
                  rotate_left
                  · simp only [Act.put, List.setIfInBounds_toArray, List.set_cons_zero, List.set_cons_succ, i64_w, i32_w]
                    rfl
                  refine take_ (i := 17) (N := some 32) (v := ?_) (a' := ?_) #[true, true, true, true, true, true, true, true, true, true, true, true, true, true, true, true, true, true, false, false, false, false, false, false, false, false, false, false, false, false, false, false, false, false, false, false, false, false, false, false, false, false, false, false, false, false, false, false, false, false, false, false, false, false] rfl rfl (take_ofW HT_.out HW_.out (by kernel_rfl)) (fun _ _ _ h => h) (Or.inl ⟨by rfl, ?_⟩) hHeld ?_ ?_
                  rotate_left
                  · rintro w' ⟨s0, s1, s2, s3, s4, s5, s6, s7, s8, s9, s10, s11, s12, s13, s14, s15, s16, s17, s18, s19, s20, s21, s22, s23, s24, s25, s26, s27, s28, s29, s30, s31, s32, s33, s34, s35, s36, s37, s38, s39, s40, s41, s42, s43, s44, s45, s46, s47, s48, s49, s50, s51, s52, s53, s54⟩
                    go_simp
                    with_reducible rfl
                  rotate_left
                  · simp only [Act.put, List.setIfInBounds_toArray, List.set_cons_zero, List.set_cons_succ, i64_w, i32_w]
                    rfl
                  refine take_ (i := 19) (N := some 34) (v := ?_) (a' := ?_) #[true, true, true, true, true, true, true, true, true, true, true, true, true, true, true, true, true, true, false, true, false, false, false, false, false, false, false, false, false, false, false, false, false, false, false, false, false, false, false, false, false, false, false, false, false, false, false, false, false, false, false, false, false, false] rfl rfl (take_ofW HT_.out HW_.out (by kernel_rfl)) (fun _ _ _ h => h) (Or.inl ⟨by rfl, ?_⟩) hHeld ?_ ?_
                  rotate_left
                  · rintro w' ⟨s0, s1, s2, s3, s4, s5, s6, s7, s8, s9, s10, s11, s12, s13, s14, s15, s16, s17, s18, s19, s20, s21, s22, s23, s24, s25, s26, s27, s28, s29, s30, s31, s32, s33, s34, s35, s36, s37, s38, s39, s40, s41, s42, s43, s44, s45, s46, s47, s48, s49, s50, s51, s52, s53, s54⟩
                    go_simp
                    with_reducible rfl
                  rotate_left
                  · simp only [Act.put, List.setIfInBounds_toArray, List.set_cons_zero, List.set_cons_succ, i64_w, i32_w]
                    rfl
                  refine one_ (i := 18) (N := some 33) #[true, true, true, true, true, true, true, true, true, true, true, true, true, true, true, true, true, true, true, true, false, false, false, false, false, false, false, false, false, false, false, false, false, false, false, false, false, false, false, false, false, false, false, false, false, false, false, false, false, false, false, false, false, false] rfl rfl (one_of HT_.out (by kernel_rfl)) (by decide) (fun K hK => ?_)
                  refine goes_ Tryd.func16 (by kernel_rfl) rfl #[.agg #[.string a0_0, .string a0_1, .string a0_2, .string a0_3, .int .i64 a0_4, .int .i64 a0_5, .int .i64 a0_6, .bool a0_7, .bool a0_8, .bool a0_9, .int .i64 a0_10], .agg #[.string a0_0, .string a0_1, .string a0_2, .string a0_3, .int .i64 a0_4, .int .i64 a0_5, .int .i64 a0_6, .bool a0_7, .bool a0_8, .bool a0_9, .int .i64 a0_10]] (by rfl) rfl rfl xg ?_
                  with_reducible refine (cookie_Greater.calls a0_0 a0_1 a0_2 a0_3 a0_4 a0_5 a0_6 a0_7 a0_8 a0_9 a0_10 a0_0 a0_1 a0_2 a0_3 a0_4 a0_5 a0_6 a0_7 a0_8 a0_9 a0_10 t303 t304 t305 t306 t307 t308 t309 t310 t311 t312 t313 _ A12.out).mono ?_
                  rintro e w87 ⟨rfl, hb⟩
                  refine ⟨_, rfl, ?_⟩
                  have n0_ := blkB BK253 hb
                  have n1_ := blkB BK254 hb
                  have n2_ := blkB BK255 hb
                  have n3_ := blkB BK267 hb
                  have n4_ := blkB BK279 hb
                  have n5_ := Aside0.mk (below_step xb hb)
                  clear BK253
                  clear BK254
                  clear BK255
                  clear BK267
                  clear BK279
                  clear HB
                  have BK253 := n0_
                  have BK254 := n1_
                  have BK255 := n2_
                  have BK267 := n3_
                  have BK279 := n4_
                  have HB := n5_
                  clear n0_ n1_ n2_ n3_ n4_ n5_
                  (try clear hb)
                  (try clear hb2)
                  (try clear hk)
                  (try clear hi)
                  refine hK.out _ _ xc (fun hHeld => ?_)
                  clear hK K
                  refine norm_ (a' := ?_) ?_ ?_
                  rotate_left
                  · show Act.put _ (some 33) _ = _
                    simp only [Act.put, List.setIfInBounds_toArray, List.set_cons_zero, List.set_cons_succ, i64_w, i32_w]
                    rfl
                  refine pure_ (i := 20) (N := some 35) (v := ?_) (a' := ?_) #[true, true, true, true, true, true, true, true, true, true, true, true, true, true, true, true, true, true, true, true, true, false, false, false, false, false, false, false, false, false, false, false, false, false, false, false, false, false, false, false, false, false, false, false, false, false, false, false, false, false, false, false, false, false] rfl rfl (any_of HT_.out (by kernel_rfl)) (fun _ _ _ h => h) (Or.inl ⟨by rfl, ?_⟩) ?_ ?_
                  rotate_left
                  · intro w'
                    go_simp
                    with_reducible rfl
                  rotate_left
                  · simp only [Act.put, List.setIfInBounds_toArray, List.set_cons_zero, List.set_cons_succ, i64_w, i32_w]
                    rfl
                  refine pure_ (i := 21) (N := some 36) (v := ?_) (a' := ?_) #[true, true, true, true, true, true, true, true, true, true, true, true, true, true, true, true, true, true, true, true, true, true, false, false, false, false, false, false, false, false, false, false, false, false, false, false, false, false, false, false, false, false, false, false, false, false, false, false, false, false, false, false, false, false] rfl rfl (any_of HT_.out (by kernel_rfl)) (fun _ _ _ h => h) (Or.inl ⟨by rfl, ?_⟩) ?_ ?_
                  rotate_left
                  · intro w'
                    go_simp
                    with_reducible rfl
                  rotate_left
                  · simp only [Act.put, List.setIfInBounds_toArray, List.set_cons_zero, List.set_cons_succ, i64_w, i32_w]
                    rfl
                  refine pure_ (i := 22) (N := some 37) (v := ?_) (a' := ?_) #[true, true, true, true, true, true, true, true, true, true, true, true, true, true, true, true, true, true, true, true, true, true, true, false, false, false, false, false, false, false, false, false, false, false, false, false, false, false, false, false, false, false, false, false, false, false, false, false, false, false, false, false, false, false] rfl rfl (any_of HT_.out (by kernel_rfl)) (fun _ _ _ h => h) (Or.inl ⟨by rfl, ?_⟩) ?_ ?_
                  rotate_left
                  · intro w'
                    go_simp
                    with_reducible rfl
                  rotate_left
                  · simp only [Act.put, List.setIfInBounds_toArray, List.set_cons_zero, List.set_cons_succ, i64_w, i32_w]
                    rfl
                  refine take_ (i := 23) (N := some 38) (v := ?_) (a' := ?_) #[true, true, true, true, true, true, true, true, true, true, true, true, true, true, true, true, true, true, true, true, true, true, true, true, false, false, false, false, false, false, false, false, false, false, false, false, false, false, false, false, false, false, false, false, false, false, false, false, false, false, false, false, false, false] rfl rfl (take_ofW HT_.out HW_.out (by kernel_rfl)) (fun _ _ _ h => h) (Or.inl ⟨by rfl, ?_⟩) hHeld ?_ ?_
                  rotate_left
                  · rintro w' ⟨s0, s1, s2, s3, s4, s5, s6, s7, s8, s9, s10, s11, s12, s13, s14, s15, s16, s17, s18, s19, s20, s21, s22, s23, s24, s25, s26, s27, s28, s29, s30, s31, s32, s33, s34, s35, s36, s37, s38, s39, s40, s41, s42, s43, s44, s45, s46, s47, s48, s49, s50, s51, s52, s53, s54⟩
                    go_simp
                    with_reducible rfl
                  rotate_left
                  · simp only [Act.put, List.setIfInBounds_toArray, List.set_cons_zero, List.set_cons_succ, i64_w, i32_w]
                    rfl
                  refine take_ (i := 24) (N := some 39) (v := ?_) (a' := ?_) #[true, true, true, true, true, true, true, true, true, true, true, true, true, true, true, true, true, true, true, true, true, true, true, true, true, false, false, false, false, false, false, false, false, false, false, false, false, false, false, false, false, false, false, false, false, false, false, false, false, false, false, false, false, false] rfl rfl (take_ofW HT_.out HW_.out (by kernel_rfl)) (fun _ _ _ h => h) (Or.inl ⟨by rfl, ?_⟩) hHeld ?_ ?_
                  rotate_left
                  · rintro w' ⟨s0, s1, s2, s3, s4, s5, s6, s7, s8, s9, s10, s11, s12, s13, s14, s15, s16, s17, s18, s19, s20, s21, s22, s23, s24, s25, s26, s27, s28, s29, s30, s31, s32, s33, s34, s35, s36, s37, s38, s39, s40, s41, s42, s43, s44, s45, s46, s47, s48, s49, s50, s51, s52, s53, s54⟩
                    go_simp
                    with_reducible rfl
                  rotate_left
                  · simp only [Act.put, List.setIfInBounds_toArray, List.set_cons_zero, List.set_cons_succ, i64_w, i32_w]
                    rfl
                  refine pure_ (i := 25) (N := some 40) (v := ?_) (a' := ?_) #[true, true, true, true, true, true, true, true, true, true, true, true, true, true, true, true, true, true, true, true, true, true, true, true, true, true, false, false, false, false, false, false, false, false, false, false, false, false, false, false, false, false, false, false, false, false, false, false, false, false, false, false, false, false] rfl rfl (any_of HT_.out (by kernel_rfl)) (fun _ _ _ h => h) (Or.inl ⟨by rfl, ?_⟩) ?_ ?_
                  rotate_left
                  · intro w'
                    go_simp
                    with_reducible rfl
                  rotate_left
                  · simp only [Act.put, List.setIfInBounds_toArray, List.set_cons_zero, List.set_cons_succ, i64_w, i32_w]
                    rfl
                  refine pure_ (i := 26) (N := some 41) (v := ?_) (a' := ?_) #[true, true, true, true, true, true, true, true, true, true, true, true, true, true, true, true, true, true, true, true, true, true, true, true, true, true, true, false, false, false, false, false, false, false, false, false, false, false, false, false, false, false, false, false, false, false, false, false, false, false, false, false, false, false] rfl rfl (any_of HT_.out (by kernel_rfl)) (fun _ _ _ h => h) (Or.inl ⟨by rfl, ?_⟩) ?_ ?_
                  rotate_left
                  · intro w'
                    go_simp
                    with_reducible rfl
                  rotate_left
                  · simp only [Act.put, List.setIfInBounds_toArray, List.set_cons_zero, List.set_cons_succ, i64_w, i32_w]
                    rfl
                  refine take_ (i := 27) (N := some 42) (v := ?_) (a' := ?_) #[true, true, true, true, true, true, true, true, true, true, true, true, true, true, true, true, true, true, true, true, true, true, true, true, true, true, true, true, false, false, false, false, false, false, false, false, false, false, false, false, false, false, false, false, false, false, false, false, false, false, false, false, false, false] rfl rfl (take_ofW HT_.out HW_.out (by kernel_rfl)) (fun _ _ _ h => h) (Or.inl ⟨by rfl, ?_⟩) hHeld ?_ ?_
                  rotate_left
                  · rintro w' ⟨s0, s1, s2, s3, s4, s5, s6, s7, s8, s9, s10, s11, s12, s13, s14, s15, s16, s17, s18, s19, s20, s21, s22, s23, s24, s25, s26, s27, s28, s29, s30, s31, s32, s33, s34, s35, s36, s37, s38, s39, s40, s41, s42, s43, s44, s45, s46, s47, s48, s49, s50, s51, s52, s53, s54⟩
                    go_simp
                    with_reducible rfl
                  rotate_left
                  · simp only [Act.put, List.setIfInBounds_toArray, List.set_cons_zero, List.set_cons_succ, i64_w, i32_w]
                    rfl
                  refine take_ (i := 28) (N := some 43) (v := ?_) (a' := ?_) #[true, true, true, true, true, true, true, true, true, true, true, true, true, true, true, true, true, true, true, true, true, true, true, true, true, true, true, true, true, false, false, false, false, false, false, false, false, false, false, false, false, false, false, false, false, false, false, false, false, false, false, false, false, false] rfl rfl (take_ofW HT_.out HW_.out (by kernel_rfl)) (fun _ _ _ h => h) (Or.inl ⟨by rfl, ?_⟩) hHeld ?_ ?_
                  rotate_left
                  · rintro w' ⟨s0, s1, s2, s3, s4, s5, s6, s7, s8, s9, s10, s11, s12, s13, s14, s15, s16, s17, s18, s19, s20, s21, s22, s23, s24, s25, s26, s27, s28, s29, s30, s31, s32, s33, s34, s35, s36, s37, s38, s39, s40, s41, s42, s43, s44, s45, s46, s47, s48, s49, s50, s51, s52, s53, s54⟩
                    go_simp
                    with_reducible rfl
                  rotate_left
                  · simp only [Act.put, List.setIfInBounds_toArray, List.set_cons_zero, List.set_cons_succ, i64_w, i32_w]
                    rfl
                  refine pure_ (i := 29) (N := some 44) (v := ?_) (a' := ?_) #[true, true, true, true, true, true, true, true, true, true, true, true, true, true, true, true, true, true, true, true, true, true, true, true, true, true, true, true, true, true, false, false, false, false, false, false, false, false, false, false, false, false, false, false, false, false, false, false, false, false, false, false, false, false] rfl rfl (any_of HT_.out (by kernel_rfl)) (fun _ _ _ h => h) (Or.inl ⟨by rfl, ?_⟩) ?_ ?_
                  rotate_left
                  · intro w'
                    go_simp
                    with_reducible rfl
                  rotate_left
                  · simp only [Act.put, List.setIfInBounds_toArray, List.set_cons_zero, List.set_cons_succ, i64_w, i32_w]
                    rfl
                  refine pure_ (i := 30) (N := some 45) (v := ?_) (a' := ?_) #[true, true, true, true, true, true, true, true, true, true, true, true, true, true, true, true, true, true, true, true, true, true, true, true, true, true, true, true, true, true, true, false, false, false, false, false, false, false, false, false, false, false, false, false, false, false, false, false, false, false, false, false, false, false] rfl rfl (any_of HT_.out (by kernel_rfl)) (fun _ _ _ h => h) (Or.inl ⟨by rfl, ?_⟩) ?_ ?_
                  rotate_left
                  · intro w'
                    go_simp
                    with_reducible rfl
                  rotate_left
                  · simp only [Act.put, List.setIfInBounds_toArray, List.set_cons_zero, List.set_cons_succ, i64_w, i32_w]
                    rfl
                  refine pure_ (i := 31) (N := some 46) (v := ?_) (a' := ?_) #[true, true, true, true, true, true, true, true, true, true, true, true, true, true, true, true, true, true, true, true, true, true, true, true, true, true, true, true, true, true, true, true, false, false, false, false, false, false, false, false, false, false, false, false, false, false, false, false, false, false, false, false, false, false] rfl rfl (any_of HT_.out (by kernel_rfl)) (fun _ _ _ h => h) (Or.inl ⟨by rfl, ?_⟩) ?_ ?_
                  rotate_left
                  · intro w'
                    go_simp
                    with_reducible rfl
                  rotate_left
                  · simp only [Act.put, List.setIfInBounds_toArray, List.set_cons_zero, List.set_cons_succ, i64_w, i32_w]
                    rfl
                  refine pure_ (i := 32) (N := some 47) (v := ?_) (a' := ?_) #[true, true, true, true, true, true, true, true, true, true, true, true, true, true, true, true, true, true, true, true, true, true, true, true, true, true, true, true, true, true, true, true, true, false, false, false, false, false, false, false, false, false, false, false, false, false, false, false, false, false, false, false, false, false] rfl rfl (any_of HT_.out (by kernel_rfl)) (fun _ _ _ h => h) (Or.inl ⟨by rfl, ?_⟩) ?_ ?_
                  rotate_left
                  · intro w'
                    go_simp
                    with_reducible rfl
                  rotate_left
                  · simp only [Act.put, List.setIfInBounds_toArray, List.set_cons_zero, List.set_cons_succ, i64_w, i32_w]
                    rfl
                  refine take_ (i := 33) (N := some 48) (v := ?_) (a' := ?_) #[true, true, true, true, true, true, true, true, true, true, true, true, true, true, true, true, true, true, true, true, true, true, true, true, true, true, true, true, true, true, true, true, true, true, false, false, false, false, false, false, false, false, false, false, false, false, false, false, false, false, false, false, false, false] rfl rfl (take_ofW HT_.out HW_.out (by kernel_rfl)) (fun _ _ _ h => h) (Or.inl ⟨by rfl, ?_⟩) hHeld ?_ ?_
                  rotate_left
                  · rintro w' ⟨s0, s1, s2, s3, s4, s5, s6, s7, s8, s9, s10, s11, s12, s13, s14, s15, s16, s17, s18, s19, s20, s21, s22, s23, s24, s25, s26, s27, s28, s29, s30, s31, s32, s33, s34, s35, s36, s37, s38, s39, s40, s41, s42, s43, s44, s45, s46, s47, s48, s49, s50, s51, s52, s53, s54⟩
                    go_simp
                    with_reducible rfl
                  rotate_left
                  · simp only [Act.put, List.setIfInBounds_toArray, List.set_cons_zero, List.set_cons_succ, i64_w, i32_w]
                    rfl
                  refine take_ (i := 34) (N := some 49) (v := ?_) (a' := ?_) #[true, true, true, true, true, true, true, true, true, true, true, true, true, true, true, true, true, true, true, true, true, true, true, true, true, true, true, true, true, true, true, true, true, true, true, false, false, false, false, false, false, false, false, false, false, false, false, false, false, false, false, false, false, false] rfl rfl (take_ofW HT_.out HW_.out (by kernel_rfl)) (fun _ _ _ h => h) (Or.inl ⟨by rfl, ?_⟩) hHeld ?_ ?_
                  rotate_left
                  · rintro w' ⟨s0, s1, s2, s3, s4, s5, s6, s7, s8, s9, s10, s11, s12, s13, s14, s15, s16, s17, s18, s19, s20, s21, s22, s23, s24, s25, s26, s27, s28, s29, s30, s31, s32, s33, s34, s35, s36, s37, s38, s39, s40, s41, s42, s43, s44, s45, s46, s47, s48, s49, s50, s51, s52, s53, s54⟩
                    go_simp
                    with_reducible rfl
                  rotate_left
                  · simp only [Act.put, List.setIfInBounds_toArray, List.set_cons_zero, List.set_cons_succ, i64_w, i32_w]
                    rfl
                  refine one_ (i := 35) (N := some 50) #[true, true, true, true, true, true, true, true, true, true, true, true, true, true, true, true, true, true, true, true, true, true, true, true, true, true, true, true, true, true, true, true, true, true, true, true, false, false, false, false, false, false, false, false, false, false, false, false, false, false, false, false, false, false] rfl rfl (one_of HT_.out (by kernel_rfl)) (by decide) (fun K hK => ?_)
                  refine goes_ Tryd.func14 (by kernel_rfl) rfl #[.agg #[.string t256, .string t257, .string t258, .string t259, .int .i64 t260, .int .i64 t261, .int .i64 t262, .bool t263, .bool t264, .bool t265, .int .i64 t266], .agg #[.string a0_0, .string a0_1, .string a0_2, .string a0_3, .int .i64 a0_4, .int .i64 a0_5, .int .i64 a0_6, .bool a0_7, .bool a0_8, .bool a0_9, .int .i64 a0_10]] (by rfl) rfl rfl xg ?_
                  with_reducible refine (cookie_Cmp.calls t256 t257 t258 t259 t260 t261 t262 t263 t264 t265 t266 a0_0 a0_1 a0_2 a0_3 a0_4 a0_5 a0_6 a0_7 a0_8 a0_9 a0_10 t338 _ A54.out).mono ?_
                  rintro e w88 ⟨rfl, hb⟩
                  refine ⟨_, rfl, ?_⟩
                  have n0_ := blkB BK253 hb
                  have n1_ := blkB BK254 hb
                  have n2_ := blkB BK255 hb
                  have n3_ := blkB BK267 hb
                  have n4_ := blkB BK279 hb
                  have n5_ := Aside0.mk (below_step xb hb)
                  clear BK253
                  clear BK254
                  clear BK255
                  clear BK267
                  clear BK279
                  clear HB
                  have BK253 := n0_
                  have BK254 := n1_
                  have BK255 := n2_
                  have BK267 := n3_
                  have BK279 := n4_
                  have HB := n5_
                  clear n0_ n1_ n2_ n3_ n4_ n5_
                  (try clear hb)
                  (try clear hb2)
                  (try clear hk)
                  (try clear hi)
                  refine hK.out _ _ xc (fun hHeld => ?_)
                  clear hK K
                  refine norm_ (a' := ?_) ?_ ?_
                  rotate_left
                  · show Act.put _ (some 50) _ = _
                    simp only [Act.put, List.setIfInBounds_toArray, List.set_cons_zero, List.set_cons_succ, i64_w, i32_w]
                    rfl
                  refine pure_ (i := 36) (N := some 51) (v := ?_) (a' := ?_) #[true, true, true, true, true, true, true, true, true, true, true, true, true, true, true, true, true, true, true, true, true, true, true, true, true, true, true, true, true, true, true, true, true, true, true, true, true, false, false, false, false, false, false, false, false, false, false, false, false, false, false, false, false, false] rfl rfl (any_of HT_.out (by kernel_rfl)) (fun _ _ _ h => h) (Or.inl ⟨by rfl, ?_⟩) ?_ ?_
                  rotate_left
                  · intro w'
                    go_simp
                    with_reducible rfl
                  rotate_left
                  · simp only [Act.put, List.setIfInBounds_toArray, List.set_cons_zero, List.set_cons_succ, i64_w, i32_w]
                    rfl
                  refine pure_ (i := 37) (N := some 52) (v := ?_) (a' := ?_) #[true, true, true, true, true, true, true, true, true, true, true, true, true, true, true, true, true, true, true, true, true, true, true, true, true, true, true, true, true, true, true, true, true, true, true, true, true, true, false, false, false, false, false, false, false, false, false, false, false, false, false, false, false, false] rfl rfl (any_of HT_.out (by kernel_rfl)) (fun _ _ _ h => h) (Or.inl ⟨by rfl, ?_⟩) ?_ ?_
                  rotate_left
                  · intro w'
                    go_simp
                    with_reducible rfl
                  rotate_left
                  · simp only [Act.put, List.setIfInBounds_toArray, List.set_cons_zero, List.set_cons_succ, i64_w, i32_w]
                    rfl
                  refine pure_ (i := 38) (N := some 53) (v := ?_) (a' := ?_) #[true, true, true, true, true, true, true, true, true, true, true, true, true, true, true, true, true, true, true, true, true, true, true, true, true, true, true, true, true, true, true, true, true, true, true, true, true, true, true, false, false, false, false, false, false, false, false, false, false, false, false, false, false, false] rfl rfl (any_of HT_.out (by kernel_rfl)) (fun _ _ _ h => h) (Or.inl ⟨by rfl, ?_⟩) ?_ ?_
                  rotate_left
                  · intro w'
                    go_simp
                    with_reducible rfl
                  rotate_left
                  · simp only [Act.put, List.setIfInBounds_toArray, List.set_cons_zero, List.set_cons_succ, i64_w, i32_w]
                    rfl
                  refine take_ (i := 39) (N := some 54) (v := ?_) (a' := ?_) #[true, true, true, true, true, true, true, true, true, true, true, true, true, true, true, true, true, true, true, true, true, true, true, true, true, true, true, true, true, true, true, true, true, true, true, true, true, true, true, true, false, false, false, false, false, false, false, false, false, false, false, false, false, false] rfl rfl (take_ofW HT_.out HW_.out (by kernel_rfl)) (fun _ _ _ h => h) (Or.inl ⟨by rfl, ?_⟩) hHeld ?_ ?_
                  rotate_left
                  · rintro w' ⟨s0, s1, s2, s3, s4, s5, s6, s7, s8, s9, s10, s11, s12, s13, s14, s15, s16, s17, s18, s19, s20, s21, s22, s23, s24, s25, s26, s27, s28, s29, s30, s31, s32, s33, s34, s35, s36, s37, s38, s39, s40, s41, s42, s43, s44, s45, s46, s47, s48, s49, s50, s51, s52, s53, s54⟩
                    go_simp
                    with_reducible rfl
                  rotate_left
                  · simp only [Act.put, List.setIfInBounds_toArray, List.set_cons_zero, List.set_cons_succ, i64_w, i32_w]
                    rfl
                  refine take_ (i := 40) (N := some 55) (v := ?_) (a' := ?_) #[true, true, true, true, true, true, true, true, true, true, true, true, true, true, true, true, true, true, true, true, true, true, true, true, true, true, true, true, true, true, true, true, true, true, true, true, true, true, true, true, true, false, false, false, false, false, false, false, false, false, false, false, false, false] rfl rfl (take_ofW HT_.out HW_.out (by kernel_rfl)) (fun _ _ _ h => h) (Or.inl ⟨by rfl, ?_⟩) hHeld ?_ ?_
                  rotate_left
                  · rintro w' ⟨s0, s1, s2, s3, s4, s5, s6, s7, s8, s9, s10, s11, s12, s13, s14, s15, s16, s17, s18, s19, s20, s21, s22, s23, s24, s25, s26, s27, s28, s29, s30, s31, s32, s33, s34, s35, s36, s37, s38, s39, s40, s41, s42, s43, s44, s45, s46, s47, s48, s49, s50, s51, s52, s53, s54⟩
                    go_simp
                    with_reducible rfl
                  rotate_left
                  · simp only [Act.put, List.setIfInBounds_toArray, List.set_cons_zero, List.set_cons_succ, i64_w, i32_w]
                    rfl
                  refine one_ (i := 41) (N := some 56) #[true, true, true, true, true, true, true, true, true, true, true, true, true, true, true, true, true, true, true, true, true, true, true, true, true, true, true, true, true, true, true, true, true, true, true, true, true, true, true, true, true, true, false, false, false, false, false, false, false, false, false, false, false, false] rfl rfl (one_of HT_.out (by kernel_rfl)) (by decide) (fun K hK => ?_)
                  refine goes_ Tryd.func14 (by kernel_rfl) rfl #[.agg #[.string t256, .string t257, .string t258, .string t259, .int .i64 t260, .int .i64 t261, .int .i64 t262, .bool t263, .bool t264, .bool t265, .int .i64 t266], .agg #[.string a1_0, .string a1_1, .string a1_2, .string a1_3, .int .i64 a1_4, .int .i64 a1_5, .int .i64 a1_6, .bool a1_7, .bool a1_8, .bool a1_9, .int .i64 a1_10]] (by rfl) rfl rfl xg ?_
                  with_reducible refine (cookie_Cmp.calls t256 t257 t258 t259 t260 t261 t262 t263 t264 t265 t266 a1_0 a1_1 a1_2 a1_3 a1_4 a1_5 a1_6 a1_7 a1_8 a1_9 a1_10 t339 _ A56.out).mono ?_
                  rintro e w89 ⟨rfl, hb⟩
                  refine ⟨_, rfl, ?_⟩
                  have n0_ := blkB BK253 hb
                  have n1_ := blkB BK254 hb
                  have n2_ := blkB BK255 hb
                  have n3_ := blkB BK267 hb
                  have n4_ := blkB BK279 hb
                  have n5_ := Aside0.mk (below_step xb hb)
                  clear BK253
                  clear BK254
                  clear BK255
                  clear BK267
                  clear BK279
                  clear HB
                  have BK253 := n0_
                  have BK254 := n1_
                  have BK255 := n2_
                  have BK267 := n3_
                  have BK279 := n4_
                  have HB := n5_
                  clear n0_ n1_ n2_ n3_ n4_ n5_
                  (try clear hb)
                  (try clear hb2)
                  (try clear hk)
                  (try clear hi)
                  refine hK.out _ _ xc (fun hHeld => ?_)
                  clear hK K
                  refine norm_ (a' := ?_) ?_ ?_
                  rotate_left
                  · show Act.put _ (some 56) _ = _
                    simp only [Act.put, List.setIfInBounds_toArray, List.set_cons_zero, List.set_cons_succ, i64_w, i32_w]
                    rfl
                  refine pure_ (i := 42) (N := some 57) (v := ?_) (a' := ?_) #[true, true, true, true, true, true, true, true, true, true, true, true, true, true, true, true, true, true, true, true, true, true, true, true, true, true, true, true, true, true, true, true, true, true, true, true, true, true, true, true, true, true, true, false, false, false, false, false, false, false, false, false, false, false] rfl rfl (any_of HT_.out (by kernel_rfl)) (fun _ _ _ h => h) (Or.inl ⟨by rfl, ?_⟩) ?_ ?_
                  rotate_left
                  · intro w'
                    go_simp
                    with_reducible rfl
                  rotate_left
                  · simp only [Act.put, List.setIfInBounds_toArray, List.set_cons_zero, List.set_cons_succ, i64_w, i32_w]
                    rfl
                  refine pure_ (i := 43) (N := some 58) (v := ?_) (a' := ?_) #[true, true, true, true, true, true, true, true, true, true, true, true, true, true, true, true, true, true, true, true, true, true, true, true, true, true, true, true, true, true, true, true, true, true, true, true, true, true, true, true, true, true, true, true, false, false, false, false, false, false, false, false, false, false] rfl rfl (any_of HT_.out (by kernel_rfl)) (fun _ _ _ h => h) (Or.inl ⟨by rfl, ?_⟩) ?_ ?_
                  rotate_left
                  · intro w'
                    go_simp
                    with_reducible rfl
                  rotate_left
                  · simp only [Act.put, List.setIfInBounds_toArray, List.set_cons_zero, List.set_cons_succ, i64_w, i32_w]
                    rfl
                  refine pure_ (i := 44) (N := some 59) (v := ?_) (a' := ?_) #[true, true, true, true, true, true, true, true, true, true, true, true, true, true, true, true, true, true, true, true, true, true, true, true, true, true, true, true, true, true, true, true, true, true, true, true, true, true, true, true, true, true, true, true, true, false, false, false, false, false, false, false, false, false] rfl rfl (any_of HT_.out (by kernel_rfl)) (fun _ _ _ h => h) (Or.inl ⟨by rfl, ?_⟩) ?_ ?_
                  rotate_left
                  · intro w'
                    go_simp
                    with_reducible rfl
                  rotate_left
                  · simp only [Act.put, List.setIfInBounds_toArray, List.set_cons_zero, List.set_cons_succ, i64_w, i32_w]
                    rfl
                  refine take_ (i := 45) (N := some 60) (v := ?_) (a' := ?_) #[true, true, true, true, true, true, true, true, true, true, true, true, true, true, true, true, true, true, true, true, true, true, true, true, true, true, true, true, true, true, true, true, true, true, true, true, true, true, true, true, true, true, true, true, true, true, false, false, false, false, false, false, false, false] rfl rfl (take_ofW HT_.out HW_.out (by kernel_rfl)) (fun _ _ _ h => h) (Or.inl ⟨by rfl, ?_⟩) hHeld ?_ ?_
                  rotate_left
                  · rintro w' ⟨s0, s1, s2, s3, s4, s5, s6, s7, s8, s9, s10, s11, s12, s13, s14, s15, s16, s17, s18, s19, s20, s21, s22, s23, s24, s25, s26, s27, s28, s29, s30, s31, s32, s33, s34, s35, s36, s37, s38, s39, s40, s41, s42, s43, s44, s45, s46, s47, s48, s49, s50, s51, s52, s53, s54⟩
                    go_simp
                    with_reducible rfl
                  rotate_left
                  · simp only [Act.put, List.setIfInBounds_toArray, List.set_cons_zero, List.set_cons_succ, i64_w, i32_w]
                    rfl
                  refine take_ (i := 46) (N := some 61) (v := ?_) (a' := ?_) #[true, true, true, true, true, true, true, true, true, true, true, true, true, true, true, true, true, true, true, true, true, true, true, true, true, true, true, true, true, true, true, true, true, true, true, true, true, true, true, true, true, true, true, true, true, true, true, false, false, false, false, false, false, false] rfl rfl (take_ofW HT_.out HW_.out (by kernel_rfl)) (fun _ _ _ h => h) (Or.inl ⟨by rfl, ?_⟩) hHeld ?_ ?_
                  rotate_left
                  · rintro w' ⟨s0, s1, s2, s3, s4, s5, s6, s7, s8, s9, s10, s11, s12, s13, s14, s15, s16, s17, s18, s19, s20, s21, s22, s23, s24, s25, s26, s27, s28, s29, s30, s31, s32, s33, s34, s35, s36, s37, s38, s39, s40, s41, s42, s43, s44, s45, s46, s47, s48, s49, s50, s51, s52, s53, s54⟩
                    go_simp
                    with_reducible rfl
                  rotate_left
                  · simp only [Act.put, List.setIfInBounds_toArray, List.set_cons_zero, List.set_cons_succ, i64_w, i32_w]
                    rfl
                  refine take_ (i := 47) (N := some 62) (v := ?_) (a' := ?_) #[true, true, true, true, true, true, true, true, true, true, true, true, true, true, true, true, true, true, true, true, true, true, true, true, true, true, true, true, true, true, true, true, true, true, true, true, true, true, true, true, true, true, true, true, true, true, true, true, false, false, false, false, false, false] rfl rfl (take_ofW HT_.out HW_.out (by kernel_rfl)) (fun _ _ _ h => h) (Or.inl ⟨by rfl, ?_⟩) hHeld ?_ ?_
                  rotate_left
                  · rintro w' ⟨s0, s1, s2, s3, s4, s5, s6, s7, s8, s9, s10, s11, s12, s13, s14, s15, s16, s17, s18, s19, s20, s21, s22, s23, s24, s25, s26, s27, s28, s29, s30, s31, s32, s33, s34, s35, s36, s37, s38, s39, s40, s41, s42, s43, s44, s45, s46, s47, s48, s49, s50, s51, s52, s53, s54⟩
                    go_simp
                    with_reducible rfl
                  rotate_left
                  · simp only [Act.put, List.setIfInBounds_toArray, List.set_cons_zero, List.set_cons_succ, i64_w, i32_w]
                    rfl
                  refine take_ (i := 50) (N := some 65) (v := ?_) (a' := ?_) #[true, true, true, true, true, true, true, true, true, true, true, true, true, true, true, true, true, true, true, true, true, true, true, true, true, true, true, true, true, true, true, true, true, true, true, true, true, true, true, true, true, true, true, true, true, true, true, true, false, false, true, false, false, false] rfl rfl (take_ofW HT_.out HW_.out (by kernel_rfl)) (fun _ _ _ h => h) (Or.inl ⟨by rfl, ?_⟩) hHeld ?_ ?_
                  rotate_left
                  · rintro w' ⟨s0, s1, s2, s3, s4, s5, s6, s7, s8, s9, s10, s11, s12, s13, s14, s15, s16, s17, s18, s19, s20, s21, s22, s23, s24, s25, s26, s27, s28, s29, s30, s31, s32, s33, s34, s35, s36, s37, s38, s39, s40, s41, s42, s43, s44, s45, s46, s47, s48, s49, s50, s51, s52, s53, s54⟩
                    go_simp
                    with_reducible rfl
                  rotate_left
                  · simp only [Act.put, List.setIfInBounds_toArray, List.set_cons_zero, List.set_cons_succ, i64_w, i32_w]
                    rfl
                  refine one_ (i := 48) (N := some 63) #[true, true, true, true, true, true, true, true, true, true, true, true, true, true, true, true, true, true, true, true, true, true, true, true, true, true, true, true, true, true, true, true, true, true, true, true, true, true, true, true, true, true, true, true, true, true, true, true, true, false, true, false, false, false] rfl rfl (one_of HT_.out (by kernel_rfl)) (by decide) (fun K hK => ?_)
                  refine goes_ Tryd.func16 (by kernel_rfl) rfl #[.agg #[.string a1_0, .string a1_1, .string a1_2, .string a1_3, .int .i64 a1_4, .int .i64 a1_5, .int .i64 a1_6, .bool a1_7, .bool a1_8, .bool a1_9, .int .i64 a1_10], .agg #[.string a2_0, .string a2_1, .string a2_2, .string a2_3, .int .i64 a2_4, .int .i64 a2_5, .int .i64 a2_6, .bool a2_7, .bool a2_8, .bool a2_9, .int .i64 a2_10]] (by rfl) rfl rfl xg ?_
                  with_reducible refine (cookie_Greater.calls a1_0 a1_1 a1_2 a1_3 a1_4 a1_5 a1_6 a1_7 a1_8 a1_9 a1_10 a2_0 a2_1 a2_2 a2_3 a2_4 a2_5 a2_6 a2_7 a2_8 a2_9 a2_10 t340 t341 t342 t343 t344 t345 t346 t347 t348 t349 t350 _ A58.out).mono ?_
                  rintro e w90 ⟨rfl, hb⟩
                  refine ⟨_, rfl, ?_⟩
                  have n0_ := blkB BK253 hb
                  have n1_ := blkB BK254 hb
                  have n2_ := blkB BK255 hb
                  have n3_ := blkB BK267 hb
                  have n4_ := blkB BK279 hb
                  have n5_ := Aside0.mk (below_step xb hb)
                  clear BK253
                  clear BK254
                  clear BK255
                  clear BK267
                  clear BK279
                  clear HB
                  have BK253 := n0_
                  have BK254 := n1_
                  have BK255 := n2_
                  have BK267 := n3_
                  have BK279 := n4_
                  have HB := n5_
                  clear n0_ n1_ n2_ n3_ n4_ n5_
                  (try clear hb)
                  (try clear hb2)
                  (try clear hk)
                  (try clear hi)
                  refine hK.out _ _ xc (fun hHeld => ?_)
                  clear hK K
                  refine norm_ (a' := ?_) ?_ ?_
                  rotate_left
                  · show Act.put _ (some 63) _ = _
                    simp only [Act.put, List.setIfInBounds_toArray, List.set_cons_zero, List.set_cons_succ, i64_w, i32_w]
                    rfl
                  refine one_ (i := 49) (N := some 64) #[true, true, true, true, true, true, true, true, true, true, true, true, true, true, true, true, true, true, true, true, true, true, true, true, true, true, true, true, true, true, true, true, true, true, true, true, true, true, true, true, true, true, true, true, true, true, true, true, true, true, true, false, false, false] rfl rfl (one_of HT_.out (by kernel_rfl)) (by decide) (fun K hK => ?_)
                  refine goes_ Tryd.func16 (by kernel_rfl) rfl #[.agg #[.string a0_0, .string a0_1, .string a0_2, .string a0_3, .int .i64 a0_4, .int .i64 a0_5, .int .i64 a0_6, .bool a0_7, .bool a0_8, .bool a0_9, .int .i64 a0_10], .agg #[.string t340, .string t341, .string t342, .string t343, .int .i64 t344, .int .i64 t345, .int .i64 t346, .bool t347, .bool t348, .bool t349, .int .i64 t350]] (by rfl) rfl rfl xg ?_
                  with_reducible refine (cookie_Greater.calls a0_0 a0_1 a0_2 a0_3 a0_4 a0_5 a0_6 a0_7 a0_8 a0_9 a0_10 t340 t341 t342 t343 t344 t345 t346 t347 t348 t349 t350 t351 t352 t353 t354 t355 t356 t357 t358 t359 t360 t361 _ A59.out).mono ?_
                  rintro e w91 ⟨rfl, hb⟩
                  refine ⟨_, rfl, ?_⟩
                  have n0_ := blkB BK253 hb
                  have n1_ := blkB BK254 hb
                  have n2_ := blkB BK255 hb
                  have n3_ := blkB BK267 hb
                  have n4_ := blkB BK279 hb
                  have n5_ := Aside0.mk (below_step xb hb)
                  clear BK253
                  clear BK254
                  clear BK255
                  clear BK267
                  clear BK279
                  clear HB
                  have BK253 := n0_
                  have BK254 := n1_
                  have BK255 := n2_
                  have BK267 := n3_
                  have BK279 := n4_
                  have HB := n5_
                  clear n0_ n1_ n2_ n3_ n4_ n5_
                  (try clear hb)
                  (try clear hb2)
                  (try clear hk)
                  (try clear hi)
                  refine hK.out _ _ xc (fun hHeld => ?_)
                  clear hK K
                  refine norm_ (a' := ?_) ?_ ?_
                  rotate_left
                  · show Act.put _ (some 64) _ = _
                    simp only [Act.put, List.setIfInBounds_toArray, List.set_cons_zero, List.set_cons_succ, i64_w, i32_w]
                    rfl
                  refine pure_ (i := 51) (N := some 66) (v := ?_) (a' := ?_) #[true, true, true, true, true, true, true, true, true, true, true, true, true, true, true, true, true, true, true, true, true, true, true, true, true, true, true, true, true, true, true, true, true, true, true, true, true, true, true, true, true, true, true, true, true, true, true, true, true, true, true, true, false, false] rfl rfl (any_of HT_.out (by kernel_rfl)) (fun _ _ _ h => h) (Or.inl ⟨by rfl, ?_⟩) ?_ ?_
                  rotate_left
                  · intro w'
                    go_simp
                    with_reducible rfl
                  rotate_left
                  · simp only [Act.put, List.setIfInBounds_toArray, List.set_cons_zero, List.set_cons_succ, i64_w, i32_w]
                    rfl
                  refine pure_ (i := 52) (N := some 67) (v := ?_) (a' := ?_) #[true, true, true, true, true, true, true, true, true, true, true, true, true, true, true, true, true, true, true, true, true, true, true, true, true, true, true, true, true, true, true, true, true, true, true, true, true, true, true, true, true, true, true, true, true, true, true, true, true, true, true, true, true, false] rfl rfl (any_of HT_.out (by kernel_rfl)) (fun _ _ _ h => h) (Or.inl ⟨by rfl, ?_⟩) ?_ ?_
                  rotate_left
                  · intro w'
                    go_simp
                    with_reducible rfl
                  rotate_left
                  · simp only [Act.put, List.setIfInBounds_toArray, List.set_cons_zero, List.set_cons_succ, i64_w, i32_w]
                    rfl
                  refine pure_ (i := 53) (N := some 6) (v := ?_) (a' := ?_) #[true, true, true, true, true, true, true, true, true, true, true, true, true, true, true, true, true, true, true, true, true, true, true, true, true, true, true, true, true, true, true, true, true, true, true, true, true, true, true, true, true, true, true, true, true, true, true, true, true, true, true, true, true, true] rfl rfl (any_of HT_.out (by kernel_rfl)) (fun _ _ _ h => h) (Or.inl ⟨by rfl, ?_⟩) ?_ ?_
                  rotate_left
                  · intro w'
                    go_simp
                    with_reducible rfl
                  rotate_left
                  · simp only [Act.put, List.setIfInBounds_toArray, List.set_cons_zero, List.set_cons_succ, i64_w, i32_w]
                    rfl
                  refine done_ (done_of HT_.out (by kernel_rfl)) ?_
                  try go_wp2
                  go_ret
                  exact ⟨by first | rfl | (simp [errW_none, errW_some] <;> rfl) | (simp [*, errW_none, errW_some] <;> rfl), by repeat (first | (with_reducible first | exact HB.out | apply below_alloc | apply pw_below_drewN | apply below_drew1 | refine below_set ?_ GE253.out | refine below_set ?_ GE254.out | refine below_set ?_ GE255.out | refine below_set ?_ GE267.out | refine below_set ?_ GE279.out) | exact HB.out)⟩
                · rw [if_neg c57] at H
                  have c57b0 : decide (0 ≤ t339) = false := decide_eq_false c57
                  clear c57
                  obtain rfl := Option.some.inj H
                  exact absurd hT_.out (by decide)
              · rw [if_neg c55] at H
                have c55b0 : decide (0 ≤ t338) = false := decide_eq_false c55
                clear c55
                obtain rfl := Option.some.inj H
                exact absurd hT_.out (by decide)
            · rw [if_neg c53] at H
              have c53b0 : (t256.toList == a1_0.toList && (t257.toList == a1_1.toList && (t258.toList == a1_2.toList && (t259.toList == a1_3.toList && (t260 == a1_4 && (t261 == a1_5 && (t262 == a1_6 && (t263 == a1_7 && (t264 == a1_8 && (t265 == a1_9 && (t266 == a1_10))))))))))) = false := by simpa using c53
              (try (have c53b1 : decide (t256.toList = a1_0.toList && (t257.toList == a1_1.toList && (t258.toList == a1_2.toList && (t259.toList == a1_3.toList && (t260 == a1_4 && (t261 == a1_5 && (t262 == a1_6 && (t263 == a1_7 && (t264 == a1_8 && (t265 == a1_9 && (t266 == a1_10))))))))))) = false := by simpa using c53))
              (try (have c53b2 : (t256.toList == a1_0.toList && (t257.toList == a1_1.toList && (t258.toList == a1_2.toList && (t259.toList == a1_3.toList && (t260 == a1_4 && (t261 == a1_5 && (t262 == a1_6 && (t263 == a1_7 && (t264 == a1_8 && (t265 == a1_9 && (t266 == a1_10))))))))))) = false := by simpa using c53))
              (try (have c53b3 : ¬ (t256.toList = a1_0.toList && (t257.toList == a1_1.toList && (t258.toList == a1_2.toList && (t259.toList == a1_3.toList && (t260 == a1_4 && (t261 == a1_5 && (t262 == a1_6 && (t263 == a1_7 && (t264 == a1_8 && (t265 == a1_9 && (t266 == a1_10))))))))))) := by simpa using c53))
              clear c53
              obtain rfl := Option.some.inj H
              exact absurd hT_.out (by decide)
        · rw [if_neg c13] at H
          have c13b0 : (t303.toList == a0_0.toList && (t304.toList == a0_1.toList && (t305.toList == a0_2.toList && (t306.toList == a0_3.toList && (t307 == a0_4 && (t308 == a0_5 && (t309 == a0_6 && (t310 == a0_7 && (t311 == a0_8 && (t312 == a0_9 && (t313 == a0_10))))))))))) = false := by simpa using c13
          (try (have c13b1 : decide (t303.toList = a0_0.toList && (t304.toList == a0_1.toList && (t305.toList == a0_2.toList && (t306.toList == a0_3.toList && (t307 == a0_4 && (t308 == a0_5 && (t309 == a0_6 && (t310 == a0_7 && (t311 == a0_8 && (t312 == a0_9 && (t313 == a0_10))))))))))) = false := by simpa using c13))
          (try (have c13b2 : (t303.toList == a0_0.toList && (t304.toList == a0_1.toList && (t305.toList == a0_2.toList && (t306.toList == a0_3.toList && (t307 == a0_4 && (t308 == a0_5 && (t309 == a0_6 && (t310 == a0_7 && (t311 == a0_8 && (t312 == a0_9 && (t313 == a0_10))))))))))) = false := by simpa using c13))
          (try (have c13b3 : ¬ (t303.toList = a0_0.toList && (t304.toList == a0_1.toList && (t305.toList == a0_2.toList && (t306.toList == a0_3.toList && (t307 == a0_4 && (t308 == a0_5 && (t309 == a0_6 && (t310 == a0_7 && (t311 == a0_8 && (t312 == a0_9 && (t313 == a0_10))))))))))) := by simpa using c13))
          clear c13
          obtain rfl := Option.some.inj H
          exact absurd hT_.out (by decide)
      · rw [if_neg c11] at H
        have c11b0 : (t292.toList == t256.toList && (t293.toList == t257.toList && (t294.toList == t258.toList && (t295.toList == t259.toList && (t296 == t260 && (t297 == t261 && (t298 == t262 && (t299 == t263 && (t300 == t264 && (t301 == t265 && (t302 == t266))))))))))) = false := by simpa using c11
        (try (have c11b1 : decide (t292.toList = t256.toList && (t293.toList == t257.toList && (t294.toList == t258.toList && (t295.toList == t259.toList && (t296 == t260 && (t297 == t261 && (t298 == t262 && (t299 == t263 && (t300 == t264 && (t301 == t265 && (t302 == t266))))))))))) = false := by simpa using c11))
        (try (have c11b2 : (t292.toList == t256.toList && (t293.toList == t257.toList && (t294.toList == t258.toList && (t295.toList == t259.toList && (t296 == t260 && (t297 == t261 && (t298 == t262 && (t299 == t263 && (t300 == t264 && (t301 == t265 && (t302 == t266))))))))))) = false := by simpa using c11))
        (try (have c11b3 : ¬ (t292.toList = t256.toList && (t293.toList == t257.toList && (t294.toList == t258.toList && (t295.toList == t259.toList && (t296 == t260 && (t297 == t261 && (t298 == t262 && (t299 == t263 && (t300 == t264 && (t301 == t265 && (t302 == t266))))))))))) := by simpa using c11))
        clear c11
        obtain rfl := Option.some.inj H
        exact absurd hT_.out (by decide)
    · rw [if_neg c9] at H
      have c9b0 : (t256.toList == t281.toList && (t257.toList == t282.toList && (t258.toList == t283.toList && (t259.toList == t284.toList && (t260 == t285 && (t261 == t286 && (t262 == t287 && (t263 == t288 && (t264 == t289 && (t265 == t290 && (t266 == t291))))))))))) = false := by simpa using c9
      (try (have c9b1 : decide (t256.toList = t281.toList && (t257.toList == t282.toList && (t258.toList == t283.toList && (t259.toList == t284.toList && (t260 == t285 && (t261 == t286 && (t262 == t287 && (t263 == t288 && (t264 == t289 && (t265 == t290 && (t266 == t291))))))))))) = false := by simpa using c9))
      (try (have c9b2 : (t256.toList == t281.toList && (t257.toList == t282.toList && (t258.toList == t283.toList && (t259.toList == t284.toList && (t260 == t285 && (t261 == t286 && (t262 == t287 && (t263 == t288 && (t264 == t289 && (t265 == t290 && (t266 == t291))))))))))) = false := by simpa using c9))
      (try (have c9b3 : ¬ (t256.toList = t281.toList && (t257.toList == t282.toList && (t258.toList == t283.toList && (t259.toList == t284.toList && (t260 == t285 && (t261 == t286 && (t262 == t287 && (t263 == t288 && (t264 == t289 && (t265 == t290 && (t266 == t291))))))))))) := by simpa using c9))
      clear c9
      obtain rfl := Option.some.inj H
      exact absurd hT_.out (by decide)
  · replace c7 := Bool.eq_false_iff.mpr c7
    subst c7
    have H1 : (some false) = some r := by rw [if_neg (show ¬ (false = true) by decide)] at H; exact H
    clear H
    have H := H1
    clear H1
    obtain rfl := Option.some.inj H
    exact absurd hT_.out (by decide)

/-- THE ONE PURE STATEMENT of cracknellaw13_CookieGreater: yours. -/
def cracknellaw13_CookieGreater.Pure : Prop := ∀ (a0_0 : ByteArray) (a0_1 : ByteArray) (a0_2 : ByteArray) (a0_3 : ByteArray) (a0_4 : Int) (a0_5 : Int) (a0_6 : Int) (a0_7 : Bool) (a0_8 : Bool) (a0_9 : Bool) (a0_10 : Int) (a1_0 : ByteArray) (a1_1 : ByteArray) (a1_2 : ByteArray) (a1_3 : ByteArray) (a1_4 : Int) (a1_5 : Int) (a1_6 : Int) (a1_7 : Bool) (a1_8 : Bool) (a1_9 : Bool) (a1_10 : Int) (a2_0 : ByteArray) (a2_1 : ByteArray) (a2_2 : ByteArray) (a2_3 : ByteArray) (a2_4 : Int) (a2_5 : Int) (a2_6 : Int) (a2_7 : Bool) (a2_8 : Bool) (a2_9 : Bool) (a2_10 : Int), a0_0.size ≤ 9223372036854775807 → a0_1.size ≤ 9223372036854775807 → a0_2.size ≤ 9223372036854775807 → a0_3.size ≤ 9223372036854775807 → (Lit.int .i64 a0_4).wf = true → (Lit.int .i64 a0_5).wf = true → (Lit.int .i64 a0_6).wf = true → (Lit.int .i64 a0_10).wf = true → a1_0.size ≤ 9223372036854775807 → a1_1.size ≤ 9223372036854775807 → a1_2.size ≤ 9223372036854775807 → a1_3.size ≤ 9223372036854775807 → (Lit.int .i64 a1_4).wf = true → (Lit.int .i64 a1_5).wf = true → (Lit.int .i64 a1_6).wf = true → (Lit.int .i64 a1_10).wf = true → a2_0.size ≤ 9223372036854775807 → a2_1.size ≤ 9223372036854775807 → a2_2.size ≤ 9223372036854775807 → a2_3.size ≤ 9223372036854775807 → (Lit.int .i64 a2_4).wf = true → (Lit.int .i64 a2_5).wf = true → (Lit.int .i64 a2_6).wf = true → (Lit.int .i64 a2_10).wf = true → ∃ k, cracknellaw13_CookieGreater.f k a0_0 a0_1 a0_2 a0_3 a0_4 a0_5 a0_6 a0_7 a0_8 a0_9 a0_10 a1_0 a1_1 a1_2 a1_3 a1_4 a1_5 a1_6 a1_7 a1_8 a1_9 a1_10 a2_0 a2_1 a2_2 a2_3 a2_4 a2_5 a2_6 a2_7 a2_8 a2_9 a2_10 = some true
theorem cracknellaw13_CookieGreater.walk (P : cracknellaw13_CookieGreater.Pure) (a0_0 : ByteArray) (a0_1 : ByteArray) (a0_2 : ByteArray) (a0_3 : ByteArray) (a0_4 : Int) (a0_5 : Int) (a0_6 : Int) (a0_7 : Bool) (a0_8 : Bool) (a0_9 : Bool) (a0_10 : Int) (a1_0 : ByteArray) (a1_1 : ByteArray) (a1_2 : ByteArray) (a1_3 : ByteArray) (a1_4 : Int) (a1_5 : Int) (a1_6 : Int) (a1_7 : Bool) (a1_8 : Bool) (a1_9 : Bool) (a1_10 : Int) (a2_0 : ByteArray) (a2_1 : ByteArray) (a2_2 : ByteArray) (a2_3 : ByteArray) (a2_4 : Int) (a2_5 : Int) (a2_6 : Int) (a2_7 : Bool) (a2_8 : Bool) (a2_9 : Bool) (a2_10 : Int) (w : World) (w0_0 : a0_0.size ≤ 9223372036854775807) (w0_1 : a0_1.size ≤ 9223372036854775807) (w0_2 : a0_2.size ≤ 9223372036854775807) (w0_3 : a0_3.size ≤ 9223372036854775807) (w0_4 : (Lit.int .i64 a0_4).wf = true) (w0_5 : (Lit.int .i64 a0_5).wf = true) (w0_6 : (Lit.int .i64 a0_6).wf = true) (w0_10 : (Lit.int .i64 a0_10).wf = true) (w1_0 : a1_0.size ≤ 9223372036854775807) (w1_1 : a1_1.size ≤ 9223372036854775807) (w1_2 : a1_2.size ≤ 9223372036854775807) (w1_3 : a1_3.size ≤ 9223372036854775807) (w1_4 : (Lit.int .i64 a1_4).wf = true) (w1_5 : (Lit.int .i64 a1_5).wf = true) (w1_6 : (Lit.int .i64 a1_6).wf = true) (w1_10 : (Lit.int .i64 a1_10).wf = true) (w2_0 : a2_0.size ≤ 9223372036854775807) (w2_1 : a2_1.size ≤ 9223372036854775807) (w2_2 : a2_2.size ≤ 9223372036854775807) (w2_3 : a2_3.size ≤ 9223372036854775807) (w2_4 : (Lit.int .i64 a2_4).wf = true) (w2_5 : (Lit.int .i64 a2_5).wf = true) (w2_6 : (Lit.int .i64 a2_6).wf = true) (w2_10 : (Lit.int .i64 a2_10).wf = true) (hG : Aside0 (LaidG w)) :
    Calls Tryd.prog 6 #[.agg #[.string a0_0, .string a0_1, .string a0_2, .string a0_3, .int .i64 a0_4, .int .i64 a0_5, .int .i64 a0_6, .bool a0_7, .bool a0_8, .bool a0_9, .int .i64 a0_10], .agg #[.string a1_0, .string a1_1, .string a1_2, .string a1_3, .int .i64 a1_4, .int .i64 a1_5, .int .i64 a1_6, .bool a1_7, .bool a1_8, .bool a1_9, .int .i64 a1_10], .agg #[.string a2_0, .string a2_1, .string a2_2, .string a2_3, .int .i64 a2_4, .int .i64 a2_5, .int .i64 a2_6, .bool a2_7, .bool a2_8, .bool a2_9, .int .i64 a2_10]] w fun e w' => e = .returned (.bool true) ∧ Below w.heap.size w w' := by
  obtain ⟨k, h⟩ := P a0_0 a0_1 a0_2 a0_3 a0_4 a0_5 a0_6 a0_7 a0_8 a0_9 a0_10 a1_0 a1_1 a1_2 a1_3 a1_4 a1_5 a1_6 a1_7 a1_8 a1_9 a1_10 a2_0 a2_1 a2_2 a2_3 a2_4 a2_5 a2_6 a2_7 a2_8 a2_9 a2_10 w0_0 w0_1 w0_2 w0_3 w0_4 w0_5 w0_6 w0_10 w1_0 w1_1 w1_2 w1_3 w1_4 w1_5 w1_6 w1_10 w2_0 w2_1 w2_2 w2_3 w2_4 w2_5 w2_6 w2_10
  refine (cracknellaw13_CookieGreater.calls k a0_0 a0_1 a0_2 a0_3 a0_4 a0_5 a0_6 a0_7 a0_8 a0_9 a0_10 a1_0 a1_1 a1_2 a1_3 a1_4 a1_5 a1_6 a1_7 a1_8 a1_9 a1_10 a2_0 a2_1 a2_2 a2_3 a2_4 a2_5 a2_6 a2_7 a2_8 a2_9 a2_10 true w hG ⟨rfl⟩ h).mono ?_
  rintro e w' ⟨rfl, hd⟩
  exact ⟨rfl, hd⟩

end Go.Proofs.YtpcakfldmcfhlaaDoor.Print
