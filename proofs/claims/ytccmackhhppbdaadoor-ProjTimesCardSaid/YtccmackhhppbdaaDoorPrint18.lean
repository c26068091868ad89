/- Printed by a program of this claim's session (xprint.py): the machine's side: each Go function as a Lean function, and that a call of it comes to what that tells; the row of a statement. No condition. -/
import Derived.Test.YtccmackhhppbdaaDoorPrint0
import Derived.Test.YtccmackhhppbdaaDoorPrint1
import Derived.Test.YtccmackhhppbdaaDoorPrint4
import Derived.Test.YtccmackhhppbdaaDoorPrint13
namespace Go.Proofs.YtccmackhhppbdaaDoor.Print
open Go.RowKit Go.Proofs.YtccmackhhppbdaaDoorW.PrintWords Go.Proofs.YtccmackhhppbdaaDoorW.PrintLast Go.Proofs.YtccmackhhppbdaaDoorW.PrintMore
attribute [local go_sem] max2_int min2_int max_two min_two max_three min_three max_four min_four   -- for this text's walks alone
set_option linter.unusedVariables false
set_option linter.unusedSimpArgs false

attribute [local go_sem high] eqA27
/-! ### cracknellaw18_ProjTimes: function 7 -/
mutual
def cracknellaw18_ProjTimes.l0 : Nat → List Int → Int → Int → ByteArray → ByteArray → ByteArray → ByteArray → Int → Int → Int → Bool → Bool → Bool → Int → Int → Int → ByteArray → ByteArray → ByteArray → ByteArray → Int → Int → Int → Bool → Bool → Bool → Int → Option (Bool)
  | 0, _, _, _, _, _, _, _, _, _, _, _, _, _, _, _, _, _, _, _, _, _, _, _, _, _, _, _ => none
  | k + 1, x23, x24, x25, x408000, x408001, x408002, x408003, x408004, x408005, x408006, x408007, x408008, x408009, x408010, x410000, x410001, x411000, x411001, x411002, x411003, x411004, x411005, x411006, x411007, x411008, x411009, x411010 => if x25 < x24 then (if 0 ≤ x25 then (if x25 < (x23.length : Int) then ((proj_Cookie.f k (rd x23 x25) x410000 x408000 x408001 x408002 x408003 x408004 x408005 x408006 x408007 x408008 x408009 x408010).bind fun bt416 => ((proj_Cookie.f k (rd x23 x25) x410000 x411000 x411001 x411002 x411003 x411004 x411005 x411006 x411007 x411008 x411009 x411010).bind fun bt429 => ((proj_Cookie.f k (rd x23 x25) x410001 x408000 x408001 x408002 x408003 x408004 x408005 x408006 x408007 x408008 x408009 x408010).bind fun bt442 => (if (!(bt416.1.toList == bt429.1.toList) || (!(bt416.2.1.toList == bt429.2.1.toList) || (!(bt416.2.2.1.toList == bt429.2.2.1.toList) || (!(bt416.2.2.2.1.toList == bt429.2.2.2.1.toList) || (!(bt416.2.2.2.2.1 == bt429.2.2.2.2.1) || (!(bt416.2.2.2.2.2.1 == bt429.2.2.2.2.2.1) || (!(bt416.2.2.2.2.2.2.1 == bt429.2.2.2.2.2.2.1) || (!(bt416.2.2.2.2.2.2.2.1 == bt429.2.2.2.2.2.2.2.1) || (!(bt416.2.2.2.2.2.2.2.2.1 == bt429.2.2.2.2.2.2.2.2.1) || (!(bt416.2.2.2.2.2.2.2.2.2.1 == bt429.2.2.2.2.2.2.2.2.2.1) || (!(bt416.2.2.2.2.2.2.2.2.2.2.1 == bt429.2.2.2.2.2.2.2.2.2.2.1)))))))))))) = true then (cracknellaw18_ProjTimes.j1 k bt416.2.2.2.2.2.2.2.2.2.2.2 bt442.2.2.2.2.2.2.2.2.2.2.2 x23 x24 x25 true x408000 x408001 x408002 x408003 x408004 x408005 x408006 x408007 x408008 x408009 x408010 x410000 x410001 x411000 x411001 x411002 x411003 x411004 x411005 x411006 x411007 x411008 x411009 x411010 bt416.1 bt416.2.1 bt416.2.2.1 bt416.2.2.2.1 bt416.2.2.2.2.1 bt416.2.2.2.2.2.1 bt416.2.2.2.2.2.2.1 bt416.2.2.2.2.2.2.2.1 bt416.2.2.2.2.2.2.2.2.1 bt416.2.2.2.2.2.2.2.2.2.1 bt416.2.2.2.2.2.2.2.2.2.2.1 bt442.1 bt442.2.1 bt442.2.2.1 bt442.2.2.2.1 bt442.2.2.2.2.1 bt442.2.2.2.2.2.1 bt442.2.2.2.2.2.2.1 bt442.2.2.2.2.2.2.2.1 bt442.2.2.2.2.2.2.2.2.1 bt442.2.2.2.2.2.2.2.2.2.1 bt442.2.2.2.2.2.2.2.2.2.2.1) else (cracknellaw18_ProjTimes.j1 k bt416.2.2.2.2.2.2.2.2.2.2.2 bt442.2.2.2.2.2.2.2.2.2.2.2 x23 x24 x25 (bt416.2.2.2.2.2.2.2.2.2.2.2 != bt429.2.2.2.2.2.2.2.2.2.2.2) x408000 x408001 x408002 x408003 x408004 x408005 x408006 x408007 x408008 x408009 x408010 x410000 x410001 x411000 x411001 x411002 x411003 x411004 x411005 x411006 x411007 x411008 x411009 x411010 bt416.1 bt416.2.1 bt416.2.2.1 bt416.2.2.2.1 bt416.2.2.2.2.1 bt416.2.2.2.2.2.1 bt416.2.2.2.2.2.2.1 bt416.2.2.2.2.2.2.2.1 bt416.2.2.2.2.2.2.2.2.1 bt416.2.2.2.2.2.2.2.2.2.1 bt416.2.2.2.2.2.2.2.2.2.2.1 bt442.1 bt442.2.1 bt442.2.2.1 bt442.2.2.2.1 bt442.2.2.2.2.1 bt442.2.2.2.2.2.1 bt442.2.2.2.2.2.2.1 bt442.2.2.2.2.2.2.2.1 bt442.2.2.2.2.2.2.2.2.1 bt442.2.2.2.2.2.2.2.2.2.1 bt442.2.2.2.2.2.2.2.2.2.2.1))))) else (none)) else (none)) else ((cracknellaw18_alive.f k).bind fun t414 => (some t414))
def cracknellaw18_ProjTimes.j1 : Nat → Bool → Bool → List Int → Int → Int → Bool → ByteArray → ByteArray → ByteArray → ByteArray → Int → Int → Int → Bool → Bool → Bool → Int → Int → Int → ByteArray → ByteArray → ByteArray → ByteArray → Int → Int → Int → Bool → Bool → Bool → Int → ByteArray → ByteArray → ByteArray → ByteArray → Int → Int → Int → Bool → Bool → Bool → Int → ByteArray → ByteArray → ByteArray → ByteArray → Int → Int → Int → Bool → Bool → Bool → Int → Option (Bool)
  | 0, _, _, _, _, _, _, _, _, _, _, _, _, _, _, _, _, _, _, _, _, _, _, _, _, _, _, _, _, _, _, _, _, _, _, _, _, _, _, _, _, _, _, _, _, _, _, _, _, _, _, _, _ => none
  | k + 1, x11, x15, x23, x24, x25, x60, x408000, x408001, x408002, x408003, x408004, x408005, x408006, x408007, x408008, x408009, x408010, x410000, x410001, x411000, x411001, x411002, x411003, x411004, x411005, x411006, x411007, x411008, x411009, x411010, x429000, x429001, x429002, x429003, x429004, x429005, x429006, x429007, x429008, x429009, x429010, x455000, x455001, x455002, x455003, x455004, x455005, x455006, x455007, x455008, x455009, x455010 => if x60 = true then (some false) else (if x11 = true then (cracknellaw18_ProjTimes.j2 k x23 x24 x25 (!x15) x408000 x408001 x408002 x408003 x408004 x408005 x408006 x408007 x408008 x408009 x408010 x410000 x410001 x411000 x411001 x411002 x411003 x411004 x411005 x411006 x411007 x411008 x411009 x411010 x429000 x429001 x429002 x429003 x429004 x429005 x429006 x429007 x429008 x429009 x429010 x455000 x455001 x455002 x455003 x455004 x455005 x455006 x455007 x455008 x455009 x455010) else (cracknellaw18_ProjTimes.j2 k x23 x24 x25 true x408000 x408001 x408002 x408003 x408004 x408005 x408006 x408007 x408008 x408009 x408010 x410000 x410001 x411000 x411001 x411002 x411003 x411004 x411005 x411006 x411007 x411008 x411009 x411010 x429000 x429001 x429002 x429003 x429004 x429005 x429006 x429007 x429008 x429009 x429010 x455000 x455001 x455002 x455003 x455004 x455005 x455006 x455007 x455008 x455009 x455010))
def cracknellaw18_ProjTimes.j2 : Nat → List Int → Int → Int → Bool → ByteArray → ByteArray → ByteArray → ByteArray → Int → Int → Int → Bool → Bool → Bool → Int → Int → Int → ByteArray → ByteArray → ByteArray → ByteArray → Int → Int → Int → Bool → Bool → Bool → Int → ByteArray → ByteArray → ByteArray → ByteArray → Int → Int → Int → Bool → Bool → Bool → Int → ByteArray → ByteArray → ByteArray → ByteArray → Int → Int → Int → Bool → Bool → Bool → Int → Option (Bool)
  | 0, _, _, _, _, _, _, _, _, _, _, _, _, _, _, _, _, _, _, _, _, _, _, _, _, _, _, _, _, _, _, _, _, _, _, _, _, _, _, _, _, _, _, _, _, _, _, _, _, _, _ => none
  | k + 1, x23, x24, x25, x66, x408000, x408001, x408002, x408003, x408004, x408005, x408006, x408007, x408008, x408009, x408010, x410000, x410001, x411000, x411001, x411002, x411003, x411004, x411005, x411006, x411007, x411008, x411009, x411010, x429000, x429001, x429002, x429003, x429004, x429005, x429006, x429007, x429008, x429009, x429010, x455000, x455001, x455002, x455003, x455004, x455005, x455006, x455007, x455008, x455009, x455010 => if x66 = true then (cracknellaw18_ProjTimes.l0 k x23 x24 (wrap64 (x25 + 1)) x408000 x408001 x408002 x408003 x408004 x408005 x408006 x408007 x408008 x408009 x408010 x410000 x410001 x411000 x411001 x411002 x411003 x411004 x411005 x411006 x411007 x411008 x411009 x411010) else (if x455004 = x410001 then (cracknellaw18_ProjTimes.j3 k x23 x24 x25 (x455005 != x410001) x408000 x408001 x408002 x408003 x408004 x408005 x408006 x408007 x408008 x408009 x408010 x410000 x410001 x411000 x411001 x411002 x411003 x411004 x411005 x411006 x411007 x411008 x411009 x411010 x429000 x429001 x429002 x429003 x429004 x429005 x429006 x429007 x429008 x429009 x429010 x455000 x455001 x455002 x455003 x455004 x455005 x455006 x455007 x455008 x455009 x455010) else (cracknellaw18_ProjTimes.j3 k x23 x24 x25 true x408000 x408001 x408002 x408003 x408004 x408005 x408006 x408007 x408008 x408009 x408010 x410000 x410001 x411000 x411001 x411002 x411003 x411004 x411005 x411006 x411007 x411008 x411009 x411010 x429000 x429001 x429002 x429003 x429004 x429005 x429006 x429007 x429008 x429009 x429010 x455000 x455001 x455002 x455003 x455004 x455005 x455006 x455007 x455008 x455009 x455010))
def cracknellaw18_ProjTimes.j3 : Nat → List Int → Int → Int → Bool → ByteArray → ByteArray → ByteArray → ByteArray → Int → Int → Int → Bool → Bool → Bool → Int → Int → Int → ByteArray → ByteArray → ByteArray → ByteArray → Int → Int → Int → Bool → Bool → Bool → Int → ByteArray → ByteArray → ByteArray → ByteArray → Int → Int → Int → Bool → Bool → Bool → Int → ByteArray → ByteArray → ByteArray → ByteArray → Int → Int → Int → Bool → Bool → Bool → Int → Option (Bool)
  | 0, _, _, _, _, _, _, _, _, _, _, _, _, _, _, _, _, _, _, _, _, _, _, _, _, _, _, _, _, _, _, _, _, _, _, _, _, _, _, _, _, _, _, _, _, _, _, _, _, _, _ => none
  | k + 1, x23, x24, x25, x78, x408000, x408001, x408002, x408003, x408004, x408005, x408006, x408007, x408008, x408009, x408010, x410000, x410001, x411000, x411001, x411002, x411003, x411004, x411005, x411006, x411007, x411008, x411009, x411010, x429000, x429001, x429002, x429003, x429004, x429005, x429006, x429007, x429008, x429009, x429010, x455000, x455001, x455002, x455003, x455004, x455005, x455006, x455007, x455008, x455009, x455010 => if x78 = true then (some false) else (if (!(x455000.toList == x429000.toList) || (!(x455001.toList == x429001.toList) || (!(x455002.toList == x429002.toList) || (!(x455003.toList == x429003.toList) || (!(x410000 == x429004) || (!(x410000 == x429005) || (!(x455006 == x429006) || (!(x455007 == x429007) || (!(x455008 == x429008) || (!(x455009 == x429009) || (!(x455010 == x429010)))))))))))) = true then (some false) else (cracknellaw18_ProjTimes.l0 k x23 x24 (wrap64 (x25 + 1)) x408000 x408001 x408002 x408003 x408004 x408005 x408006 x408007 x408008 x408009 x408010 x410000 x410001 x411000 x411001 x411002 x411003 x411004 x411005 x411006 x411007 x411008 x411009 x411010))
end
def cracknellaw18_ProjTimes.f (k : Nat) (a0_0 : ByteArray) (a0_1 : ByteArray) (a0_2 : ByteArray) (a0_3 : ByteArray) (a0_4 : Int) (a0_5 : Int) (a0_6 : Int) (a0_7 : Bool) (a0_8 : Bool) (a0_9 : Bool) (a0_10 : Int) (a1_0 : Int) (a1_1 : Int) (a2_0 : Int) (a2_1 : Int) : Option (Bool) := (some (([1, 2, 3] : List Int) : List Int)).bind fun y411 => (cracknellaw18_ProjTimes.l0 k y411 (y411.length : Int) 0 a0_0 a0_1 a0_2 a0_3 a0_4 a0_5 a0_6 a0_7 a0_8 a0_9 a0_10 a2_0 a2_1 a0_0 a0_1 a0_2 a0_3 a1_0 a1_1 a0_6 a0_7 a0_8 a0_9 a0_10)
theorem cracknellaw18_ProjTimes.mono_l : ∀ k, (∀ y0 y1 y2 y3 y4 y5 y6 y7 y8 y9 y10 y11 y12 y13 y14 y15 y16 y17 y18 y19 y20 y21 y22 y23 y24 y25 y26, LeO (cracknellaw18_ProjTimes.l0 k y0 y1 y2 y3 y4 y5 y6 y7 y8 y9 y10 y11 y12 y13 y14 y15 y16 y17 y18 y19 y20 y21 y22 y23 y24 y25 y26) (cracknellaw18_ProjTimes.l0 (k + 1) y0 y1 y2 y3 y4 y5 y6 y7 y8 y9 y10 y11 y12 y13 y14 y15 y16 y17 y18 y19 y20 y21 y22 y23 y24 y25 y26)) ∧ (∀ y0 y1 y2 y3 y4 y5 y6 y7 y8 y9 y10 y11 y12 y13 y14 y15 y16 y17 y18 y19 y20 y21 y22 y23 y24 y25 y26 y27 y28 y29 y30 y31 y32 y33 y34 y35 y36 y37 y38 y39 y40 y41 y42 y43 y44 y45 y46 y47 y48 y49 y50 y51, LeO (cracknellaw18_ProjTimes.j1 k y0 y1 y2 y3 y4 y5 y6 y7 y8 y9 y10 y11 y12 y13 y14 y15 y16 y17 y18 y19 y20 y21 y22 y23 y24 y25 y26 y27 y28 y29 y30 y31 y32 y33 y34 y35 y36 y37 y38 y39 y40 y41 y42 y43 y44 y45 y46 y47 y48 y49 y50 y51) (cracknellaw18_ProjTimes.j1 (k + 1) y0 y1 y2 y3 y4 y5 y6 y7 y8 y9 y10 y11 y12 y13 y14 y15 y16 y17 y18 y19 y20 y21 y22 y23 y24 y25 y26 y27 y28 y29 y30 y31 y32 y33 y34 y35 y36 y37 y38 y39 y40 y41 y42 y43 y44 y45 y46 y47 y48 y49 y50 y51)) ∧ (∀ y0 y1 y2 y3 y4 y5 y6 y7 y8 y9 y10 y11 y12 y13 y14 y15 y16 y17 y18 y19 y20 y21 y22 y23 y24 y25 y26 y27 y28 y29 y30 y31 y32 y33 y34 y35 y36 y37 y38 y39 y40 y41 y42 y43 y44 y45 y46 y47 y48 y49, LeO (cracknellaw18_ProjTimes.j2 k y0 y1 y2 y3 y4 y5 y6 y7 y8 y9 y10 y11 y12 y13 y14 y15 y16 y17 y18 y19 y20 y21 y22 y23 y24 y25 y26 y27 y28 y29 y30 y31 y32 y33 y34 y35 y36 y37 y38 y39 y40 y41 y42 y43 y44 y45 y46 y47 y48 y49) (cracknellaw18_ProjTimes.j2 (k + 1) y0 y1 y2 y3 y4 y5 y6 y7 y8 y9 y10 y11 y12 y13 y14 y15 y16 y17 y18 y19 y20 y21 y22 y23 y24 y25 y26 y27 y28 y29 y30 y31 y32 y33 y34 y35 y36 y37 y38 y39 y40 y41 y42 y43 y44 y45 y46 y47 y48 y49)) ∧ (∀ y0 y1 y2 y3 y4 y5 y6 y7 y8 y9 y10 y11 y12 y13 y14 y15 y16 y17 y18 y19 y20 y21 y22 y23 y24 y25 y26 y27 y28 y29 y30 y31 y32 y33 y34 y35 y36 y37 y38 y39 y40 y41 y42 y43 y44 y45 y46 y47 y48 y49, LeO (cracknellaw18_ProjTimes.j3 k y0 y1 y2 y3 y4 y5 y6 y7 y8 y9 y10 y11 y12 y13 y14 y15 y16 y17 y18 y19 y20 y21 y22 y23 y24 y25 y26 y27 y28 y29 y30 y31 y32 y33 y34 y35 y36 y37 y38 y39 y40 y41 y42 y43 y44 y45 y46 y47 y48 y49) (cracknellaw18_ProjTimes.j3 (k + 1) y0 y1 y2 y3 y4 y5 y6 y7 y8 y9 y10 y11 y12 y13 y14 y15 y16 y17 y18 y19 y20 y21 y22 y23 y24 y25 y26 y27 y28 y29 y30 y31 y32 y33 y34 y35 y36 y37 y38 y39 y40 y41 y42 y43 y44 y45 y46 y47 y48 y49))
  | 0 => ⟨fun _ _ _ _ _ _ _ _ _ _ _ _ _ _ _ _ _ _ _ _ _ _ _ _ _ _ _ r h => by simp [cracknellaw18_ProjTimes.l0] at h, fun _ _ _ _ _ _ _ _ _ _ _ _ _ _ _ _ _ _ _ _ _ _ _ _ _ _ _ _ _ _ _ _ _ _ _ _ _ _ _ _ _ _ _ _ _ _ _ _ _ _ _ _ r h => by simp [cracknellaw18_ProjTimes.j1] at h, fun _ _ _ _ _ _ _ _ _ _ _ _ _ _ _ _ _ _ _ _ _ _ _ _ _ _ _ _ _ _ _ _ _ _ _ _ _ _ _ _ _ _ _ _ _ _ _ _ _ _ r h => by simp [cracknellaw18_ProjTimes.j2] at h, fun _ _ _ _ _ _ _ _ _ _ _ _ _ _ _ _ _ _ _ _ _ _ _ _ _ _ _ _ _ _ _ _ _ _ _ _ _ _ _ _ _ _ _ _ _ _ _ _ _ _ r h => by simp [cracknellaw18_ProjTimes.j3] at h⟩
  | k + 1 => by
    obtain ⟨ih0, ih1, ih2, ih3⟩ := cracknellaw18_ProjTimes.mono_l k
    refine ⟨?_, ?_, ?_, ?_⟩
    · intro y0 y1 y2 y3 y4 y5 y6 y7 y8 y9 y10 y11 y12 y13 y14 y15 y16 y17 y18 y19 y20 y21 y22 y23 y24 y25 y26
      unfold cracknellaw18_ProjTimes.l0
      repeat' first
      | (with_reducible exact ih0 _ _ _ _ _ _ _ _ _ _ _ _ _ _ _ _ _ _ _ _ _ _ _ _ _ _ _)
      | (with_reducible exact ih1 _ _ _ _ _ _ _ _ _ _ _ _ _ _ _ _ _ _ _ _ _ _ _ _ _ _ _ _ _ _ _ _ _ _ _ _ _ _ _ _ _ _ _ _ _ _ _ _ _ _ _ _)
      | (with_reducible exact ih2 _ _ _ _ _ _ _ _ _ _ _ _ _ _ _ _ _ _ _ _ _ _ _ _ _ _ _ _ _ _ _ _ _ _ _ _ _ _ _ _ _ _ _ _ _ _ _ _ _ _)
      | (with_reducible exact ih3 _ _ _ _ _ _ _ _ _ _ _ _ _ _ _ _ _ _ _ _ _ _ _ _ _ _ _ _ _ _ _ _ _ _ _ _ _ _ _ _ _ _ _ _ _ _ _ _ _ _)
      | (with_reducible exact cracknellaw18_alive.mono _)
      | (with_reducible exact proj_Cookie.mono _ _ _ _ _ _ _ _ _ _ _ _ _ _)
      | (with_reducible exact LeO.refl _)
      | (with_reducible exact LeO.none _)
      | (with_reducible refine LeO.ite ?_ ?_)
      | (with_reducible refine LeO.bind ?_ (fun _ => ?_))
      | exact ih0 _ _ _ _ _ _ _ _ _ _ _ _ _ _ _ _ _ _ _ _ _ _ _ _ _ _ _
      | exact ih1 _ _ _ _ _ _ _ _ _ _ _ _ _ _ _ _ _ _ _ _ _ _ _ _ _ _ _ _ _ _ _ _ _ _ _ _ _ _ _ _ _ _ _ _ _ _ _ _ _ _ _ _
      | exact ih2 _ _ _ _ _ _ _ _ _ _ _ _ _ _ _ _ _ _ _ _ _ _ _ _ _ _ _ _ _ _ _ _ _ _ _ _ _ _ _ _ _ _ _ _ _ _ _ _ _ _
      | exact ih3 _ _ _ _ _ _ _ _ _ _ _ _ _ _ _ _ _ _ _ _ _ _ _ _ _ _ _ _ _ _ _ _ _ _ _ _ _ _ _ _ _ _ _ _ _ _ _ _ _ _
      | exact cracknellaw18_alive.mono _
      | exact proj_Cookie.mono _ _ _ _ _ _ _ _ _ _ _ _ _ _
      | exact LeO.none _
      | refine LeO.ite ?_ ?_
      | refine LeO.bind ?_ (fun _ => ?_)
    · intro y0 y1 y2 y3 y4 y5 y6 y7 y8 y9 y10 y11 y12 y13 y14 y15 y16 y17 y18 y19 y20 y21 y22 y23 y24 y25 y26 y27 y28 y29 y30 y31 y32 y33 y34 y35 y36 y37 y38 y39 y40 y41 y42 y43 y44 y45 y46 y47 y48 y49 y50 y51
      unfold cracknellaw18_ProjTimes.j1
      repeat' first
      | (with_reducible exact ih0 _ _ _ _ _ _ _ _ _ _ _ _ _ _ _ _ _ _ _ _ _ _ _ _ _ _ _)
      | (with_reducible exact ih1 _ _ _ _ _ _ _ _ _ _ _ _ _ _ _ _ _ _ _ _ _ _ _ _ _ _ _ _ _ _ _ _ _ _ _ _ _ _ _ _ _ _ _ _ _ _ _ _ _ _ _ _)
      | (with_reducible exact ih2 _ _ _ _ _ _ _ _ _ _ _ _ _ _ _ _ _ _ _ _ _ _ _ _ _ _ _ _ _ _ _ _ _ _ _ _ _ _ _ _ _ _ _ _ _ _ _ _ _ _)
      | (with_reducible exact ih3 _ _ _ _ _ _ _ _ _ _ _ _ _ _ _ _ _ _ _ _ _ _ _ _ _ _ _ _ _ _ _ _ _ _ _ _ _ _ _ _ _ _ _ _ _ _ _ _ _ _)
      | (with_reducible exact cracknellaw18_alive.mono _)
      | (with_reducible exact proj_Cookie.mono _ _ _ _ _ _ _ _ _ _ _ _ _ _)
      | (with_reducible exact LeO.refl _)
      | (with_reducible exact LeO.none _)
      | (with_reducible refine LeO.ite ?_ ?_)
      | (with_reducible refine LeO.bind ?_ (fun _ => ?_))
      | exact ih0 _ _ _ _ _ _ _ _ _ _ _ _ _ _ _ _ _ _ _ _ _ _ _ _ _ _ _
      | exact ih1 _ _ _ _ _ _ _ _ _ _ _ _ _ _ _ _ _ _ _ _ _ _ _ _ _ _ _ _ _ _ _ _ _ _ _ _ _ _ _ _ _ _ _ _ _ _ _ _ _ _ _ _
      | exact ih2 _ _ _ _ _ _ _ _ _ _ _ _ _ _ _ _ _ _ _ _ _ _ _ _ _ _ _ _ _ _ _ _ _ _ _ _ _ _ _ _ _ _ _ _ _ _ _ _ _ _
      | exact ih3 _ _ _ _ _ _ _ _ _ _ _ _ _ _ _ _ _ _ _ _ _ _ _ _ _ _ _ _ _ _ _ _ _ _ _ _ _ _ _ _ _ _ _ _ _ _ _ _ _ _
      | exact cracknellaw18_alive.mono _
      | exact proj_Cookie.mono _ _ _ _ _ _ _ _ _ _ _ _ _ _
      | exact LeO.none _
      | refine LeO.ite ?_ ?_
      | refine LeO.bind ?_ (fun _ => ?_)
    · intro y0 y1 y2 y3 y4 y5 y6 y7 y8 y9 y10 y11 y12 y13 y14 y15 y16 y17 y18 y19 y20 y21 y22 y23 y24 y25 y26 y27 y28 y29 y30 y31 y32 y33 y34 y35 y36 y37 y38 y39 y40 y41 y42 y43 y44 y45 y46 y47 y48 y49
      unfold cracknellaw18_ProjTimes.j2
      repeat' first
      | (with_reducible exact ih0 _ _ _ _ _ _ _ _ _ _ _ _ _ _ _ _ _ _ _ _ _ _ _ _ _ _ _)
      | (with_reducible exact ih1 _ _ _ _ _ _ _ _ _ _ _ _ _ _ _ _ _ _ _ _ _ _ _ _ _ _ _ _ _ _ _ _ _ _ _ _ _ _ _ _ _ _ _ _ _ _ _ _ _ _ _ _)
      | (with_reducible exact ih2 _ _ _ _ _ _ _ _ _ _ _ _ _ _ _ _ _ _ _ _ _ _ _ _ _ _ _ _ _ _ _ _ _ _ _ _ _ _ _ _ _ _ _ _ _ _ _ _ _ _)
      | (with_reducible exact ih3 _ _ _ _ _ _ _ _ _ _ _ _ _ _ _ _ _ _ _ _ _ _ _ _ _ _ _ _ _ _ _ _ _ _ _ _ _ _ _ _ _ _ _ _ _ _ _ _ _ _)
      | (with_reducible exact cracknellaw18_alive.mono _)
      | (with_reducible exact proj_Cookie.mono _ _ _ _ _ _ _ _ _ _ _ _ _ _)
      | (with_reducible exact LeO.refl _)
      | (with_reducible exact LeO.none _)
      | (with_reducible refine LeO.ite ?_ ?_)
      | (with_reducible refine LeO.bind ?_ (fun _ => ?_))
      | exact ih0 _ _ _ _ _ _ _ _ _ _ _ _ _ _ _ _ _ _ _ _ _ _ _ _ _ _ _
      | exact ih1 _ _ _ _ _ _ _ _ _ _ _ _ _ _ _ _ _ _ _ _ _ _ _ _ _ _ _ _ _ _ _ _ _ _ _ _ _ _ _ _ _ _ _ _ _ _ _ _ _ _ _ _
      | exact ih2 _ _ _ _ _ _ _ _ _ _ _ _ _ _ _ _ _ _ _ _ _ _ _ _ _ _ _ _ _ _ _ _ _ _ _ _ _ _ _ _ _ _ _ _ _ _ _ _ _ _
      | exact ih3 _ _ _ _ _ _ _ _ _ _ _ _ _ _ _ _ _ _ _ _ _ _ _ _ _ _ _ _ _ _ _ _ _ _ _ _ _ _ _ _ _ _ _ _ _ _ _ _ _ _
      | exact cracknellaw18_alive.mono _
      | exact proj_Cookie.mono _ _ _ _ _ _ _ _ _ _ _ _ _ _
      | exact LeO.none _
      | refine LeO.ite ?_ ?_
      | refine LeO.bind ?_ (fun _ => ?_)
    · intro y0 y1 y2 y3 y4 y5 y6 y7 y8 y9 y10 y11 y12 y13 y14 y15 y16 y17 y18 y19 y20 y21 y22 y23 y24 y25 y26 y27 y28 y29 y30 y31 y32 y33 y34 y35 y36 y37 y38 y39 y40 y41 y42 y43 y44 y45 y46 y47 y48 y49
      unfold cracknellaw18_ProjTimes.j3
      repeat' first
      | (with_reducible exact ih0 _ _ _ _ _ _ _ _ _ _ _ _ _ _ _ _ _ _ _ _ _ _ _ _ _ _ _)
      | (with_reducible exact ih1 _ _ _ _ _ _ _ _ _ _ _ _ _ _ _ _ _ _ _ _ _ _ _ _ _ _ _ _ _ _ _ _ _ _ _ _ _ _ _ _ _ _ _ _ _ _ _ _ _ _ _ _)
      | (with_reducible exact ih2 _ _ _ _ _ _ _ _ _ _ _ _ _ _ _ _ _ _ _ _ _ _ _ _ _ _ _ _ _ _ _ _ _ _ _ _ _ _ _ _ _ _ _ _ _ _ _ _ _ _)
      | (with_reducible exact ih3 _ _ _ _ _ _ _ _ _ _ _ _ _ _ _ _ _ _ _ _ _ _ _ _ _ _ _ _ _ _ _ _ _ _ _ _ _ _ _ _ _ _ _ _ _ _ _ _ _ _)
      | (with_reducible exact cracknellaw18_alive.mono _)
      | (with_reducible exact proj_Cookie.mono _ _ _ _ _ _ _ _ _ _ _ _ _ _)
      | (with_reducible exact LeO.refl _)
      | (with_reducible exact LeO.none _)
      | (with_reducible refine LeO.ite ?_ ?_)
      | (with_reducible refine LeO.bind ?_ (fun _ => ?_))
      | exact ih0 _ _ _ _ _ _ _ _ _ _ _ _ _ _ _ _ _ _ _ _ _ _ _ _ _ _ _
      | exact ih1 _ _ _ _ _ _ _ _ _ _ _ _ _ _ _ _ _ _ _ _ _ _ _ _ _ _ _ _ _ _ _ _ _ _ _ _ _ _ _ _ _ _ _ _ _ _ _ _ _ _ _ _
      | exact ih2 _ _ _ _ _ _ _ _ _ _ _ _ _ _ _ _ _ _ _ _ _ _ _ _ _ _ _ _ _ _ _ _ _ _ _ _ _ _ _ _ _ _ _ _ _ _ _ _ _ _
      | exact ih3 _ _ _ _ _ _ _ _ _ _ _ _ _ _ _ _ _ _ _ _ _ _ _ _ _ _ _ _ _ _ _ _ _ _ _ _ _ _ _ _ _ _ _ _ _ _ _ _ _ _
      | exact cracknellaw18_alive.mono _
      | exact proj_Cookie.mono _ _ _ _ _ _ _ _ _ _ _ _ _ _
      | exact LeO.none _
      | refine LeO.ite ?_ ?_
      | refine LeO.bind ?_ (fun _ => ?_)
theorem cracknellaw18_ProjTimes.mono : ∀ a0 a1 a2 a3 a4 a5 a6 a7 a8 a9 a10 a11 a12 a13 a14 k, LeO (cracknellaw18_ProjTimes.f k a0 a1 a2 a3 a4 a5 a6 a7 a8 a9 a10 a11 a12 a13 a14) (cracknellaw18_ProjTimes.f (k + 1) a0 a1 a2 a3 a4 a5 a6 a7 a8 a9 a10 a11 a12 a13 a14) := by
  intro a0 a1 a2 a3 a4 a5 a6 a7 a8 a9 a10 a11 a12 a13 a14 k
  obtain ⟨ih0, ih1, ih2, ih3⟩ := cracknellaw18_ProjTimes.mono_l k
  unfold cracknellaw18_ProjTimes.f
  repeat' first
      | (with_reducible exact ih0 _ _ _ _ _ _ _ _ _ _ _ _ _ _ _ _ _ _ _ _ _ _ _ _ _ _ _)
      | (with_reducible exact ih1 _ _ _ _ _ _ _ _ _ _ _ _ _ _ _ _ _ _ _ _ _ _ _ _ _ _ _ _ _ _ _ _ _ _ _ _ _ _ _ _ _ _ _ _ _ _ _ _ _ _ _ _)
      | (with_reducible exact ih2 _ _ _ _ _ _ _ _ _ _ _ _ _ _ _ _ _ _ _ _ _ _ _ _ _ _ _ _ _ _ _ _ _ _ _ _ _ _ _ _ _ _ _ _ _ _ _ _ _ _)
      | (with_reducible exact ih3 _ _ _ _ _ _ _ _ _ _ _ _ _ _ _ _ _ _ _ _ _ _ _ _ _ _ _ _ _ _ _ _ _ _ _ _ _ _ _ _ _ _ _ _ _ _ _ _ _ _)
      | (with_reducible exact cracknellaw18_alive.mono _)
      | (with_reducible exact proj_Cookie.mono _ _ _ _ _ _ _ _ _ _ _ _ _ _)
      | (with_reducible exact LeO.refl _)
      | (with_reducible exact LeO.none _)
      | (with_reducible refine LeO.ite ?_ ?_)
      | (with_reducible refine LeO.bind ?_ (fun _ => ?_))
      | exact ih0 _ _ _ _ _ _ _ _ _ _ _ _ _ _ _ _ _ _ _ _ _ _ _ _ _ _ _
      | exact ih1 _ _ _ _ _ _ _ _ _ _ _ _ _ _ _ _ _ _ _ _ _ _ _ _ _ _ _ _ _ _ _ _ _ _ _ _ _ _ _ _ _ _ _ _ _ _ _ _ _ _ _ _
      | exact ih2 _ _ _ _ _ _ _ _ _ _ _ _ _ _ _ _ _ _ _ _ _ _ _ _ _ _ _ _ _ _ _ _ _ _ _ _ _ _ _ _ _ _ _ _ _ _ _ _ _ _
      | exact ih3 _ _ _ _ _ _ _ _ _ _ _ _ _ _ _ _ _ _ _ _ _ _ _ _ _ _ _ _ _ _ _ _ _ _ _ _ _ _ _ _ _ _ _ _ _ _ _ _ _ _
      | exact cracknellaw18_alive.mono _
      | exact proj_Cookie.mono _ _ _ _ _ _ _ _ _ _ _ _ _ _
      | exact LeO.none _
      | refine LeO.ite ?_ ?_
      | refine LeO.bind ?_ (fun _ => ?_)
def cracknellaw18_ProjTimes.T2 : Bool × List (List Nat × List Nat) := (true, [([], []), ([0], [0]), ([], []), ([2], [2]), ([0, 1], []), ([4, 1, 0, 1], [1, 4]), ([0, 1, 2, 3, 4, 5], []), ([6, 3, 5, 0, 1, 2, 3, 4, 5], [3, 6])])
def cracknellaw18_ProjTimes.B2 : List Nat := [0, 1, 0, 4, 3, 19, 63, 127]
theorem cracknellaw18_ProjTimes.tab2 : rtab .any (opsOf Tryd.f7 2) = cracknellaw18_ProjTimes.T2 := by kernel_rfl
theorem cracknellaw18_ProjTimes.bits2 : waitsOk cracknellaw18_ProjTimes.T2.2 cracknellaw18_ProjTimes.B2 = true := by kernel_rfl
def cracknellaw18_ProjTimes.T14 : Bool × List (List Nat × List Nat) := (true, [([], []), ([0], [0]), ([], []), ([2], [2]), ([0, 1], []), ([4, 1, 0, 1], [1, 4]), ([0, 1, 2, 3, 4, 5], []), ([6, 3, 5, 0, 1, 2, 3, 4, 5], [3, 6])])
def cracknellaw18_ProjTimes.B14 : List Nat := [0, 1, 0, 4, 3, 19, 63, 127]
theorem cracknellaw18_ProjTimes.tab14 : rtab .any (opsOf Tryd.f7 14) = cracknellaw18_ProjTimes.T14 := by kernel_rfl
theorem cracknellaw18_ProjTimes.bits14 : waitsOk cracknellaw18_ProjTimes.T14.2 cracknellaw18_ProjTimes.B14 = true := by kernel_rfl
set_option maxHeartbeats 8000000 in
set_option maxRecDepth 100000 in
theorem cracknellaw18_ProjTimes.calls (k : Nat) (a0_0 : ByteArray) (a0_1 : ByteArray) (a0_2 : ByteArray) (a0_3 : ByteArray) (a0_4 : Int) (a0_5 : Int) (a0_6 : Int) (a0_7 : Bool) (a0_8 : Bool) (a0_9 : Bool) (a0_10 : Int) (a1_0 : Int) (a1_1 : Int) (a2_0 : Int) (a2_1 : Int) (r : Bool) (w : World) (hG : Aside0 (LaidG w)) (hT_ : Aside0 (r = true)) (h : cracknellaw18_ProjTimes.f k a0_0 a0_1 a0_2 a0_3 a0_4 a0_5 a0_6 a0_7 a0_8 a0_9 a0_10 a1_0 a1_1 a2_0 a2_1 = some r) :
    Calls Tryd.prog 7 #[.agg #[.string a0_0, .string a0_1, .string a0_2, .string a0_3, .int .i64 a0_4, .int .i64 a0_5, .int .i64 a0_6, .bool a0_7, .bool a0_8, .bool a0_9, .int .i64 a0_10], .agg #[.int .i64 a1_0, .int .i64 a1_1], .agg #[.int .i64 a2_0, .int .i64 a2_1]] w fun e w' => e = .returned (.bool r) ∧ Below w.heap.size w w' := by
  have hu27 := Tryd.underlying27
  have hu36 := Tryd.underlying36
  have HB := Aside0.mk (Below.refl w.heap.size w)
  have H : ((some (([1, 2, 3] : List Int) : List Int)).bind fun y411 => (cracknellaw18_ProjTimes.l0 k y411 (y411.length : Int) 0 a0_0 a0_1 a0_2 a0_3 a0_4 a0_5 a0_6 a0_7 a0_8 a0_9 a0_10 a2_0 a2_1 a0_0 a0_1 a0_2 a0_3 a1_0 a1_1 a0_6 a0_7 a0_8 a0_9 a0_10)) = some r := h
  clear h
  obtain ⟨y411, hy411⟩ : ∃ y_ : List Int, y_ = (([1, 2, 3] : List Int)) := ⟨_, rfl⟩
  replace H : (cracknellaw18_ProjTimes.l0 k y411 (y411.length : Int) 0 a0_0 a0_1 a0_2 a0_3 a0_4 a0_5 a0_6 a0_7 a0_8 a0_9 a0_10 a2_0 a2_1 a0_0 a0_1 a0_2 a0_3 a1_0 a1_1 a0_6 a0_7 a0_8 a0_9 a0_10) = some r := by first | (rw [hy411]; with_reducible exact H) | (have H2_ := (Option.bind_some _ _).symm.trans H; rw [hy411]; with_reducible exact H2_) | (have H2_ := (Option.bind_some _ _).symm.trans H; with_reducible exact H2_) | with_reducible exact H | (rw [hy411]; exact H) | exact H
  have Ny411 := Aside0.mk hy411
  clear hy411
  have H' := Aside0.mk H
  clear H
  go_enter Tryd.func7, Tryd.ntmps7
  try go_wp2_with (first | ((with_reducible refine gate_dst (N := 3) rfl ?_); refine box_event ?hg (N := 3) ?hd (cs := #[.string a0_0, .string a0_1, .string a0_2, .string a0_3, .int .i64 a0_4, .int .i64 a0_5, .int .i64 a0_6, .bool a0_7, .bool a0_8, .bool a0_9, .int .i64 a0_10]) (t := 27) ?hr ?_; (case hd => rfl); (case hg => rfl); (case hr => first | (go_simp; done) | (go_simp; rfl)); intro gb407 hg w4 hbox hb; have n0_ := Aside0.mk (below_step xb hb); have n1_ := Aside0.mk (hbox); have n2_ := Aside0.mk ((by rw [hg]; exact (below_size xb) : w.heap.size ≤ gb407)); have n3_ := Aside0.mk ((by rw [hg]; exact (below_size xb) : w.heap.size ≤ gb407)); clear HB; have HB := n0_; have BK407 := n1_; have GW407 := n2_; have GE407 := n3_; clear n0_ n1_ n2_ n3_; clear hb hbox hg) | ((with_reducible refine gate_dst (N := 4) rfl ?_); refine box_event ?hg (N := 4) ?hd (cs := #[.int .i64 a1_0, .int .i64 a1_1]) (t := 36) ?hr ?_; (case hd => rfl); (case hg => rfl); (case hr => first | (go_simp; done) | (go_simp; rfl)); intro gb408 hg w5 hbox hb; have n0_ := blkB BK407 hb; have n1_ := Aside0.mk (below_step xb hb); have n2_ := Aside0.mk (hbox); have n3_ := Aside0.mk ((by rw [hg]; exact (below_size xb) : w.heap.size ≤ gb408)); have n4_ := Aside0.mk ((by rw [hg]; exact (below_size xb) : w.heap.size ≤ gb408)); have n5_ := Aside0.mk ((by rw [hg]; exact Nat.ne_of_lt (blkL BK407) : gb407 ≠ gb408)); have n6_ := Aside0.mk ((by rw [hg]; exact Nat.ne_of_gt (blkL BK407) : gb408 ≠ gb407)); clear BK407; clear HB; have BK407 := n0_; have HB := n1_; have BK408 := n2_; have GW408 := n3_; have GE408 := n4_; have NB407_408 := n5_; have NB408_407 := n6_; clear n0_ n1_ n2_ n3_ n4_ n5_ n6_; clear hb hbox hg) | ((with_reducible refine gate_dst (N := 5) rfl ?_); refine box_event ?hg (N := 5) ?hd (cs := #[.int .i64 a2_0, .int .i64 a2_1]) (t := 36) ?hr ?_; (case hd => rfl); (case hg => rfl); (case hr => first | (go_simp; done) | (go_simp; rfl)); intro gb409 hg w6 hbox hb; have n0_ := blkB BK407 hb; have n1_ := blkB BK408 hb; have n2_ := Aside0.mk (below_step xb hb); have n3_ := Aside0.mk (hbox); have n4_ := Aside0.mk ((by rw [hg]; exact (below_size xb) : w.heap.size ≤ gb409)); have n5_ := Aside0.mk ((by rw [hg]; exact (below_size xb) : w.heap.size ≤ gb409)); have n6_ := Aside0.mk ((by rw [hg]; exact Nat.ne_of_lt (blkL BK407) : gb407 ≠ gb409)); have n7_ := Aside0.mk ((by rw [hg]; exact Nat.ne_of_gt (blkL BK407) : gb409 ≠ gb407)); have n8_ := Aside0.mk ((by rw [hg]; exact Nat.ne_of_lt (blkL BK408) : gb408 ≠ gb409)); have n9_ := Aside0.mk ((by rw [hg]; exact Nat.ne_of_gt (blkL BK408) : gb409 ≠ gb408)); clear BK407; clear BK408; clear HB; have BK407 := n0_; have BK408 := n1_; have HB := n2_; have BK409 := n3_; have GW409 := n4_; have GE409 := n5_; have NB407_409 := n6_; have NB409_407 := n7_; have NB408_409 := n8_; have NB409_408 := n9_; clear n0_ n1_ n2_ n3_ n4_ n5_ n6_ n7_ n8_ n9_; clear hb hbox hg; have hnb7 := NB407_408.out; have hnc7 := NB408_407.out; have hnb8 := NB407_409.out; have hnc8 := NB409_407.out; have hcz9_0 : w6.cell? ⟨gb407, 0, none⟩ = some (.string a0_0) := (blk_cell BK407.out 0).trans rfl; have hcz9_1 : w6.cell? ⟨gb407, 1, none⟩ = some (.string a0_1) := (blk_cell BK407.out 1).trans rfl; have hcz9_2 : w6.cell? ⟨gb407, 2, none⟩ = some (.string a0_2) := (blk_cell BK407.out 2).trans rfl; have hcz9_3 : w6.cell? ⟨gb407, 3, none⟩ = some (.string a0_3) := (blk_cell BK407.out 3).trans rfl; have hcz9_4 : w6.cell? ⟨gb407, 4, none⟩ = some (.int .i64 a0_4) := (blk_cell BK407.out 4).trans rfl; have hcz9_5 : w6.cell? ⟨gb407, 5, none⟩ = some (.int .i64 a0_5) := (blk_cell BK407.out 5).trans rfl; have hcz9_6 : w6.cell? ⟨gb407, 6, none⟩ = some (.int .i64 a0_6) := (blk_cell BK407.out 6).trans rfl; have hcz9_7 : w6.cell? ⟨gb407, 7, none⟩ = some (.bool a0_7) := (blk_cell BK407.out 7).trans rfl; have hcz9_8 : w6.cell? ⟨gb407, 8, none⟩ = some (.bool a0_8) := (blk_cell BK407.out 8).trans rfl; have hcz9_9 : w6.cell? ⟨gb407, 9, none⟩ = some (.bool a0_9) := (blk_cell BK407.out 9).trans rfl; have hcz9_10 : w6.cell? ⟨gb407, 10, none⟩ = some (.int .i64 a0_10) := (blk_cell BK407.out 10).trans rfl; have hfz9_0 := blk_frozen BK407.out 0; have hfz9_1 := blk_frozen BK407.out 1; have hfz9_2 := blk_frozen BK407.out 2; have hfz9_3 := blk_frozen BK407.out 3; have hfz9_4 := blk_frozen BK407.out 4; have hfz9_5 := blk_frozen BK407.out 5; have hfz9_6 := blk_frozen BK407.out 6; have hfz9_7 := blk_frozen BK407.out 7; have hfz9_8 := blk_frozen BK407.out 8; have hfz9_9 := blk_frozen BK407.out 9; have hfz9_10 := blk_frozen BK407.out 10) | ((with_reducible refine gate_dst (N := 7) rfl ?_); refine box_event ?hg (N := 7) ?hd (cs := #[.string (⟨#[]⟩ : ByteArray), .string (⟨#[]⟩ : ByteArray), .string (⟨#[]⟩ : ByteArray), .string (⟨#[]⟩ : ByteArray), .int .i64 0, .int .i64 0, .int .i64 0, .bool false, .bool false, .bool false, .int .i64 0]) (t := 27) ?hr ?_; (case hd => rfl); (case hg => rfl); (case hr => first | (go_simp; done) | (go_simp; rfl)); intro gb410 hg w10 hbox hb; have n0_ := blkB BK407 hb; have n1_ := blkB BK408 hb; have n2_ := blkB BK409 hb; have n3_ := Aside0.mk (below_step xb hb); have n4_ := Aside0.mk (hbox); have n5_ := Aside0.mk ((by rw [hg]; exact (below_size xb) : w.heap.size ≤ gb410)); have n6_ := Aside0.mk ((by rw [hg]; exact (below_size xb) : w.heap.size ≤ gb410)); have n7_ := Aside0.mk ((by rw [hg]; exact Nat.ne_of_lt (blkL BK407) : gb407 ≠ gb410)); have n8_ := Aside0.mk ((by rw [hg]; exact Nat.ne_of_gt (blkL BK407) : gb410 ≠ gb407)); have n9_ := Aside0.mk ((by rw [hg]; exact Nat.ne_of_lt (blkL BK408) : gb408 ≠ gb410)); have n10_ := Aside0.mk ((by rw [hg]; exact Nat.ne_of_gt (blkL BK408) : gb410 ≠ gb408)); have n11_ := Aside0.mk ((by rw [hg]; exact Nat.ne_of_lt (blkL BK409) : gb409 ≠ gb410)); have n12_ := Aside0.mk ((by rw [hg]; exact Nat.ne_of_gt (blkL BK409) : gb410 ≠ gb409)); clear BK407; clear BK408; clear BK409; clear HB; have BK407 := n0_; have BK408 := n1_; have BK409 := n2_; have HB := n3_; have BK410 := n4_; have GW410 := n5_; have GE410 := n6_; have NB407_410 := n7_; have NB410_407 := n8_; have NB408_410 := n9_; have NB410_408 := n10_; have NB409_410 := n11_; have NB410_409 := n12_; clear n0_ n1_ n2_ n3_ n4_ n5_ n6_ n7_ n8_ n9_ n10_ n11_ n12_; clear hb hbox hg; have hnb11 := NB410_407.out; have hnc11 := NB407_410.out; have hnb12 := NB410_408.out; have hnc12 := NB408_410.out; have hnb13 := NB410_409.out; have hnc13 := NB409_410.out; have hcz14_0 : w10.cell? ⟨gb410, 0, none⟩ = some (.string (⟨#[]⟩ : ByteArray)) := (blk_cell BK410.out 0).trans rfl; have hcz14_1 : w10.cell? ⟨gb410, 1, none⟩ = some (.string (⟨#[]⟩ : ByteArray)) := (blk_cell BK410.out 1).trans rfl; have hcz14_2 : w10.cell? ⟨gb410, 2, none⟩ = some (.string (⟨#[]⟩ : ByteArray)) := (blk_cell BK410.out 2).trans rfl; have hcz14_3 : w10.cell? ⟨gb410, 3, none⟩ = some (.string (⟨#[]⟩ : ByteArray)) := (blk_cell BK410.out 3).trans rfl; have hcz14_4 : w10.cell? ⟨gb410, 4, none⟩ = some (.int .i64 0) := (blk_cell BK410.out 4).trans rfl; have hcz14_5 : w10.cell? ⟨gb410, 5, none⟩ = some (.int .i64 0) := (blk_cell BK410.out 5).trans rfl; have hcz14_6 : w10.cell? ⟨gb410, 6, none⟩ = some (.int .i64 0) := (blk_cell BK410.out 6).trans rfl; have hcz14_7 : w10.cell? ⟨gb410, 7, none⟩ = some (.bool false) := (blk_cell BK410.out 7).trans rfl; have hcz14_8 : w10.cell? ⟨gb410, 8, none⟩ = some (.bool false) := (blk_cell BK410.out 8).trans rfl; have hcz14_9 : w10.cell? ⟨gb410, 9, none⟩ = some (.bool false) := (blk_cell BK410.out 9).trans rfl; have hcz14_10 : w10.cell? ⟨gb410, 10, none⟩ = some (.int .i64 0) := (blk_cell BK410.out 10).trans rfl; have hfz14_0 := blk_frozen BK410.out 0; have hfz14_1 := blk_frozen BK410.out 1; have hfz14_2 := blk_frozen BK410.out 2; have hfz14_3 := blk_frozen BK410.out 3; have hfz14_4 := blk_frozen BK410.out 4; have hfz14_5 := blk_frozen BK410.out 5; have hfz14_6 := blk_frozen BK410.out 6; have hfz14_7 := blk_frozen BK410.out 7; have hfz14_8 := blk_frozen BK410.out 8; have hfz14_9 := blk_frozen BK410.out 9; have hfz14_10 := blk_frozen BK410.out 10))
  obtain ⟨w15, hw_⟩ : ∃ v_, (((((((((((w10.setCell ⟨gb410, 0, none⟩ (.string a0_0)).setCell ⟨gb410, 1, none⟩ (.string a0_1)).setCell ⟨gb410, 2, none⟩ (.string a0_2)).setCell ⟨gb410, 3, none⟩ (.string a0_3)).setCell ⟨gb410, 4, none⟩ (.int .i64 a0_4)).setCell ⟨gb410, 5, none⟩ (.int .i64 a0_5)).setCell ⟨gb410, 6, none⟩ (.int .i64 a0_6)).setCell ⟨gb410, 7, none⟩ (.bool a0_7)).setCell ⟨gb410, 8, none⟩ (.bool a0_8)).setCell ⟨gb410, 9, none⟩ (.bool a0_9)).setCell ⟨gb410, 10, none⟩ (.int .i64 a0_10)) = v_ := ⟨_, rfl⟩
  have n0_ : Aside0 (w15.heap[gb407]? = some (.cells #[.string a0_0, .string a0_1, .string a0_2, .string a0_3, .int .i64 a0_4, .int .i64 a0_5, .int .i64 a0_6, .bool a0_7, .bool a0_8, .bool a0_9, .int .i64 a0_10] 27 (0, 0))) := by rw [← hw_]; exact ⟨xk⟩
  have n1_ : Aside0 (w15.heap[gb408]? = some (.cells #[.int .i64 a1_0, .int .i64 a1_1] 36 (0, 0))) := by rw [← hw_]; exact ⟨xk⟩
  have n2_ : Aside0 (w15.heap[gb409]? = some (.cells #[.int .i64 a2_0, .int .i64 a2_1] 36 (0, 0))) := by rw [← hw_]; exact ⟨xk⟩
  have n3_ : Aside0 (w15.heap[gb410]? = some (.cells #[.string a0_0, .string a0_1, .string a0_2, .string a0_3, .int .i64 a0_4, .int .i64 a0_5, .int .i64 a0_6, .bool a0_7, .bool a0_8, .bool a0_9, .int .i64 a0_10] 27 (0, 0))) := by rw [← hw_]; exact ⟨xk⟩
  have n4_ : Aside0 (Below w.heap.size w w15) := by rw [← hw_]; exact ⟨xb⟩
  (try clear BK407)
  (try clear BK408)
  (try clear BK409)
  (try clear BK410)
  (try clear HB)
  (try rewrite [hw_])
  clear hw_
  have BK407 := n0_
  have BK408 := n1_
  have BK409 := n2_
  have BK410 := n3_
  have HB := n4_
  clear n0_ n1_ n2_ n3_ n4_
  have n0_ := Aside0.mk (blk_drew BK407.out)
  have n1_ := Aside0.mk (blk_drew BK408.out)
  have n2_ := Aside0.mk (blk_drew BK409.out)
  have n3_ := Aside0.mk (blk_drew BK410.out)
  have n4_ := Aside0.mk (below_drew1 HB.out)
  clear BK407
  clear BK408
  clear BK409
  clear BK410
  clear HB
  have BK407 := n0_
  have BK408 := n1_
  have BK409 := n2_
  have BK410 := n3_
  have HB := n4_
  clear n0_ n1_ n2_ n3_ n4_
  refine start_ (n := 8) (S := fun w' => w'.cell? ⟨gb408, 0, none⟩ = some (.int .i64 a1_0) ∧ w'.cell? ⟨gb408, 1, none⟩ = some (.int .i64 a1_1)) (ds := []) #[false, false, false, false, false, false, false, false] (by kernel_rfl) rfl rfl ⟨(blk_cell BK408.out 0).trans rfl, (blk_cell BK408.out 1).trans rfl⟩ (fun hHeld => ?_); refine with_tabW cracknellaw18_ProjTimes.tab2 cracknellaw18_ProjTimes.bits2 (fun HT_ HW_ => ?_)
  generalize w15.drew = w16 at BK407 BK408 BK409 BK410 HB hHeld ⊢
  refine pure_ (i := 0) (N := some 17) (v := ?_) (a' := ?_) #[true, false, false, false, false, false, false, false] rfl rfl (any_of HT_.out (by kernel_rfl)) (fun _ _ _ h => h) (Or.inl ⟨by rfl, ?_⟩) ?_ ?_
  rotate_left
  · intro w'
    go_simp
    with_reducible rfl
  rotate_left
  · simp only [Act.put, List.setIfInBounds_toArray, List.set_cons_zero, List.set_cons_succ, i64_w, i32_w]
    rfl
  refine pure_ (i := 2) (N := some 19) (v := ?_) (a' := ?_) #[true, false, true, false, false, false, false, false] rfl rfl (any_of HT_.out (by kernel_rfl)) (fun _ _ _ h => h) (Or.inl ⟨by rfl, ?_⟩) ?_ ?_
  rotate_left
  · intro w'
    go_simp
    with_reducible rfl
  rotate_left
  · simp only [Act.put, List.setIfInBounds_toArray, List.set_cons_zero, List.set_cons_succ, i64_w, i32_w]
    rfl
  refine take_ (i := 1) (N := some 18) (v := ?_) (a' := ?_) #[true, true, true, false, false, false, false, false] rfl rfl (take_ofW HT_.out HW_.out (by kernel_rfl)) (fun _ _ _ h => h) (Or.inl ⟨by rfl, ?_⟩) hHeld ?_ ?_
  rotate_left
  · rintro w' ⟨s0, s1⟩
    go_simp
    with_reducible rfl
  rotate_left
  · simp only [Act.put, List.setIfInBounds_toArray, List.set_cons_zero, List.set_cons_succ, i64_w, i32_w]
    rfl
  refine pure_ (i := 4) (N := some 21) (v := ?_) (a' := ?_) #[true, true, true, false, true, false, false, false] rfl rfl (any_of HT_.out (by kernel_rfl)) (fun _ _ _ h => h) (Or.inl ⟨by rfl, ?_⟩) ?_ ?_
  rotate_left
  · intro w'
    go_simp
    with_reducible rfl
  rotate_left
  · simp only [Act.put, List.setIfInBounds_toArray, List.set_cons_zero, List.set_cons_succ, i64_w, i32_w]
    rfl
  refine take_ (i := 3) (N := some 20) (v := ?_) (a' := ?_) #[true, true, true, true, true, false, false, false] rfl rfl (take_ofW HT_.out HW_.out (by kernel_rfl)) (fun _ _ _ h => h) (Or.inl ⟨by rfl, ?_⟩) hHeld ?_ ?_
  rotate_left
  · rintro w' ⟨s0, s1⟩
    go_simp
    with_reducible rfl
  rotate_left
  · simp only [Act.put, List.setIfInBounds_toArray, List.set_cons_zero, List.set_cons_succ, i64_w, i32_w]
    rfl
  refine one_ (i := 5) (N := none) #[true, true, true, true, true, true, false, false] rfl rfl (one_of HT_.out (by kernel_rfl)) (by decide) (fun K hK => ?_)
  have hs17 : w16.cell? ⟨gb410, 4, none⟩ = some (.int .i64 a0_4) := (blk_cell BK410.out 4).trans rfl
  have hfs17 := blk_frozen BK410.out 4
  have hns17_0 := NB407_410.out
  have hns17_1 := NB408_410.out
  have hns17_2 := NB409_410.out
  have hms17_0 := NB410_407.out
  have hms17_1 := NB410_408.out
  have hms17_2 := NB410_409.out
  refine skip_ (w1 := ?_) (by rfl) rfl ?_ ?_
  rotate_left
  · go_simp
    rfl
  refine hK.out _ _ ⟨((cell_far (p := ⟨gb410, _, none⟩) NB408_410.out _).trans (hHeld.1)), ((cell_far (p := ⟨gb410, _, none⟩) NB408_410.out _).trans (hHeld.2))⟩ (fun hHeld => ?_)
  clear hK K
  refine pure_ (i := 6) (N := some 22) (v := ?_) (a' := ?_) #[true, true, true, true, true, true, true, false] rfl rfl (any_of HT_.out (by kernel_rfl)) (fun _ _ _ h => h) (Or.inl ⟨by rfl, ?_⟩) ?_ ?_
  rotate_left
  · intro w'
    go_simp
    with_reducible rfl
  rotate_left
  · simp only [Act.put, List.setIfInBounds_toArray, List.set_cons_zero, List.set_cons_succ, i64_w, i32_w]
    rfl
  refine one_ (i := 7) (N := none) #[true, true, true, true, true, true, true, true] rfl rfl (one_of HT_.out (by kernel_rfl)) (by decide) (fun K hK => ?_)
  have hs18 : w16.cell? ⟨gb410, 5, none⟩ = some (.int .i64 a0_5) := (blk_cell BK410.out 5).trans rfl
  have hfs18 := blk_frozen BK410.out 5
  have hns18_0 := NB407_410.out
  have hns18_1 := NB408_410.out
  have hns18_2 := NB409_410.out
  have hms18_0 := NB410_407.out
  have hms18_1 := NB410_408.out
  have hms18_2 := NB410_409.out
  refine skip_ (w1 := ?_) (by rfl) rfl ?_ ?_
  rotate_left
  · go_simp
    rfl
  refine hK.out _ _ ⟨((cell_far (p := ⟨gb410, _, none⟩) NB408_410.out _).trans (hHeld.1)), ((cell_far (p := ⟨gb410, _, none⟩) NB408_410.out _).trans (hHeld.2))⟩ (fun hHeld => ?_)
  clear hK K
  refine done_ (done_of HT_.out (by kernel_rfl)) ?_
  try go_wp2_with (first | ((with_reducible refine gate_dst (N := 23) rfl ?_); refine Kd.R_lit (Kd.int .i64) _ 3 ?hg (N := 23) ?hd (xs := ([1, 2, 3] : List Int)) (inner := [.int .i64 1, .int .i64 2, .int .i64 3]) (ok := fun _ => True) (okp := fun _ => True) ?hr ?hp (fun _ hk => hk) trivial (Below.refl _ _) (Nat.le_refl _) (by simp) ?_; (case hd => rfl); (case hg => rfl); (case hr => first | (go_simp; done) | (go_simp; rfl)); (case hp => exact (Reps.one (show Kd.M (Kd.int .i64) _ _ _ 1 [.int .i64 1] from rfl) (Reps.one (show Kd.M (Kd.int .i64) _ _ _ 2 [.int .i64 2] from rfl) (Reps.one (show Kd.M (Kd.int .i64) _ _ _ 3 [.int .i64 3] from rfl) (Reps.none _ _))))); intro v412 w19 ho20 hb hg_ hnew_; clear hg_ hnew_; (first | rw [← Ny411.out] at ho20 | (simp only [Int.reduceToNat] at ho20; rw [← Ny411.out] at ho20)); have n0_ := Aside0.mk (Kd.R_lower ho20 (below_size xb)); have n1_ := blkB BK407 hb; have n2_ := blkB BK408 hb; have n3_ := blkB BK409 hb; have n4_ := Aside0.mk (blk_below (g := gb410) (o := .cells #[.string a0_0, .string a0_1, .string a0_2, .string a0_3, .int .i64 a1_0, .int .i64 a1_1, .int .i64 a0_6, .bool a0_7, .bool a0_8, .bool a0_9, .int .i64 a0_10] 27 (0, 0)) xk hb); have n5_ := Aside0.mk (below_step xb hb); clear BK407; clear BK408; clear BK409; clear BK410; clear HB; have HO413 := n0_; have BK407 := n1_; have BK408 := n2_; have BK409 := n3_; have BK410 := n4_; have HB := n5_; clear n0_ n1_ n2_ n3_ n4_ n5_; clear hb ho20; obtain ⟨Ao21, co21, eo21⟩ := Kd.R_slice HO413.out; subst eo21))
  go_loopg [25] k (fun kq v25 w' => ∃ (x25_1 : Int), v25 = .int .i64 x25_1 ∧ Aside0 (cracknellaw18_ProjTimes.l0 kq y411 (y411.length : Int) x25_1 a0_0 a0_1 a0_2 a0_3 a0_4 a0_5 a0_6 a0_7 a0_8 a0_9 a0_10 a2_0 a2_1 a0_0 a0_1 a0_2 a0_3 a1_0 a1_1 a0_6 a0_7 a0_8 a0_9 a0_10 = some r) ∧ Aside0 (kq ≤ k) ∧ Aside0 (Kd.R (Kd.int .i64) 3 w' w.heap.size (fun _ => True) (.slice Ao21 y411.length co21) y411) ∧ Aside0 (w'.heap[gb407]? = some (.cells #[.string a0_0, .string a0_1, .string a0_2, .string a0_3, .int .i64 a0_4, .int .i64 a0_5, .int .i64 a0_6, .bool a0_7, .bool a0_8, .bool a0_9, .int .i64 a0_10] 27 (0, 0))) ∧ Aside0 (w'.heap[gb408]? = some (.cells #[.int .i64 a1_0, .int .i64 a1_1] 36 (0, 0))) ∧ Aside0 (w'.heap[gb409]? = some (.cells #[.int .i64 a2_0, .int .i64 a2_1] 36 (0, 0))) ∧ Aside0 (w'.heap[gb410]? = some (.cells #[.string a0_0, .string a0_1, .string a0_2, .string a0_3, .int .i64 a1_0, .int .i64 a1_1, .int .i64 a0_6, .bool a0_7, .bool a0_8, .bool a0_9, .int .i64 a0_10] 27 (0, 0))) ∧ Aside0 (Below w.heap.size w w'))
  case atStart => exact ⟨(0), (by first | rfl | (simp; done) | (simp [*]; done)), H', ⟨Nat.le_refl _⟩, ⟨by (with_reducible repeat (first | apply Kd.R_alloc | apply Kd.R_drewN | apply Kd.R_drew)); exact HO413.out⟩, ⟨xk⟩, ⟨xk⟩, ⟨xk⟩, ⟨xk⟩, ⟨xb⟩⟩
  case round =>
    clear H'
    try clear c1
    try clear p2
    try clear c7
    try clear c8
    try clear c11
    try clear c12
    try clear c13
    try clear hcz14_0
    try clear hcz14_1
    try clear hcz14_10
    try clear hcz14_2
    try clear hcz14_3
    try clear hcz14_4
    try clear hcz14_5
    try clear hcz14_6
    try clear hcz14_7
    try clear hcz14_8
    try clear hcz14_9
    try clear hcz9_0
    try clear hcz9_1
    try clear hcz9_10
    try clear hcz9_2
    try clear hcz9_3
    try clear hcz9_4
    try clear hcz9_5
    try clear hcz9_6
    try clear hcz9_7
    try clear hcz9_8
    try clear hcz9_9
    try clear hfz14_0
    try clear hfz14_1
    try clear hfz14_10
    try clear hfz14_2
    try clear hfz14_3
    try clear hfz14_4
    try clear hfz14_5
    try clear hfz14_6
    try clear hfz14_7
    try clear hfz14_8
    try clear hfz14_9
    try clear hfz9_0
    try clear hfz9_1
    try clear hfz9_10
    try clear hfz9_2
    try clear hfz9_3
    try clear hfz9_4
    try clear hfz9_5
    try clear hfz9_6
    try clear hfz9_7
    try clear hfz9_8
    try clear hfz9_9
    obtain ⟨x25_1, rfl, HA, HK1, HO_23, BK407, BK408, BK409, BK410, HB⟩ := hrel
    cases gk with
    | zero => exact absurd HA.out (by simp [cracknellaw18_ProjTimes.l0])
    | succ k1 =>
      have H := HA.out
      clear HA
      simp only [cracknellaw18_ProjTimes.l0] at H
      by_cases c22 : x25_1 < (y411.length : Int)
      · rw [if_pos c22] at H
        have c22b0 : decide (x25_1 < (y411.length : Int)) = true := decide_eq_true c22
        clear c22
        by_cases c23 : 0 ≤ x25_1
        · rw [if_pos c23] at H
          have c23b0 : decide (0 ≤ x25_1) = true := decide_eq_true c23
          clear c23
          by_cases c24 : x25_1 < (y411.length : Int)
          · rw [if_pos c24] at H
            have c24b0 : decide (x25_1 < (y411.length : Int)) = true := decide_eq_true c24
            clear c24
            replace H := Option.bind_eq_some_iff.mp H
            obtain ⟨⟨t416, t417, t418, t419, t420, t421, t422, t423, t424, t425, t426, t427⟩, A250, H⟩ := H
            replace H : ((proj_Cookie.f k1 (rd y411 x25_1) a2_0 a0_0 a0_1 a0_2 a0_3 a1_0 a1_1 a0_6 a0_7 a0_8 a0_9 a0_10).bind fun bt429 => ((proj_Cookie.f k1 (rd y411 x25_1) a2_1 a0_0 a0_1 a0_2 a0_3 a0_4 a0_5 a0_6 a0_7 a0_8 a0_9 a0_10).bind fun bt442 => (if (!(t416.toList == bt429.1.toList) || (!(t417.toList == bt429.2.1.toList) || (!(t418.toList == bt429.2.2.1.toList) || (!(t419.toList == bt429.2.2.2.1.toList) || (!(t420 == bt429.2.2.2.2.1) || (!(t421 == bt429.2.2.2.2.2.1) || (!(t422 == bt429.2.2.2.2.2.2.1) || (!(t423 == bt429.2.2.2.2.2.2.2.1) || (!(t424 == bt429.2.2.2.2.2.2.2.2.1) || (!(t425 == bt429.2.2.2.2.2.2.2.2.2.1) || (!(t426 == bt429.2.2.2.2.2.2.2.2.2.2.1)))))))))))) = true then (cracknellaw18_ProjTimes.j1 k1 t427 bt442.2.2.2.2.2.2.2.2.2.2.2 y411 (y411.length : Int) x25_1 true a0_0 a0_1 a0_2 a0_3 a0_4 a0_5 a0_6 a0_7 a0_8 a0_9 a0_10 a2_0 a2_1 a0_0 a0_1 a0_2 a0_3 a1_0 a1_1 a0_6 a0_7 a0_8 a0_9 a0_10 t416 t417 t418 t419 t420 t421 t422 t423 t424 t425 t426 bt442.1 bt442.2.1 bt442.2.2.1 bt442.2.2.2.1 bt442.2.2.2.2.1 bt442.2.2.2.2.2.1 bt442.2.2.2.2.2.2.1 bt442.2.2.2.2.2.2.2.1 bt442.2.2.2.2.2.2.2.2.1 bt442.2.2.2.2.2.2.2.2.2.1 bt442.2.2.2.2.2.2.2.2.2.2.1) else (cracknellaw18_ProjTimes.j1 k1 t427 bt442.2.2.2.2.2.2.2.2.2.2.2 y411 (y411.length : Int) x25_1 (t427 != bt429.2.2.2.2.2.2.2.2.2.2.2) a0_0 a0_1 a0_2 a0_3 a0_4 a0_5 a0_6 a0_7 a0_8 a0_9 a0_10 a2_0 a2_1 a0_0 a0_1 a0_2 a0_3 a1_0 a1_1 a0_6 a0_7 a0_8 a0_9 a0_10 t416 t417 t418 t419 t420 t421 t422 t423 t424 t425 t426 bt442.1 bt442.2.1 bt442.2.2.1 bt442.2.2.2.1 bt442.2.2.2.2.1 bt442.2.2.2.2.2.1 bt442.2.2.2.2.2.2.1 bt442.2.2.2.2.2.2.2.1 bt442.2.2.2.2.2.2.2.2.1 bt442.2.2.2.2.2.2.2.2.2.1 bt442.2.2.2.2.2.2.2.2.2.2.1)))) = some r := H
            have A25 := Aside0.mk A250
            clear A250
            replace H := Option.bind_eq_some_iff.mp H
            obtain ⟨⟨t429, t430, t431, t432, t433, t434, t435, t436, t437, t438, t439, t440⟩, A260, H⟩ := H
            replace H : ((proj_Cookie.f k1 (rd y411 x25_1) a2_1 a0_0 a0_1 a0_2 a0_3 a0_4 a0_5 a0_6 a0_7 a0_8 a0_9 a0_10).bind fun bt442 => (if (!(t416.toList == t429.toList) || (!(t417.toList == t430.toList) || (!(t418.toList == t431.toList) || (!(t419.toList == t432.toList) || (!(t420 == t433) || (!(t421 == t434) || (!(t422 == t435) || (!(t423 == t436) || (!(t424 == t437) || (!(t425 == t438) || (!(t426 == t439)))))))))))) = true then (cracknellaw18_ProjTimes.j1 k1 t427 bt442.2.2.2.2.2.2.2.2.2.2.2 y411 (y411.length : Int) x25_1 true a0_0 a0_1 a0_2 a0_3 a0_4 a0_5 a0_6 a0_7 a0_8 a0_9 a0_10 a2_0 a2_1 a0_0 a0_1 a0_2 a0_3 a1_0 a1_1 a0_6 a0_7 a0_8 a0_9 a0_10 t416 t417 t418 t419 t420 t421 t422 t423 t424 t425 t426 bt442.1 bt442.2.1 bt442.2.2.1 bt442.2.2.2.1 bt442.2.2.2.2.1 bt442.2.2.2.2.2.1 bt442.2.2.2.2.2.2.1 bt442.2.2.2.2.2.2.2.1 bt442.2.2.2.2.2.2.2.2.1 bt442.2.2.2.2.2.2.2.2.2.1 bt442.2.2.2.2.2.2.2.2.2.2.1) else (cracknellaw18_ProjTimes.j1 k1 t427 bt442.2.2.2.2.2.2.2.2.2.2.2 y411 (y411.length : Int) x25_1 (t427 != t440) a0_0 a0_1 a0_2 a0_3 a0_4 a0_5 a0_6 a0_7 a0_8 a0_9 a0_10 a2_0 a2_1 a0_0 a0_1 a0_2 a0_3 a1_0 a1_1 a0_6 a0_7 a0_8 a0_9 a0_10 t416 t417 t418 t419 t420 t421 t422 t423 t424 t425 t426 bt442.1 bt442.2.1 bt442.2.2.1 bt442.2.2.2.1 bt442.2.2.2.2.1 bt442.2.2.2.2.2.1 bt442.2.2.2.2.2.2.1 bt442.2.2.2.2.2.2.2.1 bt442.2.2.2.2.2.2.2.2.1 bt442.2.2.2.2.2.2.2.2.2.1 bt442.2.2.2.2.2.2.2.2.2.2.1))) = some r := H
            have A26 := Aside0.mk A260
            clear A260
            replace H := Option.bind_eq_some_iff.mp H
            obtain ⟨⟨t442, t443, t444, t445, t446, t447, t448, t449, t450, t451, t452, t453⟩, A270, H⟩ := H
            replace H : (if (!(t416.toList == t429.toList) || (!(t417.toList == t430.toList) || (!(t418.toList == t431.toList) || (!(t419.toList == t432.toList) || (!(t420 == t433) || (!(t421 == t434) || (!(t422 == t435) || (!(t423 == t436) || (!(t424 == t437) || (!(t425 == t438) || (!(t426 == t439)))))))))))) = true then (cracknellaw18_ProjTimes.j1 k1 t427 t453 y411 (y411.length : Int) x25_1 true a0_0 a0_1 a0_2 a0_3 a0_4 a0_5 a0_6 a0_7 a0_8 a0_9 a0_10 a2_0 a2_1 a0_0 a0_1 a0_2 a0_3 a1_0 a1_1 a0_6 a0_7 a0_8 a0_9 a0_10 t416 t417 t418 t419 t420 t421 t422 t423 t424 t425 t426 t442 t443 t444 t445 t446 t447 t448 t449 t450 t451 t452) else (cracknellaw18_ProjTimes.j1 k1 t427 t453 y411 (y411.length : Int) x25_1 (t427 != t440) a0_0 a0_1 a0_2 a0_3 a0_4 a0_5 a0_6 a0_7 a0_8 a0_9 a0_10 a2_0 a2_1 a0_0 a0_1 a0_2 a0_3 a1_0 a1_1 a0_6 a0_7 a0_8 a0_9 a0_10 t416 t417 t418 t419 t420 t421 t422 t423 t424 t425 t426 t442 t443 t444 t445 t446 t447 t448 t449 t450 t451 t452)) = some r := H
            have A27 := Aside0.mk A270
            clear A270
            have HC28 := Aside0.mk H
            clear H
            have p415 : 0 ≤ (x25_1 : Int) := of_decide_eq_true (by first | (with_reducible assumption) | assumption)
            have q415 : x25_1 < (y411.length : Int) := of_decide_eq_true (by first | (with_reducible assumption) | assumption)
            obtain ⟨ad415, e415, hx415_0⟩ := Kd.at_int (Kd.R_reads' HO_23.out).2.2 x25_1 p415 q415
            cases e415
            replace p415 := eq_true p415
            replace q415 := eq_true q415
            have hnb29 := NB409_407.out
            have hnc29 := NB407_409.out
            have hnb30 := NB409_408.out
            have hnc30 := NB408_409.out
            have hnb31 := NB409_410.out
            have hnc31 := NB410_409.out
            have hcz32_0 : wr.cell? ⟨gb409, 0, none⟩ = some (.int .i64 a2_0) := (blk_cell BK409.out 0).trans rfl
            have hcz32_1 : wr.cell? ⟨gb409, 1, none⟩ = some (.int .i64 a2_1) := (blk_cell BK409.out 1).trans rfl
            have hfz32_0 := blk_frozen BK409.out 0
            have hfz32_1 := blk_frozen BK409.out 1
            have hnb33 := NB407_408.out
            have hnc33 := NB408_407.out
            have hnb34 := NB407_410.out
            have hnc34 := NB410_407.out
            have hcz35_0 : wr.cell? ⟨gb407, 0, none⟩ = some (.string a0_0) := (blk_cell BK407.out 0).trans rfl
            have hcz35_1 : wr.cell? ⟨gb407, 1, none⟩ = some (.string a0_1) := (blk_cell BK407.out 1).trans rfl
            have hcz35_2 : wr.cell? ⟨gb407, 2, none⟩ = some (.string a0_2) := (blk_cell BK407.out 2).trans rfl
            have hcz35_3 : wr.cell? ⟨gb407, 3, none⟩ = some (.string a0_3) := (blk_cell BK407.out 3).trans rfl
            have hcz35_4 : wr.cell? ⟨gb407, 4, none⟩ = some (.int .i64 a0_4) := (blk_cell BK407.out 4).trans rfl
            have hcz35_5 : wr.cell? ⟨gb407, 5, none⟩ = some (.int .i64 a0_5) := (blk_cell BK407.out 5).trans rfl
            have hcz35_6 : wr.cell? ⟨gb407, 6, none⟩ = some (.int .i64 a0_6) := (blk_cell BK407.out 6).trans rfl
            have hcz35_7 : wr.cell? ⟨gb407, 7, none⟩ = some (.bool a0_7) := (blk_cell BK407.out 7).trans rfl
            have hcz35_8 : wr.cell? ⟨gb407, 8, none⟩ = some (.bool a0_8) := (blk_cell BK407.out 8).trans rfl
            have hcz35_9 : wr.cell? ⟨gb407, 9, none⟩ = some (.bool a0_9) := (blk_cell BK407.out 9).trans rfl
            have hcz35_10 : wr.cell? ⟨gb407, 10, none⟩ = some (.int .i64 a0_10) := (blk_cell BK407.out 10).trans rfl
            have hfz35_0 := blk_frozen BK407.out 0
            have hfz35_1 := blk_frozen BK407.out 1
            have hfz35_2 := blk_frozen BK407.out 2
            have hfz35_3 := blk_frozen BK407.out 3
            have hfz35_4 := blk_frozen BK407.out 4
            have hfz35_5 := blk_frozen BK407.out 5
            have hfz35_6 := blk_frozen BK407.out 6
            have hfz35_7 := blk_frozen BK407.out 7
            have hfz35_8 := blk_frozen BK407.out 8
            have hfz35_9 := blk_frozen BK407.out 9
            have hfz35_10 := blk_frozen BK407.out 10
            go_upto_region 9 with (first | ((with_reducible refine gate_callee (f := 13) rfl ?_); refine goesL_ (some 34) rfl rfl Tryd.func13 (by kernel_rfl) rfl #[.int .i64 (rd y411 x25_1), .int .i64 a2_0, .agg #[.string a0_0, .string a0_1, .string a0_2, .string a0_3, .int .i64 a0_4, .int .i64 a0_5, .int .i64 a0_6, .bool a0_7, .bool a0_8, .bool a0_9, .int .i64 a0_10]] rfl xg ?_; (with_reducible refine (proj_Cookie.calls k1 (rd y411 x25_1) a2_0 a0_0 a0_1 a0_2 a0_3 a0_4 a0_5 a0_6 a0_7 a0_8 a0_9 a0_10 t416 t417 t418 t419 t420 t421 t422 t423 t424 t425 t426 t427 _ A25.out).mono ?_); rintro e w36 ⟨rfl, hb⟩; refine ⟨_, rfl, ?_⟩; have n0_ := Aside0.mk (Kd.R_below (by (with_reducible repeat (first | apply Kd.R_alloc | apply Kd.R_drewN | apply Kd.R_drew)); exact HO_23.out) hb); have n1_ := blkB BK407 hb; have n2_ := blkB BK408 hb; have n3_ := blkB BK409 hb; have n4_ := blkB BK410 hb; have n5_ := Aside0.mk (below_step xb hb); clear HO_23; clear BK407; clear BK408; clear BK409; clear BK410; clear HB; have HO_23 := n0_; have BK407 := n1_; have BK408 := n2_; have BK409 := n3_; have BK410 := n4_; have HB := n5_; clear n0_ n1_ n2_ n3_ n4_ n5_; (try clear hb); (try clear hb2); (try clear hk); (try clear hi)) | ((with_reducible refine gate_dst (N := 10) rfl ?_); refine box_event ?hg (N := 10) ?hd (cs := #[.string (⟨#[]⟩ : ByteArray), .string (⟨#[]⟩ : ByteArray), .string (⟨#[]⟩ : ByteArray), .string (⟨#[]⟩ : ByteArray), .int .i64 0, .int .i64 0, .int .i64 0, .bool false, .bool false, .bool false, .int .i64 0]) (t := 27) ?hr ?_; (case hd => rfl); (case hg => rfl); (case hr => first | (go_simp; done) | (go_simp; rfl)); intro gb428 hg w37 hbox hb; have n0_ := Aside0.mk (Kd.R_below (by (with_reducible repeat (first | apply Kd.R_alloc | apply Kd.R_drewN | apply Kd.R_drew)); exact HO_23.out) hb); have n1_ := blkB BK407 hb; have n2_ := blkB BK408 hb; have n3_ := blkB BK409 hb; have n4_ := blkB BK410 hb; have n5_ := Aside0.mk (below_step xb hb); have n6_ := Aside0.mk (hbox); have n7_ := Aside0.mk ((by rw [hg]; exact (below_size xb) : w.heap.size ≤ gb428)); have n8_ := Aside0.mk ((by rw [hg]; exact (below_size xb) : w.heap.size ≤ gb428)); have n9_ := Aside0.mk ((by rw [hg]; exact Nat.ne_of_lt (blkL BK407) : gb407 ≠ gb428)); have n10_ := Aside0.mk ((by rw [hg]; exact Nat.ne_of_gt (blkL BK407) : gb428 ≠ gb407)); have n11_ := Aside0.mk ((by rw [hg]; exact Nat.ne_of_lt (blkL BK408) : gb408 ≠ gb428)); have n12_ := Aside0.mk ((by rw [hg]; exact Nat.ne_of_gt (blkL BK408) : gb428 ≠ gb408)); have n13_ := Aside0.mk ((by rw [hg]; exact Nat.ne_of_lt (blkL BK409) : gb409 ≠ gb428)); have n14_ := Aside0.mk ((by rw [hg]; exact Nat.ne_of_gt (blkL BK409) : gb428 ≠ gb409)); have n15_ := Aside0.mk ((by rw [hg]; exact Nat.ne_of_lt (blkL BK410) : gb410 ≠ gb428)); have n16_ := Aside0.mk ((by rw [hg]; exact Nat.ne_of_gt (blkL BK410) : gb428 ≠ gb410)); clear HO_23; clear BK407; clear BK408; clear BK409; clear BK410; clear HB; have HO_23 := n0_; have BK407 := n1_; have BK408 := n2_; have BK409 := n3_; have BK410 := n4_; have HB := n5_; have BK428 := n6_; have GW428 := n7_; have GE428 := n8_; have NB407_428 := n9_; have NB428_407 := n10_; have NB408_428 := n11_; have NB428_408 := n12_; have NB409_428 := n13_; have NB428_409 := n14_; have NB410_428 := n15_; have NB428_410 := n16_; clear n0_ n1_ n2_ n3_ n4_ n5_ n6_ n7_ n8_ n9_ n10_ n11_ n12_ n13_ n14_ n15_ n16_; clear hb hbox hg; have hnb38 := NB428_407.out; have hnc38 := NB407_428.out; have hnb39 := NB428_408.out; have hnc39 := NB408_428.out; have hnb40 := NB428_409.out; have hnc40 := NB409_428.out; have hnb41 := NB428_410.out; have hnc41 := NB410_428.out; have hcz42_0 : w37.cell? ⟨gb428, 0, none⟩ = some (.string (⟨#[]⟩ : ByteArray)) := (blk_cell BK428.out 0).trans rfl; have hcz42_1 : w37.cell? ⟨gb428, 1, none⟩ = some (.string (⟨#[]⟩ : ByteArray)) := (blk_cell BK428.out 1).trans rfl; have hcz42_2 : w37.cell? ⟨gb428, 2, none⟩ = some (.string (⟨#[]⟩ : ByteArray)) := (blk_cell BK428.out 2).trans rfl; have hcz42_3 : w37.cell? ⟨gb428, 3, none⟩ = some (.string (⟨#[]⟩ : ByteArray)) := (blk_cell BK428.out 3).trans rfl; have hcz42_4 : w37.cell? ⟨gb428, 4, none⟩ = some (.int .i64 0) := (blk_cell BK428.out 4).trans rfl; have hcz42_5 : w37.cell? ⟨gb428, 5, none⟩ = some (.int .i64 0) := (blk_cell BK428.out 5).trans rfl; have hcz42_6 : w37.cell? ⟨gb428, 6, none⟩ = some (.int .i64 0) := (blk_cell BK428.out 6).trans rfl; have hcz42_7 : w37.cell? ⟨gb428, 7, none⟩ = some (.bool false) := (blk_cell BK428.out 7).trans rfl; have hcz42_8 : w37.cell? ⟨gb428, 8, none⟩ = some (.bool false) := (blk_cell BK428.out 8).trans rfl; have hcz42_9 : w37.cell? ⟨gb428, 9, none⟩ = some (.bool false) := (blk_cell BK428.out 9).trans rfl; have hcz42_10 : w37.cell? ⟨gb428, 10, none⟩ = some (.int .i64 0) := (blk_cell BK428.out 10).trans rfl; have hfz42_0 := blk_frozen BK428.out 0; have hfz42_1 := blk_frozen BK428.out 1; have hfz42_2 := blk_frozen BK428.out 2; have hfz42_3 := blk_frozen BK428.out 3; have hfz42_4 := blk_frozen BK428.out 4; have hfz42_5 := blk_frozen BK428.out 5; have hfz42_6 := blk_frozen BK428.out 6; have hfz42_7 := blk_frozen BK428.out 7; have hfz42_8 := blk_frozen BK428.out 8; have hfz42_9 := blk_frozen BK428.out 9; have hfz42_10 := blk_frozen BK428.out 10; have hcz43_0 : w37.cell? ⟨gb409, 0, none⟩ = some (.int .i64 a2_0) := (blk_cell BK409.out 0).trans rfl; have hcz43_1 : w37.cell? ⟨gb409, 1, none⟩ = some (.int .i64 a2_1) := (blk_cell BK409.out 1).trans rfl; have hfz43_0 := blk_frozen BK409.out 0; have hfz43_1 := blk_frozen BK409.out 1; have hnb44 := NB410_408.out; have hnc44 := NB408_410.out; have hcz45_0 : w37.cell? ⟨gb410, 0, none⟩ = some (.string a0_0) := (blk_cell BK410.out 0).trans rfl; have hcz45_1 : w37.cell? ⟨gb410, 1, none⟩ = some (.string a0_1) := (blk_cell BK410.out 1).trans rfl; have hcz45_2 : w37.cell? ⟨gb410, 2, none⟩ = some (.string a0_2) := (blk_cell BK410.out 2).trans rfl; have hcz45_3 : w37.cell? ⟨gb410, 3, none⟩ = some (.string a0_3) := (blk_cell BK410.out 3).trans rfl; have hcz45_4 : w37.cell? ⟨gb410, 4, none⟩ = some (.int .i64 a1_0) := (blk_cell BK410.out 4).trans rfl; have hcz45_5 : w37.cell? ⟨gb410, 5, none⟩ = some (.int .i64 a1_1) := (blk_cell BK410.out 5).trans rfl; have hcz45_6 : w37.cell? ⟨gb410, 6, none⟩ = some (.int .i64 a0_6) := (blk_cell BK410.out 6).trans rfl; have hcz45_7 : w37.cell? ⟨gb410, 7, none⟩ = some (.bool a0_7) := (blk_cell BK410.out 7).trans rfl; have hcz45_8 : w37.cell? ⟨gb410, 8, none⟩ = some (.bool a0_8) := (blk_cell BK410.out 8).trans rfl; have hcz45_9 : w37.cell? ⟨gb410, 9, none⟩ = some (.bool a0_9) := (blk_cell BK410.out 9).trans rfl; have hcz45_10 : w37.cell? ⟨gb410, 10, none⟩ = some (.int .i64 a0_10) := (blk_cell BK410.out 10).trans rfl; have hfz45_0 := blk_frozen BK410.out 0; have hfz45_1 := blk_frozen BK410.out 1; have hfz45_2 := blk_frozen BK410.out 2; have hfz45_3 := blk_frozen BK410.out 3; have hfz45_4 := blk_frozen BK410.out 4; have hfz45_5 := blk_frozen BK410.out 5; have hfz45_6 := blk_frozen BK410.out 6; have hfz45_7 := blk_frozen BK410.out 7; have hfz45_8 := blk_frozen BK410.out 8; have hfz45_9 := blk_frozen BK410.out 9; have hfz45_10 := blk_frozen BK410.out 10) | ((with_reducible refine gate_callee (f := 13) rfl ?_); refine goesL_ (some 42) rfl rfl Tryd.func13 (by kernel_rfl) rfl #[.int .i64 (rd y411 x25_1), .int .i64 a2_0, .agg #[.string a0_0, .string a0_1, .string a0_2, .string a0_3, .int .i64 a1_0, .int .i64 a1_1, .int .i64 a0_6, .bool a0_7, .bool a0_8, .bool a0_9, .int .i64 a0_10]] rfl xg ?_; (with_reducible refine (proj_Cookie.calls k1 (rd y411 x25_1) a2_0 a0_0 a0_1 a0_2 a0_3 a1_0 a1_1 a0_6 a0_7 a0_8 a0_9 a0_10 t429 t430 t431 t432 t433 t434 t435 t436 t437 t438 t439 t440 _ A26.out).mono ?_); rintro e w46 ⟨rfl, hb⟩; refine ⟨_, rfl, ?_⟩; have n0_ := Aside0.mk (Kd.R_below (by (with_reducible repeat (first | apply Kd.R_alloc | apply Kd.R_drewN | apply Kd.R_drew)); exact (Kd.R_mono (Kd.R_far (p := ⟨gb428, 10, none⟩) (Kd.R_far (p := ⟨gb428, 9, none⟩) (Kd.R_far (p := ⟨gb428, 8, none⟩) (Kd.R_far (p := ⟨gb428, 7, none⟩) (Kd.R_far (p := ⟨gb428, 6, none⟩) (Kd.R_far (p := ⟨gb428, 5, none⟩) (Kd.R_far (p := ⟨gb428, 4, none⟩) (Kd.R_far (p := ⟨gb428, 3, none⟩) (Kd.R_far (p := ⟨gb428, 2, none⟩) (Kd.R_far (p := ⟨gb428, 1, none⟩) (Kd.R_far (p := ⟨gb428, 0, none⟩) (Kd.R_types HO_23.out BK428.out (by decide)) (fun _ hk => hk.2) (.string t416)) (fun _ hk => hk.2) (.string t417)) (fun _ hk => hk.2) (.string t418)) (fun _ hk => hk.2) (.string t419)) (fun _ hk => hk.2) (.int .i64 t420)) (fun _ hk => hk.2) (.int .i64 t421)) (fun _ hk => hk.2) (.int .i64 t422)) (fun _ hk => hk.2) (.bool t423)) (fun _ hk => hk.2) (.bool t424)) (fun _ hk => hk.2) (.bool t425)) (fun _ hk => hk.2) (.int .i64 t426)) (fun _ h_ => h_.1))) hb); have n1_ := blkB BK407 hb; have n2_ := blkB BK408 hb; have n3_ := blkB BK409 hb; have n4_ := blkB BK410 hb; have n5_ := Aside0.mk (blk_below (g := gb428) (o := .cells #[.string t416, .string t417, .string t418, .string t419, .int .i64 t420, .int .i64 t421, .int .i64 t422, .bool t423, .bool t424, .bool t425, .int .i64 t426] 27 (0, 0)) xk hb); have n6_ := Aside0.mk (below_step xb hb); clear HO_23; clear BK407; clear BK408; clear BK409; clear BK410; clear BK428; clear HB; have HO_23 := n0_; have BK407 := n1_; have BK408 := n2_; have BK409 := n3_; have BK410 := n4_; have BK428 := n5_; have HB := n6_; clear n0_ n1_ n2_ n3_ n4_ n5_ n6_; (try clear hb); (try clear hb2); (try clear hk); (try clear hi)) | ((with_reducible refine gate_dst (N := 12) rfl ?_); refine box_event ?hg (N := 12) ?hd (cs := #[.string (⟨#[]⟩ : ByteArray), .string (⟨#[]⟩ : ByteArray), .string (⟨#[]⟩ : ByteArray), .string (⟨#[]⟩ : ByteArray), .int .i64 0, .int .i64 0, .int .i64 0, .bool false, .bool false, .bool false, .int .i64 0]) (t := 27) ?hr ?_; (case hd => rfl); (case hg => rfl); (case hr => first | (go_simp; done) | (go_simp; rfl)); intro gb441 hg w47 hbox hb; have n0_ := Aside0.mk (Kd.R_below (by (with_reducible repeat (first | apply Kd.R_alloc | apply Kd.R_drewN | apply Kd.R_drew)); exact HO_23.out) hb); have n1_ := blkB BK407 hb; have n2_ := blkB BK408 hb; have n3_ := blkB BK409 hb; have n4_ := blkB BK410 hb; have n5_ := blkB BK428 hb; have n6_ := Aside0.mk (below_step xb hb); have n7_ := Aside0.mk (hbox); have n8_ := Aside0.mk ((by rw [hg]; exact (below_size xb) : w.heap.size ≤ gb441)); have n9_ := Aside0.mk ((by rw [hg]; exact (below_size xb) : w.heap.size ≤ gb441)); have n10_ := Aside0.mk ((by rw [hg]; exact Nat.ne_of_lt (blkL BK407) : gb407 ≠ gb441)); have n11_ := Aside0.mk ((by rw [hg]; exact Nat.ne_of_gt (blkL BK407) : gb441 ≠ gb407)); have n12_ := Aside0.mk ((by rw [hg]; exact Nat.ne_of_lt (blkL BK408) : gb408 ≠ gb441)); have n13_ := Aside0.mk ((by rw [hg]; exact Nat.ne_of_gt (blkL BK408) : gb441 ≠ gb408)); have n14_ := Aside0.mk ((by rw [hg]; exact Nat.ne_of_lt (blkL BK409) : gb409 ≠ gb441)); have n15_ := Aside0.mk ((by rw [hg]; exact Nat.ne_of_gt (blkL BK409) : gb441 ≠ gb409)); have n16_ := Aside0.mk ((by rw [hg]; exact Nat.ne_of_lt (blkL BK410) : gb410 ≠ gb441)); have n17_ := Aside0.mk ((by rw [hg]; exact Nat.ne_of_gt (blkL BK410) : gb441 ≠ gb410)); have n18_ := Aside0.mk ((by rw [hg]; exact Nat.ne_of_lt (blkL BK428) : gb428 ≠ gb441)); have n19_ := Aside0.mk ((by rw [hg]; exact Nat.ne_of_gt (blkL BK428) : gb441 ≠ gb428)); clear HO_23; clear BK407; clear BK408; clear BK409; clear BK410; clear BK428; clear HB; have HO_23 := n0_; have BK407 := n1_; have BK408 := n2_; have BK409 := n3_; have BK410 := n4_; have BK428 := n5_; have HB := n6_; have BK441 := n7_; have GW441 := n8_; have GE441 := n9_; have NB407_441 := n10_; have NB441_407 := n11_; have NB408_441 := n12_; have NB441_408 := n13_; have NB409_441 := n14_; have NB441_409 := n15_; have NB410_441 := n16_; have NB441_410 := n17_; have NB428_441 := n18_; have NB441_428 := n19_; clear n0_ n1_ n2_ n3_ n4_ n5_ n6_ n7_ n8_ n9_ n10_ n11_ n12_ n13_ n14_ n15_ n16_ n17_ n18_ n19_; clear hb hbox hg; have hnb48 := NB441_407.out; have hnc48 := NB407_441.out; have hnb49 := NB441_408.out; have hnc49 := NB408_441.out; have hnb50 := NB441_409.out; have hnc50 := NB409_441.out; have hnb51 := NB441_410.out; have hnc51 := NB410_441.out; have hnb52 := NB441_428.out; have hnc52 := NB428_441.out; have hcz53_0 : w47.cell? ⟨gb441, 0, none⟩ = some (.string (⟨#[]⟩ : ByteArray)) := (blk_cell BK441.out 0).trans rfl; have hcz53_1 : w47.cell? ⟨gb441, 1, none⟩ = some (.string (⟨#[]⟩ : ByteArray)) := (blk_cell BK441.out 1).trans rfl; have hcz53_2 : w47.cell? ⟨gb441, 2, none⟩ = some (.string (⟨#[]⟩ : ByteArray)) := (blk_cell BK441.out 2).trans rfl; have hcz53_3 : w47.cell? ⟨gb441, 3, none⟩ = some (.string (⟨#[]⟩ : ByteArray)) := (blk_cell BK441.out 3).trans rfl; have hcz53_4 : w47.cell? ⟨gb441, 4, none⟩ = some (.int .i64 0) := (blk_cell BK441.out 4).trans rfl; have hcz53_5 : w47.cell? ⟨gb441, 5, none⟩ = some (.int .i64 0) := (blk_cell BK441.out 5).trans rfl; have hcz53_6 : w47.cell? ⟨gb441, 6, none⟩ = some (.int .i64 0) := (blk_cell BK441.out 6).trans rfl; have hcz53_7 : w47.cell? ⟨gb441, 7, none⟩ = some (.bool false) := (blk_cell BK441.out 7).trans rfl; have hcz53_8 : w47.cell? ⟨gb441, 8, none⟩ = some (.bool false) := (blk_cell BK441.out 8).trans rfl; have hcz53_9 : w47.cell? ⟨gb441, 9, none⟩ = some (.bool false) := (blk_cell BK441.out 9).trans rfl; have hcz53_10 : w47.cell? ⟨gb441, 10, none⟩ = some (.int .i64 0) := (blk_cell BK441.out 10).trans rfl; have hfz53_0 := blk_frozen BK441.out 0; have hfz53_1 := blk_frozen BK441.out 1; have hfz53_2 := blk_frozen BK441.out 2; have hfz53_3 := blk_frozen BK441.out 3; have hfz53_4 := blk_frozen BK441.out 4; have hfz53_5 := blk_frozen BK441.out 5; have hfz53_6 := blk_frozen BK441.out 6; have hfz53_7 := blk_frozen BK441.out 7; have hfz53_8 := blk_frozen BK441.out 8; have hfz53_9 := blk_frozen BK441.out 9; have hfz53_10 := blk_frozen BK441.out 10; have hcz54_0 : w47.cell? ⟨gb409, 0, none⟩ = some (.int .i64 a2_0) := (blk_cell BK409.out 0).trans rfl; have hcz54_1 : w47.cell? ⟨gb409, 1, none⟩ = some (.int .i64 a2_1) := (blk_cell BK409.out 1).trans rfl; have hfz54_0 := blk_frozen BK409.out 0; have hfz54_1 := blk_frozen BK409.out 1; have hcz55_0 : w47.cell? ⟨gb407, 0, none⟩ = some (.string a0_0) := (blk_cell BK407.out 0).trans rfl; have hcz55_1 : w47.cell? ⟨gb407, 1, none⟩ = some (.string a0_1) := (blk_cell BK407.out 1).trans rfl; have hcz55_2 : w47.cell? ⟨gb407, 2, none⟩ = some (.string a0_2) := (blk_cell BK407.out 2).trans rfl; have hcz55_3 : w47.cell? ⟨gb407, 3, none⟩ = some (.string a0_3) := (blk_cell BK407.out 3).trans rfl; have hcz55_4 : w47.cell? ⟨gb407, 4, none⟩ = some (.int .i64 a0_4) := (blk_cell BK407.out 4).trans rfl; have hcz55_5 : w47.cell? ⟨gb407, 5, none⟩ = some (.int .i64 a0_5) := (blk_cell BK407.out 5).trans rfl; have hcz55_6 : w47.cell? ⟨gb407, 6, none⟩ = some (.int .i64 a0_6) := (blk_cell BK407.out 6).trans rfl; have hcz55_7 : w47.cell? ⟨gb407, 7, none⟩ = some (.bool a0_7) := (blk_cell BK407.out 7).trans rfl; have hcz55_8 : w47.cell? ⟨gb407, 8, none⟩ = some (.bool a0_8) := (blk_cell BK407.out 8).trans rfl; have hcz55_9 : w47.cell? ⟨gb407, 9, none⟩ = some (.bool a0_9) := (blk_cell BK407.out 9).trans rfl; have hcz55_10 : w47.cell? ⟨gb407, 10, none⟩ = some (.int .i64 a0_10) := (blk_cell BK407.out 10).trans rfl; have hfz55_0 := blk_frozen BK407.out 0; have hfz55_1 := blk_frozen BK407.out 1; have hfz55_2 := blk_frozen BK407.out 2; have hfz55_3 := blk_frozen BK407.out 3; have hfz55_4 := blk_frozen BK407.out 4; have hfz55_5 := blk_frozen BK407.out 5; have hfz55_6 := blk_frozen BK407.out 6; have hfz55_7 := blk_frozen BK407.out 7; have hfz55_8 := blk_frozen BK407.out 8; have hfz55_9 := blk_frozen BK407.out 9; have hfz55_10 := blk_frozen BK407.out 10) | ((with_reducible refine gate_callee (f := 13) rfl ?_); refine goesL_ (some 50) rfl rfl Tryd.func13 (by kernel_rfl) rfl #[.int .i64 (rd y411 x25_1), .int .i64 a2_1, .agg #[.string a0_0, .string a0_1, .string a0_2, .string a0_3, .int .i64 a0_4, .int .i64 a0_5, .int .i64 a0_6, .bool a0_7, .bool a0_8, .bool a0_9, .int .i64 a0_10]] rfl xg ?_; (with_reducible refine (proj_Cookie.calls k1 (rd y411 x25_1) a2_1 a0_0 a0_1 a0_2 a0_3 a0_4 a0_5 a0_6 a0_7 a0_8 a0_9 a0_10 t442 t443 t444 t445 t446 t447 t448 t449 t450 t451 t452 t453 _ A27.out).mono ?_); rintro e w56 ⟨rfl, hb⟩; refine ⟨_, rfl, ?_⟩; have n0_ := Aside0.mk (Kd.R_below (by (with_reducible repeat (first | apply Kd.R_alloc | apply Kd.R_drewN | apply Kd.R_drew)); exact (Kd.R_mono (Kd.R_far (p := ⟨gb441, 10, none⟩) (Kd.R_far (p := ⟨gb441, 9, none⟩) (Kd.R_far (p := ⟨gb441, 8, none⟩) (Kd.R_far (p := ⟨gb441, 7, none⟩) (Kd.R_far (p := ⟨gb441, 6, none⟩) (Kd.R_far (p := ⟨gb441, 5, none⟩) (Kd.R_far (p := ⟨gb441, 4, none⟩) (Kd.R_far (p := ⟨gb441, 3, none⟩) (Kd.R_far (p := ⟨gb441, 2, none⟩) (Kd.R_far (p := ⟨gb441, 1, none⟩) (Kd.R_far (p := ⟨gb441, 0, none⟩) (Kd.R_types HO_23.out BK441.out (by decide)) (fun _ hk => hk.2) (.string t429)) (fun _ hk => hk.2) (.string t430)) (fun _ hk => hk.2) (.string t431)) (fun _ hk => hk.2) (.string t432)) (fun _ hk => hk.2) (.int .i64 t433)) (fun _ hk => hk.2) (.int .i64 t434)) (fun _ hk => hk.2) (.int .i64 t435)) (fun _ hk => hk.2) (.bool t436)) (fun _ hk => hk.2) (.bool t437)) (fun _ hk => hk.2) (.bool t438)) (fun _ hk => hk.2) (.int .i64 t439)) (fun _ h_ => h_.1))) hb); have n1_ := blkB BK407 hb; have n2_ := blkB BK408 hb; have n3_ := blkB BK409 hb; have n4_ := blkB BK410 hb; have n5_ := blkB BK428 hb; have n6_ := Aside0.mk (blk_below (g := gb441) (o := .cells #[.string t429, .string t430, .string t431, .string t432, .int .i64 t433, .int .i64 t434, .int .i64 t435, .bool t436, .bool t437, .bool t438, .int .i64 t439] 27 (0, 0)) xk hb); have n7_ := Aside0.mk (below_step xb hb); clear HO_23; clear BK407; clear BK408; clear BK409; clear BK410; clear BK428; clear BK441; clear HB; have HO_23 := n0_; have BK407 := n1_; have BK408 := n2_; have BK409 := n3_; have BK410 := n4_; have BK428 := n5_; have BK441 := n6_; have HB := n7_; clear n0_ n1_ n2_ n3_ n4_ n5_ n6_ n7_; (try clear hb); (try clear hb2); (try clear hk); (try clear hi)) | ((with_reducible refine gate_dst (N := 14) rfl ?_); refine box_event ?hg (N := 14) ?hd (cs := #[.string (⟨#[]⟩ : ByteArray), .string (⟨#[]⟩ : ByteArray), .string (⟨#[]⟩ : ByteArray), .string (⟨#[]⟩ : ByteArray), .int .i64 0, .int .i64 0, .int .i64 0, .bool false, .bool false, .bool false, .int .i64 0]) (t := 27) ?hr ?_; (case hd => rfl); (case hg => rfl); (case hr => first | (go_simp; done) | (go_simp; rfl)); intro gb454 hg w57 hbox hb; have n0_ := Aside0.mk (Kd.R_below (by (with_reducible repeat (first | apply Kd.R_alloc | apply Kd.R_drewN | apply Kd.R_drew)); exact HO_23.out) hb); have n1_ := blkB BK407 hb; have n2_ := blkB BK408 hb; have n3_ := blkB BK409 hb; have n4_ := blkB BK410 hb; have n5_ := blkB BK428 hb; have n6_ := blkB BK441 hb; have n7_ := Aside0.mk (below_step xb hb); have n8_ := Aside0.mk (hbox); have n9_ := Aside0.mk ((by rw [hg]; exact (below_size xb) : w.heap.size ≤ gb454)); have n10_ := Aside0.mk ((by rw [hg]; exact (below_size xb) : w.heap.size ≤ gb454)); have n11_ := Aside0.mk ((by rw [hg]; exact Nat.ne_of_lt (blkL BK407) : gb407 ≠ gb454)); have n12_ := Aside0.mk ((by rw [hg]; exact Nat.ne_of_gt (blkL BK407) : gb454 ≠ gb407)); have n13_ := Aside0.mk ((by rw [hg]; exact Nat.ne_of_lt (blkL BK408) : gb408 ≠ gb454)); have n14_ := Aside0.mk ((by rw [hg]; exact Nat.ne_of_gt (blkL BK408) : gb454 ≠ gb408)); have n15_ := Aside0.mk ((by rw [hg]; exact Nat.ne_of_lt (blkL BK409) : gb409 ≠ gb454)); have n16_ := Aside0.mk ((by rw [hg]; exact Nat.ne_of_gt (blkL BK409) : gb454 ≠ gb409)); have n17_ := Aside0.mk ((by rw [hg]; exact Nat.ne_of_lt (blkL BK410) : gb410 ≠ gb454)); have n18_ := Aside0.mk ((by rw [hg]; exact Nat.ne_of_gt (blkL BK410) : gb454 ≠ gb410)); have n19_ := Aside0.mk ((by rw [hg]; exact Nat.ne_of_lt (blkL BK428) : gb428 ≠ gb454)); have n20_ := Aside0.mk ((by rw [hg]; exact Nat.ne_of_gt (blkL BK428) : gb454 ≠ gb428)); have n21_ := Aside0.mk ((by rw [hg]; exact Nat.ne_of_lt (blkL BK441) : gb441 ≠ gb454)); have n22_ := Aside0.mk ((by rw [hg]; exact Nat.ne_of_gt (blkL BK441) : gb454 ≠ gb441)); clear HO_23; clear BK407; clear BK408; clear BK409; clear BK410; clear BK428; clear BK441; clear HB; have HO_23 := n0_; have BK407 := n1_; have BK408 := n2_; have BK409 := n3_; have BK410 := n4_; have BK428 := n5_; have BK441 := n6_; have HB := n7_; have BK454 := n8_; have GW454 := n9_; have GE454 := n10_; have NB407_454 := n11_; have NB454_407 := n12_; have NB408_454 := n13_; have NB454_408 := n14_; have NB409_454 := n15_; have NB454_409 := n16_; have NB410_454 := n17_; have NB454_410 := n18_; have NB428_454 := n19_; have NB454_428 := n20_; have NB441_454 := n21_; have NB454_441 := n22_; clear n0_ n1_ n2_ n3_ n4_ n5_ n6_ n7_ n8_ n9_ n10_ n11_ n12_ n13_ n14_ n15_ n16_ n17_ n18_ n19_ n20_ n21_ n22_; clear hb hbox hg; have hnb58 := NB454_407.out; have hnc58 := NB407_454.out; have hnb59 := NB454_408.out; have hnc59 := NB408_454.out; have hnb60 := NB454_409.out; have hnc60 := NB409_454.out; have hnb61 := NB454_410.out; have hnc61 := NB410_454.out; have hnb62 := NB454_428.out; have hnc62 := NB428_454.out; have hnb63 := NB454_441.out; have hnc63 := NB441_454.out; have hcz64_0 : w57.cell? ⟨gb454, 0, none⟩ = some (.string (⟨#[]⟩ : ByteArray)) := (blk_cell BK454.out 0).trans rfl; have hcz64_1 : w57.cell? ⟨gb454, 1, none⟩ = some (.string (⟨#[]⟩ : ByteArray)) := (blk_cell BK454.out 1).trans rfl; have hcz64_2 : w57.cell? ⟨gb454, 2, none⟩ = some (.string (⟨#[]⟩ : ByteArray)) := (blk_cell BK454.out 2).trans rfl; have hcz64_3 : w57.cell? ⟨gb454, 3, none⟩ = some (.string (⟨#[]⟩ : ByteArray)) := (blk_cell BK454.out 3).trans rfl; have hcz64_4 : w57.cell? ⟨gb454, 4, none⟩ = some (.int .i64 0) := (blk_cell BK454.out 4).trans rfl; have hcz64_5 : w57.cell? ⟨gb454, 5, none⟩ = some (.int .i64 0) := (blk_cell BK454.out 5).trans rfl; have hcz64_6 : w57.cell? ⟨gb454, 6, none⟩ = some (.int .i64 0) := (blk_cell BK454.out 6).trans rfl; have hcz64_7 : w57.cell? ⟨gb454, 7, none⟩ = some (.bool false) := (blk_cell BK454.out 7).trans rfl; have hcz64_8 : w57.cell? ⟨gb454, 8, none⟩ = some (.bool false) := (blk_cell BK454.out 8).trans rfl; have hcz64_9 : w57.cell? ⟨gb454, 9, none⟩ = some (.bool false) := (blk_cell BK454.out 9).trans rfl; have hcz64_10 : w57.cell? ⟨gb454, 10, none⟩ = some (.int .i64 0) := (blk_cell BK454.out 10).trans rfl; have hfz64_0 := blk_frozen BK454.out 0; have hfz64_1 := blk_frozen BK454.out 1; have hfz64_2 := blk_frozen BK454.out 2; have hfz64_3 := blk_frozen BK454.out 3; have hfz64_4 := blk_frozen BK454.out 4; have hfz64_5 := blk_frozen BK454.out 5; have hfz64_6 := blk_frozen BK454.out 6; have hfz64_7 := blk_frozen BK454.out 7; have hfz64_8 := blk_frozen BK454.out 8; have hfz64_9 := blk_frozen BK454.out 9; have hfz64_10 := blk_frozen BK454.out 10))
            (try simp only [Act.put, List.setIfInBounds_toArray, List.set_cons_zero, List.set_cons_succ])
            go_cut [60] (fun v60 wc => ∃ (kq : Nat) (x60_27 : Bool), v60 = .bool x60_27 ∧ Aside0 (cracknellaw18_ProjTimes.j1 kq t427 t453 y411 (y411.length : Int) x25_1 x60_27 a0_0 a0_1 a0_2 a0_3 a0_4 a0_5 a0_6 a0_7 a0_8 a0_9 a0_10 a2_0 a2_1 a0_0 a0_1 a0_2 a0_3 a1_0 a1_1 a0_6 a0_7 a0_8 a0_9 a0_10 t416 t417 t418 t419 t420 t421 t422 t423 t424 t425 t426 t442 t443 t444 t445 t446 t447 t448 t449 t450 t451 t452 = some r) ∧ Aside0 (kq ≤ k1) ∧ Aside0 (Kd.R (Kd.int .i64) 3 wc w.heap.size (fun _ => True) (.slice (some ad415) y411.length co21) y411) ∧ Aside0 (wc.heap[gb407]? = some (.cells #[.string a0_0, .string a0_1, .string a0_2, .string a0_3, .int .i64 a0_4, .int .i64 a0_5, .int .i64 a0_6, .bool a0_7, .bool a0_8, .bool a0_9, .int .i64 a0_10] 27 (0, 0))) ∧ Aside0 (wc.heap[gb408]? = some (.cells #[.int .i64 a1_0, .int .i64 a1_1] 36 (0, 0))) ∧ Aside0 (wc.heap[gb409]? = some (.cells #[.int .i64 a2_0, .int .i64 a2_1] 36 (0, 0))) ∧ Aside0 (wc.heap[gb410]? = some (.cells #[.string a0_0, .string a0_1, .string a0_2, .string a0_3, .int .i64 a1_0, .int .i64 a1_1, .int .i64 a0_6, .bool a0_7, .bool a0_8, .bool a0_9, .int .i64 a0_10] 27 (0, 0))) ∧ Aside0 (wc.heap[gb428]? = some (.cells #[.string t416, .string t417, .string t418, .string t419, .int .i64 t420, .int .i64 t421, .int .i64 t422, .bool t423, .bool t424, .bool t425, .int .i64 t426] 27 (0, 0))) ∧ Aside0 (wc.heap[gb441]? = some (.cells #[.string t429, .string t430, .string t431, .string t432, .int .i64 t433, .int .i64 t434, .int .i64 t435, .bool t436, .bool t437, .bool t438, .int .i64 t439] 27 (0, 0))) ∧ Aside0 (wc.heap[gb454]? = some (.cells #[.string t442, .string t443, .string t444, .string t445, .int .i64 t446, .int .i64 t447, .int .i64 t448, .bool t449, .bool t450, .bool t451, .int .i64 t452] 27 (0, 0))) ∧ Aside0 (Below w.heap.size w wc))
            case first =>
              have H := HC28.out
              clear HC28
              by_cases c65 : (!(t416.toList == t429.toList) || (!(t417.toList == t430.toList) || (!(t418.toList == t431.toList) || (!(t419.toList == t432.toList) || (!(t420 == t433) || (!(t421 == t434) || (!(t422 == t435) || (!(t423 == t436) || (!(t424 == t437) || (!(t425 == t438) || (!(t426 == t439)))))))))))) = true
              · rw [if_pos c65] at H
                have c65b0 : (!(t416.toList == t429.toList) || (!(t417.toList == t430.toList) || (!(t418.toList == t431.toList) || (!(t419.toList == t432.toList) || (!(t420 == t433) || (!(t421 == t434) || (!(t422 == t435) || (!(t423 == t436) || (!(t424 == t437) || (!(t425 == t438) || (!(t426 == t439)))))))))))) = true := c65
                clear c65
                (first | rw [c65b0] | (simp only [i64_w, i32_w]; rw [c65b0]) | skip)
                have H' := Aside0.mk H
                clear H
                have hnb66 := NB428_407.out
                have hnc66 := NB407_428.out
                have hnb67 := NB428_408.out
                have hnc67 := NB408_428.out
                have hnb68 := NB428_409.out
                have hnc68 := NB409_428.out
                have hnb69 := NB428_410.out
                have hnc69 := NB410_428.out
                have hnb70 := NB428_441.out
                have hnc70 := NB441_428.out
                have hnb71 := NB428_454.out
                have hnc71 := NB454_428.out
                have hcz72_0 : w57.cell? ⟨gb428, 0, none⟩ = some (.string t416) := (blk_cell BK428.out 0).trans rfl
                have hcz72_1 : w57.cell? ⟨gb428, 1, none⟩ = some (.string t417) := (blk_cell BK428.out 1).trans rfl
                have hcz72_2 : w57.cell? ⟨gb428, 2, none⟩ = some (.string t418) := (blk_cell BK428.out 2).trans rfl
                have hcz72_3 : w57.cell? ⟨gb428, 3, none⟩ = some (.string t419) := (blk_cell BK428.out 3).trans rfl
                have hcz72_4 : w57.cell? ⟨gb428, 4, none⟩ = some (.int .i64 t420) := (blk_cell BK428.out 4).trans rfl
                have hcz72_5 : w57.cell? ⟨gb428, 5, none⟩ = some (.int .i64 t421) := (blk_cell BK428.out 5).trans rfl
                have hcz72_6 : w57.cell? ⟨gb428, 6, none⟩ = some (.int .i64 t422) := (blk_cell BK428.out 6).trans rfl
                have hcz72_7 : w57.cell? ⟨gb428, 7, none⟩ = some (.bool t423) := (blk_cell BK428.out 7).trans rfl
                have hcz72_8 : w57.cell? ⟨gb428, 8, none⟩ = some (.bool t424) := (blk_cell BK428.out 8).trans rfl
                have hcz72_9 : w57.cell? ⟨gb428, 9, none⟩ = some (.bool t425) := (blk_cell BK428.out 9).trans rfl
                have hcz72_10 : w57.cell? ⟨gb428, 10, none⟩ = some (.int .i64 t426) := (blk_cell BK428.out 10).trans rfl
                have hfz72_0 := blk_frozen BK428.out 0
                have hfz72_1 := blk_frozen BK428.out 1
                have hfz72_2 := blk_frozen BK428.out 2
                have hfz72_3 := blk_frozen BK428.out 3
                have hfz72_4 := blk_frozen BK428.out 4
                have hfz72_5 := blk_frozen BK428.out 5
                have hfz72_6 := blk_frozen BK428.out 6
                have hfz72_7 := blk_frozen BK428.out 7
                have hfz72_8 := blk_frozen BK428.out 8
                have hfz72_9 := blk_frozen BK428.out 9
                have hfz72_10 := blk_frozen BK428.out 10
                have hnb73 := NB441_407.out
                have hnc73 := NB407_441.out
                have hnb74 := NB441_408.out
                have hnc74 := NB408_441.out
                have hnb75 := NB441_409.out
                have hnc75 := NB409_441.out
                have hnb76 := NB441_410.out
                have hnc76 := NB410_441.out
                have hnb77 := NB441_454.out
                have hnc77 := NB454_441.out
                have hcz78_0 : w57.cell? ⟨gb441, 0, none⟩ = some (.string t429) := (blk_cell BK441.out 0).trans rfl
                have hcz78_1 : w57.cell? ⟨gb441, 1, none⟩ = some (.string t430) := (blk_cell BK441.out 1).trans rfl
                have hcz78_2 : w57.cell? ⟨gb441, 2, none⟩ = some (.string t431) := (blk_cell BK441.out 2).trans rfl
                have hcz78_3 : w57.cell? ⟨gb441, 3, none⟩ = some (.string t432) := (blk_cell BK441.out 3).trans rfl
                have hcz78_4 : w57.cell? ⟨gb441, 4, none⟩ = some (.int .i64 t433) := (blk_cell BK441.out 4).trans rfl
                have hcz78_5 : w57.cell? ⟨gb441, 5, none⟩ = some (.int .i64 t434) := (blk_cell BK441.out 5).trans rfl
                have hcz78_6 : w57.cell? ⟨gb441, 6, none⟩ = some (.int .i64 t435) := (blk_cell BK441.out 6).trans rfl
                have hcz78_7 : w57.cell? ⟨gb441, 7, none⟩ = some (.bool t436) := (blk_cell BK441.out 7).trans rfl
                have hcz78_8 : w57.cell? ⟨gb441, 8, none⟩ = some (.bool t437) := (blk_cell BK441.out 8).trans rfl
                have hcz78_9 : w57.cell? ⟨gb441, 9, none⟩ = some (.bool t438) := (blk_cell BK441.out 9).trans rfl
                have hcz78_10 : w57.cell? ⟨gb441, 10, none⟩ = some (.int .i64 t439) := (blk_cell BK441.out 10).trans rfl
                have hfz78_0 := blk_frozen BK441.out 0
                have hfz78_1 := blk_frozen BK441.out 1
                have hfz78_2 := blk_frozen BK441.out 2
                have hfz78_3 := blk_frozen BK441.out 3
                have hfz78_4 := blk_frozen BK441.out 4
                have hfz78_5 := blk_frozen BK441.out 5
                have hfz78_6 := blk_frozen BK441.out 6
                have hfz78_7 := blk_frozen BK441.out 7
                have hfz78_8 := blk_frozen BK441.out 8
                have hfz78_9 := blk_frozen BK441.out 9
                have hfz78_10 := blk_frozen BK441.out 10
                go_wp2
                go_meet
                case rel => exact ⟨_, (true), (by first | rfl | (simp; done) | (simp [*]; done)), H', ⟨by have := HK1.out; first | omega | exact Nat.le_refl _⟩, ⟨by (with_reducible repeat (first | apply Kd.R_alloc | apply Kd.R_drewN | apply Kd.R_drew)); exact Kd.R_mono (Kd.R_far (p := ⟨gb454, 10, none⟩) (Kd.R_far (p := ⟨gb454, 9, none⟩) (Kd.R_far (p := ⟨gb454, 8, none⟩) (Kd.R_far (p := ⟨gb454, 7, none⟩) (Kd.R_far (p := ⟨gb454, 6, none⟩) (Kd.R_far (p := ⟨gb454, 5, none⟩) (Kd.R_far (p := ⟨gb454, 4, none⟩) (Kd.R_far (p := ⟨gb454, 3, none⟩) (Kd.R_far (p := ⟨gb454, 2, none⟩) (Kd.R_far (p := ⟨gb454, 1, none⟩) (Kd.R_far (p := ⟨gb454, 0, none⟩) (Kd.R_types HO_23.out BK454.out (by decide)) (fun _ hk => hk.2) (.string t442)) (fun _ hk => hk.2) (.string t443)) (fun _ hk => hk.2) (.string t444)) (fun _ hk => hk.2) (.string t445)) (fun _ hk => hk.2) (.int .i64 t446)) (fun _ hk => hk.2) (.int .i64 t447)) (fun _ hk => hk.2) (.int .i64 t448)) (fun _ hk => hk.2) (.bool t449)) (fun _ hk => hk.2) (.bool t450)) (fun _ hk => hk.2) (.bool t451)) (fun _ hk => hk.2) (.int .i64 t452)) (fun _ hk => trivial)⟩, ⟨xk⟩, ⟨xk⟩, ⟨xk⟩, ⟨xk⟩, ⟨xk⟩, ⟨xk⟩, ⟨xk⟩, ⟨xb⟩⟩
              · rw [if_neg c65] at H
                have c65b0 : (!(t416.toList == t429.toList) || (!(t417.toList == t430.toList) || (!(t418.toList == t431.toList) || (!(t419.toList == t432.toList) || (!(t420 == t433) || (!(t421 == t434) || (!(t422 == t435) || (!(t423 == t436) || (!(t424 == t437) || (!(t425 == t438) || (!(t426 == t439)))))))))))) = false := by simpa using c65
                clear c65
                (first | rw [c65b0] | (simp only [i64_w, i32_w]; rw [c65b0]) | skip)
                have H' := Aside0.mk H
                clear H
                have hnb79 := NB428_407.out
                have hnc79 := NB407_428.out
                have hnb80 := NB428_408.out
                have hnc80 := NB408_428.out
                have hnb81 := NB428_409.out
                have hnc81 := NB409_428.out
                have hnb82 := NB428_410.out
                have hnc82 := NB410_428.out
                have hnb83 := NB428_441.out
                have hnc83 := NB441_428.out
                have hnb84 := NB428_454.out
                have hnc84 := NB454_428.out
                have hcz85_0 : w57.cell? ⟨gb428, 0, none⟩ = some (.string t416) := (blk_cell BK428.out 0).trans rfl
                have hcz85_1 : w57.cell? ⟨gb428, 1, none⟩ = some (.string t417) := (blk_cell BK428.out 1).trans rfl
                have hcz85_2 : w57.cell? ⟨gb428, 2, none⟩ = some (.string t418) := (blk_cell BK428.out 2).trans rfl
                have hcz85_3 : w57.cell? ⟨gb428, 3, none⟩ = some (.string t419) := (blk_cell BK428.out 3).trans rfl
                have hcz85_4 : w57.cell? ⟨gb428, 4, none⟩ = some (.int .i64 t420) := (blk_cell BK428.out 4).trans rfl
                have hcz85_5 : w57.cell? ⟨gb428, 5, none⟩ = some (.int .i64 t421) := (blk_cell BK428.out 5).trans rfl
                have hcz85_6 : w57.cell? ⟨gb428, 6, none⟩ = some (.int .i64 t422) := (blk_cell BK428.out 6).trans rfl
                have hcz85_7 : w57.cell? ⟨gb428, 7, none⟩ = some (.bool t423) := (blk_cell BK428.out 7).trans rfl
                have hcz85_8 : w57.cell? ⟨gb428, 8, none⟩ = some (.bool t424) := (blk_cell BK428.out 8).trans rfl
                have hcz85_9 : w57.cell? ⟨gb428, 9, none⟩ = some (.bool t425) := (blk_cell BK428.out 9).trans rfl
                have hcz85_10 : w57.cell? ⟨gb428, 10, none⟩ = some (.int .i64 t426) := (blk_cell BK428.out 10).trans rfl
                have hfz85_0 := blk_frozen BK428.out 0
                have hfz85_1 := blk_frozen BK428.out 1
                have hfz85_2 := blk_frozen BK428.out 2
                have hfz85_3 := blk_frozen BK428.out 3
                have hfz85_4 := blk_frozen BK428.out 4
                have hfz85_5 := blk_frozen BK428.out 5
                have hfz85_6 := blk_frozen BK428.out 6
                have hfz85_7 := blk_frozen BK428.out 7
                have hfz85_8 := blk_frozen BK428.out 8
                have hfz85_9 := blk_frozen BK428.out 9
                have hfz85_10 := blk_frozen BK428.out 10
                have hnb86 := NB441_407.out
                have hnc86 := NB407_441.out
                have hnb87 := NB441_408.out
                have hnc87 := NB408_441.out
                have hnb88 := NB441_409.out
                have hnc88 := NB409_441.out
                have hnb89 := NB441_410.out
                have hnc89 := NB410_441.out
                have hnb90 := NB441_454.out
                have hnc90 := NB454_441.out
                have hcz91_0 : w57.cell? ⟨gb441, 0, none⟩ = some (.string t429) := (blk_cell BK441.out 0).trans rfl
                have hcz91_1 : w57.cell? ⟨gb441, 1, none⟩ = some (.string t430) := (blk_cell BK441.out 1).trans rfl
                have hcz91_2 : w57.cell? ⟨gb441, 2, none⟩ = some (.string t431) := (blk_cell BK441.out 2).trans rfl
                have hcz91_3 : w57.cell? ⟨gb441, 3, none⟩ = some (.string t432) := (blk_cell BK441.out 3).trans rfl
                have hcz91_4 : w57.cell? ⟨gb441, 4, none⟩ = some (.int .i64 t433) := (blk_cell BK441.out 4).trans rfl
                have hcz91_5 : w57.cell? ⟨gb441, 5, none⟩ = some (.int .i64 t434) := (blk_cell BK441.out 5).trans rfl
                have hcz91_6 : w57.cell? ⟨gb441, 6, none⟩ = some (.int .i64 t435) := (blk_cell BK441.out 6).trans rfl
                have hcz91_7 : w57.cell? ⟨gb441, 7, none⟩ = some (.bool t436) := (blk_cell BK441.out 7).trans rfl
                have hcz91_8 : w57.cell? ⟨gb441, 8, none⟩ = some (.bool t437) := (blk_cell BK441.out 8).trans rfl
                have hcz91_9 : w57.cell? ⟨gb441, 9, none⟩ = some (.bool t438) := (blk_cell BK441.out 9).trans rfl
                have hcz91_10 : w57.cell? ⟨gb441, 10, none⟩ = some (.int .i64 t439) := (blk_cell BK441.out 10).trans rfl
                have hfz91_0 := blk_frozen BK441.out 0
                have hfz91_1 := blk_frozen BK441.out 1
                have hfz91_2 := blk_frozen BK441.out 2
                have hfz91_3 := blk_frozen BK441.out 3
                have hfz91_4 := blk_frozen BK441.out 4
                have hfz91_5 := blk_frozen BK441.out 5
                have hfz91_6 := blk_frozen BK441.out 6
                have hfz91_7 := blk_frozen BK441.out 7
                have hfz91_8 := blk_frozen BK441.out 8
                have hfz91_9 := blk_frozen BK441.out 9
                have hfz91_10 := blk_frozen BK441.out 10
                go_wp2
                go_meet
                case rel => exact ⟨_, ((t427 != t440)), (by first | rfl | (simp; done) | (simp [*]; done)), H', ⟨by have := HK1.out; first | omega | exact Nat.le_refl _⟩, ⟨by (with_reducible repeat (first | apply Kd.R_alloc | apply Kd.R_drewN | apply Kd.R_drew)); exact Kd.R_mono (Kd.R_far (p := ⟨gb454, 10, none⟩) (Kd.R_far (p := ⟨gb454, 9, none⟩) (Kd.R_far (p := ⟨gb454, 8, none⟩) (Kd.R_far (p := ⟨gb454, 7, none⟩) (Kd.R_far (p := ⟨gb454, 6, none⟩) (Kd.R_far (p := ⟨gb454, 5, none⟩) (Kd.R_far (p := ⟨gb454, 4, none⟩) (Kd.R_far (p := ⟨gb454, 3, none⟩) (Kd.R_far (p := ⟨gb454, 2, none⟩) (Kd.R_far (p := ⟨gb454, 1, none⟩) (Kd.R_far (p := ⟨gb454, 0, none⟩) (Kd.R_types HO_23.out BK454.out (by decide)) (fun _ hk => hk.2) (.string t442)) (fun _ hk => hk.2) (.string t443)) (fun _ hk => hk.2) (.string t444)) (fun _ hk => hk.2) (.string t445)) (fun _ hk => hk.2) (.int .i64 t446)) (fun _ hk => hk.2) (.int .i64 t447)) (fun _ hk => hk.2) (.int .i64 t448)) (fun _ hk => hk.2) (.bool t449)) (fun _ hk => hk.2) (.bool t450)) (fun _ hk => hk.2) (.bool t451)) (fun _ hk => hk.2) (.int .i64 t452)) (fun _ hk => trivial)⟩, ⟨xk⟩, ⟨xk⟩, ⟨xk⟩, ⟨xk⟩, ⟨xk⟩, ⟨xk⟩, ⟨xk⟩, ⟨xb⟩⟩
            case rest =>
              clear HC28
              try clear c1
              try clear c2
              try clear p2
              try clear c3
              try clear p3
              try clear c4
              try clear p4
              try clear q4
              try clear hx4
              try clear c5
              try clear c6
              try clear p6
              try clear c7
              try clear c8
              try clear c9
              try clear c11
              try clear c12
              try clear c13
              try clear c22
              try clear c22b0
              try clear c23
              try clear c23b0
              try clear c24
              try clear c24b0
              try clear c29
              try clear c30
              try clear c31
              try clear p32
              try clear c33
              try clear c34
              try clear c38
              try clear c39
              try clear c40
              try clear c41
              try clear p41
              try clear q41
              try clear hx41
              try clear c44
              try clear c48
              try clear c49
              try clear c50
              try clear c51
              try clear c52
              try clear c58
              try clear c59
              try clear c60
              try clear c61
              try clear c62
              try clear c63
              try clear p64
              try clear c65
              try clear c65b0
              try clear c66
              try clear c67
              try clear c68
              try clear c69
              try clear c70
              try clear c71
              try clear c73
              try clear c74
              try clear c75
              try clear c76
              try clear c77
              try clear c79
              try clear c80
              try clear c81
              try clear c82
              try clear c83
              try clear c84
              try clear c86
              try clear c87
              try clear c88
              try clear c89
              try clear c90
              try clear hcz14_0
              try clear hcz14_1
              try clear hcz14_10
              try clear hcz14_2
              try clear hcz14_3
              try clear hcz14_4
              try clear hcz14_5
              try clear hcz14_6
              try clear hcz14_7
              try clear hcz14_8
              try clear hcz14_9
              try clear hcz32_0
              try clear hcz32_1
              try clear hcz35_0
              try clear hcz35_1
              try clear hcz35_10
              try clear hcz35_2
              try clear hcz35_3
              try clear hcz35_4
              try clear hcz35_5
              try clear hcz35_6
              try clear hcz35_7
              try clear hcz35_8
              try clear hcz35_9
              try clear hcz42_0
              try clear hcz42_1
              try clear hcz42_10
              try clear hcz42_2
              try clear hcz42_3
              try clear hcz42_4
              try clear hcz42_5
              try clear hcz42_6
              try clear hcz42_7
              try clear hcz42_8
              try clear hcz42_9
              try clear hcz43_0
              try clear hcz43_1
              try clear hcz45_0
              try clear hcz45_1
              try clear hcz45_10
              try clear hcz45_2
              try clear hcz45_3
              try clear hcz45_4
              try clear hcz45_5
              try clear hcz45_6
              try clear hcz45_7
              try clear hcz45_8
              try clear hcz45_9
              try clear hcz53_0
              try clear hcz53_1
              try clear hcz53_10
              try clear hcz53_2
              try clear hcz53_3
              try clear hcz53_4
              try clear hcz53_5
              try clear hcz53_6
              try clear hcz53_7
              try clear hcz53_8
              try clear hcz53_9
              try clear hcz54_0
              try clear hcz54_1
              try clear hcz55_0
              try clear hcz55_1
              try clear hcz55_10
              try clear hcz55_2
              try clear hcz55_3
              try clear hcz55_4
              try clear hcz55_5
              try clear hcz55_6
              try clear hcz55_7
              try clear hcz55_8
              try clear hcz55_9
              try clear hcz64_0
              try clear hcz64_1
              try clear hcz64_10
              try clear hcz64_2
              try clear hcz64_3
              try clear hcz64_4
              try clear hcz64_5
              try clear hcz64_6
              try clear hcz64_7
              try clear hcz64_8
              try clear hcz64_9
              try clear hcz72_0
              try clear hcz72_1
              try clear hcz72_10
              try clear hcz72_2
              try clear hcz72_3
              try clear hcz72_4
              try clear hcz72_5
              try clear hcz72_6
              try clear hcz72_7
              try clear hcz72_8
              try clear hcz72_9
              try clear hcz78_0
              try clear hcz78_1
              try clear hcz78_10
              try clear hcz78_2
              try clear hcz78_3
              try clear hcz78_4
              try clear hcz78_5
              try clear hcz78_6
              try clear hcz78_7
              try clear hcz78_8
              try clear hcz78_9
              try clear hcz85_0
              try clear hcz85_1
              try clear hcz85_10
              try clear hcz85_2
              try clear hcz85_3
              try clear hcz85_4
              try clear hcz85_5
              try clear hcz85_6
              try clear hcz85_7
              try clear hcz85_8
              try clear hcz85_9
              try clear hcz91_0
              try clear hcz91_1
              try clear hcz91_10
              try clear hcz91_2
              try clear hcz91_3
              try clear hcz91_4
              try clear hcz91_5
              try clear hcz91_6
              try clear hcz91_7
              try clear hcz91_8
              try clear hcz91_9
              try clear hcz9_0
              try clear hcz9_1
              try clear hcz9_10
              try clear hcz9_2
              try clear hcz9_3
              try clear hcz9_4
              try clear hcz9_5
              try clear hcz9_6
              try clear hcz9_7
              try clear hcz9_8
              try clear hcz9_9
              try clear hfz14_0
              try clear hfz14_1
              try clear hfz14_10
              try clear hfz14_2
              try clear hfz14_3
              try clear hfz14_4
              try clear hfz14_5
              try clear hfz14_6
              try clear hfz14_7
              try clear hfz14_8
              try clear hfz14_9
              try clear hfz32_0
              try clear hfz32_1
              try clear hfz35_0
              try clear hfz35_1
              try clear hfz35_10
              try clear hfz35_2
              try clear hfz35_3
              try clear hfz35_4
              try clear hfz35_5
              try clear hfz35_6
              try clear hfz35_7
              try clear hfz35_8
              try clear hfz35_9
              try clear hfz42_0
              try clear hfz42_1
              try clear hfz42_10
              try clear hfz42_2
              try clear hfz42_3
              try clear hfz42_4
              try clear hfz42_5
              try clear hfz42_6
              try clear hfz42_7
              try clear hfz42_8
              try clear hfz42_9
              try clear hfz43_0
              try clear hfz43_1
              try clear hfz45_0
              try clear hfz45_1
              try clear hfz45_10
              try clear hfz45_2
              try clear hfz45_3
              try clear hfz45_4
              try clear hfz45_5
              try clear hfz45_6
              try clear hfz45_7
              try clear hfz45_8
              try clear hfz45_9
              try clear hfz53_0
              try clear hfz53_1
              try clear hfz53_10
              try clear hfz53_2
              try clear hfz53_3
              try clear hfz53_4
              try clear hfz53_5
              try clear hfz53_6
              try clear hfz53_7
              try clear hfz53_8
              try clear hfz53_9
              try clear hfz54_0
              try clear hfz54_1
              try clear hfz55_0
              try clear hfz55_1
              try clear hfz55_10
              try clear hfz55_2
              try clear hfz55_3
              try clear hfz55_4
              try clear hfz55_5
              try clear hfz55_6
              try clear hfz55_7
              try clear hfz55_8
              try clear hfz55_9
              try clear hfz64_0
              try clear hfz64_1
              try clear hfz64_10
              try clear hfz64_2
              try clear hfz64_3
              try clear hfz64_4
              try clear hfz64_5
              try clear hfz64_6
              try clear hfz64_7
              try clear hfz64_8
              try clear hfz64_9
              try clear hfz72_0
              try clear hfz72_1
              try clear hfz72_10
              try clear hfz72_2
              try clear hfz72_3
              try clear hfz72_4
              try clear hfz72_5
              try clear hfz72_6
              try clear hfz72_7
              try clear hfz72_8
              try clear hfz72_9
              try clear hfz78_0
              try clear hfz78_1
              try clear hfz78_10
              try clear hfz78_2
              try clear hfz78_3
              try clear hfz78_4
              try clear hfz78_5
              try clear hfz78_6
              try clear hfz78_7
              try clear hfz78_8
              try clear hfz78_9
              try clear hfz85_0
              try clear hfz85_1
              try clear hfz85_10
              try clear hfz85_2
              try clear hfz85_3
              try clear hfz85_4
              try clear hfz85_5
              try clear hfz85_6
              try clear hfz85_7
              try clear hfz85_8
              try clear hfz85_9
              try clear hfz91_0
              try clear hfz91_1
              try clear hfz91_10
              try clear hfz91_2
              try clear hfz91_3
              try clear hfz91_4
              try clear hfz91_5
              try clear hfz91_6
              try clear hfz91_7
              try clear hfz91_8
              try clear hfz91_9
              try clear hfz9_0
              try clear hfz9_1
              try clear hfz9_10
              try clear hfz9_2
              try clear hfz9_3
              try clear hfz9_4
              try clear hfz9_5
              try clear hfz9_6
              try clear hfz9_7
              try clear hfz9_8
              try clear hfz9_9
              try clear hx415_0
              try clear p2
              try clear p415
              try clear q415
              obtain ⟨kq, x60_27, rfl, HA, HJ27, HO_23, BK407, BK408, BK409, BK410, BK428, BK441, BK454, HB⟩ := hcut
              cases kq with
              | zero => exact absurd HA.out (by simp [cracknellaw18_ProjTimes.j1])
              | succ kj27 =>
                have H := HA.out
                clear HA
                simp only [cracknellaw18_ProjTimes.j1] at H
                by_cases c92 : x60_27 = true
                · subst c92
                  have H1 : (some false) = some r := by rw [if_pos rfl] at H; exact H
                  clear H
                  have H := H1
                  clear H1
                  obtain rfl := Option.some.inj H
                  exact absurd hT_.out (by decide)
                · replace c92 := Bool.eq_false_iff.mpr c92
                  subst c92
                  have H1 : (if t427 = true then (cracknellaw18_ProjTimes.j2 kj27 y411 (y411.length : Int) x25_1 (!t453) a0_0 a0_1 a0_2 a0_3 a0_4 a0_5 a0_6 a0_7 a0_8 a0_9 a0_10 a2_0 a2_1 a0_0 a0_1 a0_2 a0_3 a1_0 a1_1 a0_6 a0_7 a0_8 a0_9 a0_10 t416 t417 t418 t419 t420 t421 t422 t423 t424 t425 t426 t442 t443 t444 t445 t446 t447 t448 t449 t450 t451 t452) else (cracknellaw18_ProjTimes.j2 kj27 y411 (y411.length : Int) x25_1 true a0_0 a0_1 a0_2 a0_3 a0_4 a0_5 a0_6 a0_7 a0_8 a0_9 a0_10 a2_0 a2_1 a0_0 a0_1 a0_2 a0_3 a1_0 a1_1 a0_6 a0_7 a0_8 a0_9 a0_10 t416 t417 t418 t419 t420 t421 t422 t423 t424 t425 t426 t442 t443 t444 t445 t446 t447 t448 t449 t450 t451 t452)) = some r := by rw [if_neg (show ¬ (false = true) by decide)] at H; exact H
                  clear H
                  have H := H1
                  clear H1
                  have HC93 := Aside0.mk H
                  clear H
                  go_upto_region 11 with (fail)
                  go_cut [66] (fun v66 wc => ∃ (kq : Nat) (x66_92 : Bool), v66 = .bool x66_92 ∧ Aside0 (cracknellaw18_ProjTimes.j2 kq y411 (y411.length : Int) x25_1 x66_92 a0_0 a0_1 a0_2 a0_3 a0_4 a0_5 a0_6 a0_7 a0_8 a0_9 a0_10 a2_0 a2_1 a0_0 a0_1 a0_2 a0_3 a1_0 a1_1 a0_6 a0_7 a0_8 a0_9 a0_10 t416 t417 t418 t419 t420 t421 t422 t423 t424 t425 t426 t442 t443 t444 t445 t446 t447 t448 t449 t450 t451 t452 = some r) ∧ Aside0 (kq ≤ kj27) ∧ Aside0 (Kd.R (Kd.int .i64) 3 wc w.heap.size (fun _ => True) (.slice (some ad415) y411.length co21) y411) ∧ Aside0 (wc.heap[gb407]? = some (.cells #[.string a0_0, .string a0_1, .string a0_2, .string a0_3, .int .i64 a0_4, .int .i64 a0_5, .int .i64 a0_6, .bool a0_7, .bool a0_8, .bool a0_9, .int .i64 a0_10] 27 (0, 0))) ∧ Aside0 (wc.heap[gb408]? = some (.cells #[.int .i64 a1_0, .int .i64 a1_1] 36 (0, 0))) ∧ Aside0 (wc.heap[gb409]? = some (.cells #[.int .i64 a2_0, .int .i64 a2_1] 36 (0, 0))) ∧ Aside0 (wc.heap[gb410]? = some (.cells #[.string a0_0, .string a0_1, .string a0_2, .string a0_3, .int .i64 a1_0, .int .i64 a1_1, .int .i64 a0_6, .bool a0_7, .bool a0_8, .bool a0_9, .int .i64 a0_10] 27 (0, 0))) ∧ Aside0 (wc.heap[gb428]? = some (.cells #[.string t416, .string t417, .string t418, .string t419, .int .i64 t420, .int .i64 t421, .int .i64 t422, .bool t423, .bool t424, .bool t425, .int .i64 t426] 27 (0, 0))) ∧ Aside0 (wc.heap[gb441]? = some (.cells #[.string t429, .string t430, .string t431, .string t432, .int .i64 t433, .int .i64 t434, .int .i64 t435, .bool t436, .bool t437, .bool t438, .int .i64 t439] 27 (0, 0))) ∧ Aside0 (wc.heap[gb454]? = some (.cells #[.string t442, .string t443, .string t444, .string t445, .int .i64 t446, .int .i64 t447, .int .i64 t448, .bool t449, .bool t450, .bool t451, .int .i64 t452] 27 (0, 0))) ∧ Aside0 (Below w.heap.size w wc))
                  case first =>
                    have H := HC93.out
                    clear HC93
                    by_cases c94 : t427 = true
                    · subst c94
                      have H1 : (cracknellaw18_ProjTimes.j2 kj27 y411 (y411.length : Int) x25_1 (!t453) a0_0 a0_1 a0_2 a0_3 a0_4 a0_5 a0_6 a0_7 a0_8 a0_9 a0_10 a2_0 a2_1 a0_0 a0_1 a0_2 a0_3 a1_0 a1_1 a0_6 a0_7 a0_8 a0_9 a0_10 t416 t417 t418 t419 t420 t421 t422 t423 t424 t425 t426 t442 t443 t444 t445 t446 t447 t448 t449 t450 t451 t452) = some r := by rw [if_pos rfl] at H; exact H
                      clear H
                      have H := H1
                      clear H1
                      have H' := Aside0.mk H
                      clear H
                      go_wp2
                      go_meet
                      case rel => exact ⟨_, (!t453), (by first | rfl | (simp; done) | (simp [*]; done)), H', ⟨by have := HK1.out; have := HJ27.out; first | omega | exact Nat.le_refl _⟩, ⟨by (with_reducible repeat (first | apply Kd.R_alloc | apply Kd.R_drewN | apply Kd.R_drew)); exact HO_23.out⟩, ⟨xk⟩, ⟨xk⟩, ⟨xk⟩, ⟨xk⟩, ⟨xk⟩, ⟨xk⟩, ⟨xk⟩, ⟨xb⟩⟩
                    · replace c94 := Bool.eq_false_iff.mpr c94
                      subst c94
                      have H1 : (cracknellaw18_ProjTimes.j2 kj27 y411 (y411.length : Int) x25_1 true a0_0 a0_1 a0_2 a0_3 a0_4 a0_5 a0_6 a0_7 a0_8 a0_9 a0_10 a2_0 a2_1 a0_0 a0_1 a0_2 a0_3 a1_0 a1_1 a0_6 a0_7 a0_8 a0_9 a0_10 t416 t417 t418 t419 t420 t421 t422 t423 t424 t425 t426 t442 t443 t444 t445 t446 t447 t448 t449 t450 t451 t452) = some r := by rw [if_neg (show ¬ (false = true) by decide)] at H; exact H
                      clear H
                      have H := H1
                      clear H1
                      have H' := Aside0.mk H
                      clear H
                      go_wp2
                      go_meet
                      case rel => exact ⟨_, (true), (by first | rfl | (simp; done) | (simp [*]; done)), H', ⟨by have := HK1.out; have := HJ27.out; first | omega | exact Nat.le_refl _⟩, ⟨by (with_reducible repeat (first | apply Kd.R_alloc | apply Kd.R_drewN | apply Kd.R_drew)); exact HO_23.out⟩, ⟨xk⟩, ⟨xk⟩, ⟨xk⟩, ⟨xk⟩, ⟨xk⟩, ⟨xk⟩, ⟨xk⟩, ⟨xb⟩⟩
                  case rest =>
                    clear HC93
                    try clear c1
                    try clear c2
                    try clear p2
                    try clear c3
                    try clear p3
                    try clear c4
                    try clear p4
                    try clear q4
                    try clear hx4
                    try clear c5
                    try clear c6
                    try clear p6
                    try clear c7
                    try clear c8
                    try clear c9
                    try clear c11
                    try clear c12
                    try clear c13
                    try clear c22
                    try clear c22b0
                    try clear c23
                    try clear c23b0
                    try clear c24
                    try clear c24b0
                    try clear c29
                    try clear c30
                    try clear c31
                    try clear p32
                    try clear c33
                    try clear c34
                    try clear c38
                    try clear c39
                    try clear c40
                    try clear c41
                    try clear p41
                    try clear q41
                    try clear hx41
                    try clear c44
                    try clear c48
                    try clear c49
                    try clear c50
                    try clear c51
                    try clear c52
                    try clear c58
                    try clear c59
                    try clear c60
                    try clear c61
                    try clear c62
                    try clear c63
                    try clear p64
                    try clear c65
                    try clear c65b0
                    try clear c66
                    try clear c67
                    try clear c68
                    try clear c69
                    try clear c70
                    try clear c71
                    try clear c73
                    try clear c74
                    try clear c75
                    try clear c76
                    try clear c77
                    try clear c79
                    try clear c80
                    try clear c81
                    try clear c82
                    try clear c83
                    try clear c84
                    try clear c86
                    try clear c87
                    try clear c88
                    try clear c89
                    try clear c90
                    try clear c92
                    try clear c94
                    try clear hcz14_0
                    try clear hcz14_1
                    try clear hcz14_10
                    try clear hcz14_2
                    try clear hcz14_3
                    try clear hcz14_4
                    try clear hcz14_5
                    try clear hcz14_6
                    try clear hcz14_7
                    try clear hcz14_8
                    try clear hcz14_9
                    try clear hcz32_0
                    try clear hcz32_1
                    try clear hcz35_0
                    try clear hcz35_1
                    try clear hcz35_10
                    try clear hcz35_2
                    try clear hcz35_3
                    try clear hcz35_4
                    try clear hcz35_5
                    try clear hcz35_6
                    try clear hcz35_7
                    try clear hcz35_8
                    try clear hcz35_9
                    try clear hcz42_0
                    try clear hcz42_1
                    try clear hcz42_10
                    try clear hcz42_2
                    try clear hcz42_3
                    try clear hcz42_4
                    try clear hcz42_5
                    try clear hcz42_6
                    try clear hcz42_7
                    try clear hcz42_8
                    try clear hcz42_9
                    try clear hcz43_0
                    try clear hcz43_1
                    try clear hcz45_0
                    try clear hcz45_1
                    try clear hcz45_10
                    try clear hcz45_2
                    try clear hcz45_3
                    try clear hcz45_4
                    try clear hcz45_5
                    try clear hcz45_6
                    try clear hcz45_7
                    try clear hcz45_8
                    try clear hcz45_9
                    try clear hcz53_0
                    try clear hcz53_1
                    try clear hcz53_10
                    try clear hcz53_2
                    try clear hcz53_3
                    try clear hcz53_4
                    try clear hcz53_5
                    try clear hcz53_6
                    try clear hcz53_7
                    try clear hcz53_8
                    try clear hcz53_9
                    try clear hcz54_0
                    try clear hcz54_1
                    try clear hcz55_0
                    try clear hcz55_1
                    try clear hcz55_10
                    try clear hcz55_2
                    try clear hcz55_3
                    try clear hcz55_4
                    try clear hcz55_5
                    try clear hcz55_6
                    try clear hcz55_7
                    try clear hcz55_8
                    try clear hcz55_9
                    try clear hcz64_0
                    try clear hcz64_1
                    try clear hcz64_10
                    try clear hcz64_2
                    try clear hcz64_3
                    try clear hcz64_4
                    try clear hcz64_5
                    try clear hcz64_6
                    try clear hcz64_7
                    try clear hcz64_8
                    try clear hcz64_9
                    try clear hcz72_0
                    try clear hcz72_1
                    try clear hcz72_10
                    try clear hcz72_2
                    try clear hcz72_3
                    try clear hcz72_4
                    try clear hcz72_5
                    try clear hcz72_6
                    try clear hcz72_7
                    try clear hcz72_8
                    try clear hcz72_9
                    try clear hcz78_0
                    try clear hcz78_1
                    try clear hcz78_10
                    try clear hcz78_2
                    try clear hcz78_3
                    try clear hcz78_4
                    try clear hcz78_5
                    try clear hcz78_6
                    try clear hcz78_7
                    try clear hcz78_8
                    try clear hcz78_9
                    try clear hcz85_0
                    try clear hcz85_1
                    try clear hcz85_10
                    try clear hcz85_2
                    try clear hcz85_3
                    try clear hcz85_4
                    try clear hcz85_5
                    try clear hcz85_6
                    try clear hcz85_7
                    try clear hcz85_8
                    try clear hcz85_9
                    try clear hcz91_0
                    try clear hcz91_1
                    try clear hcz91_10
                    try clear hcz91_2
                    try clear hcz91_3
                    try clear hcz91_4
                    try clear hcz91_5
                    try clear hcz91_6
                    try clear hcz91_7
                    try clear hcz91_8
                    try clear hcz91_9
                    try clear hcz9_0
                    try clear hcz9_1
                    try clear hcz9_10
                    try clear hcz9_2
                    try clear hcz9_3
                    try clear hcz9_4
                    try clear hcz9_5
                    try clear hcz9_6
                    try clear hcz9_7
                    try clear hcz9_8
                    try clear hcz9_9
                    try clear hfz14_0
                    try clear hfz14_1
                    try clear hfz14_10
                    try clear hfz14_2
                    try clear hfz14_3
                    try clear hfz14_4
                    try clear hfz14_5
                    try clear hfz14_6
                    try clear hfz14_7
                    try clear hfz14_8
                    try clear hfz14_9
                    try clear hfz32_0
                    try clear hfz32_1
                    try clear hfz35_0
                    try clear hfz35_1
                    try clear hfz35_10
                    try clear hfz35_2
                    try clear hfz35_3
                    try clear hfz35_4
                    try clear hfz35_5
                    try clear hfz35_6
                    try clear hfz35_7
                    try clear hfz35_8
                    try clear hfz35_9
                    try clear hfz42_0
                    try clear hfz42_1
                    try clear hfz42_10
                    try clear hfz42_2
                    try clear hfz42_3
                    try clear hfz42_4
                    try clear hfz42_5
                    try clear hfz42_6
                    try clear hfz42_7
                    try clear hfz42_8
                    try clear hfz42_9
                    try clear hfz43_0
                    try clear hfz43_1
                    try clear hfz45_0
                    try clear hfz45_1
                    try clear hfz45_10
                    try clear hfz45_2
                    try clear hfz45_3
                    try clear hfz45_4
                    try clear hfz45_5
                    try clear hfz45_6
                    try clear hfz45_7
                    try clear hfz45_8
                    try clear hfz45_9
                    try clear hfz53_0
                    try clear hfz53_1
                    try clear hfz53_10
                    try clear hfz53_2
                    try clear hfz53_3
                    try clear hfz53_4
                    try clear hfz53_5
                    try clear hfz53_6
                    try clear hfz53_7
                    try clear hfz53_8
                    try clear hfz53_9
                    try clear hfz54_0
                    try clear hfz54_1
                    try clear hfz55_0
                    try clear hfz55_1
                    try clear hfz55_10
                    try clear hfz55_2
                    try clear hfz55_3
                    try clear hfz55_4
                    try clear hfz55_5
                    try clear hfz55_6
                    try clear hfz55_7
                    try clear hfz55_8
                    try clear hfz55_9
                    try clear hfz64_0
                    try clear hfz64_1
                    try clear hfz64_10
                    try clear hfz64_2
                    try clear hfz64_3
                    try clear hfz64_4
                    try clear hfz64_5
                    try clear hfz64_6
                    try clear hfz64_7
                    try clear hfz64_8
                    try clear hfz64_9
                    try clear hfz72_0
                    try clear hfz72_1
                    try clear hfz72_10
                    try clear hfz72_2
                    try clear hfz72_3
                    try clear hfz72_4
                    try clear hfz72_5
                    try clear hfz72_6
                    try clear hfz72_7
                    try clear hfz72_8
                    try clear hfz72_9
                    try clear hfz78_0
                    try clear hfz78_1
                    try clear hfz78_10
                    try clear hfz78_2
                    try clear hfz78_3
                    try clear hfz78_4
                    try clear hfz78_5
                    try clear hfz78_6
                    try clear hfz78_7
                    try clear hfz78_8
                    try clear hfz78_9
                    try clear hfz85_0
                    try clear hfz85_1
                    try clear hfz85_10
                    try clear hfz85_2
                    try clear hfz85_3
                    try clear hfz85_4
                    try clear hfz85_5
                    try clear hfz85_6
                    try clear hfz85_7
                    try clear hfz85_8
                    try clear hfz85_9
                    try clear hfz91_0
                    try clear hfz91_1
                    try clear hfz91_10
                    try clear hfz91_2
                    try clear hfz91_3
                    try clear hfz91_4
                    try clear hfz91_5
                    try clear hfz91_6
                    try clear hfz91_7
                    try clear hfz91_8
                    try clear hfz91_9
                    try clear hfz9_0
                    try clear hfz9_1
                    try clear hfz9_10
                    try clear hfz9_2
                    try clear hfz9_3
                    try clear hfz9_4
                    try clear hfz9_5
                    try clear hfz9_6
                    try clear hfz9_7
                    try clear hfz9_8
                    try clear hfz9_9
                    try clear hx415_0
                    try clear p2
                    try clear p3
                    try clear p32
                    try clear p4
                    try clear p41
                    try clear p415
                    try clear p6
                    try clear p64
                    try clear q4
                    try clear q41
                    try clear q415
                    obtain ⟨kq, x66_92, rfl, HA, HJ92, HO_23, BK407, BK408, BK409, BK410, BK428, BK441, BK454, HB⟩ := hcut
                    cases kq with
                    | zero => exact absurd HA.out (by simp [cracknellaw18_ProjTimes.j2])
                    | succ kj92 =>
                      have H := HA.out
                      clear HA
                      simp only [cracknellaw18_ProjTimes.j2] at H
                      by_cases c95 : x66_92 = true
                      · subst c95
                        have H1 : (cracknellaw18_ProjTimes.l0 kj92 y411 (y411.length : Int) (wrap64 (x25_1 + 1)) a0_0 a0_1 a0_2 a0_3 a0_4 a0_5 a0_6 a0_7 a0_8 a0_9 a0_10 a2_0 a2_1 a0_0 a0_1 a0_2 a0_3 a1_0 a1_1 a0_6 a0_7 a0_8 a0_9 a0_10) = some r := by rw [if_pos rfl] at H; exact H
                        clear H
                        have H := H1
                        clear H1
                        have H' := Aside0.mk H
                        clear H
                        go_wp2
                        go_roundg kj92
                        case measure => have := HK1.out; have := HJ27.out; have := HJ92.out; omega
                        case rel => exact ⟨(wrap64 (x25_1 + 1)), (by first | rfl | (simp; done) | (simp [*]; done)), H', ⟨by have := HK1.out; have := HJ27.out; have := HJ92.out; omega⟩, ⟨by (with_reducible repeat (first | apply Kd.R_alloc | apply Kd.R_drewN | apply Kd.R_drew)); exact HO_23.out⟩, ⟨xk⟩, ⟨xk⟩, ⟨xk⟩, ⟨xk⟩, ⟨xb⟩⟩
                      · replace c95 := Bool.eq_false_iff.mpr c95
                        subst c95
                        have H1 : (if t446 = a2_1 then (cracknellaw18_ProjTimes.j3 kj92 y411 (y411.length : Int) x25_1 (t447 != a2_1) a0_0 a0_1 a0_2 a0_3 a0_4 a0_5 a0_6 a0_7 a0_8 a0_9 a0_10 a2_0 a2_1 a0_0 a0_1 a0_2 a0_3 a1_0 a1_1 a0_6 a0_7 a0_8 a0_9 a0_10 t416 t417 t418 t419 t420 t421 t422 t423 t424 t425 t426 t442 t443 t444 t445 t446 t447 t448 t449 t450 t451 t452) else (cracknellaw18_ProjTimes.j3 kj92 y411 (y411.length : Int) x25_1 true a0_0 a0_1 a0_2 a0_3 a0_4 a0_5 a0_6 a0_7 a0_8 a0_9 a0_10 a2_0 a2_1 a0_0 a0_1 a0_2 a0_3 a1_0 a1_1 a0_6 a0_7 a0_8 a0_9 a0_10 t416 t417 t418 t419 t420 t421 t422 t423 t424 t425 t426 t442 t443 t444 t445 t446 t447 t448 t449 t450 t451 t452)) = some r := by rw [if_neg (show ¬ (false = true) by decide)] at H; exact H
                        clear H
                        have H := H1
                        clear H1
                        have HC96 := Aside0.mk H
                        clear H
                        go_upto_region 12 with (fail)
                        go_cut [78] (fun v78 wc => ∃ (kq : Nat) (x78_95 : Bool), v78 = .bool x78_95 ∧ Aside0 (cracknellaw18_ProjTimes.j3 kq y411 (y411.length : Int) x25_1 x78_95 a0_0 a0_1 a0_2 a0_3 a0_4 a0_5 a0_6 a0_7 a0_8 a0_9 a0_10 a2_0 a2_1 a0_0 a0_1 a0_2 a0_3 a1_0 a1_1 a0_6 a0_7 a0_8 a0_9 a0_10 t416 t417 t418 t419 t420 t421 t422 t423 t424 t425 t426 t442 t443 t444 t445 t446 t447 t448 t449 t450 t451 t452 = some r) ∧ Aside0 (kq ≤ kj92) ∧ Aside0 (Kd.R (Kd.int .i64) 3 wc w.heap.size (fun _ => True) (.slice (some ad415) y411.length co21) y411) ∧ Aside0 (wc.heap[gb407]? = some (.cells #[.string a0_0, .string a0_1, .string a0_2, .string a0_3, .int .i64 a0_4, .int .i64 a0_5, .int .i64 a0_6, .bool a0_7, .bool a0_8, .bool a0_9, .int .i64 a0_10] 27 (0, 0))) ∧ Aside0 (wc.heap[gb408]? = some (.cells #[.int .i64 a1_0, .int .i64 a1_1] 36 (0, 0))) ∧ Aside0 (wc.heap[gb409]? = some (.cells #[.int .i64 a2_0, .int .i64 a2_1] 36 (0, 0))) ∧ Aside0 (wc.heap[gb410]? = some (.cells #[.string a0_0, .string a0_1, .string a0_2, .string a0_3, .int .i64 a1_0, .int .i64 a1_1, .int .i64 a0_6, .bool a0_7, .bool a0_8, .bool a0_9, .int .i64 a0_10] 27 (0, 0))) ∧ Aside0 (wc.heap[gb428]? = some (.cells #[.string t416, .string t417, .string t418, .string t419, .int .i64 t420, .int .i64 t421, .int .i64 t422, .bool t423, .bool t424, .bool t425, .int .i64 t426] 27 (0, 0))) ∧ Aside0 (wc.heap[gb441]? = some (.cells #[.string t429, .string t430, .string t431, .string t432, .int .i64 t433, .int .i64 t434, .int .i64 t435, .bool t436, .bool t437, .bool t438, .int .i64 t439] 27 (0, 0))) ∧ Aside0 (wc.heap[gb454]? = some (.cells #[.string t442, .string t443, .string t444, .string t445, .int .i64 t446, .int .i64 t447, .int .i64 t448, .bool t449, .bool t450, .bool t451, .int .i64 t452] 27 (0, 0))) ∧ Aside0 (Below w.heap.size w wc))
                        case first =>
                          have H := HC96.out
                          clear HC96
                          by_cases c97 : t446 = a2_1
                          · rw [if_pos c97] at H
                            have c97b0 : (t446 == a2_1) = true := beq_iff_eq.mpr c97
                            have c97b1 : (t446 != a2_1) = false := bne_eq_false_iff_eq.mpr c97
                            clear c97
                            (first | rw [c97b0] | (simp only [i64_w, i32_w]; rw [c97b0]) | skip)
                            have H' := Aside0.mk H
                            clear H
                            have hnb98 := NB454_407.out
                            have hnc98 := NB407_454.out
                            have hnb99 := NB454_408.out
                            have hnc99 := NB408_454.out
                            have hnb100 := NB454_409.out
                            have hnc100 := NB409_454.out
                            have hnb101 := NB454_410.out
                            have hnc101 := NB410_454.out
                            have hnb102 := NB454_428.out
                            have hnc102 := NB428_454.out
                            have hnb103 := NB454_441.out
                            have hnc103 := NB441_454.out
                            have hcz104_0 : wc.cell? ⟨gb454, 0, none⟩ = some (.string t442) := (blk_cell BK454.out 0).trans rfl
                            have hcz104_1 : wc.cell? ⟨gb454, 1, none⟩ = some (.string t443) := (blk_cell BK454.out 1).trans rfl
                            have hcz104_2 : wc.cell? ⟨gb454, 2, none⟩ = some (.string t444) := (blk_cell BK454.out 2).trans rfl
                            have hcz104_3 : wc.cell? ⟨gb454, 3, none⟩ = some (.string t445) := (blk_cell BK454.out 3).trans rfl
                            have hcz104_4 : wc.cell? ⟨gb454, 4, none⟩ = some (.int .i64 t446) := (blk_cell BK454.out 4).trans rfl
                            have hcz104_5 : wc.cell? ⟨gb454, 5, none⟩ = some (.int .i64 t447) := (blk_cell BK454.out 5).trans rfl
                            have hcz104_6 : wc.cell? ⟨gb454, 6, none⟩ = some (.int .i64 t448) := (blk_cell BK454.out 6).trans rfl
                            have hcz104_7 : wc.cell? ⟨gb454, 7, none⟩ = some (.bool t449) := (blk_cell BK454.out 7).trans rfl
                            have hcz104_8 : wc.cell? ⟨gb454, 8, none⟩ = some (.bool t450) := (blk_cell BK454.out 8).trans rfl
                            have hcz104_9 : wc.cell? ⟨gb454, 9, none⟩ = some (.bool t451) := (blk_cell BK454.out 9).trans rfl
                            have hcz104_10 : wc.cell? ⟨gb454, 10, none⟩ = some (.int .i64 t452) := (blk_cell BK454.out 10).trans rfl
                            have hfz104_0 := blk_frozen BK454.out 0
                            have hfz104_1 := blk_frozen BK454.out 1
                            have hfz104_2 := blk_frozen BK454.out 2
                            have hfz104_3 := blk_frozen BK454.out 3
                            have hfz104_4 := blk_frozen BK454.out 4
                            have hfz104_5 := blk_frozen BK454.out 5
                            have hfz104_6 := blk_frozen BK454.out 6
                            have hfz104_7 := blk_frozen BK454.out 7
                            have hfz104_8 := blk_frozen BK454.out 8
                            have hfz104_9 := blk_frozen BK454.out 9
                            have hfz104_10 := blk_frozen BK454.out 10
                            have hnb105 := NB409_407.out
                            have hnc105 := NB407_409.out
                            have hnb106 := NB409_408.out
                            have hnc106 := NB408_409.out
                            have hnb107 := NB409_410.out
                            have hnc107 := NB410_409.out
                            have hnb108 := NB409_428.out
                            have hnc108 := NB428_409.out
                            have hnb109 := NB409_441.out
                            have hnc109 := NB441_409.out
                            have hcz110_0 : wc.cell? ⟨gb409, 0, none⟩ = some (.int .i64 a2_0) := (blk_cell BK409.out 0).trans rfl
                            have hcz110_1 : wc.cell? ⟨gb409, 1, none⟩ = some (.int .i64 a2_1) := (blk_cell BK409.out 1).trans rfl
                            have hfz110_0 := blk_frozen BK409.out 0
                            have hfz110_1 := blk_frozen BK409.out 1
                            go_wp2
                            go_meet
                            case rel => exact ⟨_, ((t447 != a2_1)), (by first | rfl | (simp; done) | (simp [*]; done)), H', ⟨by have := HK1.out; have := HJ27.out; have := HJ92.out; first | omega | exact Nat.le_refl _⟩, ⟨by (with_reducible repeat (first | apply Kd.R_alloc | apply Kd.R_drewN | apply Kd.R_drew)); exact HO_23.out⟩, ⟨xk⟩, ⟨xk⟩, ⟨xk⟩, ⟨xk⟩, ⟨xk⟩, ⟨xk⟩, ⟨xk⟩, ⟨xb⟩⟩
                          · rw [if_neg c97] at H
                            have c97b0 : (t446 == a2_1) = false := beq_eq_false_iff_ne.mpr c97
                            have c97b1 : (t446 != a2_1) = true := bne_iff_ne.mpr c97
                            (first | rw [c97b0] | (simp only [i64_w, i32_w]; rw [c97b0]) | skip)
                            have H' := Aside0.mk H
                            clear H
                            have hnb111 := NB454_407.out
                            have hnc111 := NB407_454.out
                            have hnb112 := NB454_408.out
                            have hnc112 := NB408_454.out
                            have hnb113 := NB454_409.out
                            have hnc113 := NB409_454.out
                            have hnb114 := NB454_410.out
                            have hnc114 := NB410_454.out
                            have hnb115 := NB454_428.out
                            have hnc115 := NB428_454.out
                            have hnb116 := NB454_441.out
                            have hnc116 := NB441_454.out
                            have hcz117_0 : wc.cell? ⟨gb454, 0, none⟩ = some (.string t442) := (blk_cell BK454.out 0).trans rfl
                            have hcz117_1 : wc.cell? ⟨gb454, 1, none⟩ = some (.string t443) := (blk_cell BK454.out 1).trans rfl
                            have hcz117_2 : wc.cell? ⟨gb454, 2, none⟩ = some (.string t444) := (blk_cell BK454.out 2).trans rfl
                            have hcz117_3 : wc.cell? ⟨gb454, 3, none⟩ = some (.string t445) := (blk_cell BK454.out 3).trans rfl
                            have hcz117_4 : wc.cell? ⟨gb454, 4, none⟩ = some (.int .i64 t446) := (blk_cell BK454.out 4).trans rfl
                            have hcz117_5 : wc.cell? ⟨gb454, 5, none⟩ = some (.int .i64 t447) := (blk_cell BK454.out 5).trans rfl
                            have hcz117_6 : wc.cell? ⟨gb454, 6, none⟩ = some (.int .i64 t448) := (blk_cell BK454.out 6).trans rfl
                            have hcz117_7 : wc.cell? ⟨gb454, 7, none⟩ = some (.bool t449) := (blk_cell BK454.out 7).trans rfl
                            have hcz117_8 : wc.cell? ⟨gb454, 8, none⟩ = some (.bool t450) := (blk_cell BK454.out 8).trans rfl
                            have hcz117_9 : wc.cell? ⟨gb454, 9, none⟩ = some (.bool t451) := (blk_cell BK454.out 9).trans rfl
                            have hcz117_10 : wc.cell? ⟨gb454, 10, none⟩ = some (.int .i64 t452) := (blk_cell BK454.out 10).trans rfl
                            have hfz117_0 := blk_frozen BK454.out 0
                            have hfz117_1 := blk_frozen BK454.out 1
                            have hfz117_2 := blk_frozen BK454.out 2
                            have hfz117_3 := blk_frozen BK454.out 3
                            have hfz117_4 := blk_frozen BK454.out 4
                            have hfz117_5 := blk_frozen BK454.out 5
                            have hfz117_6 := blk_frozen BK454.out 6
                            have hfz117_7 := blk_frozen BK454.out 7
                            have hfz117_8 := blk_frozen BK454.out 8
                            have hfz117_9 := blk_frozen BK454.out 9
                            have hfz117_10 := blk_frozen BK454.out 10
                            have hnb118 := NB409_407.out
                            have hnc118 := NB407_409.out
                            have hnb119 := NB409_408.out
                            have hnc119 := NB408_409.out
                            have hnb120 := NB409_410.out
                            have hnc120 := NB410_409.out
                            have hnb121 := NB409_428.out
                            have hnc121 := NB428_409.out
                            have hnb122 := NB409_441.out
                            have hnc122 := NB441_409.out
                            have hcz123_0 : wc.cell? ⟨gb409, 0, none⟩ = some (.int .i64 a2_0) := (blk_cell BK409.out 0).trans rfl
                            have hcz123_1 : wc.cell? ⟨gb409, 1, none⟩ = some (.int .i64 a2_1) := (blk_cell BK409.out 1).trans rfl
                            have hfz123_0 := blk_frozen BK409.out 0
                            have hfz123_1 := blk_frozen BK409.out 1
                            go_wp2
                            go_meet
                            case rel => exact ⟨_, (true), (by first | rfl | (simp; done) | (simp [*]; done)), H', ⟨by have := HK1.out; have := HJ27.out; have := HJ92.out; first | omega | exact Nat.le_refl _⟩, ⟨by (with_reducible repeat (first | apply Kd.R_alloc | apply Kd.R_drewN | apply Kd.R_drew)); exact HO_23.out⟩, ⟨xk⟩, ⟨xk⟩, ⟨xk⟩, ⟨xk⟩, ⟨xk⟩, ⟨xk⟩, ⟨xk⟩, ⟨xb⟩⟩
                        case rest =>
                          clear HC96
                          try clear c1
                          try clear c2
                          try clear p2
                          try clear c3
                          try clear p3
                          try clear c4
                          try clear p4
                          try clear q4
                          try clear hx4
                          try clear c5
                          try clear c6
                          try clear p6
                          try clear c7
                          try clear c8
                          try clear c9
                          try clear c10
                          try clear c11
                          try clear c12
                          try clear c13
                          try clear c22
                          try clear c22b0
                          try clear c23
                          try clear c23b0
                          try clear c24
                          try clear c24b0
                          try clear c29
                          try clear c30
                          try clear c31
                          try clear p32
                          try clear c33
                          try clear c34
                          try clear c38
                          try clear c39
                          try clear c40
                          try clear c41
                          try clear p41
                          try clear q41
                          try clear hx41
                          try clear c44
                          try clear c48
                          try clear c49
                          try clear c50
                          try clear c51
                          try clear c52
                          try clear c58
                          try clear c59
                          try clear c60
                          try clear c61
                          try clear c62
                          try clear c63
                          try clear p64
                          try clear c65
                          try clear c65b0
                          try clear c66
                          try clear c67
                          try clear c68
                          try clear c69
                          try clear c70
                          try clear c71
                          try clear c73
                          try clear c74
                          try clear c75
                          try clear c76
                          try clear c77
                          try clear c79
                          try clear c80
                          try clear c81
                          try clear c82
                          try clear c83
                          try clear c84
                          try clear c86
                          try clear c87
                          try clear c88
                          try clear c89
                          try clear c90
                          try clear c92
                          try clear c94
                          try clear c95
                          try clear c97
                          try clear c97b0
                          try clear c97b1
                          try clear c98
                          try clear c99
                          try clear c100
                          try clear c101
                          try clear c102
                          try clear c103
                          try clear c105
                          try clear c106
                          try clear c107
                          try clear c108
                          try clear c109
                          try clear c111
                          try clear c112
                          try clear c113
                          try clear c114
                          try clear c115
                          try clear c116
                          try clear c118
                          try clear c119
                          try clear c120
                          try clear c121
                          try clear c122
                          try clear hcz104_0
                          try clear hcz104_1
                          try clear hcz104_10
                          try clear hcz104_2
                          try clear hcz104_3
                          try clear hcz104_4
                          try clear hcz104_5
                          try clear hcz104_6
                          try clear hcz104_7
                          try clear hcz104_8
                          try clear hcz104_9
                          try clear hcz110_0
                          try clear hcz110_1
                          try clear hcz117_0
                          try clear hcz117_1
                          try clear hcz117_10
                          try clear hcz117_2
                          try clear hcz117_3
                          try clear hcz117_4
                          try clear hcz117_5
                          try clear hcz117_6
                          try clear hcz117_7
                          try clear hcz117_8
                          try clear hcz117_9
                          try clear hcz123_0
                          try clear hcz123_1
                          try clear hcz14_0
                          try clear hcz14_1
                          try clear hcz14_10
                          try clear hcz14_2
                          try clear hcz14_3
                          try clear hcz14_4
                          try clear hcz14_5
                          try clear hcz14_6
                          try clear hcz14_7
                          try clear hcz14_8
                          try clear hcz14_9
                          try clear hcz32_0
                          try clear hcz32_1
                          try clear hcz35_0
                          try clear hcz35_1
                          try clear hcz35_10
                          try clear hcz35_2
                          try clear hcz35_3
                          try clear hcz35_4
                          try clear hcz35_5
                          try clear hcz35_6
                          try clear hcz35_7
                          try clear hcz35_8
                          try clear hcz35_9
                          try clear hcz42_0
                          try clear hcz42_1
                          try clear hcz42_10
                          try clear hcz42_2
                          try clear hcz42_3
                          try clear hcz42_4
                          try clear hcz42_5
                          try clear hcz42_6
                          try clear hcz42_7
                          try clear hcz42_8
                          try clear hcz42_9
                          try clear hcz43_0
                          try clear hcz43_1
                          try clear hcz45_0
                          try clear hcz45_1
                          try clear hcz45_10
                          try clear hcz45_2
                          try clear hcz45_3
                          try clear hcz45_4
                          try clear hcz45_5
                          try clear hcz45_6
                          try clear hcz45_7
                          try clear hcz45_8
                          try clear hcz45_9
                          try clear hcz53_0
                          try clear hcz53_1
                          try clear hcz53_10
                          try clear hcz53_2
                          try clear hcz53_3
                          try clear hcz53_4
                          try clear hcz53_5
                          try clear hcz53_6
                          try clear hcz53_7
                          try clear hcz53_8
                          try clear hcz53_9
                          try clear hcz54_0
                          try clear hcz54_1
                          try clear hcz55_0
                          try clear hcz55_1
                          try clear hcz55_10
                          try clear hcz55_2
                          try clear hcz55_3
                          try clear hcz55_4
                          try clear hcz55_5
                          try clear hcz55_6
                          try clear hcz55_7
                          try clear hcz55_8
                          try clear hcz55_9
                          try clear hcz64_0
                          try clear hcz64_1
                          try clear hcz64_10
                          try clear hcz64_2
                          try clear hcz64_3
                          try clear hcz64_4
                          try clear hcz64_5
                          try clear hcz64_6
                          try clear hcz64_7
                          try clear hcz64_8
                          try clear hcz64_9
                          try clear hcz72_0
                          try clear hcz72_1
                          try clear hcz72_10
                          try clear hcz72_2
                          try clear hcz72_3
                          try clear hcz72_4
                          try clear hcz72_5
                          try clear hcz72_6
                          try clear hcz72_7
                          try clear hcz72_8
                          try clear hcz72_9
                          try clear hcz78_0
                          try clear hcz78_1
                          try clear hcz78_10
                          try clear hcz78_2
                          try clear hcz78_3
                          try clear hcz78_4
                          try clear hcz78_5
                          try clear hcz78_6
                          try clear hcz78_7
                          try clear hcz78_8
                          try clear hcz78_9
                          try clear hcz85_0
                          try clear hcz85_1
                          try clear hcz85_10
                          try clear hcz85_2
                          try clear hcz85_3
                          try clear hcz85_4
                          try clear hcz85_5
                          try clear hcz85_6
                          try clear hcz85_7
                          try clear hcz85_8
                          try clear hcz85_9
                          try clear hcz91_0
                          try clear hcz91_1
                          try clear hcz91_10
                          try clear hcz91_2
                          try clear hcz91_3
                          try clear hcz91_4
                          try clear hcz91_5
                          try clear hcz91_6
                          try clear hcz91_7
                          try clear hcz91_8
                          try clear hcz91_9
                          try clear hcz9_0
                          try clear hcz9_1
                          try clear hcz9_10
                          try clear hcz9_2
                          try clear hcz9_3
                          try clear hcz9_4
                          try clear hcz9_5
                          try clear hcz9_6
                          try clear hcz9_7
                          try clear hcz9_8
                          try clear hcz9_9
                          try clear hfz104_0
                          try clear hfz104_1
                          try clear hfz104_10
                          try clear hfz104_2
                          try clear hfz104_3
                          try clear hfz104_4
                          try clear hfz104_5
                          try clear hfz104_6
                          try clear hfz104_7
                          try clear hfz104_8
                          try clear hfz104_9
                          try clear hfz110_0
                          try clear hfz110_1
                          try clear hfz117_0
                          try clear hfz117_1
                          try clear hfz117_10
                          try clear hfz117_2
                          try clear hfz117_3
                          try clear hfz117_4
                          try clear hfz117_5
                          try clear hfz117_6
                          try clear hfz117_7
                          try clear hfz117_8
                          try clear hfz117_9
                          try clear hfz123_0
                          try clear hfz123_1
                          try clear hfz14_0
                          try clear hfz14_1
                          try clear hfz14_10
                          try clear hfz14_2
                          try clear hfz14_3
                          try clear hfz14_4
                          try clear hfz14_5
                          try clear hfz14_6
                          try clear hfz14_7
                          try clear hfz14_8
                          try clear hfz14_9
                          try clear hfz32_0
                          try clear hfz32_1
                          try clear hfz35_0
                          try clear hfz35_1
                          try clear hfz35_10
                          try clear hfz35_2
                          try clear hfz35_3
                          try clear hfz35_4
                          try clear hfz35_5
                          try clear hfz35_6
                          try clear hfz35_7
                          try clear hfz35_8
                          try clear hfz35_9
                          try clear hfz42_0
                          try clear hfz42_1
                          try clear hfz42_10
                          try clear hfz42_2
                          try clear hfz42_3
                          try clear hfz42_4
                          try clear hfz42_5
                          try clear hfz42_6
                          try clear hfz42_7
                          try clear hfz42_8
                          try clear hfz42_9
                          try clear hfz43_0
                          try clear hfz43_1
                          try clear hfz45_0
                          try clear hfz45_1
                          try clear hfz45_10
                          try clear hfz45_2
                          try clear hfz45_3
                          try clear hfz45_4
                          try clear hfz45_5
                          try clear hfz45_6
                          try clear hfz45_7
                          try clear hfz45_8
                          try clear hfz45_9
                          try clear hfz53_0
                          try clear hfz53_1
                          try clear hfz53_10
                          try clear hfz53_2
                          try clear hfz53_3
                          try clear hfz53_4
                          try clear hfz53_5
                          try clear hfz53_6
                          try clear hfz53_7
                          try clear hfz53_8
                          try clear hfz53_9
                          try clear hfz54_0
                          try clear hfz54_1
                          try clear hfz55_0
                          try clear hfz55_1
                          try clear hfz55_10
                          try clear hfz55_2
                          try clear hfz55_3
                          try clear hfz55_4
                          try clear hfz55_5
                          try clear hfz55_6
                          try clear hfz55_7
                          try clear hfz55_8
                          try clear hfz55_9
                          try clear hfz64_0
                          try clear hfz64_1
                          try clear hfz64_10
                          try clear hfz64_2
                          try clear hfz64_3
                          try clear hfz64_4
                          try clear hfz64_5
                          try clear hfz64_6
                          try clear hfz64_7
                          try clear hfz64_8
                          try clear hfz64_9
                          try clear hfz72_0
                          try clear hfz72_1
                          try clear hfz72_10
                          try clear hfz72_2
                          try clear hfz72_3
                          try clear hfz72_4
                          try clear hfz72_5
                          try clear hfz72_6
                          try clear hfz72_7
                          try clear hfz72_8
                          try clear hfz72_9
                          try clear hfz78_0
                          try clear hfz78_1
                          try clear hfz78_10
                          try clear hfz78_2
                          try clear hfz78_3
                          try clear hfz78_4
                          try clear hfz78_5
                          try clear hfz78_6
                          try clear hfz78_7
                          try clear hfz78_8
                          try clear hfz78_9
                          try clear hfz85_0
                          try clear hfz85_1
                          try clear hfz85_10
                          try clear hfz85_2
                          try clear hfz85_3
                          try clear hfz85_4
                          try clear hfz85_5
                          try clear hfz85_6
                          try clear hfz85_7
                          try clear hfz85_8
                          try clear hfz85_9
                          try clear hfz91_0
                          try clear hfz91_1
                          try clear hfz91_10
                          try clear hfz91_2
                          try clear hfz91_3
                          try clear hfz91_4
                          try clear hfz91_5
                          try clear hfz91_6
                          try clear hfz91_7
                          try clear hfz91_8
                          try clear hfz91_9
                          try clear hfz9_0
                          try clear hfz9_1
                          try clear hfz9_10
                          try clear hfz9_2
                          try clear hfz9_3
                          try clear hfz9_4
                          try clear hfz9_5
                          try clear hfz9_6
                          try clear hfz9_7
                          try clear hfz9_8
                          try clear hfz9_9
                          try clear hx415_0
                          try clear p2
                          try clear p3
                          try clear p32
                          try clear p4
                          try clear p41
                          try clear p415
                          try clear p6
                          try clear p64
                          try clear q4
                          try clear q41
                          try clear q415
                          obtain ⟨kq, x78_95, rfl, HA, HJ95, HO_23, BK407, BK408, BK409, BK410, BK428, BK441, BK454, HB⟩ := hcut
                          cases kq with
                          | zero => exact absurd HA.out (by simp [cracknellaw18_ProjTimes.j3])
                          | succ kj95 =>
                            have H := HA.out
                            clear HA
                            simp only [cracknellaw18_ProjTimes.j3] at H
                            by_cases c124 : x78_95 = true
                            · subst c124
                              have H1 : (some false) = some r := by rw [if_pos rfl] at H; exact H
                              clear H
                              have H := H1
                              clear H1
                              obtain rfl := Option.some.inj H
                              exact absurd hT_.out (by decide)
                            · replace c124 := Bool.eq_false_iff.mpr c124
                              subst c124
                              have H1 : (if (!(t442.toList == t416.toList) || (!(t443.toList == t417.toList) || (!(t444.toList == t418.toList) || (!(t445.toList == t419.toList) || (!(a2_0 == t420) || (!(a2_0 == t421) || (!(t448 == t422) || (!(t449 == t423) || (!(t450 == t424) || (!(t451 == t425) || (!(t452 == t426)))))))))))) = true then (some false) else (cracknellaw18_ProjTimes.l0 kj95 y411 (y411.length : Int) (wrap64 (x25_1 + 1)) a0_0 a0_1 a0_2 a0_3 a0_4 a0_5 a0_6 a0_7 a0_8 a0_9 a0_10 a2_0 a2_1 a0_0 a0_1 a0_2 a0_3 a1_0 a1_1 a0_6 a0_7 a0_8 a0_9 a0_10)) = some r := by rw [if_neg (show ¬ (false = true) by decide)] at H; exact H
                              clear H
                              have H := H1
                              clear H1
                              by_cases c125 : (!(t442.toList == t416.toList) || (!(t443.toList == t417.toList) || (!(t444.toList == t418.toList) || (!(t445.toList == t419.toList) || (!(a2_0 == t420) || (!(a2_0 == t421) || (!(t448 == t422) || (!(t449 == t423) || (!(t450 == t424) || (!(t451 == t425) || (!(t452 == t426)))))))))))) = true
                              · rw [if_pos c125] at H
                                have c125b0 : (!(t442.toList == t416.toList) || (!(t443.toList == t417.toList) || (!(t444.toList == t418.toList) || (!(t445.toList == t419.toList) || (!(a2_0 == t420) || (!(a2_0 == t421) || (!(t448 == t422) || (!(t449 == t423) || (!(t450 == t424) || (!(t451 == t425) || (!(t452 == t426)))))))))))) = true := c125
                                clear c125
                                obtain rfl := Option.some.inj H
                                exact absurd hT_.out (by decide)
                              · rw [if_neg c125] at H
                                have c125b0 : (!(t442.toList == t416.toList) || (!(t443.toList == t417.toList) || (!(t444.toList == t418.toList) || (!(t445.toList == t419.toList) || (!(a2_0 == t420) || (!(a2_0 == t421) || (!(t448 == t422) || (!(t449 == t423) || (!(t450 == t424) || (!(t451 == t425) || (!(t452 == t426)))))))))))) = false := by simpa using c125
                                clear c125
                                have H' := Aside0.mk H
                                clear H
                                try go_wp2
                                have n0_ := Aside0.mk (Kd.R_drew HO_23.out)
                                have n1_ := Aside0.mk (blk_drew BK407.out)
                                have n2_ := Aside0.mk (blk_drew BK408.out)
                                have n3_ := Aside0.mk (blk_drew BK409.out)
                                have n4_ := Aside0.mk (blk_drew BK410.out)
                                have n5_ := Aside0.mk (blk_drew BK428.out)
                                have n6_ := Aside0.mk (blk_drew BK441.out)
                                have n7_ := Aside0.mk (blk_drew BK454.out)
                                have n8_ := Aside0.mk (below_drew1 HB.out)
                                clear HO_23
                                clear BK407
                                clear BK408
                                clear BK409
                                clear BK410
                                clear BK428
                                clear BK441
                                clear BK454
                                clear HB
                                have HO_23 := n0_
                                have BK407 := n1_
                                have BK408 := n2_
                                have BK409 := n3_
                                have BK410 := n4_
                                have BK428 := n5_
                                have BK441 := n6_
                                have BK454 := n7_
                                have HB := n8_
                                clear n0_ n1_ n2_ n3_ n4_ n5_ n6_ n7_ n8_
                                refine start_ (n := 8) (S := fun w' => w'.cell? ⟨gb409, 0, none⟩ = some (.int .i64 a2_0) ∧ w'.cell? ⟨gb409, 1, none⟩ = some (.int .i64 a2_1)) (ds := []) #[false, false, false, false, false, false, false, false] (by kernel_rfl) rfl rfl ⟨(blk_cell BK409.out 0).trans rfl, (blk_cell BK409.out 1).trans rfl⟩ (fun hHeld => ?_); refine with_tabW cracknellaw18_ProjTimes.tab14 cracknellaw18_ProjTimes.bits14 (fun HT_ HW_ => ?_)
                                generalize wc.drew = w126 at HO_23 BK407 BK408 BK409 BK410 BK428 BK441 BK454 HB hHeld ⊢
                                refine pure_ (i := 0) (N := some 79) (v := ?_) (a' := ?_) #[true, false, false, false, false, false, false, false] rfl rfl (any_of HT_.out (by kernel_rfl)) (fun _ _ _ h => h) (Or.inl ⟨by rfl, ?_⟩) ?_ ?_
                                rotate_left
                                · intro w'
                                  go_simp
                                  with_reducible rfl
                                rotate_left
                                · simp only [Act.put, List.setIfInBounds_toArray, List.set_cons_zero, List.set_cons_succ, i64_w, i32_w]
                                  rfl
                                refine pure_ (i := 2) (N := some 81) (v := ?_) (a' := ?_) #[true, false, true, false, false, false, false, false] rfl rfl (any_of HT_.out (by kernel_rfl)) (fun _ _ _ h => h) (Or.inl ⟨by rfl, ?_⟩) ?_ ?_
                                rotate_left
                                · intro w'
                                  go_simp
                                  with_reducible rfl
                                rotate_left
                                · simp only [Act.put, List.setIfInBounds_toArray, List.set_cons_zero, List.set_cons_succ, i64_w, i32_w]
                                  rfl
                                refine take_ (i := 1) (N := some 80) (v := ?_) (a' := ?_) #[true, true, true, false, false, false, false, false] rfl rfl (take_ofW HT_.out HW_.out (by kernel_rfl)) (fun _ _ _ h => h) (Or.inl ⟨by rfl, ?_⟩) hHeld ?_ ?_
                                rotate_left
                                · rintro w' ⟨s0, s1⟩
                                  go_simp
                                  with_reducible rfl
                                rotate_left
                                · simp only [Act.put, List.setIfInBounds_toArray, List.set_cons_zero, List.set_cons_succ, i64_w, i32_w]
                                  rfl
                                refine pure_ (i := 4) (N := some 83) (v := ?_) (a' := ?_) #[true, true, true, false, true, false, false, false] rfl rfl (any_of HT_.out (by kernel_rfl)) (fun _ _ _ h => h) (Or.inl ⟨by rfl, ?_⟩) ?_ ?_
                                rotate_left
                                · intro w'
                                  go_simp
                                  with_reducible rfl
                                rotate_left
                                · simp only [Act.put, List.setIfInBounds_toArray, List.set_cons_zero, List.set_cons_succ, i64_w, i32_w]
                                  rfl
                                refine take_ (i := 3) (N := some 82) (v := ?_) (a' := ?_) #[true, true, true, true, true, false, false, false] rfl rfl (take_ofW HT_.out HW_.out (by kernel_rfl)) (fun _ _ _ h => h) (Or.inl ⟨by rfl, ?_⟩) hHeld ?_ ?_
                                rotate_left
                                · rintro w' ⟨s0, s1⟩
                                  go_simp
                                  with_reducible rfl
                                rotate_left
                                · simp only [Act.put, List.setIfInBounds_toArray, List.set_cons_zero, List.set_cons_succ, i64_w, i32_w]
                                  rfl
                                refine one_ (i := 5) (N := none) #[true, true, true, true, true, true, false, false] rfl rfl (one_of HT_.out (by kernel_rfl)) (by decide) (fun K hK => ?_)
                                have hs127 : w126.cell? ⟨gb454, 4, none⟩ = some (.int .i64 t446) := (blk_cell BK454.out 4).trans rfl
                                have hfs127 := blk_frozen BK454.out 4
                                have hns127_0 := NB407_454.out
                                have hns127_1 := NB408_454.out
                                have hns127_2 := NB409_454.out
                                have hns127_3 := NB410_454.out
                                have hns127_4 := NB428_454.out
                                have hns127_5 := NB441_454.out
                                have hms127_0 := NB454_407.out
                                have hms127_1 := NB454_408.out
                                have hms127_2 := NB454_409.out
                                have hms127_3 := NB454_410.out
                                have hms127_4 := NB454_428.out
                                have hms127_5 := NB454_441.out
                                refine skip_ (w1 := ?_) (by rfl) rfl ?_ ?_
                                rotate_left
                                · go_simp
                                  rfl
                                refine hK.out _ _ ⟨((cell_far (p := ⟨gb454, _, none⟩) NB409_454.out _).trans (hHeld.1)), ((cell_far (p := ⟨gb454, _, none⟩) NB409_454.out _).trans (hHeld.2))⟩ (fun hHeld => ?_)
                                clear hK K
                                refine pure_ (i := 6) (N := some 84) (v := ?_) (a' := ?_) #[true, true, true, true, true, true, true, false] rfl rfl (any_of HT_.out (by kernel_rfl)) (fun _ _ _ h => h) (Or.inl ⟨by rfl, ?_⟩) ?_ ?_
                                rotate_left
                                · intro w'
                                  go_simp
                                  with_reducible rfl
                                rotate_left
                                · simp only [Act.put, List.setIfInBounds_toArray, List.set_cons_zero, List.set_cons_succ, i64_w, i32_w]
                                  rfl
                                refine one_ (i := 7) (N := none) #[true, true, true, true, true, true, true, true] rfl rfl (one_of HT_.out (by kernel_rfl)) (by decide) (fun K hK => ?_)
                                have hs128 : w126.cell? ⟨gb454, 5, none⟩ = some (.int .i64 t447) := (blk_cell BK454.out 5).trans rfl
                                have hfs128 := blk_frozen BK454.out 5
                                have hns128_0 := NB407_454.out
                                have hns128_1 := NB408_454.out
                                have hns128_2 := NB409_454.out
                                have hns128_3 := NB410_454.out
                                have hns128_4 := NB428_454.out
                                have hns128_5 := NB441_454.out
                                have hms128_0 := NB454_407.out
                                have hms128_1 := NB454_408.out
                                have hms128_2 := NB454_409.out
                                have hms128_3 := NB454_410.out
                                have hms128_4 := NB454_428.out
                                have hms128_5 := NB454_441.out
                                refine skip_ (w1 := ?_) (by rfl) rfl ?_ ?_
                                rotate_left
                                · go_simp
                                  rfl
                                refine hK.out _ _ ⟨((cell_far (p := ⟨gb454, _, none⟩) NB409_454.out _).trans (hHeld.1)), ((cell_far (p := ⟨gb454, _, none⟩) NB409_454.out _).trans (hHeld.2))⟩ (fun hHeld => ?_)
                                clear hK K
                                refine done_ (done_of HT_.out (by kernel_rfl)) ?_
                                have hnb129 := NB454_407.out
                                have hnc129 := NB407_454.out
                                have hnb130 := NB454_408.out
                                have hnc130 := NB408_454.out
                                have hnb131 := NB454_409.out
                                have hnc131 := NB409_454.out
                                have hnb132 := NB454_410.out
                                have hnc132 := NB410_454.out
                                have hnb133 := NB454_428.out
                                have hnc133 := NB428_454.out
                                have hnb134 := NB454_441.out
                                have hnc134 := NB441_454.out
                                have hcz135_0 : w126.cell? ⟨gb454, 0, none⟩ = some (.string t442) := (blk_cell BK454.out 0).trans rfl
                                have hcz135_1 : w126.cell? ⟨gb454, 1, none⟩ = some (.string t443) := (blk_cell BK454.out 1).trans rfl
                                have hcz135_2 : w126.cell? ⟨gb454, 2, none⟩ = some (.string t444) := (blk_cell BK454.out 2).trans rfl
                                have hcz135_3 : w126.cell? ⟨gb454, 3, none⟩ = some (.string t445) := (blk_cell BK454.out 3).trans rfl
                                have hcz135_4 : w126.cell? ⟨gb454, 4, none⟩ = some (.int .i64 t446) := (blk_cell BK454.out 4).trans rfl
                                have hcz135_5 : w126.cell? ⟨gb454, 5, none⟩ = some (.int .i64 t447) := (blk_cell BK454.out 5).trans rfl
                                have hcz135_6 : w126.cell? ⟨gb454, 6, none⟩ = some (.int .i64 t448) := (blk_cell BK454.out 6).trans rfl
                                have hcz135_7 : w126.cell? ⟨gb454, 7, none⟩ = some (.bool t449) := (blk_cell BK454.out 7).trans rfl
                                have hcz135_8 : w126.cell? ⟨gb454, 8, none⟩ = some (.bool t450) := (blk_cell BK454.out 8).trans rfl
                                have hcz135_9 : w126.cell? ⟨gb454, 9, none⟩ = some (.bool t451) := (blk_cell BK454.out 9).trans rfl
                                have hcz135_10 : w126.cell? ⟨gb454, 10, none⟩ = some (.int .i64 t452) := (blk_cell BK454.out 10).trans rfl
                                have hfz135_0 := blk_frozen BK454.out 0
                                have hfz135_1 := blk_frozen BK454.out 1
                                have hfz135_2 := blk_frozen BK454.out 2
                                have hfz135_3 := blk_frozen BK454.out 3
                                have hfz135_4 := blk_frozen BK454.out 4
                                have hfz135_5 := blk_frozen BK454.out 5
                                have hfz135_6 := blk_frozen BK454.out 6
                                have hfz135_7 := blk_frozen BK454.out 7
                                have hfz135_8 := blk_frozen BK454.out 8
                                have hfz135_9 := blk_frozen BK454.out 9
                                have hfz135_10 := blk_frozen BK454.out 10
                                have hnb136 := NB428_407.out
                                have hnc136 := NB407_428.out
                                have hnb137 := NB428_408.out
                                have hnc137 := NB408_428.out
                                have hnb138 := NB428_409.out
                                have hnc138 := NB409_428.out
                                have hnb139 := NB428_410.out
                                have hnc139 := NB410_428.out
                                have hnb140 := NB428_441.out
                                have hnc140 := NB441_428.out
                                have hcz141_0 : w126.cell? ⟨gb428, 0, none⟩ = some (.string t416) := (blk_cell BK428.out 0).trans rfl
                                have hcz141_1 : w126.cell? ⟨gb428, 1, none⟩ = some (.string t417) := (blk_cell BK428.out 1).trans rfl
                                have hcz141_2 : w126.cell? ⟨gb428, 2, none⟩ = some (.string t418) := (blk_cell BK428.out 2).trans rfl
                                have hcz141_3 : w126.cell? ⟨gb428, 3, none⟩ = some (.string t419) := (blk_cell BK428.out 3).trans rfl
                                have hcz141_4 : w126.cell? ⟨gb428, 4, none⟩ = some (.int .i64 t420) := (blk_cell BK428.out 4).trans rfl
                                have hcz141_5 : w126.cell? ⟨gb428, 5, none⟩ = some (.int .i64 t421) := (blk_cell BK428.out 5).trans rfl
                                have hcz141_6 : w126.cell? ⟨gb428, 6, none⟩ = some (.int .i64 t422) := (blk_cell BK428.out 6).trans rfl
                                have hcz141_7 : w126.cell? ⟨gb428, 7, none⟩ = some (.bool t423) := (blk_cell BK428.out 7).trans rfl
                                have hcz141_8 : w126.cell? ⟨gb428, 8, none⟩ = some (.bool t424) := (blk_cell BK428.out 8).trans rfl
                                have hcz141_9 : w126.cell? ⟨gb428, 9, none⟩ = some (.bool t425) := (blk_cell BK428.out 9).trans rfl
                                have hcz141_10 : w126.cell? ⟨gb428, 10, none⟩ = some (.int .i64 t426) := (blk_cell BK428.out 10).trans rfl
                                have hfz141_0 := blk_frozen BK428.out 0
                                have hfz141_1 := blk_frozen BK428.out 1
                                have hfz141_2 := blk_frozen BK428.out 2
                                have hfz141_3 := blk_frozen BK428.out 3
                                have hfz141_4 := blk_frozen BK428.out 4
                                have hfz141_5 := blk_frozen BK428.out 5
                                have hfz141_6 := blk_frozen BK428.out 6
                                have hfz141_7 := blk_frozen BK428.out 7
                                have hfz141_8 := blk_frozen BK428.out 8
                                have hfz141_9 := blk_frozen BK428.out 9
                                have hfz141_10 := blk_frozen BK428.out 10
                                try go_wp2
                                go_roundg kj95
                                case measure => have := HK1.out; have := HJ27.out; have := HJ92.out; have := HJ95.out; omega
                                case rel => exact ⟨(wrap64 (x25_1 + 1)), (by first | rfl | (simp; done) | (simp [*]; done)), H', ⟨by have := HK1.out; have := HJ27.out; have := HJ92.out; have := HJ95.out; omega⟩, ⟨by (with_reducible repeat (first | apply Kd.R_alloc | apply Kd.R_drewN | apply Kd.R_drew)); exact Kd.R_mono (Kd.R_far (p := ⟨gb454, 5, none⟩) (Kd.R_far (p := ⟨gb454, 4, none⟩) (Kd.R_types HO_23.out BK454.out (by decide)) (fun _ hk => hk.2) (.int .i64 a2_0)) (fun _ hk => hk.2) (.int .i64 a2_0)) (fun _ hk => trivial)⟩, ⟨xk⟩, ⟨xk⟩, ⟨xk⟩, ⟨xk⟩, ⟨xb⟩⟩
          · rw [if_neg c24] at H
            exact absurd H (by simp)
        · rw [if_neg c23] at H
          exact absurd H (by simp)
      · rw [if_neg c22] at H
        have c22b0 : decide (x25_1 < (y411.length : Int)) = false := decide_eq_false c22
        clear c22
        replace H := Option.bind_eq_some_iff.mp H
        obtain ⟨t414, A1420, H⟩ := H
        replace H : (some t414) = some r := H
        have A142 := Aside0.mk A1420
        clear A1420
        obtain rfl := Option.some.inj H
        go_wp2_with (first | ((with_reducible refine gate_callee (f := 10) rfl ?_); refine goesL_ (some 89) rfl rfl Tryd.func10 (by kernel_rfl) rfl #[] rfl xg ?_; (with_reducible refine (cracknellaw18_alive.calls k1  t414 _ (Aside0.mk (by first | exact hG.out | ((with_reducible repeat (first | apply LaidG.drewN | apply LaidG.drew | apply LaidG.alloc)); exact hG.out) | exact LaidG.below hG.out xb)) ⟨by first | rfl | assumption | exact hT_.out⟩ A142.out).mono ?_); rintro e w143 ⟨rfl, hb⟩; refine ⟨_, rfl, ?_⟩; have n0_ := Aside0.mk (Kd.R_below (by (with_reducible repeat (first | apply Kd.R_alloc | apply Kd.R_drewN | apply Kd.R_drew)); exact HO_23.out) hb); have n1_ := blkB BK407 hb; have n2_ := blkB BK408 hb; have n3_ := blkB BK409 hb; have n4_ := blkB BK410 hb; have n5_ := Aside0.mk (below_step xb hb); clear HO_23; clear BK407; clear BK408; clear BK409; clear BK410; clear HB; have HO_23 := n0_; have BK407 := n1_; have BK408 := n2_; have BK409 := n3_; have BK410 := n4_; have HB := n5_; clear n0_ n1_ n2_ n3_ n4_ n5_; (try clear hb); (try clear hb2); (try clear hk); (try clear hi)))
        go_ret
        exact ⟨by first | rfl | (simp [errW_none, errW_some] <;> rfl) | (simp [*, errW_none, errW_some] <;> rfl), by repeat (first | (with_reducible first | exact HB.out | apply below_alloc | apply pw_below_drewN | apply below_drew1 | refine below_set ?_ GE407.out | refine below_set ?_ GE408.out | refine below_set ?_ GE409.out | refine below_set ?_ GE410.out) | exact HB.out)⟩

/-- THE ONE PURE STATEMENT of cracknellaw18_ProjTimes: yours. -/
def cracknellaw18_ProjTimes.Pure : Prop := ∀ (a0_0 : ByteArray) (a0_1 : ByteArray) (a0_2 : ByteArray) (a0_3 : ByteArray) (a0_4 : Int) (a0_5 : Int) (a0_6 : Int) (a0_7 : Bool) (a0_8 : Bool) (a0_9 : Bool) (a0_10 : Int) (a1_0 : Int) (a1_1 : Int) (a2_0 : Int) (a2_1 : Int), a0_0.size ≤ 9223372036854775807 → a0_1.size ≤ 9223372036854775807 → a0_2.size ≤ 9223372036854775807 → a0_3.size ≤ 9223372036854775807 → (Lit.int .i64 a0_4).wf = true → (Lit.int .i64 a0_5).wf = true → (Lit.int .i64 a0_6).wf = true → (Lit.int .i64 a0_10).wf = true → (Lit.int .i64 a1_0).wf = true → (Lit.int .i64 a1_1).wf = true → (Lit.int .i64 a2_0).wf = true → (Lit.int .i64 a2_1).wf = true → ∃ k, cracknellaw18_ProjTimes.f k a0_0 a0_1 a0_2 a0_3 a0_4 a0_5 a0_6 a0_7 a0_8 a0_9 a0_10 a1_0 a1_1 a2_0 a2_1 = some true
theorem cracknellaw18_ProjTimes.walk (P : cracknellaw18_ProjTimes.Pure) (a0_0 : ByteArray) (a0_1 : ByteArray) (a0_2 : ByteArray) (a0_3 : ByteArray) (a0_4 : Int) (a0_5 : Int) (a0_6 : Int) (a0_7 : Bool) (a0_8 : Bool) (a0_9 : Bool) (a0_10 : Int) (a1_0 : Int) (a1_1 : Int) (a2_0 : Int) (a2_1 : Int) (w : World) (w0_0 : a0_0.size ≤ 9223372036854775807) (w0_1 : a0_1.size ≤ 9223372036854775807) (w0_2 : a0_2.size ≤ 9223372036854775807) (w0_3 : a0_3.size ≤ 9223372036854775807) (w0_4 : (Lit.int .i64 a0_4).wf = true) (w0_5 : (Lit.int .i64 a0_5).wf = true) (w0_6 : (Lit.int .i64 a0_6).wf = true) (w0_10 : (Lit.int .i64 a0_10).wf = true) (w1_0 : (Lit.int .i64 a1_0).wf = true) (w1_1 : (Lit.int .i64 a1_1).wf = true) (w2_0 : (Lit.int .i64 a2_0).wf = true) (w2_1 : (Lit.int .i64 a2_1).wf = true) (hG : Aside0 (LaidG w)) :
    Calls Tryd.prog 7 #[.agg #[.string a0_0, .string a0_1, .string a0_2, .string a0_3, .int .i64 a0_4, .int .i64 a0_5, .int .i64 a0_6, .bool a0_7, .bool a0_8, .bool a0_9, .int .i64 a0_10], .agg #[.int .i64 a1_0, .int .i64 a1_1], .agg #[.int .i64 a2_0, .int .i64 a2_1]] w fun e w' => e = .returned (.bool true) ∧ Below w.heap.size w w' := by
  obtain ⟨k, h⟩ := P a0_0 a0_1 a0_2 a0_3 a0_4 a0_5 a0_6 a0_7 a0_8 a0_9 a0_10 a1_0 a1_1 a2_0 a2_1 w0_0 w0_1 w0_2 w0_3 w0_4 w0_5 w0_6 w0_10 w1_0 w1_1 w2_0 w2_1
  refine (cracknellaw18_ProjTimes.calls k a0_0 a0_1 a0_2 a0_3 a0_4 a0_5 a0_6 a0_7 a0_8 a0_9 a0_10 a1_0 a1_1 a2_0 a2_1 true w hG ⟨rfl⟩ h).mono ?_
  rintro e w' ⟨rfl, hd⟩
  exact ⟨rfl, hd⟩

end Go.Proofs.YtccmackhhppbdaaDoor.Print
