/- Functions of layer 2 and of Go's library that are walked by hand, under the print's own form of contract: strconv.Itoa, dec.Read; and what is laid when a call begins (the power table and the two errors of strconv). The world must bear what the row lists as laid. -/
import Derived.Test.YtccmackhhppbdaaDoorProg
import Derived.Test.YtccmackhhppbdaaDoorRows
import Derived.Test.YtccmackhhppbdaaDoorShelf
import Derived.Test.YtccmackhhppbdaaDoorWMore
import Derived.Lib.SmallJoins
import Derived.Lib.AppendIntMem
import Derived.Lib.AtoiErrMem
import Derived.WalkKit
import Derived.Deep.QuietTactic
import Derived.BigQuiet
import Derived.Lib.LaidTab
import Derived.Stop.LaidErr
import Derived.Shelf.Strconv.ErrVarAll

namespace Go.Proofs.YtccmackhhppbdaaDoor.Print
open Go.RowKit Go.Proofs.YtccmackhhppbdaaDoorW.PrintWords Go.Proofs.YtccmackhhppbdaaDoorW.PrintLast Go.Proofs.YtccmackhhppbdaaDoorW.PrintMore
set_option linter.unusedVariables false
set_option linter.unusedSimpArgs false

/-- The names of the three listed variables that are read, by their numbers. -/
noncomputable def nameOf (g : Nat) : String := ((Tryd.prog.globals[g]?).map (·.name)).getD ""
noncomputable def namePow : String := nameOf 5
noncomputable def nameSyn : String := nameOf 1
noncomputable def nameRng : String := nameOf 2
theorem glPow : Tryd.prog.globalNamed namePow = some 5 := by kernel_rfl
theorem glSyn : Tryd.prog.globalNamed nameSyn = some 1 := by kernel_rfl
theorem glRng : Tryd.prog.globalNamed nameRng = some 2 := by kernel_rfl
/-- What is laid. -/
structure LaidG (w : World) : Prop where
  pow : Lib.TabIs Tryd.prog w namePow .u64 Lib.pow10Tab
  syn : ∃ tp p, w.var? Tryd.prog nameSyn = some #[.iface tp p]
  rng : ∃ tp p, w.var? Tryd.prog nameRng = some #[.iface tp p]
  mlen : ∃ m, w.cell? ⟨0, 0, none⟩ = some (.int .i64 m)
theorem var_below {w w' : World} {n : String} {g : Nat} {cs : Array Value} (hg : Tryd.prog.globalNamed n = some g) (h : w.var? Tryd.prog n = some cs) (hb : Below w.heap.size w w') : w'.var? Tryd.prog n = some cs := by
  exact Go.Joins.var_stays hg h hb (Nat.le_refl _)
theorem cell_below {w w' : World} {a : Addr} {v : Value} (h : w.cell? a = some v) (hb : Below w.heap.size w w') : w'.cell? a = some v := by
  have hlt : a.block < w.heap.size := by
    by_cases hl : a.block < w.heap.size
    · exact hl
    · exfalso
      have : w.heap[a.block]? = none := Array.getElem?_eq_none (by omega)
      simp [World.cell?, this] at h
  rw [hb.cell hlt]
  exact h
theorem LaidG.below {w w' : World} (h : LaidG w) (hb : Below w.heap.size w w') : LaidG w' :=
  ⟨var_below glPow h.pow hb, by obtain ⟨tp, p, hv⟩ := h.syn; exact ⟨tp, p, var_below glSyn hv hb⟩, by obtain ⟨tp, p, hv⟩ := h.rng; exact ⟨tp, p, var_below glRng hv hb⟩
  , by obtain ⟨m, hm⟩ := h.mlen; exact ⟨m, cell_below hm hb⟩
  ⟩
theorem LaidG.drewN {w : World} {n : Nat} (h : LaidG w) : LaidG (w.drewN n) := h.below (by apply pw_below_drewN; exact Below.refl _ _)
theorem LaidG.drew {w : World} (h : LaidG w) : LaidG w.drew := h.below (by apply below_drew1; exact Below.refl _ _)
theorem LaidG.alloc {w : World} {o : Obj} (h : LaidG w) : LaidG (w.alloc o) := h.below (by apply below_alloc; exact Below.refl _ _)

/-! ### strconv.Itoa, dec.Print -/
def itoaB (n : Int) : ByteArray := ⟨(Lib.itoa n).toArray⟩
def strconv_Itoa.f (a0 : Int) : Option ByteArray := if -9223372036854775808 ≤ a0 then (if a0 ≤ 9223372036854775807 then some (itoaB a0) else none) else none
theorem strconv_Itoa.calls (a0 : Int) (r : ByteArray) (w : World) (hG : Aside0 (LaidG w)) (h : strconv_Itoa.f a0 = some r) :
    Calls Tryd.prog 58 #[.int .i64 a0] w fun e w' => e = .returned (.string r) ∧ Below w.heap.size w w' := by
  unfold strconv_Itoa.f at h
  by_cases h0 : -9223372036854775808 ≤ a0
  · rw [if_pos h0] at h
    by_cases h1 : a0 ≤ 9223372036854775807
    · rw [if_pos h1] at h
      obtain rfl := Option.some.inj h
      refine (Any.strconv_Itoa Tryd.laysM171 a0 h0 h1 w (Eq.mp (congrArg (fun z => Lib.TabIs Tryd.prog w z .u64 Lib.pow10Tab) (by kernel_rfl)) hG.out.pow)).mono ?_
      rintro e w' ⟨rfl, k, os, rfl⟩
      exact ⟨rfl, Lib.below_grow _ _ (Nat.le_refl _) _ _⟩
    · rw [if_neg h1] at h; exact absurd h (by simp)
  · rw [if_neg h0] at h; exact absurd h (by simp)
def dec_Print.f (a0 : Int) : Option ByteArray := strconv_Itoa.f a0
theorem dec_Print.calls (a0 : Int) (r : ByteArray) (w : World) (hG : Aside0 (LaidG w)) (h : dec_Print.f a0 = some r) :
    Calls Tryd.prog 48 #[.int .i64 a0] w fun e w' => e = .returned (.string r) ∧ Below w.heap.size w w' := by
  have H := Aside0.mk h
  clear h
  go_enter Tryd.func48, Tryd.ntmps48
  go_wp2_with (go_at_call 58; refine (strconv_Itoa.calls a0 r _ hG H.out).mono ?_; rintro e w' ⟨rfl, hb⟩)
  go_ret
  exact ⟨rfl, hb⟩

/-! ### dec.Read -/
def readB (s : ByteArray) : Int × Bool := if s.size > 20 then (0, false) else match Lib.atoiAll s.data.toList with
  | .ok v => if (itoaB v).toList = s.toList then (v, true) else (0, false)
  | _ => (0, false)
def dec_Read.f (a0 : ByteArray) : Option (Int × Bool) := some (readB a0)
theorem atoi_ok (s : ByteArray) (hs : s.size ≤ 20) (v : Int) (h : Lib.atoiAll s.data.toList = .ok v) (w : World) :
    Calls Tryd.prog 47 #[.string s] w fun e w' => e = .returned (.tuple #[.int .i64 v, .nilIface]) ∧ Below w.heap.size w w' := by
  refine (Any.strconv_Atoi_ok Tryd.laysC172 s (by omega) v h w).mono ?_
  rintro e w' ⟨rfl, hw | ⟨t, hw⟩⟩
  · subst hw; exact ⟨rfl, Below.refl _ _⟩
  · subst hw; exact ⟨rfl, Lib.bytesWorld_below _ _ _⟩
theorem atoi_no (s : ByteArray) (hs : s.size ≤ 20) (h : ∀ v, Lib.atoiAll s.data.toList ≠ .ok v) (w : World) (hG : LaidG w) :
    Calls Tryd.prog 47 #[.string s] w fun e w' => ∃ n t p, e = .returned (.tuple #[.int .i64 n, .iface t p]) ∧ Below w.heap.size w w' := by
  cases hv : Lib.atoiAll s.data.toList with
  | ok v => exact absurd hv (h v)
  | range =>
    obtain ⟨tp, p, hvar⟩ := hG.rng
    refine (Any.strconv_Atoi_range_var Tryd.laysC172 s (by omega) hv tp p w (Eq.mp (congrArg (fun z => w.var? Tryd.prog z = some #[.iface tp p]) (by kernel_rfl)) hvar)).mono ?_
    rintro e w' ⟨N, rfl, _, _, hb⟩
    exact ⟨_, _, _, rfl, hb⟩
  | _ =>
    obtain ⟨tp, p, hvar⟩ := hG.syn
    refine (Any.strconv_Atoi_syntax_var Tryd.laysC172 s (by omega) hv tp p w (Eq.mp (congrArg (fun z => w.var? Tryd.prog z = some #[.iface tp p]) (by kernel_rfl)) hvar)).mono ?_
    rintro e w' ⟨N, rfl, _, _, hb⟩
    exact ⟨_, _, _, rfl, hb⟩
theorem print_in (v : Int) (h : -9223372036854775808 ≤ v ∧ v ≤ 9223372036854775807) : dec_Print.f v = some (itoaB v) := by
  unfold dec_Print.f strconv_Itoa.f
  rw [if_pos h.1, if_pos h.2]
theorem atoiAll_in {l : List UInt8} {v : Int} (h : Lib.atoiAll l = .ok v) : -9223372036854775808 ≤ v ∧ v ≤ 9223372036854775807 := by
  unfold Lib.atoiAll at h
  cases l with
  | nil => cases h
  | cons c r =>
    simp only at h
    split at h
    · cases h
    · cases h
    · rename_i u hu
      have := Lib.parseMag_lt hu
      split at h
      · cases h
      · split at h
        · cases h
        · rename_i h1 h2
          injection h with h
          rw [← h]
          split <;> omega
theorem dec_Read.calls (a0 : ByteArray) (r1 : Int) (r2 : Bool) (w : World) (hG : Aside0 (LaidG w)) (h : dec_Read.f a0 = some (r1, r2)) :
    Calls Tryd.prog 37 #[.string a0] w fun e w' => e = .returned (.tuple #[.int .i64 r1, .bool r2]) ∧ Below w.heap.size w w' := by
  have h' : readB a0 = (r1, r2) := Option.some.inj h
  clear h
  unfold readB at h'
  by_cases hs : a0.size > 20
  · rw [if_pos hs] at h'
    obtain ⟨rfl, rfl⟩ := Prod.mk.inj h'
    clear h'
    have hs1 : decide (20 < (a0.size : Int)) = true := decide_eq_true (by omega)
    clear hs
    go_enter Tryd.func37, Tryd.ntmps37
    go_wp2
    go_ret2
    exact ⟨rfl, Below.refl _ _⟩
  · rw [if_neg hs] at h'
    have hs1 : decide (20 < (a0.size : Int)) = false := decide_eq_false (by omega)
    have hs2 := Aside0.mk (show a0.size ≤ 20 by omega)
    clear hs
    cases hv : Lib.atoiAll a0.data.toList with
    | ok v =>
      rw [hv] at h'
      simp only at h'
      have hv' := Aside0.mk hv
      have hp' := Aside0.mk (print_in v (atoiAll_in hv))
      clear hv
      by_cases hb : (itoaB v).toList = a0.toList
      · rw [if_pos hb] at h'
        obtain ⟨rfl, rfl⟩ := Prod.mk.inj h'
        clear h'
        have hb1 : ((itoaB v).toList != a0.toList) = false := by rw [hb]; simp
        have hb2 : ((itoaB v).toList == a0.toList) = true := by rw [hb]; simp
        clear hb
        go_enter Tryd.func37, Tryd.ntmps37
        go_wp2_with (first | (go_at_call 47; refine (atoi_ok a0 hs2.out v hv'.out _).mono ?_; rintro e w1 ⟨rfl, hb1'⟩; have HB1 := Aside0.mk hb1'; clear hb1') | (go_at_call 48; refine (dec_Print.calls v (itoaB v) _ (Aside0.mk (hG.out.below HB1.out)) hp'.out).mono ?_; rintro e w2 ⟨rfl, hb2'⟩; have HB2 := Aside0.mk hb2'; clear hb2'))
        go_ret2
        exact ⟨rfl, HB1.out.trans (HB2.out.mono HB1.out.size)⟩
      · rw [if_neg hb] at h'
        obtain ⟨rfl, rfl⟩ := Prod.mk.inj h'
        clear h'
        have hb1 : ((itoaB v).toList != a0.toList) = true := by simpa using hb
        have hb2 : ((itoaB v).toList == a0.toList) = false := by simpa using hb
        clear hb
        go_enter Tryd.func37, Tryd.ntmps37
        go_wp2_with (first | (go_at_call 47; refine (atoi_ok a0 hs2.out v hv'.out _).mono ?_; rintro e w1 ⟨rfl, hb1'⟩; have HB1 := Aside0.mk hb1'; clear hb1') | (go_at_call 48; refine (dec_Print.calls v (itoaB v) _ (Aside0.mk (hG.out.below HB1.out)) hp'.out).mono ?_; rintro e w2 ⟨rfl, hb2'⟩; have HB2 := Aside0.mk hb2'; clear hb2'))
        go_ret2
        exact ⟨rfl, HB1.out.trans (HB2.out.mono HB1.out.size)⟩
    | range =>
      rw [hv] at h'
      obtain ⟨rfl, rfl⟩ := Prod.mk.inj h'
      clear h'
      have hv' := Aside0.mk (show ∀ v, Lib.atoiAll a0.data.toList ≠ .ok v by rw [hv]; intro v e; cases e)
      clear hv
      go_enter Tryd.func37, Tryd.ntmps37
      go_wp2_with (go_at_call 47; refine (atoi_no a0 hs2.out hv'.out _ hG.out).mono ?_; rintro e w1 ⟨n1, t1, p1, rfl, hb1'⟩; have HB1 := Aside0.mk hb1'; clear hb1')
      go_ret2
      exact ⟨rfl, HB1.out⟩
    | _ =>
      rw [hv] at h'
      obtain ⟨rfl, rfl⟩ := Prod.mk.inj h'
      clear h'
      have hv' := Aside0.mk (show ∀ v, Lib.atoiAll a0.data.toList ≠ .ok v by rw [hv]; intro v e; cases e)
      clear hv
      go_enter Tryd.func37, Tryd.ntmps37
      go_wp2_with (go_at_call 47; refine (atoi_no a0 hs2.out hv'.out _ hG.out).mono ?_; rintro e w1 ⟨n1, t1, p1, rfl, hb1'⟩; have HB1 := Aside0.mk hb1'; clear hb1')
      go_ret2
      exact ⟨rfl, HB1.out⟩
end Go.Proofs.YtccmackhhppbdaaDoor.Print
