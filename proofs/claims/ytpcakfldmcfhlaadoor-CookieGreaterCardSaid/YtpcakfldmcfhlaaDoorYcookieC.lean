/- How the reference of layer 13 compares cookies, as a plain function. Texts are no longer than a row may be. -/
import Derived.Test.YtpcakfldmcfhlaaDoorYcookieR
import Derived.Test.YtpcakfldmcfhlaaDoorPrint8
namespace Go.Proofs.YtpcakfldmcfhlaaDoor.Y
set_option linter.unusedVariables false
set_option linter.unusedSimpArgs false
open Go.RowKit Go.Proofs.YtpcakfldmcfhlaaDoor.Print Go.Proofs.YtpcakfldmcfhlaaDoorW.PrintWords Go.Proofs.YtpcakfldmcfhlaaDoorW.PrintLast Go.Proofs.YtpcakfldmcfhlaaDoorW.PrintMore

theorem ref_or_loop (l : List Int) (hl : l.length ≤ 4294967296) (d : Nat) : ∀ i : Nat, i + d = l.length → Ev (fun k => cracknelref13_Cmp.l0 k l i) (orL (l.drop i)) := by
  induction d with
  | zero =>
    intro i hi
    apply ev_succ
    simp only [cracknelref13_Cmp.l0]
    exact ev_neg (by omega) (ev_eq (ev_now _) (by rw [List.drop_eq_nil_of_le (by omega)]; rfl))
  | succ d ih =>
    intro i hi
    apply ev_succ
    simp only [cracknelref13_Cmp.l0]
    have hw : wrap64 ((i : Int) + 1) = ((i + 1 : Nat) : Int) := by rw [w64 (by omega) (by omega)]; omega
    rw [hw]
    rcases drop_casesI l (i := i) (by omega) with ⟨h1, _⟩ | ⟨c, h1, h2⟩
    · omega
    · rw [rd_drop h2, h2, orL]
      refine ev_pos (by omega) (ev_pos (by omega) ?_)
      by_cases hc : c = 0
      · rw [if_pos hc]; exact ev_pos hc (ih (i + 1) (by omega))
      · rw [if_neg hc]; exact ev_neg hc (ev_now _)
theorem ref_cmp_ev {a0 a1 a2 a3 : ByteArray} {a4 a5 a6 : Int} {a7 a8 a9 : Bool} {a10 : Int} {b0 b1 b2 b3 : ByteArray} {b4 b5 b6 : Int} {b7 b8 b9 : Bool} {b10 : Int} (ha0 : a0.size ≤ 9223372036854775807) (ha1 : a1.size ≤ 9223372036854775807) (ha2 : a2.size ≤ 9223372036854775807) (ha3 : a3.size ≤ 9223372036854775807) (hb0 : b0.size ≤ 9223372036854775807) (hb1 : b1.size ≤ 9223372036854775807) (hb2 : b2.size ≤ 9223372036854775807) (hb3 : b3.size ≤ 9223372036854775807) : Ev (fun k => cracknelref13_Cmp.f k a0 a1 a2 a3 a4 a5 a6 a7 a8 a9 a10 b0 b1 b2 b3 b4 b5 b6 b7 b8 b9 b10) (cookC (a0, a1, a2, a3, a4, a5, a6, a7, a8, a9, a10) (b0, b1, b2, b3, b4, b5, b6, b7, b8, b9, b10)) := by
  unfold cracknelref13_Cmp.f cracknelref13_Of.f
  refine ev_bind (ev_now _) (ev_bind (ev_now _) (ev_bind (ref_keys_ev ha0 ha1 ha2 hb0 hb1 hb2) ?_))
  simp only [number_f, bit_f]
  refine ev_bind (ev_now _) (ev_bind (ev_now _) (ev_bind (ref_text_ev ha3 hb3) (ev_bind (ev_now _) (ev_bind (ev_now _) (ev_bind (ev_now _) (ev_bind (ev_now _) (ev_bind (ev_now _) (ev_bind (ev_now _) (ev_bind (ev_now _) (ev_bind (ev_now _) (ev_bind (ev_now _) (ev_bind (ev_now _) (ev_bind (ev_now _) ?_)))))))))))))
  refine ev_eq (ref_or_loop _ (by simp) 9 0 rfl) ?_
  unfold cookC rowC
  rw [List.drop_zero, or_cons, or_cons, or_cons, or_cons, or_cons, or_cons, or_cons, or_cons, or_one]
  simp only [rowOf, twoC]
  first | done | rfl | (congr; done)
end Go.Proofs.YtpcakfldmcfhlaaDoor.Y
