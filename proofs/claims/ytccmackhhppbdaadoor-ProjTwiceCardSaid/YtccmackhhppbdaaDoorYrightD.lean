/- Which cookies may be, as a plain function on texts and numbers; that the printed function comes to it. Texts have at most 500 bytes. -/
import Derived.Test.YtccmackhhppbdaaDoorYhostD
import Derived.Test.YtccmackhhppbdaaDoorPrint8
namespace Go.Proofs.YtccmackhhppbdaaDoor.Y
set_option linter.unusedVariables false
set_option linter.unusedSimpArgs false
open Go.RowKit Go.Proofs.YtccmackhhppbdaaDoor.Print Go.Proofs.YtccmackhhppbdaaDoorW.PrintWords Go.Proofs.YtccmackhhppbdaaDoorW.PrintLast Go.Proofs.YtccmackhhppbdaaDoorW.PrintMore

def plainR (p : ByteArray) : Bool := (bytesOf p).all plainC
def pathR (p : ByteArray) : Bool := decide ((p.size : Int) ≥ 1) && (decide ((p.size : Int) ≤ 64) && (decide (bt p 0 = 47) && plainR p))
def tokR (n : ByteArray) : Bool := !decide (n.toList = ([] : List UInt8)) && (bytesOf n).all tokC
def octR (v : ByteArray) : Bool := (bytesOf v).all octC
theorem plainR_f {p : ByteArray} (h : p.size ≤ 500) : ascii_Plain.f p = some (plainR p) := by unfold ascii_Plain.f; rw [if_pos (by omega)]; rfl
theorem tokR_f {n : ByteArray} (h : n.size ≤ 500) : ascii_Token.f n = some (tokR n) := by unfold ascii_Token.f; rw [if_pos (by omega)]; rfl
theorem octR_f {v : ByteArray} (h : v.size ≤ 500) : ascii_Octets.f v = some (octR v) := by unfold ascii_Octets.f; rw [if_pos (by omega)]; rfl
theorem pathR_f {p : ByteArray} (h : p.size ≤ 500) : path_Right.f p = some (pathR p) := by
  unfold path_Right.f pathR
  rw [plainR_f h]
  by_cases h1 : (p.size : Int) ≥ 1
  · rw [if_pos h1, decide_eq_true h1]
    by_cases h2 : (p.size : Int) ≤ 64
    · rw [if_pos h2, decide_eq_true h2, if_pos (show 0 < (p.size : Int) by omega)]
      by_cases h3 : bt p 0 = 47
      · rw [if_pos h3, decide_eq_true h3]; rfl
      · rw [if_neg h3, decide_eq_false h3]; rfl
    · rw [if_neg h2, decide_eq_false h2]; rfl
  · rw [if_neg h1, decide_eq_false h1]; rfl
def timesR (c4 c5 c6 : Int) : Bool := inN 253402300799 c4 && (inN 253402300799 c5 && inN 253402300799 c6)
def lastR (v : ByteArray) (c4 c5 c6 ss : Int) : Bool := octR v && (!decide ((v.size : Int) > 128) && (timesR c4 c5 c6 && (decide (ss ≥ 0) && decide (ss ≤ 3))))
def midR (p n v : ByteArray) (c4 c5 c6 ss : Int) : Bool := pathR p && (tokR n && (!decide ((n.size : Int) > 64) && lastR v c4 c5 c6 ss))
def rightB (d p n v : ByteArray) (c4 c5 c6 : Int) (ho : Bool) (ss : Int) : Bool := (canonB d).2 && (decide (bytesOf (canonB d).1 = bytesOf d) && (!(ipB d && !ho) && midR p n v c4 c5 c6 ss))
theorem cookR_ev {d p n v : ByteArray} {c4 c5 c6 : Int} {ho se ht : Bool} {ss : Int} (hd : d.size ≤ 500) (hp : p.size ≤ 500) (hn : n.size ≤ 500) (hv : v.size ≤ 500) : Ev (fun k => cookie_Right.f k d p n v c4 c5 c6 ho se ht ss) (rightB d p n v c4 c5 c6 ho ss) := by
  have j1 : ∀ x : Bool, Ev (fun k => cookie_Right.j1 k x d p n v c4 c5 c6 ho se ht ss) (!x && lastR v c4 c5 c6 ss) := by
    intro x
    apply ev_succ
    simp only [cookie_Right.j1, octR_f hv, cookie_within.f, Option.bind_some]
    unfold lastR
    cases x with
    | true => exact ev_pos rfl (ev_now _)
    | false =>
      refine ev_neg (by decide) ?_
      by_cases h1 : octR v = true
      · refine ev_pos h1 ?_
        by_cases h2 : (v.size : Int) > 128
        · exact ev_pos h2 (ev_eq (ev_now _) (by simp [h2]))
        · refine ev_neg h2 ?_
          by_cases h3 : timesR c4 c5 c6 = true
          · refine ev_pos h3 ?_
            by_cases h4 : ss ≥ 0
            · exact ev_pos h4 (ev_eq (ev_now _) (by rw [h1, h3, decide_eq_true h4, decide_eq_false h2]; simp))
            · exact ev_neg h4 (ev_eq (ev_now _) (by rw [decide_eq_false h4]; simp))
          · exact ev_neg h3 (ev_eq (ev_now _) (by rw [Bool.not_eq_true] at h3; rw [h3]; simp))
      · exact ev_neg h1 (ev_eq (ev_now _) (by rw [Bool.not_eq_true] at h1; rw [h1]; simp))
  have j0 : ∀ x : Bool, Ev (fun k => cookie_Right.j0 k x d p n v c4 c5 c6 ho se ht ss) (!x && midR p n v c4 c5 c6 ss) := by
    intro x
    apply ev_succ
    simp only [cookie_Right.j0, pathR_f hp, tokR_f hn, Option.bind_some]
    unfold midR
    cases x with
    | true => exact ev_pos rfl (ev_now _)
    | false =>
      refine ev_neg (by decide) ?_
      by_cases h1 : pathR p = true
      · refine ev_pos h1 ?_
        by_cases h2 : tokR n = true
        · exact ev_pos h2 (ev_eq (j1 _) (by rw [h1, h2]; simp))
        · exact ev_neg h2 (ev_eq (j1 _) (by rw [Bool.not_eq_true] at h2; rw [h2]; simp))
      · exact ev_neg h1 (ev_eq (j1 _) (by rw [Bool.not_eq_true] at h1; rw [h1]; simp))
  unfold cookie_Right.f rightB
  refine ev_bind (canon_ev d) ?_
  by_cases h1 : (canonB d).2 = true
  · refine ev_pos h1 ?_
    by_cases h2 : (canonB d).1.toList = d.toList
    · have h3 := toList_inj.mp h2
      refine ev_pos h2 (ev_bind (ip_ev (by rw [h3]; omega)) ?_)
      rw [h3, h1, decide_eq_true rfl]
      by_cases h4 : ipB d = true
      · exact ev_pos h4 (ev_eq (j0 _) (by rw [h4]; simp))
      · exact ev_neg h4 (ev_eq (j0 _) (by rw [Bool.not_eq_true] at h4; rw [h4]; simp))
    · refine ev_neg h2 (ev_eq (j0 _) ?_)
      rw [decide_eq_false (fun e => h2 (toList_eq_iff.mpr e)), bne_iff_ne.mpr h2]
      simp
  · refine ev_neg h1 (ev_eq (j0 _) ?_)
    rw [Bool.not_eq_true] at h1
    rw [h1]
    simp
end Go.Proofs.YtccmackhhppbdaaDoor.Y
