/- ProjWords: the word of any format, and the format of any word, or that there is none, are the document's; each is the other's. -/
import Derived.Test.YtccmackhhppbdaaDoorPrint21
import Derived.Test.YtccmackhhppbdaaDoorYproj
import Derived.Test.YtccmackhhppbdaaDoorPrint20
namespace Go.Proofs.YtccmackhhppbdaaDoor.Pure
open Go.RowKit Go.Proofs.YtccmackhhppbdaaDoor.Print Go.Proofs.YtccmackhhppbdaaDoorW.PrintWords Go.Proofs.YtccmackhhppbdaaDoorW.PrintLast Go.Proofs.YtccmackhhppbdaaDoorW.PrintMore Go.Proofs.YtccmackhhppbdaaDoor.Y

abbrev wordsL : List ByteArray := [⟨#[110, 101, 116, 115, 99, 97, 112, 101]⟩, ⟨#[104, 97, 114]⟩, ⟨#[114, 101, 112, 108, 97, 121]⟩, ⟨#[118, 49]⟩, ⟨#[118, 50]⟩, ⟨#[118, 51]⟩]
def fmtI (w : ByteArray) : Int := if w.toList = (wordB 1).toList then 0 else if w.toList = (wordB 2).toList then 1 else if w.toList = (wordB 3).toList then 2 else if w.toList = (wordB 4).toList then 3 else if w.toList = (wordB 5).toList then 4 else if w.toList = (wordB 6).toList then 5 else -1
theorem idx_step (w x : ByteArray) (i : Nat) (hi : i < 6) (hx : rdOf ByteArray.empty wordsL (i : Int) = x) {r : Int} (K : Ev (fun k => slices_Index_string_string.l0 k wordsL w 6 ((i + 1 : Nat) : Int)) r) :
    Ev (fun k => slices_Index_string_string.l0 k wordsL w 6 (i : Int)) (if w.toList = x.toList then (i : Int) else r) := by
  apply ev_succ
  simp only [slices_Index_string_string.l0]
  rw [hx, show wrap64 ((i : Int) + 1) = ((i + 1 : Nat) : Int) by unfold wrap64; omega]
  refine ev_pos (by omega) (ev_pos (by omega) (ev_pos (by show (i : Int) < 6; omega) ?_))
  by_cases h : w.toList = x.toList
  · rw [if_pos h]; exact ev_pos h (ev_now _)
  · rw [if_neg h]; exact ev_neg h K
theorem fmt_range (w : ByteArray) : -1 ≤ fmtI w ∧ fmtI w ≤ 5 := by unfold fmtI; repeat (first | omega | split)
theorem fmt_ev (w : ByteArray) : Ev (fun k => proj_Format.f k w) (fmtI w + 1) := by
  simp only [proj_Format.f, proj_words.f, Option.bind_some, slices_Index_string_string.f]
  refine ev_bind (r := fmtI w) ?_ (ev_eq (ev_now _) ?_)
  · refine idx_step w (wordB 1) 0 (by decide) (by decide +kernel) (idx_step w (wordB 2) 1 (by decide) (by decide +kernel) (idx_step w (wordB 3) 2 (by decide) (by decide +kernel) (idx_step w (wordB 4) 3 (by decide) (by decide +kernel) (idx_step w (wordB 5) 4 (by decide) (by decide +kernel) (idx_step w (wordB 6) 5 (by decide) (by decide +kernel) ?_)))))
    apply ev_succ
    simp only [slices_Index_string_string.l0]
    exact ev_neg (by decide) (ev_now _)
  · have := fmt_range w
    unfold wrap64; omega
theorem ref_idx_step (w x : ByteArray) (i : Nat) (hi : i < 6) (hx : rdOf ByteArray.empty wordsL (i : Int) = x) {r : Int} (K : Ev (fun k => cracknelref18_Format.l0 k w wordsL ((i + 1 : Nat) : Int)) r) :
    Ev (fun k => cracknelref18_Format.l0 k w wordsL (i : Int)) (if w.toList = x.toList then (i : Int) + 1 else r) := by
  apply ev_succ
  simp only [cracknelref18_Format.l0]
  rw [hx, show wrap64 ((i : Int) + 1) = ((i + 1 : Nat) : Int) by unfold wrap64; omega]
  refine ev_pos (by omega) (ev_pos (by omega) (ev_pos (by show (i : Int) < 6; omega) ?_))
  by_cases h : w.toList = x.toList
  · rw [if_pos h]; exact ev_pos h.symm (ev_eq (ev_now _) (by omega))
  · rw [if_neg h]; exact ev_neg (fun e => h e.symm) K
theorem ref_fmt_ev (w : ByteArray) : Ev (fun k => cracknelref18_Format.f k w) (fmtI w + 1) := by
  simp only [cracknelref18_Format.f, cracknelref18_Words.f, Option.bind_some]
  refine ev_eq (r := if w.toList = (wordB 1).toList then ((0 : Nat) : Int) + 1 else if w.toList = (wordB 2).toList then ((1 : Nat) : Int) + 1 else if w.toList = (wordB 3).toList then ((2 : Nat) : Int) + 1 else if w.toList = (wordB 4).toList then ((3 : Nat) : Int) + 1 else if w.toList = (wordB 5).toList then ((4 : Nat) : Int) + 1 else if w.toList = (wordB 6).toList then ((5 : Nat) : Int) + 1 else 0) ?_ ?_
  · refine ref_idx_step w (wordB 1) 0 (by decide) (by decide +kernel) (ref_idx_step w (wordB 2) 1 (by decide) (by decide +kernel) (ref_idx_step w (wordB 3) 2 (by decide) (by decide +kernel) (ref_idx_step w (wordB 4) 3 (by decide) (by decide +kernel) (ref_idx_step w (wordB 5) 4 (by decide) (by decide +kernel) (ref_idx_step w (wordB 6) 5 (by decide) (by decide +kernel) ?_)))))
    apply ev_succ
    simp only [cracknelref18_Format.l0]
    exact ev_neg (by decide) (ev_now _)
  · unfold fmtI
    repeat (first | omega | split)
theorem fmt_word {f : Int} (h : 1 ≤ f ∧ f ≤ 6) : fmtI (wordB f) + 1 = f := by
  rcases six h with rfl | rfl | rfl | rfl | rfl | rfl <;> decide +kernel
theorem fmt_cases (w : ByteArray) : fmtI w = -1 ∨ (1 ≤ fmtI w + 1 ∧ fmtI w + 1 ≤ 6) ∧ (wordB (fmtI w + 1)).toList = w.toList := by
  unfold fmtI
  by_cases h1 : w.toList = (wordB 1).toList
  · rw [if_pos h1]; exact .inr ⟨by decide, h1.symm⟩
  by_cases h2 : w.toList = (wordB 2).toList
  · rw [if_neg h1, if_pos h2]; exact .inr ⟨by decide, h2.symm⟩
  by_cases h3 : w.toList = (wordB 3).toList
  · rw [if_neg h1, if_neg h2, if_pos h3]; exact .inr ⟨by decide, h3.symm⟩
  by_cases h4 : w.toList = (wordB 4).toList
  · rw [if_neg h1, if_neg h2, if_neg h3, if_pos h4]; exact .inr ⟨by decide, h4.symm⟩
  by_cases h5 : w.toList = (wordB 5).toList
  · rw [if_neg h1, if_neg h2, if_neg h3, if_neg h4, if_pos h5]; exact .inr ⟨by decide, h5.symm⟩
  by_cases h6 : w.toList = (wordB 6).toList
  · rw [if_neg h1, if_neg h2, if_neg h3, if_neg h4, if_neg h5, if_pos h6]; exact .inr ⟨by decide, h6.symm⟩
  · rw [if_neg h1, if_neg h2, if_neg h3, if_neg h4, if_neg h5, if_neg h6]; exact .inl rfl
theorem ProjWords : cracknellaw18_ProjWords.Pure := by
  intro f w _ _
  apply Ev.rounds
  simp only [cracknellaw18_ProjWords.f]
  have hr : cracknelref18_Word.f f = proj_Word.f f := rfl
  rw [hr]
  have tail : Ev (fun k => if fmtI w + 1 = 0 then some true else (proj_Word.f (fmtI w + 1)).bind fun t => some (t.toList == w.toList)) true := by
    rcases fmt_cases w with h | ⟨h, h2⟩
    · exact ev_pos (by omega) (ev_now _)
    · refine ev_neg (by omega) ?_
      rw [(word_yes h).1]
      exact ev_eq (ev_now _) (by rw [h2]; simp)
  by_cases h : 1 ≤ f ∧ f ≤ 6
  · obtain ⟨h1, h2⟩ := word_yes h
    rw [h1]
    refine ev_bind (ev_now _) (ev_bind (fmt_ev w) (ev_bind alive18_ev (ev_pos rfl (ev_bind (ev_now _) (ev_pos rfl (ev_bind (ref_fmt_ev w) (ev_pos rfl (ev_neg h2 (ev_bind (fmt_ev _) (ev_pos (fmt_word h) tail))))))))))
  · rw [word_no h]
    refine ev_bind (ev_now _) (ev_bind (fmt_ev w) (ev_bind alive18_ev (ev_pos rfl (ev_bind (ev_now _) (ev_pos rfl (ev_bind (ref_fmt_ev w) (ev_pos rfl (ev_pos (by decide +kernel) tail))))))))

end Go.Proofs.YtccmackhhppbdaaDoor.Pure
