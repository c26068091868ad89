/- ProjTwice: kept again, nothing is another one; what is kept of a right cookie is right, and has its key. -/
import Derived.Test.YtccmackhhppbdaaDoorPrint19
import Derived.Test.YtccmackhhppbdaaDoorYproj
import Derived.Test.YtccmackhhppbdaaDoorYrightD
namespace Go.Proofs.YtccmackhhppbdaaDoor.Pure
open Go.RowKit Go.Proofs.YtccmackhhppbdaaDoor.Print Go.Proofs.YtccmackhhppbdaaDoorW.PrintWords Go.Proofs.YtccmackhhppbdaaDoorW.PrintLast Go.Proofs.YtccmackhhppbdaaDoorW.PrintMore Go.Proofs.YtccmackhhppbdaaDoor.Y

theorem right_kept {f now : Int} {d p n v : ByteArray} {c4 c5 c6 : Int} {ho : Bool} {ss : Int} (h : mayF f now) (hr : rightB d p n v c4 c5 c6 ho ss = true) :
    rightB d p n v (if f ≤ 3 then now else c4) (if f ≤ 3 then now else if f = 4 then c4 else c5) c6 (if f = 2 then true else if f = 4 then true else ho) (if f = 1 then 0 else if f = 4 then 0 else if f = 5 then 0 else ss) = true := by
  have hn : inN 253402300799 now = true := by unfold inN; rw [Bool.and_eq_true]; exact ⟨decide_eq_true h.2.1, decide_eq_true h.2.2⟩
  unfold rightB midR lastR timesR at hr ⊢
  simp only [Bool.and_eq_true, decide_eq_true_eq] at hr ⊢
  obtain ⟨r1, r2, r3, r4, r5, r6, r7, r8, ⟨r9, r10, r11⟩, r12, r13⟩ := hr
  refine ⟨r1, r2, ?_, r4, r5, r6, r7, r8, ⟨?_, ?_, r11⟩, ?_, ?_⟩
  · by_cases e : f = 2
    · rw [if_pos e]; simp
    · rw [if_neg e]
      by_cases e4 : f = 4
      · rw [if_pos e4]; simp
      · rw [if_neg e4]; exact r3
  · split
    · exact hn
    · exact r9
  · split
    · exact hn
    · split
      · exact r9
      · exact r10
  · repeat (first | omega | split)
  · repeat (first | omega | split)
theorem ProjTwice : cracknellaw18_ProjTwice.Pure := by
  intro f now d p n v c4 c5 c6 b7 b8 b9 ss _ _ _ _ _ _ _ _ _ _
  apply Ev.rounds
  simp only [cracknellaw18_ProjTwice.f]
  refine ev_bind keep_ev ?_
  have yes : ∀ x : Bool, x = true → ∀ (e0 e1 e2 e3 : ByteArray) (e4 e5 e6 : Int) (e7 e8 e9 : Bool) (e10 : Int), Ev (fun k => cracknellaw18_ProjTwice.j0 k f now x d p n v c4 c5 c6 b7 b8 b9 ss e0 e1 e2 e3 e4 e5 e6 e7 e8 e9 e10) true := by
    rintro x rfl e0 e1 e2 e3 e4 e5 e6 e7 e8 e9 e10
    apply ev_succ
    simp only [cracknellaw18_ProjTwice.j0]
    exact ev_pos trivial (ev_bind alive18_ev (ev_now _))
  by_cases h : mayF f now
  · rw [keep_may h]
    refine ev_pos rfl ?_
    by_cases h1 : (d.size : Int) > 300
    · exact ev_pos h1 (yes _ rfl _ _ _ _ _ _ _ _ _ _ _)
    by_cases h2 : (p.size : Int) > 300
    · exact ev_neg h1 (ev_pos h2 (yes _ rfl _ _ _ _ _ _ _ _ _ _ _))
    by_cases h3 : (n.size : Int) > 300
    · exact ev_neg h1 (ev_neg h2 (ev_pos h3 (yes _ rfl _ _ _ _ _ _ _ _ _ _ _)))
    refine ev_neg h1 (ev_neg h2 (ev_neg h3 ?_))
    by_cases h4 : (v.size : Int) > 300
    · exact yes _ (decide_eq_true h4) _ _ _ _ _ _ _ _ _ _ _
    rw [decide_eq_false h4]
    clear yes
    apply ev_succ
    simp only [cracknellaw18_ProjTwice.j0]
    refine ev_neg (by decide) (ev_bind keep_ev (ev_bind alive18_ev (ev_pos rfl ?_)))
    rw [keep_may h]
    refine ev_pos rfl (ev_pos ?_ ?_)
    · simp only [keepY, Bool.and_eq_true, beq_iff_eq]
      refine ⟨trivial, trivial, trivial, trivial, ?_, ?_, trivial, ?_, trivial, trivial, ?_⟩
      · split <;> rfl
      · split
        · rfl
        · split <;> rfl
      · split
        · rfl
        · split <;> rfl
      · split
        · rfl
        · split
          · rfl
          · split <;> rfl
    refine ev_bind (ev_now _) (ev_bind (ev_now _) (ev_pos (by simp [keepY]) (ev_bind (cookR_ev (by omega) (by omega) (by omega) (by omega)) ?_)))
    by_cases hr : rightB d p n v c4 c5 c6 b7 ss = true
    · refine ev_pos hr (ev_bind (cookR_ev (by show d.size ≤ 500; omega) (by show p.size ≤ 500; omega) (by show n.size ≤ 500; omega) (by show v.size ≤ 500; omega)) (ev_eq (ev_now _) ?_))
      exact right_kept h hr
    · exact ev_neg hr (ev_now _)
  · rw [keep_not h]
    exact ev_neg (by decide) (yes _ rfl _ _ _ _ _ _ _ _ _ _ _)

end Go.Proofs.YtccmackhhppbdaaDoor.Pure
