/- CookieSends: whether any cookie goes to any address is the reference's; one that is sent, without what it asks, is sent all the same. -/
import Derived.Test.YtpcakfldmcfhlaaDoorPrint17
import Derived.Test.YtpcakfldmcfhlaaDoorYcookie
import Derived.Test.YtpcakfldmcfhlaaDoorYpath
namespace Go.Proofs.YtpcakfldmcfhlaaDoor.Pure
open Go.RowKit Go.Proofs.YtpcakfldmcfhlaaDoor.Print Go.Proofs.YtpcakfldmcfhlaaDoorW.PrintWords Go.Proofs.YtpcakfldmcfhlaaDoorW.PrintLast Go.Proofs.YtpcakfldmcfhlaaDoorW.PrintMore Go.Proofs.YtpcakfldmcfhlaaDoor.Y

theorem ref_sends_ev {d p n v : ByteArray} {c4 c5 ex : Int} {ho se ht : Bool} {ss : Int} {us : Bool} {uh up : ByteArray} {t : Int} (hd : d.size ≤ 500) (hp : p.size ≤ 500) (hu : uh.size ≤ 500) (hup : up.size ≤ 500) : Ev (fun k => cracknelref13_Sends.f k d p n v c4 c5 ex ho se ht ss us uh up t) (sendsB d p ex ho se us uh up t) := by
  have j2 : ∀ x : Bool, Ev (fun k => cracknelref13_Sends.j2 k t x d p n v c4 c5 ex ho se ht ss us uh up) (!x && (liveB ex t && pathB up p)) := by
    intro x
    apply ev_succ
    simp only [cracknelref13_Sends.j2, ref_live_f, ref_pathM_f (a := up) (c := p) (by omega) (by omega), Option.bind_some]
    cases x <;> cases liveB ex t <;> exact ev_now _
  have j1 : ∀ x : Bool, Ev (fun k => cracknelref13_Sends.j1 k t x d p n v c4 c5 ex ho se ht ss us uh up) (!x && ((us || !se) && (liveB ex t && pathB up p))) := by
    intro x
    apply ev_succ
    simp only [cracknelref13_Sends.j1]
    cases x with
    | true => exact ev_pos rfl (ev_now _)
    | false =>
      refine ev_neg (by decide) ?_
      cases hse : se with
      | true => subst hse; exact ev_pos rfl (ev_eq (j2 (!us)) (by cases us <;> rfl))
      | false => subst hse; exact ev_neg (by decide) (ev_eq (j2 false) (by cases us <;> rfl))
  have j0 : ∀ x : Bool, Ev (fun k => cracknelref13_Sends.j0 k t x d p n v c4 c5 ex ho se ht ss us uh up) (!x && ((ho || matchB uh d) && ((us || !se) && (liveB ex t && pathB up p)))) := by
    intro x
    apply ev_succ
    simp only [cracknelref13_Sends.j0]
    cases x with
    | true => exact ev_pos rfl (ev_now _)
    | false =>
      refine ev_neg (by decide) ?_
      cases hho : ho with
      | true => subst hho; exact ev_pos rfl (ev_eq (j1 false) rfl)
      | false => subst hho; exact ev_neg (by decide) (ev_bind (ref_match_ev (by omega) (by omega)) (ev_eq (j1 (!matchB uh d)) (by cases matchB uh d <;> rfl)))
  unfold cracknelref13_Sends.f sendsB
  cases hho : ho with
  | true =>
    subst hho
    refine ev_pos rfl (ev_eq (j0 _) ?_)
    have e : (uh.toList != d.toList) = !decide (bytesOf uh = bytesOf d) := by rw [← toList_beq]; rfl
    rw [e]
    cases decide (bytesOf uh = bytesOf d) <;> cases liveB ex t <;> cases pathB up p <;> cases us <;> cases se <;> rfl
  | false =>
    subst hho
    refine ev_neg (by decide) (ev_eq (j0 false) ?_)
    have e : decide (bytesOf uh = bytesOf d) = true → matchB uh d = true := fun h => by rw [bytesOf_inj (of_decide_eq_true h)]; exact match_self d
    generalize decide (bytesOf uh = bytesOf d) = q at e
    cases q with
    | true => rw [e rfl]; cases liveB ex t <;> cases pathB up p <;> cases us <;> cases se <;> rfl
    | false => cases matchB uh d <;> cases liveB ex t <;> cases pathB up p <;> cases us <;> cases se <;> rfl
theorem CookieSends : cracknellaw13_CookieSends.Pure := by
  intro d p n v c4 c5 ex ho se ht ss us uh up t _ _ _ _ _ _ _ _ _ _ _
  apply Ev.rounds
  have hT : Ev (fun k => cracknellaw13_CookieSends.j0 k t true d p n v c4 c5 ex ho se ht ss us uh up) true := by
    apply ev_succ
    simp only [cracknellaw13_CookieSends.j0]
    exact ev_pos (by trivial) (ev_bind alive13_ev (ev_now _))
  simp only [cracknellaw13_CookieSends.f]
  by_cases h1 : (d.size : Int) > 500
  · exact ev_pos h1 hT
  by_cases h2 : (p.size : Int) > 500
  · exact ev_neg h1 (ev_pos h2 hT)
  by_cases h3 : (uh.size : Int) > 500
  · exact ev_neg h1 (ev_neg h2 (ev_pos h3 hT))
  refine ev_neg h1 (ev_neg h2 (ev_neg h3 ?_))
  by_cases h4 : (up.size : Int) > 500
  · rw [decide_eq_true h4]; exact hT
  rw [decide_eq_false h4]
  apply ev_succ
  simp only [cracknellaw13_CookieSends.j0]
  refine ev_neg (by decide) (ev_bind (sends_ev (by omega) (by omega) (by omega) (by omega)) (ev_bind alive13_ev (ev_pos rfl (ev_bind (ref_sends_ev (by omega) (by omega) (by omega) (by omega)) (ev_pos (by simp) ?_)))))
  by_cases h : sendsB d p ex ho se us uh up t = true
  · refine ev_pos h (ev_bind (sends_ev (by omega) (by omega) (by omega) (by omega)) (ev_eq (ev_now _) ?_))
    unfold sendsB at h ⊢
    simp only [Bool.and_eq_true, Bool.or_eq_true] at h
    obtain ⟨_, h5, h6, _⟩ := h
    rw [h6]
    rcases h5 with h5 | ⟨_, h5⟩
    · rw [h5]; simp [liveB]
    · rw [h5]; simp [liveB]
  · exact ev_neg h (ev_now _)

end Go.Proofs.YtpcakfldmcfhlaaDoor.Pure
