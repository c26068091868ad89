/- TableGets: the value of any key, and whether it is dropped, is the document's; what is put is had. -/
import Derived.Test.YtmpccjkdfdgedaaPrint5
import Derived.Test.YtmpccjkdfdgedaaYtabM
namespace Go.Proofs.Ytmpccjkdfdgedaa.Pure
open Go.RowKit Go.Proofs.Ytmpccjkdfdgedaa.Print Go.Proofs.YtmpccjkdfdgedaaW.PrintWords Go.Proofs.YtmpccjkdfdgedaaW.PrintLast Go.Proofs.YtmpccjkdfdgedaaW.PrintMore Go.Proofs.Ytmpccjkdfdgedaa.Y

theorem TableGets : cracknellaw14_TableGets.Pure := by
  intro l k v o hw _ _ _
  have halive : law14_alive.f = some true := rfl
  by_cases hb : (l.length : Int) > 60
  · exact ⟨1, by unfold cracknellaw14_TableGets.f; rw [if_pos hb]; rfl⟩
  have hr := behind_rises l
  have hlen := behind_len l
  suffices h : Ev (fun n => cracknellaw14_TableGets.f n l k v o) true by
    obtain ⟨K, h⟩ := h
    exact ⟨K, h K (Nat.le_refl _)⟩
  unfold cracknellaw14_TableGets.f
  refine ev_neg hb (ev_bind (made_ev _ (by omega)) (ev_bind (model_ev _ (by omega)) ?_))
  have hp := rises_put (k := k) (y := (⟨k, v⟩ : SR)) hr rfl
  have hpl := put_len k (⟨k, v⟩ : SR) hr
  have g1 := get_f k hr (by omega)
  have g3 := get_f k hp (by omega)
  rw [look_put (k := k) (y := (⟨k, v⟩ : SR)) hr rfl, if_pos rfl] at g3
  have g4 := get_f o hp (by omega)
  rw [look_put (k := k) (y := (⟨k, v⟩ : SR)) hr rfl] at g4
  have g5 := get_f o hr (by omega)
  have g2 : Ev (fun n => cracknelref14_Get.f n ((behind l).map cv) k) (match Y.look kR (behind l) k with | some x => (x.f1, true) | none => (0, false)) :=
    ev_eq (rget_ev _ _ (by rw [List.length_map]; omega)) (by rw [cv_look]; cases Y.look kR (behind l) k <;> rfl)
  have ha : (!(atR ordI kR k (behind l)).isEmpty) = (match Y.look kR (behind l) k with | some x => (x.f1, true) | none => ((0 : Int), false)).2 := by
    rcases (split_rises k hr).2 with h0 | ⟨x, h0, hx⟩
    · have hn : Y.look kR (behind l) k = none := look_none.2 fun y hy e => by
        have : y ∈ atR ordI kR k (behind l) := mem_atR.2 ⟨hy, e⟩
        rw [h0] at this
        simp at this
      rw [hn, h0]
      rfl
    · have hm : x ∈ behind l := (mem_atR.1 (show x ∈ atR ordI kR k (behind l) by rw [h0]; exact List.mem_singleton.2 rfl)).1
      rw [(look_some hr).2 ⟨hm, hx⟩, h0]
      rfl
  have hol := oth_len k hr
  have s := same_f (t := othR ordI kR k (behind l)) (by omega) (cv_oth k _)
  simp only [g1, Option.bind_some]
  refine ev_bind g2 (ev_bind (drop_ev k hr (by omega)) (ev_bind (put_ev k v hr (by omega)) ?_))
  simp only [g3, Option.bind_some]
  refine ev_pos rfl (ev_neg (by cases Y.look kR (behind l) k <;> simp) ?_)
  rw [ha]
  refine ev_neg (by cases Y.look kR (behind l) k <;> simp) (ev_bind (rdrop_ev k (cv_rises hr) (by rw [List.length_map]; omega)) ?_)
  simp only [s, Option.bind_some]
  refine ev_pos trivial (ev_pos trivial (ev_succ ?_))
  simp only [cracknellaw14_TableGets.j0]
  refine ev_neg (by decide) (ev_bind (put_ev k v hr (by omega)) ?_)
  simp only [g4, g5, halive, Option.bind_some]
  refine ev_pos trivial ?_
  by_cases e : k = o
  · exact ev_pos e (ev_now true)
  · refine ev_neg e ?_
    rw [if_neg (show ¬ o = k from fun h => e h.symm)]
    exact ev_pos rfl (ev_eq (ev_now _) (by cases Y.look kR (behind l) o <;> simp))

end Go.Proofs.Ytmpccjkdfdgedaa.Pure
