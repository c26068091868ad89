/- TableThree: three tables, however they are put together. -/
import Derived.Test.YtmpccjkdfdgedaaPrint11
import Derived.Test.YtmpccjkdfdgedaaYtabM
namespace Go.Proofs.Ytmpccjkdfdgedaa.Pure
open Go.RowKit Go.Proofs.Ytmpccjkdfdgedaa.Print Go.Proofs.YtmpccjkdfdgedaaW.PrintWords Go.Proofs.YtmpccjkdfdgedaaW.PrintLast Go.Proofs.YtmpccjkdfdgedaaW.PrintMore Go.Proofs.Ytmpccjkdfdgedaa.Y

theorem TableThree : cracknellaw14_TableThree.Pure := by
  intro l m n hw hw2 hw3
  have halive : law14_alive.f = some true := rfl
  by_cases hb : (l.length : Int) > 30
  · exact ⟨1, by unfold cracknellaw14_TableThree.f; rw [if_pos hb]; rfl⟩
  by_cases hb2 : (m.length : Int) > 30
  · exact ⟨1, by unfold cracknellaw14_TableThree.f; rw [if_neg hb, if_pos hb2]; rfl⟩
  by_cases hb3 : (n.length : Int) > 30
  · exact ⟨1, by unfold cracknellaw14_TableThree.f; rw [if_neg hb, if_neg hb2, decide_eq_true hb3]; rfl⟩
  have hr := behind_rises l
  have hr2 := behind_rises m
  have hr3 := behind_rises n
  have hlen := behind_len l
  have hlen2 := behind_len m
  have hlen3 := behind_len n
  suffices h : Ev (fun k => cracknellaw14_TableThree.j0 k l m n false) true by
    obtain ⟨K, h⟩ := h
    exact ⟨K, by unfold cracknellaw14_TableThree.f; rw [if_neg hb, if_neg hb2, decide_eq_false hb3]; exact h K (Nat.le_refl _)⟩
  obtain ⟨hm, hml⟩ := mergeX hr hr2
  obtain ⟨hm2, hml2⟩ := mergeX hr2 hr3
  obtain ⟨hm3, hml3⟩ := mergeX hm hr3
  refine ev_succ ?_
  simp only [cracknellaw14_TableThree.j0]
  refine ev_neg (by decide) (ev_bind (made_ev _ (by omega)) (ev_bind (made_ev _ (by omega)) (ev_bind (made_ev _ (by omega)) (ev_bind (model_ev _ (by omega)) (ev_bind (model_ev _ (by omega)) (ev_bind (rmerge_ev (cv_rises hr) (cv_rises hr2) (by rw [List.length_map, List.length_map]; omega)) (ev_bind (model_ev _ (by omega)) ?_)))))))
  rw [← cv_merge mxI hr hr2]
  refine ev_bind (rmerge_ev (cv_rises hm) (cv_rises hr3) (by rw [List.length_map, List.length_map]; omega)) ?_
  rw [← cv_merge mxI hm hr3]
  simp only [halive, Option.bind_some]
  have s1 := same_f (t := mergeR ordI kR (pkR mxI) (mergeR ordI kR (pkR mxI) (behind l) (behind m)) (behind n)) (by omega) rfl
  have m1 := @merge_ev pick_22 mxI (fun _ _ => rfl) (behind l) (behind m) (by omega) (by omega)
  have m2 := @merge_ev pick_22 mxI (fun _ _ => rfl) (mergeR ordI kR (pkR mxI) (behind l) (behind m)) (behind n) (by omega) (by omega)
  have m3 := @merge_ev pick_22 mxI (fun _ _ => rfl) (behind m) (behind n) (by omega) (by omega)
  have m4 := @merge_ev pick_22 mxI (fun _ _ => rfl) (behind l) (mergeR ordI kR (pkR mxI) (behind m) (behind n)) (by omega) (by omega)
  rw [← mergeX_assoc hr hr2 hr3] at m4
  refine ev_pos trivial (ev_bind m1 (ev_bind m2 ?_))
  simp only [s1, Option.bind_some]
  refine ev_pos trivial (ev_bind m3 (ev_bind m4 ?_))
  simp only [s1, Option.bind_some]
  exact ev_now true

end Go.Proofs.Ytmpccjkdfdgedaa.Pure
