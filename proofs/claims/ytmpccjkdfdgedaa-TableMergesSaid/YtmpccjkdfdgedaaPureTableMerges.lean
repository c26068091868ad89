/- TableMerges: two tables, in either order, are the document's; with itself a table is the same. -/
import Derived.Test.YtmpccjkdfdgedaaPrint8
import Derived.Test.YtmpccjkdfdgedaaYtabM
namespace Go.Proofs.Ytmpccjkdfdgedaa.Pure
open Go.RowKit Go.Proofs.Ytmpccjkdfdgedaa.Print Go.Proofs.YtmpccjkdfdgedaaW.PrintWords Go.Proofs.YtmpccjkdfdgedaaW.PrintLast Go.Proofs.YtmpccjkdfdgedaaW.PrintMore Go.Proofs.Ytmpccjkdfdgedaa.Y

theorem TableMerges : cracknellaw14_TableMerges.Pure := by
  intro l more hw hw2
  have halive : law14_alive.f = some true := rfl
  by_cases hb : (l.length : Int) > 40
  · exact ⟨1, by unfold cracknellaw14_TableMerges.f; rw [if_pos hb]; rfl⟩
  by_cases hb2 : (more.length : Int) > 40
  · exact ⟨1, by unfold cracknellaw14_TableMerges.f; rw [if_neg hb, decide_eq_true hb2]; rfl⟩
  have hr := behind_rises l
  have hr2 := behind_rises more
  have hlen := behind_len l
  have hlen2 := behind_len more
  suffices h : Ev (fun k => cracknellaw14_TableMerges.j0 k l more false) true by
    obtain ⟨K, h⟩ := h
    exact ⟨K, by unfold cracknellaw14_TableMerges.f; rw [if_neg hb, decide_eq_false hb2]; exact h K (Nat.le_refl _)⟩
  refine ev_succ ?_
  simp only [cracknellaw14_TableMerges.j0]
  refine ev_neg (by decide) (ev_bind (made_ev _ (by omega)) (ev_bind (made_ev _ (by omega)) (ev_bind (model_ev _ (by omega)) (ev_bind (model_ev _ (by omega)) (ev_bind (rmerge_ev (cv_rises hr) (cv_rises hr2) (by rw [List.length_map, List.length_map]; omega)) ?_)))))
  simp only [halive, Option.bind_some]
  obtain ⟨hm, hml⟩ := mergeX hr hr2
  rw [← cv_merge mxI hr hr2]
  have s1 := same_f (t := mergeR ordI kR (pkR mxI) (behind l) (behind more)) (by omega) rfl
  have s2 := same_f (t := behind l) (by omega) rfl
  have s3 := same_f (t := behind more) (by omega) rfl
  have m1 := @merge_ev pick_19 mxI (fun _ _ => rfl) (behind l) (behind more) (by omega) (by omega)
  have m2 := @merge_ev pick_19 mxI (fun _ _ => rfl) (behind more) (behind l) (by omega) (by omega)
  have m3 := @merge_ev pick_19 mxI (fun _ _ => rfl) (behind l) (behind l) (by omega) (by omega)
  rw [← mergeX_comm hr hr2] at m2
  rw [mergeX_self hr] at m3
  refine ev_pos trivial (ev_bind m1 ?_)
  simp only [s1, Option.bind_some]
  refine ev_pos trivial (ev_bind m2 ?_)
  simp only [s1, Option.bind_some]
  refine ev_pos trivial (ev_bind m3 (ev_bind (model_ev _ (by omega)) ?_))
  simp only [s2, Option.bind_some]
  refine ev_pos trivial (ev_bind (model_ev _ (by omega)) ?_)
  simp only [s2, Option.bind_some]
  refine ev_pos trivial (ev_bind (model_ev _ (by omega)) ?_)
  simp only [s3, Option.bind_some]
  exact ev_now true

end Go.Proofs.Ytmpccjkdfdgedaa.Pure
