/- Merging, the program's and the document's. -/
import Derived.Test.YtmpccjkdfdgedaaYtabB
import Derived.Test.YtmpccjkdfdgedaaPrint7
import Derived.Test.YtmpccjkdfdgedaaPrint6
namespace Go.Proofs.Ytmpccjkdfdgedaa.Y
open Go.RowKit Go.Proofs.Ytmpccjkdfdgedaa.Print Go.Proofs.YtmpccjkdfdgedaaW.PrintWords Go.Proofs.YtmpccjkdfdgedaaW.PrintLast Go.Proofs.YtmpccjkdfdgedaaW.PrintMore
set_option linter.unusedVariables false
set_option linter.unusedSimpArgs false

def pkR (p : Int → Int → Int) (x y : SR) : SR := ⟨x.f0, p x.f1 y.f1⟩
def pkD (p : Int → Int → Int) (x y : SD) : SD := ⟨x.f0, p x.f1 y.f1⟩
theorem pkR_key (p : Int → Int → Int) (x y : SR) (_ : kR x = kR y) : kR (pkR p x y) = kR x := rfl
theorem pkD_key (p : Int → Int → Int) (x y : SD) (_ : kD x = kD y) : kD (pkD p x y) = kD x := rfl
theorem rdR0 (x : SR) (l : List SR) : rd_T65 (x :: l) 0 = x := rfl
theorem merge_l [Pick] (p : Int → Int → Int) (hp : ∀ a b, Pick.f a b = some (p a b)) : ∀ n (a b acc : List SR), a.length + b.length ≤ n → acc.length + a.length + b.length ≤ 100000 →
    Ev (fun k => cracknellaw14_Int_int_21.l0 k acc a b) (acc ++ mergeR ordI kR (pkR p) a b) := by
  intro n
  induction n with
  | zero =>
    intro a b acc hn hb
    obtain rfl : a = [] := List.length_eq_zero_iff.1 (by omega)
    obtain rfl : b = [] := List.length_eq_zero_iff.1 (by omega)
    refine ev_succ ?_
    simp only [cracknellaw14_Int_int_21.l0]
    refine ev_neg (by simp) (ev_succ ?_)
    simp only [cracknellaw14_Int_int_21.j1]
    refine ev_neg (by decide) (ev_bind (concat_ev _ (by simp) (by simp at hb ⊢; omega)) (ev_eq (ev_now _) (by simp [mergeR])))
  | succ n ih =>
    intro a b acc hn hb
    match a, b, hn, hb with
    | [], b, hn, hb =>
      refine ev_succ ?_
      simp only [cracknellaw14_Int_int_21.l0]
      refine ev_neg (by simp) (ev_succ ?_)
      simp only [cracknellaw14_Int_int_21.j1]
      exact ev_neg (by decide) (ev_bind (concat_ev _ (by simp) (by simp at hb ⊢; omega)) (ev_eq (ev_now _) (by simp [mergeR])))
    | x :: a, [], hn, hb =>
      refine ev_succ ?_
      simp only [cracknellaw14_Int_int_21.l0]
      refine ev_pos (by simp) (ev_succ ?_)
      simp only [cracknellaw14_Int_int_21.j1]
      exact ev_neg (by simp) (ev_bind (concat_ev _ (by simp) (by simp at hb ⊢; omega)) (ev_eq (ev_now _) (by simp [mergeR])))
    | x :: a, y :: b, hn, hb =>
      simp only [List.length_cons] at hn hb
      refine ev_succ ?_
      simp only [cracknellaw14_Int_int_21.l0]
      refine ev_pos (by simp) (ev_succ ?_)
      simp only [cracknellaw14_Int_int_21.j1]
      refine ev_pos (by simp) (ev_pos (by simp) (ev_pos (by simp) ?_))
      simp only [rdR0, law14_IntCmp.f, Option.bind_some, List.drop_succ_cons, List.drop_zero, hp]
      unfold mergeR
      by_cases h1 : x.f0 < y.f0
      · rw [if_pos (show ordI.lt (kR x) (kR y) from h1)]
        refine ev_pos (cmpT_lt.2 h1) (ev_pos (by omega) (ev_pos (by simp; omega) ?_))
        exact ev_eq (ih a (y :: b) (acc ++ [x]) (by simp; omega) (by simp; omega)) (by simp)
      · rw [if_neg (show ¬ ordI.lt (kR x) (kR y) from h1)]
        refine ev_neg (fun h => h1 (cmpT_lt.1 h)) ?_
        by_cases h2 : y.f0 < x.f0
        · rw [if_pos (show ordI.lt (kR y) (kR x) from h2)]
          refine ev_pos (by unfold cmpT; rw [if_neg h1, if_pos h2]; decide) (ev_pos (by omega) (ev_pos (by simp; omega) ?_))
          exact ev_eq (ih (x :: a) b (acc ++ [y]) (by simp; omega) (by simp; omega)) (by simp)
        · rw [if_neg (show ¬ ordI.lt (kR y) (kR x) from h2)]
          refine ev_neg (by unfold cmpT; rw [if_neg h1, if_neg h2]; decide) (ev_pos (by omega) (ev_pos (by simp; omega) (ev_pos (by simp; omega) ?_)))
          exact ev_eq (ih a b (acc ++ [pkR p x y]) (by omega) (by simp; omega)) (by simp)
theorem merge_ev [Pick] (p : Int → Int → Int) (hp : ∀ a b, Pick.f a b = some (p a b)) {a b : List SR} (ha : a.length ≤ 1000) (hb : b.length ≤ 1000) :
    Ev (fun k => cracknellaw14_Int_int_21.f k a b) (mergeR ordI kR (pkR p) a b) :=
  ev_eq (merge_l p hp _ a b [] (Nat.le_refl _) (by simp; omega)) rfl

/-! ### the document's -/
theorem lookD_cons (y : SD) (m : List SD) (a : Int) : look kD (y :: m) a = if kD y = a then some y else look kD m a := by
  unfold look
  rw [List.find?_cons]
  by_cases e : kD y = a <;> simp [e]
theorem rget_l (m : List SD) (a : Int) (hb : m.length ≤ 10000) : ∀ n j, m.length - j = n → j ≤ m.length →
    Ev (fun k => cracknelref14_Get.l0 k m a (j : Int)) (match look kD (m.drop j) a with | some x => (x.f1, true) | none => (0, false)) := by
  intro n
  induction n with
  | zero =>
    intro j hn hj
    obtain rfl : j = m.length := by omega
    rw [List.drop_length]
    refine ev_succ ?_
    simp only [cracknelref14_Get.l0]
    exact ev_neg (by omega) (ev_now _)
  | succ n ih =>
    intro j hn hj
    have hlt : j < m.length := by omega
    rw [List.drop_eq_getElem_cons hlt]
    refine ev_succ ?_
    simp only [cracknelref14_Get.l0]
    rw [rdD hlt, next1 (by omega)]
    refine ev_pos (by omega) (ev_pos (by omega) ?_)
    by_cases h : m[j].f0 = a
    · refine ev_pos h (ev_eq (ev_now _) ?_)
      rw [lookD_cons, if_pos (show kD m[j] = a from h)]
    · refine ev_neg h (ev_eq (ih (j + 1) (by omega) (by omega)) ?_)
      rw [lookD_cons, if_neg (show ¬ kD m[j] = a from h)]
theorem rget_ev (m : List SD) (a : Int) (hb : m.length ≤ 10000) : Ev (fun k => cracknelref14_Get.f k m a) (match look kD m a with | some x => (x.f1, true) | none => (0, false)) := rget_l m a hb _ 0 rfl (Nat.zero_le _)
def newD (a : List SD) (y : SD) : SD := match look kD a y.f0 with | some x => ⟨y.f0, if y.f1 > x.f1 then y.f1 else x.f1⟩ | none => y
theorem newD_key (a : List SD) (y : SD) : kD (newD a y) = kD y := by unfold newD; split <;> rfl
theorem rmerge_l (a b : List SD) (ha : Rises ordI kD a) (hb : a.length + b.length ≤ 900) : ∀ n j (out : List SD), b.length - j = n → j ≤ b.length → Rises ordI kD out → out.length ≤ a.length + j →
    Ev (fun k => cracknelref14_Merge.l0 k a b out (j : Int)) ((b.drop j).foldl (fun o y => putR ordI kD (kD y) (newD a y) o) out) := by
  intro n
  induction n with
  | zero =>
    intro j out hn hj hr ho
    obtain rfl : j = b.length := by omega
    rw [List.drop_length]
    refine ev_succ ?_
    simp only [cracknelref14_Merge.l0]
    exact ev_neg (by omega) (ev_now _)
  | succ n ih =>
    intro j out hn hj hr ho
    have hlt : j < b.length := by omega
    rw [List.drop_eq_getElem_cons hlt, List.foldl_cons]
    refine ev_succ ?_
    simp only [cracknelref14_Merge.l0]
    rw [rdD hlt, next1 (by omega)]
    refine ev_pos (by omega) (ev_pos (by omega) (ev_bind (rget_ev a _ (by omega)) ?_))
    have hl := put_len (kD b[j]) (newD a b[j]) hr
    have := ih (j + 1) (putR ordI kD (kD b[j]) (newD a b[j]) out) (by omega) (by omega) (rises_put hr (newD_key a _)) (by omega)
    cases hg : look kD a b[j].f0 with
    | some x =>
      have hnw : newD a b[j] = ⟨b[j].f0, if b[j].f1 > x.f1 then b[j].f1 else x.f1⟩ := by unfold newD; rw [hg]
      rw [hnw] at this ⊢
      refine ev_pos rfl ?_
      by_cases h : b[j].f1 > x.f1
      · rw [if_pos h] at this ⊢
        exact ev_pos h (ev_bind (rput_ev _ _ hr (by omega)) this)
      · rw [if_neg h] at this ⊢
        exact ev_neg h (ev_bind (rput_ev _ _ hr (by omega)) this)
    | none =>
      have hnw : newD a b[j] = b[j] := by unfold newD; rw [hg]
      rw [hnw] at this ⊢
      exact ev_neg (fun h => by cases h) (ev_bind (rput_ev _ _ hr (by omega)) this)
def mxI (a b : Int) : Int := if a < b then b else a
theorem mxI_comm (a b : Int) : mxI a b = mxI b a := by unfold mxI; split <;> split <;> omega
theorem mxI_self (a : Int) : mxI a a = a := by unfold mxI; split <;> rfl
theorem mxI_assoc (a b c : Int) : mxI (mxI a b) c = mxI a (mxI b c) := by unfold mxI; repeat' split
                                                                          all_goals omega
theorem rmerge_ev {a b : List SD} (ha : Rises ordI kD a) (hb : Rises ordI kD b) (hl : a.length + b.length ≤ 900) : Ev (fun k => cracknelref14_Merge.f k a b) (mergeR ordI kD (pkD mxI) a b) := by
  refine ev_eq (rmerge_l a b ha hl _ 0 a rfl (Nat.zero_le _) ha (by omega)) ?_
  rw [List.drop_zero]
  refine puts_merge (newD a) (newD_key a) (pkD_key mxI) ha hb fun y hy => ?_
  unfold newD
  show some (match look kD a (kD y) with | some x => _ | none => y) = _
  cases hg : look kD a (kD y) with
  | none => rfl
  | some x =>
    have hk : x.f0 = y.f0 := ((look_some ha).1 hg).2
    refine congrArg some ?_
    show (⟨y.f0, if y.f1 > x.f1 then y.f1 else x.f1⟩ : SD) = ⟨x.f0, mxI x.f1 y.f1⟩
    rw [hk]
    rfl
theorem cv_merge (p : Int → Int → Int) {a b : List SR} (ha : Rises ordI kR a) (hb : Rises ordI kR b) : (mergeR ordI kR (pkR p) a b).map cv = mergeR ordI kD (pkD p) (a.map cv) (b.map cv) := by
  refine look_ext (cv_rises (rises_merge (pkR_key p) ha hb)) (rises_merge (pkD_key p) (cv_rises ha) (cv_rises hb)) fun k => ?_
  rw [cv_look, look_merge (pkR_key p) ha hb, look_merge (pkD_key p) (cv_rises ha) (cv_rises hb), cv_look, cv_look]
  cases look kR a k <;> cases look kR b k <;> rfl
theorem mergeX {a b : List SR} (ha : Rises ordI kR a) (hb : Rises ordI kR b) : Rises ordI kR (mergeR ordI kR (pkR mxI) a b) ∧ (mergeR ordI kR (pkR mxI) a b).length ≤ a.length + b.length := ⟨rises_merge (pkR_key mxI) ha hb, merge_len _ a b (Nat.le_refl _)⟩
theorem mergeX_comm {a b : List SR} (ha : Rises ordI kR a) (hb : Rises ordI kR b) : mergeR ordI kR (pkR mxI) a b = mergeR ordI kR (pkR mxI) b a :=
  merge_comm (pkR_key mxI) (fun x y h => by unfold pkR; rw [mxI_comm]; congr 1) ha hb
theorem mergeX_self {a : List SR} (ha : Rises ordI kR a) : mergeR ordI kR (pkR mxI) a a = a := merge_self (pkR_key mxI) (fun x => by unfold pkR; rw [mxI_self]) ha
theorem mergeX_assoc {a b c : List SR} (ha : Rises ordI kR a) (hb : Rises ordI kR b) (hc : Rises ordI kR c) : mergeR ordI kR (pkR mxI) (mergeR ordI kR (pkR mxI) a b) c = mergeR ordI kR (pkR mxI) a (mergeR ordI kR (pkR mxI) b c) :=
  merge_assoc (pkR_key mxI) (fun x y z _ _ => by unfold pkR; simp only [mxI_assoc]) ha hb hc
end Go.Proofs.Ytmpccjkdfdgedaa.Y
