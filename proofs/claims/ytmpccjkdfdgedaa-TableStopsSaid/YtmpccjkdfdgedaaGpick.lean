/- Calls through a function's value, and through an interface whose value is known, as one step of a region that draws; what a function parameter is asked for (the class Pick). -/
import Derived.Test.YtmpccjkdfdgedaaGtable
namespace Go.Proofs.Ytmpccjkdfdgedaa.Print
open Go.RowKit Go.Proofs.YtmpccjkdfdgedaaW.PrintWords Go.Proofs.YtmpccjkdfdgedaaW.PrintLast Go.Proofs.YtmpccjkdfdgedaaW.PrintMore
set_option linter.unusedVariables false
section
variable {P : Program} {ops : Array Oper} {Q : Exit → Act → World → Prop}
theorem goesV_ {oi : Oper} {N : Option Tmp} {a : Act} {w : World} {K : Act → World → Prop} {f : FuncId} {x : Operand} {as_ : Array Operand} {ts : Array TypeId} (hE : ∃ fn, P.funcs[f]? = some fn ∧ (fn.name == "runtime.NumGoroutine") = false ∧ fn.body.isSome = true) (args : Array Value)
    (hw : Region.wanted oi (yielded ops a.tmps) = true) (hN : oi.dst = N) (hop : oi.op = .call { callee := .value x, args := as_, argTypes := ts }) (hargs : as_.map a.eval = args)
    (h : Calls P f args w fun e w' => ∃ v, e = .returned v ∧ K (a.put N v) w') (hx : a.eval x = .func (.func f) #[] #[] := by rfl) : if Region.wanted oi (yielded ops a.tmps) = true then Oper.wp P oi a w K Q else K (a.put N undef) w := by
  obtain ⟨fn, hf, hname, hb⟩ := hE
  refine call_ f args hw hN ?_ h
  have he := enters_ hf hname hb args w
  unfold execOp
  simp [hop, resolve, Deferred.ofValue, invoke, hargs, he, hx]
theorem goesI_ {oi : Oper} {N : Option Tmp} {a : Act} {w : World} {K : Act → World → Prop} {f : FuncId} {fn : Func} {x : Operand} {name : String} {t : TypeId} {v : Value} {as_ : Array Operand} {ts : Array TypeId} (hf : P.funcs[f]? = some fn) (hname : (fn.name == "runtime.NumGoroutine") = false) (hb : fn.body.isSome = true) (args : Array Value)
    (hw : Region.wanted oi (yielded ops a.tmps) = true) (hN : oi.dst = N) (hop : oi.op = .call { callee := .invoke x name, args := as_, argTypes := ts }) (hargs : #[v] ++ as_.map a.eval = args)
    (h : Calls P f args w fun e w' => ∃ v, e = .returned v ∧ K (a.put N v) w') (hx : a.eval x = .iface t v := by rfl) (hm : ∀ w, (Go.method (P.types.size + Made.depth) t v name).run P w = .ok (f, v) w := by intro _; kernel_rfl) : if Region.wanted oi (yielded ops a.tmps) = true then Oper.wp P oi a w K Q else K (a.put N undef) w := by
  refine call_ f args hw hN ?_ h
  have he := enters_ hf hname hb args w
  subst hargs
  have hm' : (Go.method (P.types.size + 100) t v name).run P w = .ok (f, v) w := hm w
  have e1 : ∀ d : Deferred, d = { target := .fn (.method name) #[], args := #[.iface t v] ++ as_.map a.eval } → (invoke d.target d.args).run P w = .ok (.enter f (#[v] ++ as_.map a.eval)) w := by
    rintro d rfl
    revert he
    generalize as_.map a.eval = ar
    intro he
    obtain ⟨l⟩ := ar
    simp [invoke, callMethod, hm', go_sem] at he ⊢
    exact he
  have e2 : (execOp a.eval oi).run P w = (invoke (.fn (.method name) #[]) (#[.iface t v] ++ as_.map a.eval)).run P w := by
    unfold execOp
    rw [hop, ← hx]
    simp [resolve]
  rw [e2]
  exact e1 _ rfl
end
/-- A function of two whole numbers that makes nothing. -/
class Pick where
  g : Nat
  hE : ∃ fn, Try.prog.funcs[g]? = some fn ∧ (fn.name == "runtime.NumGoroutine") = false ∧ fn.body.isSome = true
  f : Int → Int → Option Int
  calls : ∀ (a0 a1 r : Int) (w : World), f a0 a1 = some r → Calls Try.prog g #[.int .i64 a0, .int .i64 a1] w fun e w' => e = .returned (.int .i64 r) ∧ Drawn0 w w'
attribute [local go_sem] max2_int min2_int max_two min_two
set_option maxHeartbeats 4000000 in
theorem pickW_19 (a b : Int) (w : World) : Calls Try.prog 19 #[.int .i64 a, .int .i64 b] w fun e w' => e = .returned (.int .i64 (if a < b then b else a)) ∧ Drawn0 w w' := by
  go_enter Try.func19, Try.ntmps19
  go_wp2
  all_goals (go_ret; exact ⟨rfl, by repeat (first | exact Drawn0.refl _ | apply Drawn0.step)⟩)
@[reducible] def pick_19 : Pick where
  g := 19
  hE := ⟨Try.f19, Try.func19, by kernel_rfl, rfl⟩
  f := fun a b => some (if a < b then b else a)
  calls := fun a b r w h => by
    obtain rfl := Option.some.inj h
    exact pickW_19 a b w
set_option maxHeartbeats 4000000 in
theorem pickW_22 (a b : Int) (w : World) : Calls Try.prog 22 #[.int .i64 a, .int .i64 b] w fun e w' => e = .returned (.int .i64 (if a < b then b else a)) ∧ Drawn0 w w' := by
  go_enter Try.func22, Try.ntmps22
  go_wp2
  all_goals (go_ret; exact ⟨rfl, by repeat (first | exact Drawn0.refl _ | apply Drawn0.step)⟩)
@[reducible] def pick_22 : Pick where
  g := 22
  hE := ⟨Try.f22, Try.func22, by kernel_rfl, rfl⟩
  f := fun a b => some (if a < b then b else a)
  calls := fun a b r w h => by
    obtain rfl := Option.some.inj h
    exact pickW_22 a b w
set_option maxHeartbeats 4000000 in
theorem pickW_26 (a b : Int) (w : World) : Calls Try.prog 26 #[.int .i64 a, .int .i64 b] w fun e w' => e = .returned (.int .i64 (wrap64 (a + b))) ∧ Drawn0 w w' := by
  go_enter Try.func26, Try.ntmps26
  go_wp2
  all_goals (go_ret; exact ⟨rfl, by repeat (first | exact Drawn0.refl _ | apply Drawn0.step)⟩)
@[reducible] def pick_26 : Pick where
  g := 26
  hE := ⟨Try.f26, Try.func26, by kernel_rfl, rfl⟩
  f := fun a b => some (wrap64 (a + b))
  calls := fun a b r w h => by
    obtain rfl := Option.some.inj h
    exact pickW_26 a b w
def law14_IntCmp.f (a b : Int) : Option Int := some (cmpT a b)
theorem law14_IntCmp.calls (a b r : Int) (w : World) (h : law14_IntCmp.f a b = some r) : Calls Try.prog 55 #[.int .i64 a, .int .i64 b] w fun e w' => e = .returned (.int .i64 r) ∧ Drawn0 w w' := by
  obtain rfl := Option.some.inj h
  exact intCmp a b w
end Go.Proofs.Ytmpccjkdfdgedaa.Print
