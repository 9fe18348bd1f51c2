/- A call through a place that holds a function's value, as a step of the walk. -/
import Derived.Test.YtlmjjkggoemabaaWMore
namespace Go.Proofs.Ytlmjjkggoemabaa.HFn
open Go.RowKit Go.Proofs.YtlmjjkggoemabaaW.PrintWords Go.Proofs.YtlmjjkggoemabaaW.PrintLast Go.Proofs.YtlmjjkggoemabaaW.PrintMore
set_option linter.unusedVariables false
section
variable {P : Program} {ops : Array Oper} {rest : List Oper} {o : Oper} {a : Act} {Q : Exit → Act → World → Prop} {W : World}
/-- The operation is a call through this place (a cheap look ahead of a dear step). -/
theorem gate_calleeT {f : FuncId} {t : Tmp} {as : Array Operand} {ts : Array TypeId} (_ho : o.op = .call { callee := .value (.tmp t), args := as, argTypes := ts }) (h : wpList P ops Q (o :: rest) a W) : wpList P ops Q (o :: rest) a W := h
/-- A call through a place that holds a function and what it captures. -/
theorem goesC_ {oi : Oper} {w : World} (N : Option Tmp) (hd : oi.dst = N) (hg : oi.guard = none) {f : FuncId} {fn : Func} {t : Tmp} {as : Array Operand} {ts : Array TypeId} {lb : Array Value} (hf : P.funcs[f]? = some fn) (hname : (fn.name == "runtime.NumGoroutine") = false) (hb : fn.body.isSome = true) (args : Array Value)
    (hop : oi.op = .call { callee := .value (.tmp t), args := as, argTypes := ts }) (ht : a.eval (.tmp t) = .func (.func f) #[] lb) (hargs : as.map a.eval = args)
    (h : Calls P f (args ++ lb) w fun e w' => ∃ v, e = .returned v ∧ wpList P ops Q rest (a.put N v) w') : wpList P ops Q (oi :: rest) a w := by
  refine wpList_plain hg fun K hK => ?_
  have he := enters_ hf hname hb (args ++ lb) w
  have hrun : (execOp a.eval oi).run P w = .ok (.enter f (args ++ lb)) w := by
    unfold execOp
    simp [hop, resolve, ht, Deferred.ofValue, invoke, hargs, he]
  unfold Oper.wp
  rw [hrun, Oper.upon_enter]
  refine h.mono fun e w'' hh => ?_
  obtain ⟨v, rfl, hk⟩ := hh
  subst hd
  exact hK _ _ hk
/-- A call through a place that holds a function that captures nothing. -/
theorem goesT_ {oi : Oper} {w : World} (N : Option Tmp) (hd : oi.dst = N) (hg : oi.guard = none) {f : FuncId} {fn : Func} {t : Tmp} {as : Array Operand} {ts : Array TypeId} (hf : P.funcs[f]? = some fn) (hname : (fn.name == "runtime.NumGoroutine") = false) (hb : fn.body.isSome = true) (args : Array Value)
    (hop : oi.op = .call { callee := .value (.tmp t), args := as, argTypes := ts }) (ht : a.eval (.tmp t) = .func (.func f) #[] #[]) (hargs : as.map a.eval = args)
    (h : Calls P f args w fun e w' => ∃ v, e = .returned v ∧ wpList P ops Q rest (a.put N v) w') : wpList P ops Q (oi :: rest) a w :=
  goesC_ N hd hg hf hname hb args hop ht hargs (by rw [Array.append_empty]; exact h)
/-- A function's value that behaves as this plain function, in every world in which all that lay in w lies unturned. -/
def FnOf {α β : Type} (P : Program) (ea : α → Value) (eb : β → Value) (φ : α → β) (v : Value) (w : World) : Prop :=
  ∃ (g : FuncId) (fn : Func) (lb : Array Value), v = .func (.func g) #[] lb ∧ P.funcs[g]? = some fn ∧ (fn.name == "runtime.NumGoroutine") = false ∧ fn.body.isSome = true ∧
    ∀ (W : World) (x : α), Below w.heap.size w W → Calls P g (#[ea x] ++ lb) W (fun e W' => e = .returned (eb (φ x)) ∧ Below W.heap.size W W')
theorem FnOf.below {α β : Type} {P : Program} {ea : α → Value} {eb : β → Value} {φ : α → β} {v : Value} {w W : World} (h : FnOf P ea eb φ v w) (hb : Below w.heap.size w W) : FnOf P ea eb φ v W := by
  obtain ⟨g, fn, lb, h1, h2, h3, h4, h5⟩ := h
  exact ⟨g, fn, lb, h1, h2, h3, h4, fun W2 x h6 => h5 W2 x (below_step hb h6)⟩
/-- The same, of a plain function that may have no answer: where it has one. -/
def FnOfO {α β : Type} (P : Program) (ea : α → Value) (eb : β → Value) (φ : α → Option β) (v : Value) (w : World) : Prop :=
  ∃ (g : FuncId) (fn : Func) (lb : Array Value), v = .func (.func g) #[] lb ∧ P.funcs[g]? = some fn ∧ (fn.name == "runtime.NumGoroutine") = false ∧ fn.body.isSome = true ∧
    ∀ (W : World) (x : α) (y : β), φ x = some y → Below w.heap.size w W → Calls P g (#[ea x] ++ lb) W (fun e W' => e = .returned (eb y) ∧ Below W.heap.size W W')
theorem FnOfO.below {α β : Type} {P : Program} {ea : α → Value} {eb : β → Value} {φ : α → Option β} {v : Value} {w W : World} (h : FnOfO P ea eb φ v w) (hb : Below w.heap.size w W) : FnOfO P ea eb φ v W := by
  obtain ⟨g, fn, lb, h1, h2, h3, h4, h5⟩ := h
  exact ⟨g, fn, lb, h1, h2, h3, h4, fun W2 x y hy h6 => h5 W2 x y hy (below_step hb h6)⟩
end
end Go.Proofs.Ytlmjjkggoemabaa.HFn
