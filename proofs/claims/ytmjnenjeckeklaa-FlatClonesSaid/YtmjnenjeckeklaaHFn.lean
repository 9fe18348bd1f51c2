import Derived.Test.YtmjnenjeckeklaaWMore
set_option linter.unusedSimpArgs false
namespace Go.Proofs.Ytmjnenjeckeklaa.HFn
open Go.RowKit Go.Proofs.YtmjnenjeckeklaaW.PrintWords Go.Proofs.YtmjnenjeckeklaaW.PrintLast Go.Proofs.YtmjnenjeckeklaaW.PrintMore
set_option linter.unusedVariables false
section
variable {P : Program} {ops : Array Oper} {rest : List Oper} {o : Oper} {a : Act} {Q : Exit → Act → World → Prop} {W : World}
theorem nq {f : FuncId} {t : Tmp} {as : Array Operand} {ts : Array TypeId} (_ho : o.op = .call { callee := .value (.tmp t), args := as, argTypes := ts }) (h : wpList P ops Q (o :: rest) a W) : wpList P ops Q (o :: rest) a W := h
theorem BX {oi : Oper} {w : World} (N : Option Tmp) (hd : oi.dst = N) (hg : oi.guard = none) {f : FuncId} {fn : Func} {t : Tmp} {as : Array Operand} {ts : Array TypeId} {lb : Array Value} (hf : P.funcs[f]? = some fn) (hname : (fn.name == "runtime.NumGoroutine") = false) (hb : fn.body.isSome = true) (args : Array Value)
    (hop : oi.op = .call { callee := .value (.tmp t), args := as, argTypes := ts }) (ht : a.eval (.tmp t) = .func (.func f) #[] lb) (hargs : as.map a.eval = args)
    (h : Calls P f (args ++ lb) w fun e w' => ∃ v, e = .returned v ∧ wpList P ops Q rest (a.put N v) w') : wpList P ops Q (oi :: rest) a w := by
 refine wpList_plain hg fun K hK => ?_; have he := BY hf hname hb (args ++ lb) w
 have hrun : (execOp a.eval oi).run P w = .ok (.enter f (args ++ lb)) w := by
  unfold execOp; simp [hop, resolve, ht, Deferred.ofValue, invoke, hargs, he]
 unfold Oper.wp; rw [hrun, Oper.upon_enter]; refine h.mono fun e w'' hh => ?_; obtain ⟨v, rfl, hk⟩ := hh; subst hd; exact hK _ _ hk
theorem E5 {oi : Oper} {w : World} (N : Option Tmp) (hd : oi.dst = N) (hg : oi.guard = none) {f : FuncId} {fn : Func} {t : Tmp} {as : Array Operand} {ts : Array TypeId} (hf : P.funcs[f]? = some fn) (hname : (fn.name == "runtime.NumGoroutine") = false) (hb : fn.body.isSome = true) (args : Array Value)
    (hop : oi.op = .call { callee := .value (.tmp t), args := as, argTypes := ts }) (ht : a.eval (.tmp t) = .func (.func f) #[] #[]) (hargs : as.map a.eval = args)
    (h : Calls P f args w fun e w' => ∃ v, e = .returned v ∧ wpList P ops Q rest (a.put N v) w') : wpList P ops Q (oi :: rest) a w :=
  BX N hd hg hf hname hb args hop ht hargs (by rw [Array.append_empty]; exact h)
def Tb {α β : Type} (P : Program) (ea : α → Value) (eb : β → Value) (φ : α → β) (v : Value) (w : World) : Prop :=
  ∃ (g : FuncId) (fn : Func) (lb : Array Value), v = .func (.func g) #[] lb ∧ P.funcs[g]? = some fn ∧ (fn.name == "runtime.NumGoroutine") = false ∧ fn.body.isSome = true ∧
    ∀ (W : World) (x : α), Below w.heap.size w W → Calls P g (#[ea x] ++ lb) W (fun e W' => e = .returned (eb (φ x)) ∧ Below W.heap.size W W')
end
end Go.Proofs.Ytmjnenjeckeklaa.HFn
