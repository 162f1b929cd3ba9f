/- The Go functions that this seat's statements reach: each with the plain function that it computes, for every input at which that function answers. Written by a program of the session (wip/tools/hprint.py) over the kit's printer; contracts that the printer does not take are proved by hand among them. -/
import Derived.Test.YtifehkjcccjccaaPShx0
namespace Go.Proofs.Ytifehkjcccjccaa.PSh
open Go.RowKit Go.Proofs.YtifehkjcccjccaaW.PrintWords Go.Proofs.YtifehkjcccjccaaW.PrintLast Go.Proofs.YtifehkjcccjccaaW.PrintMore
attribute [local go_sem] max2_int min2_int max_two min_two max_three min_three max_four min_four   -- for this text's walks alone
set_option linter.unusedVariables false
set_option linter.unusedSimpArgs false

-- HANDTEXT prelude
section
variable {P : Program} {ops : Array Oper} {Q : Exit → Act → World → Prop}
/-- A function value is called, in a region that draws its order. -/
theorem goesC_ {oi : Oper} {N : Option Tmp} {a : Act} {w : World} {K : Act → World → Prop} {f : FuncId} {fn : Func} {c : Operand} {xs : Array Operand} {ts : Array TypeId} (hf : P.funcs[f]? = some fn) (hname : (fn.name == "runtime.NumGoroutine") = false) (hb : fn.body.isSome = true) (cap args : Array Value)
    (hw : Region.wanted oi (yielded ops a.tmps) = true) (hN : oi.dst = N) (hop : oi.op = .call { callee := .value c, args := xs, argTypes := ts }) (hc : a.eval c = .func (.func f) #[] cap) (hargs : xs.map a.eval ++ cap = args)
    (h : Calls P f args w fun e w' => ∃ v, e = .returned v ∧ K (a.put N v) w') : if Region.wanted oi (yielded ops a.tmps) = true then Oper.wp P oi a w K Q else K (a.put N undef) w := by
  refine call_ f args hw hN ?_ h
  have he := enters_ hf hname hb args w
  unfold execOp
  simp [hop, resolve, hc, Deferred.ofValue, invoke, hargs, he]
end
section
variable {P : Program} {ops : Array Oper} {Q : Exit → Act → World → Prop}
/-- A function value is called in a plain region. -/
theorem goesLC_ {rest : List Oper} {oi : Oper} {a : Act} {w : World} (N : Option Tmp) (hd : oi.dst = N) (hg : oi.guard = none) {f : FuncId} {fn : Func} {c : Operand} {xs : Array Operand} {ts : Array TypeId} (hf : P.funcs[f]? = some fn) (hname : (fn.name == "runtime.NumGoroutine") = false) (hb : fn.body.isSome = true) (cap args : Array Value)
    (hop : oi.op = .call { callee := .value c, args := xs, argTypes := ts }) (hc : a.eval c = .func (.func f) #[] cap) (hargs : xs.map a.eval ++ cap = args)
    (h : Calls P f args w fun e w' => ∃ v, e = .returned v ∧ wpList P ops Q rest (a.put N v) w') : wpList P ops Q (oi :: rest) a w := by
  refine wpList_plain hg fun K hK => ?_
  have he := enters_ hf hname hb args w
  have hrun : (execOp a.eval oi).run P w = .ok (.enter f args) w := by
    unfold execOp
    simp [hop, resolve, hc, Deferred.ofValue, invoke, hargs, he]
  unfold Oper.wp
  rw [hrun, Oper.upon_enter]
  refine h.mono fun e w'' hh => ?_
  obtain ⟨v, rfl, hk⟩ := hh
  subst hd
  exact hK _ _ hk
end

end Go.Proofs.Ytifehkjcccjccaa.PSh
