import Derived.Test.YtjijikgandkphaaDoorWMore
import Derived.Lib.OthersKept
import Derived.Lib.RuneBytes
import Derived.Lib.SliceRun
set_option linter.unusedVariables false
set_option linter.unusedSimpArgs false
namespace Go.Proofs.YtjijikgandkphaaDoorW.VWords
open Go Go.RowKit Go.Proofs.YtjijikgandkphaaDoorW.PrintWords Go.Proofs.YtjijikgandkphaaDoorW.PrintLast Go.Proofs.YtjijikgandkphaaDoorW.PrintMore
section
variable {P : Program} {ops : Array Oper} {rest : List Oper} {o : Oper} {a : Act} {W : World} {Q : Exit → Act → World → Prop}
theorem gate_dyn {sl : Tmp} {as : Array Operand} {ts : Array TypeId} (_ho : o.op = .call { callee := .value (.tmp sl), args := as, argTypes := ts }) (h : wpList P ops Q (o :: rest) a W) : wpList P ops Q (o :: rest) a W := h
theorem goesV_ {w : World} (N : Option Tmp) (hd : o.dst = N) (hg : o.guard = none) (sl : Tmp) (first captured : Array Value) {f : FuncId} {fn : Func} {as : Array Operand} {ts : Array TypeId} (hf : P.funcs[f]? = some fn) (hname : (fn.name == "runtime.NumGoroutine") = false) (hb : fn.body.isSome = true) (args : Array Value)
  (hop : o.op = .call { callee := .value (.tmp sl), args := as, argTypes := ts }) (hv : a.eval (.tmp sl) = .func (.func f) first captured) (hargs : first ++ as.map a.eval ++ captured = args)
  (h : Calls P f args w fun e w' => ∃ v, e = .returned v ∧ wpList P ops Q rest (a.put N v) w') : wpList P ops Q (o :: rest) a w := by
 refine wpList_plain hg fun K hK => ?_
 have he := enters_ hf hname hb args w
 have hrun : (execOp a.eval o).run P w = .ok (.enter f args) w := by
  unfold execOp
  simp only [hop, resolve, hv, Deferred.ofValue, invoke, Sem.run_bind, Sem.run_pure, Result.andThen_ok]
  rw [show first ++ as.map a.eval ++ captured = args from hargs]
  exact he
 unfold Oper.wp
 rw [hrun, Oper.upon_enter]
 refine h.mono fun e w'' hh => ?_
 obtain ⟨v, rfl, hk⟩ := hh
 subst hd
 exact hK _ _ hk
end
section
variable {w w1 : World} {k : Nat} {s : ByteArray} {p : Nat}
end
end Go.Proofs.YtjijikgandkphaaDoorW.VWords
