import Derived.Test.YtgbnfjhmobeloaaWMore
import Derived.Lib.OthersKept
import Derived.Lib.RuneBytes
import Derived.Lib.SliceRun
set_option linter.unusedVariables false
set_option linter.unusedSimpArgs false
namespace Go.Proofs.YtgbnfjhmobeloaaW.VWords
open Go Go.RowKit Go.Proofs.YtgbnfjhmobeloaaW.PrintWords Go.Proofs.YtgbnfjhmobeloaaW.PrintLast Go.Proofs.YtgbnfjhmobeloaaW.PrintMore
section
variable {P : Program} {ops : Array Oper} {rest : List Oper} {o : Oper} {a : Act} {W : World} {Q : Exit → Act → World → Prop}
theorem gate_dyn {sl : Tmp} {as : Array Operand} {ts : Array TypeId} (_ho : o.op = .call { callee := .value (.tmp sl), args := as, argTypes := ts }) (h : wpList P ops Q (o :: rest) a W) : wpList P ops Q (o :: rest) a W := h
theorem goesV_ {w : World} (N : Option Tmp) (hd : o.dst = N) (hg : o.guard = none) (sl : Tmp) (first captured : Array Value) {f : FuncId} {fn : Func} {as : Array Operand} {ts : Array TypeId} (hf : P.funcs[f]? = some fn) (hname : (fn.name == "runtime.NumGoroutine") = false) (hb : fn.body.isSome = true) (args : Array Value)
  (hop : o.op = .call { callee := .value (.tmp sl), args := as, argTypes := ts }) (hv : a.eval (.tmp sl) = .func (.func f) first captured) (hargs : first ++ as.map a.eval ++ captured = args)
  (h : Calls P f args w fun e w' => ∃ v, e = .returned v ∧ wpList P ops Q rest (a.put N v) w') : wpList P ops Q (o :: rest) a w := by
 refine wpList_plain hg fun K hK => ?_
 have he := enters_ hf hname hb args w
 have hrun : (execOp a.eval o).run P w = .ok (.enter f args) w := by
  unfold execOp
  simp only [hop, resolve, hv, Deferred.ofValue, invoke, Sem.run_bind, Sem.run_pure, Result.andThen_ok]
  rw [show first ++ as.map a.eval ++ captured = args from hargs]
  exact he
 unfold Oper.wp
 rw [hrun, Oper.upon_enter]
 refine h.mono fun e w'' hh => ?_
 obtain ⟨v, rfl, hk⟩ := hh
 subst hd
 exact hK _ _ hk
end
section
variable {w w1 : World} {k : Nat} {s : ByteArray} {p : Nat}
theorem iter_below (h : w.heap[k]? = some (.stringIter s p)) (hb : Below w.heap.size w w1) : w1.heap[k]? = some (.stringIter s p) :=
 (hb.block k (Array.getElem?_eq_some_iff.1 h).1).trans h
theorem iter_lt (h : w.heap[k]? = some (.stringIter s p)) : k < w.heap.size := (Array.getElem?_eq_some_iff.1 h).1
theorem iter_grown {α : Type} {d : Kd α} {e base : Nat} {ok : Nat → Prop} {v : Value} {xs : List α} (h : w.heap[k]? = some (.stringIter s p)) (ho : d.R e w base ok v xs) (hg : w.grownBy w1 v.ownBlock) : w1.heap[k]? = some (.stringIter s p) := by
 refine (hg.block k (iter_lt h) ?_).trans h
 intro hk
 obtain ⟨inner, hown⟩ := Kd.R_own ho
 obtain ⟨cells, hc⟩ := own_typed hown k hk.symm
 rw [h] at hc
 cases hc
theorem R_iter {α : Type} {d : Kd α} {e base : Nat} {ok : Nat → Prop} {v : Value} {xs : List α} (h : w.heap[k]? = some (.stringIter s p)) (ho : d.R e w base ok v xs) (p' : Nat) : d.R e (w.iterAt k s p') base ok v xs := by
 refine Kd.R_mono (Kd.R_move (Kd.R_bound ho) (fun j hj => Lib.iterAt_other w k j s p' ?_)) (fun _ hj => hj.1)
 rintro rfl
 obtain ⟨_, _, _, _, _, cells, hc⟩ := hj
 rw [h] at hc
 cases hc
end
theorem size_mk_ (a : Array UInt8) : (ByteArray.mk a).size = a.size := rfl
end Go.Proofs.YtgbnfjhmobeloaaW.VWords
