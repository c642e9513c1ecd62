/- A region that draws its order, walked once, in the text's order, under a class of worlds of one's own: what loads and callees need is said of each world of the class; callees may make memory, as long as they hand back one value and leave a world of the class. -/
import Derived.Test.YtkcdhphhacjkhaaWWords
import Derived.Test.YtkcdhphhacjkhaaWLast
import Derived.Deep.Quiet
import Derived.BigQuiet
namespace Go.Proofs.Ytkcdhphhacjkhaa.QuietK
open Go Go.RowKit Go.Proofs.YtkcdhphhacjkhaaW.PrintWords Go.Proofs.YtkcdhphhacjkhaaW.PrintLast
section
variable {P : Program} {ops : Array Oper} {C : World → Prop} {Q : Act → Prop}
theorem region_quiet {id : Nat} {Q : Exit → Act → World → Prop} {a : Act} {w : World} {l : List Oper} (C : World → Prop) (hm : P.follows .mixedOrders = true) (hB : Region.lexB .any l.toArray = true) (hC : C w.drew)
    (h : wpQuiet P l.toArray C (fun a' => ∀ w', C w' → Q .normal a' w') l a) : (Code.region id l.toArray true).wp P Q a w :=
  wp_region_quiet (C := C) hm hB hC (by simpa using h)
theorem q_skip {o : Oper} {rest : List Oper} {N : Option Tmp} {a a' : Act} (hN : o.dst = N) (hw : Region.wanted o (yielded ops a.tmps) = false) (ha : a.put N undef = a') (h : wpQuiet P ops C Q rest a') : wpQuiet P ops C Q (o :: rest) a := by
  subst hN
  subst ha
  exact wpQuiet_step fun K hK => by rw [if_neg (by rw [hw]; exact Bool.false_ne_true)]; exact hK _ h
theorem q_op {o : Oper} {rest : List Oper} {N : Option Tmp} {v : Value} {a a' : Act} (hN : o.dst = N) (hw : Region.wanted o (yielded ops a.tmps) = true) (h1 : ∀ w, C w → (execOp a.eval o).run P w = .ok (.value v) w) (ha : a.put N v = a') (h : wpQuiet P ops C Q rest a') : wpQuiet P ops C Q (o :: rest) a := by
  subst hN
  subst ha
  exact wpQuiet_step fun K hK => by
    rw [if_pos hw]
    refine ⟨v, fun w hc => ?_, hK _ h⟩
    unfold Oper.quietAt
    rw [h1 w hc]
    exact ⟨rfl, rfl⟩
theorem q_call {o : Oper} {rest : List Oper} {N : Option Tmp} {f : FuncId} {fn : Func} {as : Array Operand} {ts : Array TypeId} (v : Value) {a a' : Act} (hf : P.funcs[f]? = some fn) (hname : (fn.name == "runtime.NumGoroutine") = false) (hb : fn.body.isSome = true) (args : Array Value)
    (hop : o.op = .call { callee := .value (.func f), args := as, argTypes := ts }) (hN : o.dst = N) (hw : Region.wanted o (yielded ops a.tmps) = true) (hargs : as.map a.eval = args)
    (hc : ∀ w, C w → Calls P f args w fun e w' => e = .returned v ∧ C w') (ha : a.put N v = a') (h : wpQuiet P ops C Q rest a') : wpQuiet P ops C Q (o :: rest) a := by
  subst hN
  subst ha
  exact wpQuiet_step fun K hK => by
    rw [if_pos hw]
    refine ⟨v, fun w hcw => ?_, hK _ h⟩
    have he := enters_ hf hname hb args w
    have hrun : (execOp a.eval o).run P w = .ok (.enter f args) w := by
      unfold execOp
      simp [hop, resolve, Deferred.ofValue, invoke, Act.eval, hargs, he]
    unfold Oper.quietAt
    rw [hrun]
    exact ⟨rfl, hc w hcw⟩
theorem quiet_op {o : Oper} {v : Value} {a : Act} {K : Act → Prop} (h1 : ∀ w, C w → (execOp a.eval o).run P w = .ok (.value v) w) (hk : K (a.put o.dst v)) : o.quiet P a C K := by
  refine ⟨v, fun w hc => ?_, hk⟩
  unfold Oper.quietAt
  rw [h1 w hc]
  exact ⟨rfl, rfl⟩
theorem quiet_call {o : Oper} {f : FuncId} {fn : Func} {as : Array Operand} {ts : Array TypeId} (v : Value) {a : Act} {K : Act → Prop} (hf : P.funcs[f]? = some fn) (hname : (fn.name == "runtime.NumGoroutine") = false) (hb : fn.body.isSome = true) (args : Array Value)
    (hop : o.op = .call { callee := .value (.func f), args := as, argTypes := ts }) (hargs : as.map a.eval = args)
    (hc : ∀ w, C w → Calls P f args w fun e w' => e = .returned v ∧ C w') (hk : K (a.put o.dst v)) : o.quiet P a C K := by
  refine ⟨v, fun w hcw => ?_, hk⟩
  have he := enters_ hf hname hb args w
  have hrun : (execOp a.eval o).run P w = .ok (.enter f args) w := by
    unfold execOp
    simp [hop, resolve, Deferred.ofValue, invoke, Act.eval, hargs, he]
  unfold Oper.quietAt
  rw [hrun]
  exact ⟨rfl, hc w hcw⟩
theorem cb_ {W W' : World} {p : Addr} {v : Value} (h : W.cell? p = some v) (hb : Below W.heap.size W W') : W'.cell? p = some v := (hb.cell (World.block_lt_of_cell? W _ h)).trans h
end
end Go.Proofs.Ytkcdhphhacjkhaa.QuietK
