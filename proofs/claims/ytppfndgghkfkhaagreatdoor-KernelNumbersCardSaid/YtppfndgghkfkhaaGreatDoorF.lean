/- Closed facts of the claim. -/
import Derived.Test.YtppfndgghkfkhaaGreatDoorRows
import Derived.JoinedOf
import GoSem.ClaimGoes
set_option linter.all false
set_option maxRecDepth 100000
namespace Go.Proofs.YtppfndgghkfkhaaGreatDoor
open Go
theorem named3 : Tryz.prog.funcNamed "bulkhead/bulkheadlaw16.KernelNumbers" = some 3 := by kernel_rfl
theorem noGo : Tryz.prog.funcs.any Func.goes = false := by kernel_rfl
theorem goes_false {P : Program} (h : P.funcs.any Func.goes = false) (f : FuncId) : P.goes f = false := by
  have hg : ∀ g : Nat, (P.funcs[g]?).any Func.goes = false := fun g => by
    cases hf : P.funcs[g]? with
    | none => rfl
    | some fn =>
      show Func.goes fn = false
      cases hq : Func.goes fn with
      | false => rfl
      | true =>
        have hm : fn ∈ P.funcs := Array.mem_of_getElem? hf
        have : P.funcs.any Func.goes = true := Array.any_eq_true'.2 ⟨fn, hm, hq⟩
        rw [h] at this; cases this
  unfold Program.goes
  rw [h, Bool.and_false, Bool.or_false]
  simp only [hg]
  simp
theorem goes3 : false = Rows.kernelNumbersRow.goesBy Tryz.pinned.checked.prog := by
  have e : Rows.kernelNumbersRow.goesBy Tryz.pinned.checked.prog = Tryz.prog.goesAt .entering "bulkhead/bulkheadlaw16.KernelNumbers" := rfl
  rw [e, Program.goesAt, Program.goesFrom, named3, Option.any_some, goes_false noGo, Bool.false_or]
end Go.Proofs.YtppfndgghkfkhaaGreatDoor
