/- Closed facts of the claim. -/
import Derived.Test.YtafpilamlkhgkaaGreatDoorRows
import Derived.JoinedOf
import GoSem.ClaimGoes
set_option linter.all false
set_option maxRecDepth 100000
namespace Go.Proofs.YtafpilamlkhgkaaGreatDoor
open Go
theorem fact_inPlace : (Rows.shrinkNumbersRow.inPlace == Tryz.pinned.checked.prog.inPlace 5) = true := by kernel_rfl
theorem fact_unfollowed : (Rows.shrinkNumbersRow.unfollowed == Tryz.pinned.checked.prog.unfollowed 5) = true := by kernel_rfl
theorem fact_recurses : (Rows.shrinkNumbersRow.recurses == Tryz.pinned.checked.prog.recurses 5) = true := by kernel_rfl
theorem fact_varsNamed : (Rows.shrinkNumbersRow.named == Tryz.pinned.checked.prog.varsNamed 5) = true := by kernel_rfl
theorem facts : joinedFacts Tryz.pinned.checked.prog 5 Tryz.f5 Rows.shrinkNumbersSpec Rows.shrinkNumbersRow = true := by
  unfold joinedFacts
  rw [fact_inPlace, fact_unfollowed, fact_recurses, fact_varsNamed]
  kernel_rfl
theorem namedF : Tryz.prog.funcNamed "bulkhead/bulkheadlaw22.ShrinkNumbers" = some 5 := by kernel_rfl
theorem noGo : Tryz.prog.funcs.any Func.goes = false := by kernel_rfl
theorem goes_false {P : Program} (h : P.funcs.any Func.goes = false) (f : FuncId) : P.goes f = false := by
  have hg : ∀ g : Nat, (P.funcs[g]?).any Func.goes = false := fun g => by
    cases hf : P.funcs[g]? with
    | none => rfl
    | some fn =>
      show Func.goes fn = false
      cases hq : Func.goes fn with
      | false => rfl
      | true =>
        have hm : fn ∈ P.funcs := Array.mem_of_getElem? hf
        have : P.funcs.any Func.goes = true := Array.any_eq_true'.2 ⟨fn, hm, hq⟩
        rw [h] at this; cases this
  unfold Program.goes
  rw [h, Bool.and_false, Bool.or_false]
  simp only [hg]
  simp
theorem goesF : false = Rows.shrinkNumbersRow.goesBy Tryz.pinned.checked.prog := by
  have e : Rows.shrinkNumbersRow.goesBy Tryz.pinned.checked.prog = Tryz.prog.goesAt .entering "bulkhead/bulkheadlaw22.ShrinkNumbers" := rfl
  rw [e, Program.goesAt, Program.goesFrom, namedF, Option.any_some, goes_false noGo, Bool.false_or]
end Go.Proofs.YtafpilamlkhgkaaGreatDoor
