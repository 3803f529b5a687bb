/- A start that fits: the listed variables laid. -/
import Derived.Test.YtafpilamlkhgkaaGreatDoorRows
import Derived.ProofKit
import Derived.Lay
import Derived.LaidMore
import Derived.LaidHandle
import Derived.LaidLaws
import Derived.Stop.Joined
set_option linter.all false
set_option maxRecDepth 100000
namespace Go.Proofs.YtafpilamlkhgkaaGreatDoor
open Go
noncomputable def rowsW : List (Nat × List Value) := [(0, [.iface 399 (.agg #[.pointer (some ⟨14, 44, none⟩)])]), (2, [1, 10, 100, 1000, 10000, 100000, 1000000, 10000000, 100000000, 1000000000, 10000000000, 100000000000, 1000000000000, 10000000000000, 100000000000000, 1000000000000000, 10000000000000000, 100000000000000000, 1000000000000000000, 10000000000000000000].map fun n : Nat => Value.int .u64 (Int.ofNat n)), (3, [0, 0, 0, 0, 0, 0, 0, 0, 0, 1, 1, 0, 0, 1, 0, 0, 0, 0, 0, 0, 0, 0, 0, 0, 0, 0, 0, 0, 0, 0, 0, 0, 1, 6, 5, 2, 0, 6, 6, 0, 6, 6, 6, 6, 6, 6, 6, 6, 3, 3, 3, 3, 3, 3, 3, 3, 3, 3, 0, 6, 6, 6, 6, 0, 0, 4, 4, 4, 4, 4, 4, 4, 4, 4, 4, 4, 4, 4, 4, 4, 4, 4, 4, 4, 4, 4, 4, 4, 4, 4, 4, 6, 0, 6, 6, 4, 0, 4, 4, 4, 4, 4, 4, 4, 4, 4, 4, 4, 4, 4, 4, 4, 4, 4, 4, 4, 4, 4, 4, 4, 4, 4, 4, 6, 6, 6, 0, 0].map fun n : Nat => Value.int .u8 (Int.ofNat n)), (4, [0, 0, 0, 0, 0, 0, 0, 0, 0, 1, 1, 1, 1, 1, 0, 0, 0, 0, 0, 0, 0, 0, 0, 0, 0, 0, 0, 0, 0, 0, 0, 0, 1, 0, 0, 0, 0, 0, 0, 0, 0, 0, 0, 0, 0, 0, 0, 0, 0, 0, 0, 0, 0, 0, 0, 0, 0, 0, 0, 0, 0, 0, 0, 0, 0, 0, 0, 0, 0, 0, 0, 0, 0, 0, 0, 0, 0, 0, 0, 0, 0, 0, 0, 0, 0, 0, 0, 0, 0, 0, 0, 0, 0, 0, 0, 0, 0, 0, 0, 0, 0, 0, 0, 0, 0, 0, 0, 0, 0, 0, 0, 0, 0, 0, 0, 0, 0, 0, 0, 0, 0, 0, 0, 0, 0, 0, 0, 0, 0, 0, 0, 0, 0, 0, 0, 0, 0, 0, 0, 0, 0, 0, 0, 0, 0, 0, 0, 0, 0, 0, 0, 0, 0, 0, 0, 0, 0, 0, 0, 0, 0, 0, 0, 0, 0, 0, 0, 0, 0, 0, 0, 0, 0, 0, 0, 0, 0, 0, 0, 0, 0, 0, 0, 0, 0, 0, 0, 0, 0, 0, 0, 0, 0, 0, 0, 0, 0, 0, 0, 0, 0, 0, 0, 0, 0, 0, 0, 0, 0, 0, 0, 0, 0, 0, 0, 0, 0, 0, 0, 0, 0, 0, 0, 0, 0, 0, 0, 0, 0, 0, 0, 0, 0, 0, 0, 0, 0, 0, 0, 0, 0, 0, 0, 0, 0, 0, 0, 0, 0, 0, 0, 0, 0, 0, 0, 0].map fun n : Nat => Value.int .u8 (Int.ofNat n)), (5, [0, 1, 28, 2, 29, 14, 24, 3, 30, 22, 20, 15, 25, 17, 4, 8, 31, 27, 13, 23, 21, 19, 16, 7, 26, 12, 18, 6, 11, 5, 10, 9].map fun n : Nat => Value.int .u8 (Int.ofNat n)), (6, [0, 1, 56, 2, 57, 49, 28, 3, 61, 58, 42, 50, 38, 29, 17, 4, 62, 47, 59, 36, 45, 43, 51, 22, 53, 39, 33, 30, 24, 18, 12, 5, 63, 55, 48, 27, 60, 41, 37, 16, 46, 35, 44, 21, 52, 32, 23, 11, 54, 26, 40, 15, 34, 20, 31, 10, 25, 14, 19, 9, 13, 8, 7, 6].map fun n : Nat => Value.int .u8 (Int.ofNat n)), (7, [.pointer (some ⟨21, 0, none⟩)]), (8, [1, 1, 1, 1, 1, 1, 2, 3, 4, 5, 5, 6, 6, 7].map fun n : Nat => Value.int .u8 (Int.ofNat n)), (9, [.iface 888 (.pointer (some ⟨20, 0, none⟩))]), (10, [.iface 888 (.pointer (some ⟨19, 0, none⟩))]), (11, [240, 240, 240, 240, 240, 240, 240, 240, 240, 240, 240, 240, 240, 240, 240, 240, 240, 240, 240, 240, 240, 240, 240, 240, 240, 240, 240, 240, 240, 240, 240, 240, 240, 240, 240, 240, 240, 240, 240, 240, 240, 240, 240, 240, 240, 240, 240, 240, 240, 240, 240, 240, 240, 240, 240, 240, 240, 240, 240, 240, 240, 240, 240, 240, 240, 240, 240, 240, 240, 240, 240, 240, 240, 240, 240, 240, 240, 240, 240, 240, 240, 240, 240, 240, 240, 240, 240, 240, 240, 240, 240, 240, 240, 240, 240, 240, 240, 240, 240, 240, 240, 240, 240, 240, 240, 240, 240, 240, 240, 240, 240, 240, 240, 240, 240, 240, 240, 240, 240, 240, 240, 240, 240, 240, 240, 240, 240, 240, 241, 241, 241, 241, 241, 241, 241, 241, 241, 241, 241, 241, 241, 241, 241, 241, 241, 241, 241, 241, 241, 241, 241, 241, 241, 241, 241, 241, 241, 241, 241, 241, 241, 241, 241, 241, 241, 241, 241, 241, 241, 241, 241, 241, 241, 241, 241, 241, 241, 241, 241, 241, 241, 241, 241, 241, 241, 241, 241, 241, 241, 241, 241, 241, 241, 241, 2, 2, 2, 2, 2, 2, 2, 2, 2, 2, 2, 2, 2, 2, 2, 2, 2, 2, 2, 2, 2, 2, 2, 2, 2, 2, 2, 2, 2, 2, 19, 3, 3, 3, 3, 3, 3, 3, 3, 3, 3, 3, 3, 35, 3, 3, 52, 4, 4, 4, 68, 241, 241, 241, 241, 241, 241, 241, 241, 241, 241, 241].map fun n : Nat => Value.int .u8 (Int.ofNat n)), (12, [128, 191, 160, 191, 128, 159, 144, 191, 128, 143, 0, 0, 0, 0, 0, 0, 0, 0, 0, 0, 0, 0, 0, 0, 0, 0, 0, 0, 0, 0, 0, 0].map fun n : Nat => Value.int .u8 (Int.ofNat n))]
noncomputable def blocksW : List Obj := [.cells #[.string ⟨#[118, 97, 108, 117, 101, 32, 111, 117, 116, 32, 111, 102, 32, 114, 97, 110, 103, 101]⟩] 890, .cells #[.string ⟨#[105, 110, 118, 97, 108, 105, 100, 32, 115, 121, 110, 116, 97, 120]⟩] 890, .cells #[.slice (some ⟨22, 0, none⟩) 7 7, .slice none 0 0, .int .i64 2] 871, .cells (([9, 13, 1, 32, 133, 101, 160, 5760, 5600, 8192, 8202, 1, 8232, 8233, 1, 8239, 8287, 48, 12288, 12288, 1].map fun n : Nat => Value.int .u16 (Int.ofNat n)).toArray) 873]
noncomputable def startW (os : Os) : World := { World.holding Tryz.prog os ⟨#[], #[], []⟩ with heap := ⟨Lay.setRows (World.holding Tryz.prog os ⟨#[], #[], []⟩).heap.toList rowsW ++ blocksW⟩ }
theorem startW_os (os : Os) : (startW os).os = os := rfl
theorem door1 (os : Os) : ((startW os).forCall (fun _ _ => 0) ⟨#[], #[], []⟩).variablesZipB Tryz.prog = true := by kernel_rfl
theorem door2 (os : Os) : (((startW os).forCall (fun _ _ => 0) ⟨#[], #[], []⟩).heap.toList.drop Tryz.prog.globals.size).take ((begin Tryz.prog (fun _ _ => 0) default).world.heap.size - Tryz.prog.globals.size) = (begin Tryz.prog (fun _ _ => 0) default).world.heap.toList.drop Tryz.prog.globals.size := by kernel_rfl
theorem door3 (os : Os) : Input.okWideB Tryz.prog ((startW os).forCall (fun _ _ => 0) ⟨#[], #[], []⟩) 5 ⟨#[], #[], []⟩ = true := by kernel_rfl
theorem door4 {H : Type} (enc : TypeId × Value → H) (os : Os) : Rows.shrinkNumbersSpec.preB enc Tryz.prog Tryz.f5 [] false ((startW os).forCall (fun _ _ => 0) ⟨#[], #[], []⟩).memory #[] 8 = true := by kernel_rfl
theorem door5 {H : Type} (enc : TypeId × Value → H) (os : Os) : Rows.shrinkNumbersSpec.sizedB enc Tryz.prog Tryz.f5 false ((startW os).forCall (fun _ _ => 0) ⟨#[], #[], []⟩).memory #[] 8 = true := by kernel_rfl
theorem door6 (os : Os) : (DataW.laidRun Tryz.prog ((startW os).forCall (fun _ _ => 0) ⟨#[], #[], []⟩).memory 8 ((Rows.shrinkNumbersRow.laid.filter fun x => x.2.handleName?.isNone).map (·.1))).map (·.1) = some (Rows.shrinkNumbersRow.laid.filter fun x => x.2.handleName?.isNone) := by kernel_rfl
noncomputable def keyW (p : MemPlace) : Nat := match p with | .cell b o => Nat.add (Nat.mul b 1048576) o | .map i => Nat.mul i 1048576
noncomputable def elemW (x : Nat) (l : List Nat) : Bool := List.rec false (fun y _ ih => cond (Nat.beq x y) true ih) l
noncomputable def nodupW (l : List Nat) : Bool := List.rec true (fun x l ih => cond (elemW x l) false ih) l
theorem elemW_ok {x : Nat} : ∀ {l : List Nat}, elemW x l = false → ∀ y ∈ l, x ≠ y
  | [], _, y, h => by cases h
  | z :: l, h, y, hy => by
    change cond (Nat.beq x z) true (elemW x l) = false at h
    cases hb : Nat.beq x z with
    | true => rw [hb] at h; cases h
    | false =>
      rw [hb] at h
      rcases List.mem_cons.1 hy with rfl | hy
      · intro e; subst e; rw [Nat.beq_refl] at hb; cases hb
      · exact elemW_ok h y hy
theorem nodupW_ok : ∀ {l : List Nat}, nodupW l = true → l.Pairwise (· ≠ ·)
  | [], _ => .nil
  | x :: l, h => by
    change cond (elemW x l) false (nodupW l) = true at h
    cases hb : elemW x l with
    | true => rw [hb] at h; cases h
    | false => rw [hb] at h; exact .cons (elemW_ok hb) (nodupW_ok h)
theorem door7 (os : Os) : (DataW.laidRun Tryz.prog ((startW os).forCall (fun _ _ => 0) ⟨#[], #[], []⟩).memory 8 ((Rows.shrinkNumbersRow.laid.filter fun x => x.2.handleName?.isNone).map (·.1))).map (fun x => nodupW (x.2.map keyW)) = some true := by kernel_rfl
theorem door0 (os : Os) : (DataW.laidRun Tryz.prog ((startW os).forCall (fun _ _ => 0) ⟨#[], #[], []⟩).memory 8 ((Rows.shrinkNumbersRow.laid.filter fun x => x.2.handleName?.isNone).map (·.1))).map (fun x => laidRowsB Tryz.prog ((startW os).forCall (fun _ _ => 0) ⟨#[], #[], []⟩).memory x.2) = some true := by kernel_rfl
theorem door8 (os : Os) : (Rows.shrinkNumbersRow.laid.filter fun x => x.2.handleName?.isSome && x.2.funcsIn?.isNone).all (handleAtB Tryz.prog ((startW os).forCall (fun _ _ => 0) ⟨#[], #[], []⟩).memory) = true := by kernel_rfl
theorem door9 (os : Os) : funcsRun Tryz.prog ((startW os).forCall (fun _ _ => 0) ⟨#[], #[], []⟩).memory 8 ((funcsListed Rows.shrinkNumbersRow.laid).map (·.1)) = some ((funcsListed Rows.shrinkNumbersRow.laid).map (·.2.funcsOut)) := by kernel_rfl
theorem plain_met (os : Os) : laidMet Tryz.prog (Rows.shrinkNumbersRow.laid.filter fun x => x.2.handleName?.isNone) ((startW os).forCall (fun _ _ => 0) ⟨#[], #[], []⟩).memory := by
  refine laidMet_of_run' 8 (door6 os) ?_
  have h7 := door7 os
  have h0 := door0 os
  revert h7 h0
  cases DataW.laidRun Tryz.prog ((startW os).forCall (fun _ _ => 0) ⟨#[], #[], []⟩).memory 8 ((Rows.shrinkNumbersRow.laid.filter fun x => x.2.handleName?.isNone).map (·.1)) with
  | none => intro h; cases h
  | some x =>
    intro h7 h0
    have h1 : nodupW (x.2.map keyW) = true := Option.some.inj h7
    have h2 : laidRowsB Tryz.prog ((startW os).forCall (fun _ _ => 0) ⟨#[], #[], []⟩).memory x.2 = true := Option.some.inj h0
    have h3 : x.2.Nodup := (List.pairwise_map.1 (nodupW_ok h1)).imp fun h e => h (by rw [e])
    show some (decide x.2.Nodup && laidRowsB Tryz.prog ((startW os).forCall (fun _ _ => 0) ⟨#[], #[], []⟩).memory x.2) = some true
    rw [h2, decide_eq_true h3]; rfl
theorem door_met (os : Os) : laidMetH Tryz.prog Rows.shrinkNumbersRow.laid ((startW os).forCall (fun _ _ => 0) ⟨#[], #[], []⟩).memory := laidMetH_of_parts3 (fuel := 8) (plain_met os) (door8 os) (door9 os)
end Go.Proofs.YtafpilamlkhgkaaGreatDoor
