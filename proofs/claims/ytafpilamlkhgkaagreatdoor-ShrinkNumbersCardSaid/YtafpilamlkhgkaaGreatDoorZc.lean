/- bulkheadlaw22.ShrinkNumbers returns true, in whatever memory and on every schedule, and leaves all other memory as it was. Condition: when the call begins, the listed package-level variables read as the text of the program lays them (the tied card that the seat gives). -/
import Derived.Test.YtafpilamlkhgkaaGreatDoorSR18
import Derived.Test.YtafpilamlkhgkaaGreatDoorWc
import Derived.Test.YtafpilamlkhgkaaGreatDoorFc
import Derived.Test.YtafpilamlkhgkaaGreatDoorRows
import Derived.Test.YtafpilamlkhgkaaGreatDoorCards
import Derived.Test.YtafpilamlkhgkaaGreatDoorTie
import Derived.SevenTiedAt
set_option linter.all false
set_option maxRecDepth 100000
namespace Go.Proofs.YtafpilamlkhgkaaGreatDoor
open Go
theorem own : ownKnob Tryz.prog.godebug = none := by kernel_rfl
theorem noInitF : Tryz.prog.inits.idxOf? 5 = none := by kernel_rfl
theorem resultsF : Tryz.f5.resultTypes = #[4] := by kernel_rfl
theorem size13 : decide (13 < Tryz.prog.globals.size) = true := by kernel_rfl
theorem preOk : Ae.preB Ae.gts (Ae.unM Ae.m105).pre = true := by kernel_rfl
theorem lay2 : Rows.shrinkNumbersRow.laid[2]? = some ("internal/strconv.uint64pow10", Ae.aggD .u64 Ae.nsPow) := by kernel_rfl
theorem lay3 : Rows.shrinkNumbersRow.laid[9]? = some ("bulkhead/scan.classes", Ae.aggD .u8 Ae.nsClass) := by kernel_rfl
theorem lay4 : Rows.shrinkNumbersRow.laid[8]? = some ("strings.asciiSpace", Ae.aggD .u8 Ae.nsSpace) := by kernel_rfl
theorem lay8 : Rows.shrinkNumbersRow.laid[10]? = some ("bulkhead/render.ranks", Ae.aggD .u8 Ae.nsRank) := by kernel_rfl
theorem bodyF : Tryz.f5.body = some (Tryz.f5.body.getD .skip) := by kernel_rfl
theorem nameF : (Tryz.f5.name == "runtime.NumGoroutine") = false := by kernel_rfl
theorem paramsF : Tryz.f5.params = #[] := by kernel_rfl
theorem lifted (os : Os) (started : os.Started) (H : Type) (enc : TypeId × Value → H) :
    ReturnsInHanded {} Tryz.checked os 5 .any (fun w args => (Rows.shrinkNumbersSpec.pre enc Tryz.prog Tryz.f5 [] false w args ∧ laidMetH Tryz.prog Rows.shrinkNumbersRow.laid w) ∧ sizedMet enc Tryz.prog Tryz.f5 (OpenSpec.ofChange Rows.shrinkNumbersSpec) false w args)
      (Rows.shrinkNumbersSpec.post enc Tryz.prog Tryz.f5 false true false false) :=
  Ae.lifted_of (C := Tryz.checked) (f := 5) (fn := Tryz.f5) (s := Rows.shrinkNumbersSpec) (laid := Rows.shrinkNumbersRow.laid) (a := {}) (m := Ae.m105) (l := Ae.gts) (t := 4) (b13 := 849) started own noInitF Tryz.func5 bodyF nameF paramsF resultsF Tryz.underlying4 rfl rfl
    (of_decide_eq_true size13) Ae.row13 Ae.m105_ok preOk rfl rfl rfl rfl
    (fun w sh hl => Ae.metAll (List.mem_of_getElem? lay2) (List.mem_of_getElem? lay3) (List.mem_of_getElem? lay4) (List.mem_of_getElem? lay8) w sh hl)
    (ChangeSpec.witness_shaped (enc := enc) (C := Tryz.checked) (os := os) (X := fun w _ => laidMetH Tryz.prog Rows.shrinkNumbersRow.laid w) false (startW os) #[] 8 (startW_os os) (World.shaped_of_ZipB (door1 os) (door2 os)) (door3 os) (door4 enc os) (door5 enc os) (door_met os))
theorem row_holds : Rows.ShrinkNumbersSaid :=
  OpenClaim.holds_of_wide 5 Tryz.f5 rfl rfl rfl rfl rfl rfl rfl ⟨rfl, rfl, rfl, rfl, rfl⟩ rfl rfl rfl rfl rfl namedF Tryz.func5 facts
    (of_decide_eq_true (by kernel_rfl)) (by unfold Func.isWrapper; first | (rw [if_pos (by decide +kernel)]; kernel_rfl) | (rw [if_neg (by decide +kernel)]; exact ⟨rfl, rfl⟩))
    (fun os started H enc _ => lifted os started H enc)
theorem shrinkNumbers_holds : Rows.ShrinkNumbersCardSaid :=
  Claim7.holds_tied_plain_at .later [] [.data, .data, .data, .data, .handle, .sentinel, .sentinel, .listed, .data, .data, .data, .pinned] true (true, "54d6848dc6dd5e65f2e4972bb2908e01df99201215d0569aa1ec0c9c7ce256cf") true
    row_holds (fun _ h => by cases h) (by kernel_rfl) (fun _ h => by cases h) shrinkNumbers_row_tie rfl ⟨rfl, rfl⟩ (by kernel_rfl) rfl
    (fun f fn hf hfn => by
      obtain rfl : f = 5 := Option.some.inj (namedF.symm.trans hf) |>.symm
      obtain rfl : fn = Tryz.f5 := (Option.some.inj (Tryz.func5.symm.trans hfn)).symm
      exact ⟨by kernel_rfl, fun j t ht => by rw [paramsF] at ht; simp at ht⟩)
    goesF
end Go.Proofs.YtafpilamlkhgkaaGreatDoor
