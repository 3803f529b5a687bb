/- bulkheadlaw16.KernelNumbers returns true, in whatever memory and on every schedule, and leaves all other memory as it was. Condition: when the call begins, the listed package-level variables read as the text of the program lays them (the tied card that the seat gives). -/
import Derived.Test.YtppfndgghkfkhaaGreatDoorR16
import Derived.Test.YtppfndgghkfkhaaGreatDoorW
import Derived.Test.YtppfndgghkfkhaaGreatDoorF
import Derived.Test.YtppfndgghkfkhaaGreatDoorG
import Derived.Test.YtppfndgghkfkhaaGreatDoorRows
import Derived.Test.YtppfndgghkfkhaaGreatDoorCards
import Derived.Test.YtppfndgghkfkhaaGreatDoorTie
import Derived.SevenTiedAt
set_option linter.all false
set_option maxRecDepth 100000
namespace Go.Proofs.YtppfndgghkfkhaaGreatDoor
open Go
theorem own : ownKnob Tryz.prog.godebug = none := by kernel_rfl
theorem body3 : Tryz.f3.body = some (Tryz.f3.body.getD .skip) := by kernel_rfl
theorem name3 : (Tryz.f3.name == "runtime.NumGoroutine") = false := by kernel_rfl
theorem params3 : Tryz.f3.params = #[] := by kernel_rfl
theorem results3 : Tryz.f3.resultTypes = #[4] := by kernel_rfl
theorem noInit3 : Tryz.prog.inits.idxOf? 3 = none := by kernel_rfl
theorem size13 : decide (13 < Tryz.prog.globals.size) = true := by kernel_rfl
theorem preOk : Ae.preB Ae.gts (Ae.unM Ae.m118).pre = true := by kernel_rfl
theorem lay2 : Rows.kernelNumbersRow.laid[2]? = some ("internal/strconv.uint64pow10", Ae.aggD .u64 Ae.nsPow) := by kernel_rfl
theorem lay3 : Rows.kernelNumbersRow.laid[9]? = some ("bulkhead/scan.classes", Ae.aggD .u8 Ae.nsClass) := by kernel_rfl
theorem lay4 : Rows.kernelNumbersRow.laid[8]? = some ("strings.asciiSpace", Ae.aggD .u8 Ae.nsSpace) := by kernel_rfl
theorem lay8 : Rows.kernelNumbersRow.laid[10]? = some ("bulkhead/render.ranks", Ae.aggD .u8 Ae.nsRank) := by kernel_rfl
theorem lifted (os : Os) (started : os.Started) (H : Type) (enc : TypeId × Value → H) :
    ReturnsInHanded {} Tryz.checked os 3 .any (fun w args => (Rows.kernelNumbersSpec.pre enc Tryz.prog Tryz.f3 [] false w args ∧ laidMetH Tryz.prog Rows.kernelNumbersRow.laid w) ∧ sizedMet enc Tryz.prog Tryz.f3 (OpenSpec.ofChange Rows.kernelNumbersSpec) false w args)
      (Rows.kernelNumbersSpec.post enc Tryz.prog Tryz.f3 false true false false) :=
  Ae.lifted_of (C := Tryz.checked) (f := 3) (fn := Tryz.f3) (s := Rows.kernelNumbersSpec) (laid := Rows.kernelNumbersRow.laid) (a := {}) (m := Ae.m118) (l := Ae.gts) (t := 4) (b13 := 769) started own noInit3 Tryz.func3 body3 name3 params3 results3 Tryz.underlying4 rfl rfl
    (of_decide_eq_true size13) Ae.row13 Ae.m118_ok preOk rfl rfl rfl rfl
    (fun w sh hl => Ae.metAll (List.mem_of_getElem? lay2) (List.mem_of_getElem? lay3) (List.mem_of_getElem? lay4) (List.mem_of_getElem? lay8) w sh hl)
    (ChangeSpec.witness_shaped (enc := enc) (C := Tryz.checked) (os := os) (X := fun w _ => laidMetH Tryz.prog Rows.kernelNumbersRow.laid w) false (startW os) #[] 8 (startW_os os) (World.shaped_of_ZipB (door1 os) (door2 os)) (door3 os) (door4 enc os) (door5 enc os) (door_met os))
theorem row_holds : Rows.KernelNumbersSaid :=
  OpenClaim.holds_of_wide 3 Tryz.f3 rfl rfl rfl rfl rfl rfl rfl ⟨rfl, rfl, rfl, rfl, rfl⟩ rfl rfl rfl rfl rfl named3 Tryz.func3 facts
    (of_decide_eq_true (by kernel_rfl)) (by unfold Func.isWrapper; first | (rw [if_pos (by decide +kernel)]; kernel_rfl) | (rw [if_neg (by decide +kernel)]; exact ⟨rfl, rfl⟩))
    (fun os started H enc _ => lifted os started H enc)
theorem kernelNumbers_holds : Rows.KernelNumbersCardSaid :=
  Claim7.holds_tied_plain_at .later [] [.data, .data, .data, .data, .handle, .sentinel, .sentinel, .listed, .data, .data, .data, .pinned] true (true, "57847e18b2a575b83069c61ee7b0abb1c8fa40df87a3fed65b59d4c83e2b4df5") true
    row_holds (fun _ h => by cases h) (by kernel_rfl) (fun _ h => by cases h) kernelNumbers_row_tie rfl ⟨rfl, rfl⟩ (by kernel_rfl) rfl
    (fun f fn hf hfn => by
      obtain rfl : f = 3 := Option.some.inj (named3.symm.trans hf) |>.symm
      obtain rfl : fn = Tryz.f3 := (Option.some.inj (Tryz.func3.symm.trans hfn)).symm
      exact ⟨by kernel_rfl, fun j t ht => by rw [params3] at ht; simp at ht⟩)
    goes3
end Go.Proofs.YtppfndgghkfkhaaGreatDoor
