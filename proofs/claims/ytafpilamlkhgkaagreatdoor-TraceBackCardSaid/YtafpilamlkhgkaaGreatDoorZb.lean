/- bulkheadlaw21.TraceBack returns true whatever its arguments, in whatever memory and on every schedule, and leaves all other memory as it was; the arguments read as they did. Condition: when the call begins, the listed package-level variables read as the text of the program lays them (the tied card that the seat gives). -/
import Derived.Test.YtafpilamlkhgkaaGreatDoorR13
import Derived.Test.YtafpilamlkhgkaaGreatDoorGb
import Derived.Test.YtafpilamlkhgkaaGreatDoorWb
import Derived.Test.YtafpilamlkhgkaaGreatDoorFb
import Derived.Test.YtafpilamlkhgkaaGreatDoorRows
import Derived.Test.YtafpilamlkhgkaaGreatDoorCards
import Derived.Test.YtafpilamlkhgkaaGreatDoorTie
import Derived.SevenTiedAt
set_option linter.all false
set_option maxRecDepth 100000
namespace Go.Proofs.YtafpilamlkhgkaaGreatDoor
open Go
theorem own : ownKnob Tryz.prog.godebug = none := by kernel_rfl
theorem noInitF : Tryz.prog.inits.idxOf? 4 = none := by kernel_rfl
theorem resultsF : Tryz.f4.resultTypes = #[4] := by kernel_rfl
theorem size13 : decide (13 < Tryz.prog.globals.size) = true := by kernel_rfl
theorem preOk : Ae.preB Ae.gts (Ae.unM Ae.m90).pre = true := by kernel_rfl
theorem lay2 : Rows.traceBackRow.laid[2]? = some ("internal/strconv.uint64pow10", Ae.aggD .u64 Ae.nsPow) := by kernel_rfl
theorem lay3 : Rows.traceBackRow.laid[9]? = some ("bulkhead/scan.classes", Ae.aggD .u8 Ae.nsClass) := by kernel_rfl
theorem lay4 : Rows.traceBackRow.laid[8]? = some ("strings.asciiSpace", Ae.aggD .u8 Ae.nsSpace) := by kernel_rfl
theorem lay8 : Rows.traceBackRow.laid[10]? = some ("bulkhead/render.ranks", Ae.aggD .u8 Ae.nsRank) := by kernel_rfl
theorem paramsF : Tryz.f4.params = #[22, 23, 33, 42] := by kernel_rfl
theorem bodyK : Tryz.f6.body = some (Tryz.f6.body.getD .skip) := by kernel_rfl
theorem nameK : (Tryz.f6.name == "runtime.NumGoroutine") = false := by kernel_rfl
theorem standF : Tryz.f4.params.all (fun t => Bool.not (Tryz.prog.wantsStandIn t)) = true := by kernel_rfl
theorem laidOut : laidOutB Tryz.prog = true := by kernel_rfl
theorem readF : Tryz.f4.params.toList.all (fun t => Tryz.prog.readableRec t && decide (t < Tryz.prog.types.size)) = true := by kernel_rfl
theorem knownF (w : World) (h : Ae.GoodG Ae.gts w) : Calls Tryz.prog 6 #[] w fun e w' => e = .returned (.bool true) ∧ Ae.KP w w' :=
  (Ae.calls_root Tryz.func6 bodyK nameK Ae.m90_ok preOk rfl rfl rfl rfl h.1 h.2).mono fun _ _ ⟨h0, h1, h2, h3, h4⟩ => ⟨h0, h1, h2, h3, h4⟩
theorem lifted (os : Os) (started : os.Started) (H : Type) (enc : TypeId × Value → H) :
    ReturnsInHanded {} Tryz.checked os 4 .any (fun w args => (Rows.traceBackSpec.pre enc Tryz.prog Tryz.f4 [] false w args ∧ laidMetH Tryz.prog Rows.traceBackRow.laid w) ∧ sizedMet enc Tryz.prog Tryz.f4 (OpenSpec.ofChange Rows.traceBackSpec) false w args)
      (Rows.traceBackSpec.post enc Tryz.prog Tryz.f4 false true false false) :=
  Ae.lifted_args (C := Tryz.checked) (f := 4) (fn := Tryz.f4) (s := Rows.traceBackSpec) (laid := Rows.traceBackRow.laid) (a := {}) (l := Ae.gts) (t := 4) (b13 := 849) started own noInitF Tryz.func4 resultsF Tryz.underlying4 rfl
    (fun ds h => by
      rw [paramsF] at h
      match ds, h with
      | [d0, d1, d2, d3], _ => rfl)
    (of_decide_eq_true size13) Ae.row13 laidOut readF
    (fun w sh hl => Ae.metAll (List.mem_of_getElem? lay2) (List.mem_of_getElem? lay3) (List.mem_of_getElem? lay4) (List.mem_of_getElem? lay8) w sh hl)
    (fun W base args ds p hg hval hA hsz => by
      rw [paramsF] at hval hA hsz
      exact Ae.back_core (Good := Ae.GoodG Ae.gts) (fun _ _ h hb => h.below hb) knownF W base args ds p hg hval hA hsz)
    (ChangeSpec.witness_shaped (enc := enc) (C := Tryz.checked) (os := os) (X := fun w _ => laidMetH Tryz.prog Rows.traceBackRow.laid w) false (startW os) #[.slice none 0 0, .slice none 0 0, .slice none 0 0, .slice none 0 0] 8 (startW_os os) (World.shaped_of_ZipB (door1 os) (door2 os)) (door3 os) (door4 enc os) (door5 enc os) (door_met os))
theorem row_holds : Rows.TraceBackSaid :=
  OpenClaim.holds_of_wide 4 Tryz.f4 rfl rfl rfl rfl rfl rfl rfl ⟨rfl, rfl, rfl, rfl, rfl⟩ rfl rfl rfl rfl rfl namedF Tryz.func4 facts
    (of_decide_eq_true (by kernel_rfl)) (by unfold Func.isWrapper; first | (rw [if_pos (by decide +kernel)]; kernel_rfl) | (rw [if_neg (by decide +kernel)]; exact ⟨rfl, rfl⟩))
    (fun os started H enc _ => lifted os started H enc)
theorem traceBack_holds : Rows.TraceBackCardSaid :=
  Claim7.holds_tied_plain_at .later [] [.data, .data, .data, .data, .handle, .sentinel, .sentinel, .listed, .data, .data, .data, .pinned] true (true, "54d6848dc6dd5e65f2e4972bb2908e01df99201215d0569aa1ec0c9c7ce256cf") true
    row_holds (fun _ h => by cases h) (by kernel_rfl) (fun _ h => by cases h) traceBack_row_tie rfl ⟨rfl, rfl⟩ (by kernel_rfl) rfl
    (fun f fn hf hfn => by
      obtain rfl : f = 4 := Option.some.inj (namedF.symm.trans hf) |>.symm
      obtain rfl : fn = Tryz.f4 := (Option.some.inj (Tryz.func4.symm.trans hfn)).symm
      exact ⟨by kernel_rfl, fun j t ht => by have h := (Array.all_eq_true_iff_forall_mem.1 standF) t (Array.mem_of_getElem? ht); exact (by simpa using h : Tryz.prog.wantsStandIn t = false)⟩)
    goesF
end Go.Proofs.YtafpilamlkhgkaaGreatDoor
