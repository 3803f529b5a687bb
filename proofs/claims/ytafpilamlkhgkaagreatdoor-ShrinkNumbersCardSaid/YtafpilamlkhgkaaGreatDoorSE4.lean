/- The evaluator and why it may be leaned on, part 4. -/
import Derived.Test.YtafpilamlkhgkaaGreatDoorSE3
import Derived.Test.YtafpilamlkhgkaaGreatDoorSW0
import Derived.Laws.Externs
import Derived.Test.YtafpilamlkhgkaaGreatDoorProg
import Derived.WalkKit
import Derived.WalkSpells
import Derived.WalkLawsBesides
import Derived.Laws.Bits64b
import Derived.Below
import Derived.Lib.Bytealg
import Derived.Lib.Hide
import Derived.KernelRfl
import Derived.StillTailTactics
import Derived.RecoverIn
import Derived.LaidEql
import Derived.Stop.Asserts
import Derived.RowKitTokens
import Derived.Lib.IfaceEq
import Derived.JoinedOf
import Derived.OpenShut
import Derived.MakeChecks
import Derived.ProofKit
import Derived.LaidMore
import Derived.LaidLaws
import Derived.Handed
import Derived.Stop.Joined
import Derived.BigQuiet
import Derived.Deep.QuietTactic
set_option linter.all false
namespace Ae
open Go
theorem extern_ok {cx : Cx} {f : Nat} {fn : Func} {e : Array Value → Sem Value} (hf : cx.P.funcs[f]? = some fn) (hname : (fn.name == "runtime.NumGoroutine") = false) (hb : fn.body.isNone = true) (hn : Extern.findNext fn = none) (he : Extern.find fn = some e)
    {g : List V → St → (V → St → Out) → Out}
    (h : ∀ {args : List V} {σ : St} {K : V → St → Out} {x : Ex} {fr : Fr} {σ' : St}, g args σ K = .done x fr σ' → ∀ {μ : Mu} {args' : Array Value} (w : World), RelL μ args args'.toList →
      ∃ v v', K v σ = .done x fr σ' ∧ RelV μ v v' ∧ (e args').run cx.P w = .ok v' w) : FnOk cx g f := by
  intro args σ K x fr σ' hk μ w args' hm hG hl
  obtain ⟨v, v', h1, h2, h3⟩ := h hk w hl
  exact .inl ⟨v', w, μ, v, σ, by rw [run_callFunc_extern hf hname hb hn he, h3]; rfl, h2, Step.refl hm, h1⟩
theorem arr1 {a : Array Value} {x : Value} (h : a.toList = [x]) : a = #[x] := by apply Array.ext'; simpa using h
theorem arr2 {a : Array Value} {x y : Value} (h : a.toList = [x, y]) : a = #[x, y] := by apply Array.ext'; simpa using h
theorem arr3 {a : Array Value} {x y z : Value} (h : a.toList = [x, y, z]) : a = #[x, y, z] := by apply Array.ext'; simpa using h
theorem pSame_ok {cx : Cx} {f : Nat} {fn : Func} (hf : cx.P.funcs[f]? = some fn) (hname : (fn.name == "runtime.NumGoroutine") = false) (hb : fn.body.isNone = true) (hn : Extern.findNext fn = none) (he : Extern.find fn = some Extern.AbiNoEscape.same) : FnOk cx pSame f := by
  refine extern_ok hf hname hb hn he fun {args σ K x fr σ'} hk {μ args'} w hl => ?_
  cases hl' : args'.toList with
  | nil => rw [hl'] at hl; cases hl; cases hk
  | cons a l =>
    rw [hl'] at hl
    cases hl with
    | @cons v _ l1 _ h1 h2 =>
      cases h2 with
      | nil => exact ⟨v, a, hk, h1, by rw [arr1 hl']; rfl⟩
      | cons _ _ => cases hk
theorem u64_rel {μ : Mu} {x : Nat} (h : x < 18446744073709551616) : RelV μ (.n .u64 x) (.int .u64 x) := by
  have := RelV.n (μ := μ) .u64 x h
  rwa [wrap_nn .u64 x h rfl] at this
theorem u64_inv {μ : Mu} {x : Nat} {v : Value} (h : RelV μ (.n .u64 x) v) : v = .int .u64 x ∧ x < 18446744073709551616 := by
  cases h with
  | n _ _ hx => exact ⟨by rw [wrap_nn .u64 x hx rfl], hx⟩
theorem pAdd64_ok {cx : Cx} {f : Nat} {fn : Func} (hf : cx.P.funcs[f]? = some fn) (hname : (fn.name == "runtime.NumGoroutine") = false) (hb : fn.body.isNone = true) (hn : Extern.findNext fn = none) (he : Extern.find fn = some add64Entry) : FnOk cx pAdd64 f := by
  refine extern_ok hf hname hb hn he fun {args σ K x fr σ'} hk {μ args'} w hl => ?_
  unfold pAdd64 at hk
  split at hk
  · rename_i x y c
    obtain ⟨hc, hk1⟩ := ifb_inv hk
    simp only [force_eq] at hk1
    cases hl' : args'.toList with
    | nil => rw [hl'] at hl; cases hl
    | cons a l =>
      rw [hl'] at hl
      cases hl with | cons h1 hl =>
      cases hl with | cons h2 hl =>
      cases hl with | cons h3 hl =>
      cases hl
      obtain ⟨rfl, hx⟩ := u64_inv h1
      obtain ⟨rfl, hy⟩ := u64_inv h2
      obtain ⟨rfl, hc2⟩ := u64_inv h3
      have hc' : c ≤ 1 := Nat.le_of_ble_eq_true hc
      refine ⟨_, _, hk1, ?_, by rw [arr3 hl']; exact run_add64 x y c (by omega) (by omega) (by omega) (by omega) w⟩
      refine .t (.cons ?_ (.cons ?_ .nil))
      · have := u64_rel (μ := μ) (x := (x + y + c) % 18446744073709551616) (Nat.mod_lt _ (by decide))
        show RelV μ (.n .u64 ((x + y + c) % 18446744073709551616)) _
        simpa using this
      · have := u64_rel (μ := μ) (x := (x + y + c) / 18446744073709551616) (by omega)
        show RelV μ (.n .u64 ((x + y + c) / 18446744073709551616)) _
        simpa using this
  · cases hk
def sub64Entry : Array Value → Sem Value := fun args => do
  let (x, y, b) ← Extern.MathBitsCarry.three "Sub64" args
  pure (Extern.MathBitsCarry.pair ((x + Extern.MathBitsCarry.m64 - y - b) % Extern.MathBitsCarry.m64) (if x < y + b then 1 else 0))
theorem run_sub64 {P : Program} (x y c : Nat) (hc : c ≤ 1) (w : World) :
    (sub64Entry #[.int .u64 x, .int .u64 y, .int .u64 c]).run P w = .ok (.tuple #[.int .u64 (((x + 18446744073709551616 - y - c) % 18446744073709551616 : Nat) : Int), .int .u64 ((if x < y + c then 1 else 0 : Nat) : Int)]) w := by
  have : c = 0 ∨ c = 1 := by omega
  rcases this with rfl | rfl <;> rfl
theorem pSub64_ok {cx : Cx} {f : Nat} {fn : Func} (hf : cx.P.funcs[f]? = some fn) (hname : (fn.name == "runtime.NumGoroutine") = false) (hb : fn.body.isNone = true) (hn : Extern.findNext fn = none) (he : Extern.find fn = some sub64Entry) : FnOk cx pSub64 f := by
  refine extern_ok hf hname hb hn he fun {args σ K x fr σ'} hk {μ args'} w hl => ?_
  unfold pSub64 at hk
  split at hk
  · rename_i x y c
    obtain ⟨hc, hk1⟩ := ifb_inv hk
    simp only [force_eq] at hk1
    cases hl' : args'.toList with
    | nil => rw [hl'] at hl; cases hl
    | cons a l =>
      rw [hl'] at hl
      cases hl with | cons h1 hl =>
      cases hl with | cons h2 hl =>
      cases hl with | cons h3 hl =>
      cases hl
      obtain ⟨rfl, hx⟩ := u64_inv h1
      obtain ⟨rfl, hy⟩ := u64_inv h2
      obtain ⟨rfl, hc2⟩ := u64_inv h3
      have hc' : c ≤ 1 := Nat.le_of_ble_eq_true hc
      refine ⟨_, _, hk1, ?_, by rw [arr3 hl']; exact run_sub64 x y c hc' w⟩
      refine .t (.cons ?_ (.cons ?_ .nil))
      · exact u64_rel (μ := μ) (x := (x + 18446744073709551616 - y - c) % 18446744073709551616) (Nat.mod_lt _ (by decide))
      · have e : ifb (Nat.blt x (Nat.add y c)) 1 0 = (if x < y + c then 1 else 0) := by
          rw [ifb_eq]
          by_cases h : x < y + c
          · rw [if_pos (by simpa using h), if_pos h]
          · rw [if_neg (by simpa using h), if_neg h]
        rw [e]
        exact u64_rel (by split <;> decide)
  · cases hk
theorem idxB_ok (bs : ByteArray) (c : Nat) (hc : c < 256) : ∀ (l : List Nat) (i : Nat), (bs.data.toList.map UInt8.toNat).drop i = l → i ≤ bs.size →
    (List.range' i (bs.size - i)).find? (fun j => bs[j]! == c.toUInt8) = idxB c l i := by
  intro l
  induction l with
  | nil =>
    intro i hl hi
    have : bs.size - i = 0 := by
      have := congrArg List.length hl
      rw [List.length_drop, List.length_map, Array.length_toList] at this
      have hs : bs.data.size = bs.size := rfl
      simp at this; omega
    rw [this]; rfl
  | cons x l ih =>
    intro i hl hi
    have hlt : i < bs.size := by
      rcases Nat.lt_or_ge i bs.size with q | q
      · exact q
      · rw [List.drop_eq_nil_of_le (by simp; exact q)] at hl; cases hl
    have hx : (bs.data.toList.map UInt8.toNat)[i]? = some x := by
      have : ((bs.data.toList.map UInt8.toNat).drop i)[0]? = some x := by rw [hl]; rfl
      rw [List.getElem?_drop] at this; simpa using this
    obtain ⟨_, hg⟩ := get_bytes bs i x hx
    have hb : bs[i]! = bs.get! i := by rw [getElem!_pos bs i hlt]; exact (by
      show bs.data[i] = bs.data[i]!
      rw [getElem!_pos bs.data i hlt])
    rw [show bs.size - i = (bs.size - (i + 1)) + 1 by omega, List.range'_succ, List.find?_cons]
    change _ = ifb (Nat.beq x c) (some i) (idxB c l (Nat.succ i))
    have he : (bs[i]! == c.toUInt8) = Nat.beq x c := by
      rw [hb, Bool.eq_iff_iff, beq_iff_eq, Nat.beq_eq]
      constructor
      · intro h; rw [← hg, h]; show (UInt8.ofNat c).toNat = c; simp [UInt8.toNat_ofNat, hc]
      · intro h; rw [← UInt8.toNat_inj, hg, h]; show c = (UInt8.ofNat c).toNat; simp; omega
    rw [he]
    cases Nat.beq x c with
    | true => rfl
    | false =>
      rw [ifb_false]
      exact ih (i + 1) (by rw [← List.drop_drop, hl]; rfl) hlt
theorem pIndexByteString_ok {cx : Cx} {f : Nat} {fn : Func} (hf : cx.P.funcs[f]? = some fn) (hname : (fn.name == "runtime.NumGoroutine") = false) (hb : fn.body.isNone = true) (hn : Extern.findNext fn = none) (he : Extern.find fn = some Extern.BytealgIndexByte.indexByte) : FnOk cx pIndexByteString f := by
  refine extern_ok hf hname hb hn he fun {args σ K x fr σ'} hk {μ args'} w hl => ?_
  unfold pIndexByteString at hk
  split at hk
  · rename_i l c
    cases hl' : args'.toList with
    | nil => rw [hl'] at hl; cases hl
    | cons a l2 =>
      rw [hl'] at hl
      cases hl with | cons h1 hl =>
      cases hl with | cons h2 hl =>
      cases hl
      generalize hv : V.s l = v at h1
      cases h1 with
      | s bs hbs =>
        injection hv with hv
        subst hv
        cases h2 with
        | n _ _ hc =>
          have hc : c < 256 := hc
          have hw : IntKind.u8.wrap (c : Int) = c := wrap_nn .u8 c hc rfl
          have hrun := run_indexByte_string (P := cx.P) bs (c : Int) w
          have hi := idxB_ok bs c hc _ 0 rfl (Nat.zero_le _)
          rw [List.drop_zero, Nat.sub_zero, ← List.range_eq_range'] at hi
          have hf2 : firstIdx bs (c : Int).toNat.toUInt8 = match idxB c (bs.data.toList.map UInt8.toNat) 0 with | some i => (i : Int) | none => -1 := by
            unfold firstIdx
            rw [Int.toNat_natCast, hi]
            cases idxB c (bs.data.toList.map UInt8.toNat) 0 <;> rfl
          cases hx : idxB c (bs.data.toList.map UInt8.toNat) 0 with
          | none =>
            rw [hx] at hk hf2
            refine ⟨_, _, hk, ?_, by rw [arr2 hl', hw, hrun, hf2]⟩
            exact RelV.n (μ := μ) .i64 18446744073709551615 (by decide)
          | some i =>
            rw [hx] at hk hf2
            refine ⟨_, _, hk, ?_, by rw [arr2 hl', hw, hrun, hf2]⟩
            have hlt : i < bs.size := by
              rw [hx] at hi
              have := List.mem_of_find?_eq_some hi
              simpa using this
            exact rel_len μ (by omega)
      | _ => cases hv
  · cases hk
end Ae
namespace Ae
open Go Go.Proofs Go.RowKit
def wid (k : Nat) : Int := 18446744073709551616 / 256 ^ k - 1
set_option maxHeartbeats 400000 in
theorem width64 (w : World) : Calls Tryz.prog 110 #[] w fun e w' => e = .returned (.int .i64 8) ∧ w = w' := by
  go_enter Tryz.func110, Tryz.ntmps110
  go_wp2
  go_loop [1, 2] (fun n q => ∃ k : Nat, k ≤ 8 ∧ n = .int .i64 k ∧ q = .int .u64 (wid k)) (fun n _ => (8 - intOf n).toNat)
  case atStart => exact ⟨0, by omega, rfl, congrArg (Value.int .u64) (by decide)⟩
  case round =>
    obtain ⟨k, hk, rfl, rfl⟩ := hrel
    have hk8 : k = 0 ∨ k = 1 ∨ k = 2 ∨ k = 3 ∨ k = 4 ∨ k = 5 ∨ k = 6 ∨ k = 7 ∨ k = 8 := by omega
    rcases hk8 with rfl | rfl | rfl | rfl | rfl | rfl | rfl | rfl | rfl
    all_goals simp only [wid]
    all_goals go_wp2
    all_goals first
      | (go_ret; exact ⟨rfl, rfl⟩)
      | (go_round
         case rel =>
           first
             | exact ⟨1, by omega, rfl, rfl⟩ | exact ⟨2, by omega, rfl, rfl⟩ | exact ⟨3, by omega, rfl, rfl⟩ | exact ⟨4, by omega, rfl, rfl⟩
             | exact ⟨5, by omega, rfl, rfl⟩ | exact ⟨6, by omega, rfl, rfl⟩ | exact ⟨7, by omega, rfl, rfl⟩ | exact ⟨8, by omega, rfl, rfl⟩
         case measure => decide)
def le8 (zs : List Nat) : Nat → Int
  | 0 => 0
  | 1 => bits .or .u64 (le8 zs 0) (IntKind.u64.wrap (IntKind.u64.wrap (zs[0]?.getD 0 : Nat)))
  | 2 => bits .or .u64 (le8 zs 1) (IntKind.u64.wrap (IntKind.u64.wrap (zs[1]?.getD 0 : Nat) * 256))
  | 3 => bits .or .u64 (le8 zs 2) (IntKind.u64.wrap (IntKind.u64.wrap (zs[2]?.getD 0 : Nat) * 65536))
  | 4 => bits .or .u64 (le8 zs 3) (IntKind.u64.wrap (IntKind.u64.wrap (zs[3]?.getD 0 : Nat) * 16777216))
  | 5 => bits .or .u64 (le8 zs 4) (IntKind.u64.wrap (IntKind.u64.wrap (zs[4]?.getD 0 : Nat) * 4294967296))
  | 6 => bits .or .u64 (le8 zs 5) (IntKind.u64.wrap (IntKind.u64.wrap (zs[5]?.getD 0 : Nat) * 1099511627776))
  | 7 => bits .or .u64 (le8 zs 6) (IntKind.u64.wrap (IntKind.u64.wrap (zs[6]?.getD 0 : Nat) * 281474976710656))
  | 8 => bits .or .u64 (le8 zs 7) (IntKind.u64.wrap (IntKind.u64.wrap (zs[7]?.getD 0 : Nat) * 72057594037927936))
  | _ => 0
theorem le8_1 (zs : List Nat) : le8 zs 1 = bits .or .u64 (le8 zs 0) (IntKind.u64.wrap (IntKind.u64.wrap (zs[0]?.getD 0 : Nat))) := by simp only [le8]
theorem le8_2 (zs : List Nat) : le8 zs 2 = bits .or .u64 (le8 zs 1) (IntKind.u64.wrap (IntKind.u64.wrap (zs[1]?.getD 0 : Nat) * 256)) := by simp only [le8]
theorem le8_3 (zs : List Nat) : le8 zs 3 = bits .or .u64 (le8 zs 2) (IntKind.u64.wrap (IntKind.u64.wrap (zs[2]?.getD 0 : Nat) * 65536)) := by simp only [le8]
theorem le8_4 (zs : List Nat) : le8 zs 4 = bits .or .u64 (le8 zs 3) (IntKind.u64.wrap (IntKind.u64.wrap (zs[3]?.getD 0 : Nat) * 16777216)) := by simp only [le8]
theorem le8_5 (zs : List Nat) : le8 zs 5 = bits .or .u64 (le8 zs 4) (IntKind.u64.wrap (IntKind.u64.wrap (zs[4]?.getD 0 : Nat) * 4294967296)) := by simp only [le8]
theorem le8_6 (zs : List Nat) : le8 zs 6 = bits .or .u64 (le8 zs 5) (IntKind.u64.wrap (IntKind.u64.wrap (zs[5]?.getD 0 : Nat) * 1099511627776)) := by simp only [le8]
theorem le8_7 (zs : List Nat) : le8 zs 7 = bits .or .u64 (le8 zs 6) (IntKind.u64.wrap (IntKind.u64.wrap (zs[6]?.getD 0 : Nat) * 281474976710656)) := by simp only [le8]
theorem le8_8 (zs : List Nat) : le8 zs 8 = bits .or .u64 (le8 zs 7) (IntKind.u64.wrap (IntKind.u64.wrap (zs[7]?.getD 0 : Nat) * 72057594037927936)) := by simp only [le8]
set_option maxHeartbeats 400000 in
theorem get64 (b off len cap : Nat) (zs : List Nat) (w : World) (h8 : 8 ≤ len) (h8c : 8 ≤ cap) (hc : ∀ j, j < 8 → w.cell? ⟨b, off + j, none⟩ = some (.int .u8 (zs[j]?.getD 0 : Nat))) :
    Calls Tryz.prog 70 #[.slice (some ⟨b, off, none⟩) len cap] w fun e w' => e = .returned (.tuple #[.int .u64 (le8 zs 8), .bool true]) ∧ w = w' := by
  have hlt8 : decide ((len : Int) < 8) = false := by simp; omega
  go_enter Tryz.func70, Tryz.ntmps70
  go_wp2_with (go_at_call 110; refine (width64 _).mono ?_; rintro e w' ⟨rfl, rfl⟩)
  go_loop [5, 17] (fun v i => ∃ k : Nat, k ≤ 8 ∧ i = .int .i64 k ∧ v = .int .u64 (le8 zs k)) (fun _ i => (8 - intOf i).toNat)
  case atStart => exact ⟨0, by omega, rfl, by simp only [le8]⟩
  case round =>
    obtain ⟨k, hk, rfl, rfl⟩ := hrel
    have hcell : k < 8 → w.cell? ⟨b, off + k, none⟩ = some (.int .u8 (zs[k]?.getD 0 : Nat)) := fun h => hc k h
    clear hc
    have hk8 : k = 0 ∨ k = 1 ∨ k = 2 ∨ k = 3 ∨ k = 4 ∨ k = 5 ∨ k = 6 ∨ k = 7 ∨ k = 8 := by omega
    rcases hk8 with rfl | rfl | rfl | rfl | rfl | rfl | rfl | rfl | rfl
    all_goals (try replace hcell := hcell (by omega))
    all_goals (try rw [Nat.add_zero] at hcell)
    all_goals go_wp2
    all_goals first
      | (go_ret2; exact ⟨rfl, rfl⟩)
      | (go_round
         case rel =>
           first
             | exact ⟨1, by omega, rfl, by rw [le8_1]⟩ | exact ⟨2, by omega, rfl, by rw [le8_2]⟩ | exact ⟨3, by omega, rfl, by rw [le8_3]⟩ | exact ⟨4, by omega, rfl, by rw [le8_4]⟩
             | exact ⟨5, by omega, rfl, by rw [le8_5]⟩ | exact ⟨6, by omega, rfl, by rw [le8_6]⟩ | exact ⟨7, by omega, rfl, by rw [le8_7]⟩ | exact ⟨8, by omega, rfl, by rw [le8_8]⟩
         case measure => decide)
theorem get64_short (a : Option Addr) (len cap : Nat) (w : World) (h8 : len < 8) :
    Calls Tryz.prog 70 #[.slice a len cap] w fun e w' => e = .returned (.tuple #[.int .u64 0, .bool false]) ∧ w = w' := by
  have hlt8 : decide ((len : Int) < 8) = true := by simp; omega
  go_enter Tryz.func70, Tryz.ntmps70
  go_wp2_with (go_at_call 110; refine (width64 _).mono ?_; rintro e w' ⟨rfl, rfl⟩)
  go_ret2
  exact ⟨rfl, rfl⟩
end Ae
namespace Ae
open Go Go.Proofs Go.RowKit
theorem Step.below {P : Program} {μ : Mu} {σ : St} {w w1 : World} (hm : RelM P μ σ w) (h : Below w.heap.size w w1) : Step P μ σ w μ σ w1 :=
  ⟨Mu.le_refl μ, ⟨fun b x L hb hL => (hm.blk b x L hb hL).of_heap (Mu.le_refl μ) (h.block _ (hm.inb b L hL)), hm.inj, hm.top, fun b L hL => Nat.lt_of_lt_of_le (hm.inb b L hL) h.size, hm.emp⟩,
    ⟨h.tape, h.os, h.output, h.size, fun c cs t fr _ e => ⟨cs, by
      have hc : c < w.heap.size := by
        rcases Nat.lt_or_ge c w.heap.size with q | q
        · exact q
        · rw [Array.getElem?_eq_none q] at e; cases e
      rw [h.block c hc]; exact e⟩⟩, fun c hc _ => h.block c hc, fun _ _ h => h, Nat.le_refl _, fun _ _ e => ⟨e, rfl⟩⟩
theorem comes_calls {P : Program} {f : Nat} {fn : Func} {c : Code} (hf : P.funcs[f]? = some fn) (hname : (fn.name == "runtime.NumGoroutine") = false) (hb : fn.body = some c) {μ : Mu} {σ : St} {w : World} {args' : Array Value} {Φ : V → St → Prop}
    (hm : RelM P μ σ w) {v : V} {v' : Value} (hv : RelV μ v v') (hc : Calls P f args' w fun e w1 => e = .returned v' ∧ Below w.heap.size w w1) (hΦ : Φ v σ) : Comes1 P (callFunc f args') μ σ w Φ :=
  .inr ⟨f, args', run_enter hf hname hb args' w, hc.mono fun e w1 he => ⟨v', μ, v, σ, he.1, hv, Step.below hm he.2, hΦ⟩⟩
noncomputable def bytesK (l : List V) (K : List Nat → Out) : Out := List.rec (motive := fun _ => (List Nat → Out) → Out) (fun K => K []) (fun v _ ih K => match v with | .n .u8 u => ih fun l => K (u :: l) | _ => .fail 301) l K
theorem bytesK_inv {x : Ex} {fr : Fr} {σ' : St} : ∀ (l : List V) (K : List Nat → Out), bytesK l K = .done x fr σ' → ∃ zs : List Nat, l = zs.map (fun u => V.n .u8 u) ∧ K zs = .done x fr σ' := by
  intro l
  induction l with
  | nil => exact fun K h => ⟨[], rfl, h⟩
  | cons v l ih =>
    intro K h
    cases v with
    | n k u =>
      cases k <;> first
        | (obtain ⟨zs, h1, h2⟩ := ih (fun l => K (u :: l)) h; exact ⟨u :: zs, by rw [h1]; rfl, h2⟩)
        | cases h
    | _ => cases h
theorem bytes_cells {P : Program} {μ : Mu} {σ : St} {w : World} (hm : RelM P μ σ w) {b : Nat} {L : Loc} (hL : μ b = some L) {off n m : Nat} {K : List Nat → Out} {x : Ex} {fr : Fr} {σ' : St} (hk : loadN σ b off n (.fail m) (fun l => bytesK l K) = .done x fr σ') :
    ∃ zs : List Nat, K zs = .done x fr σ' ∧ zs.length = n ∧ (∀ j : Nat, zs[j]?.getD 0 < 256) ∧ ∀ j, j < n → w.cell? ⟨L.c, L.sh + off + j, none⟩ = some (.int .u8 (zs[j]?.getD 0 : Nat)) := by
  rcases loadN_inv σ b off n (.fail m) (fun l => bytesK l K) with ⟨e, c, z, len, g, l, hb, hn, hl, hkl⟩ | hbad
  · rw [hkl] at hk
    obtain ⟨zs, rfl, hk2⟩ := bytesK_inv l K hk
    rw [List.length_map] at hn
    obtain ⟨cs, fr, h1, h2, h3, h4, h5, h6⟩ := hm.blk b _ L hb hL
    have key : ∀ j, j < n → zs[j]?.getD 0 < 256 ∧ w.cell? ⟨L.c, L.sh + off + j, none⟩ = some (.int .u8 (zs[j]?.getD 0 : Nat)) := by
      intro j hj
      have hz : zs[j]? = some zs[j] := List.getElem?_eq_getElem (by omega)
      have hc := hl j (by omega)
      rw [List.getElem?_map, hz] at hc
      obtain ⟨v', a, r⟩ := h6 (off + j) _ hc
      rw [hz]
      change RelV μ (.n .u8 zs[j]) v' at r
      cases r with
      | n _ _ hx =>
        have hx : zs[j] < 256 := hx
        refine ⟨hx, ?_⟩
        rw [wrap_nn .u8 zs[j] hx rfl] at a
        unfold World.cell?
        simp only [h1]
        rw [Nat.add_assoc]
        exact a
    refine ⟨zs, hk2, hn, fun j => ?_, fun j hj => (key j hj).2⟩
    rcases Nat.lt_or_ge j n with q | q
    · exact (key j q).1
    · rw [List.getElem?_eq_none (by omega)]; decide
  · rw [hbad] at hk; cases hk
theorem slice_inv {μ : Mu} {b o n : Nat} {cap : Cap} {v : Value} (h : RelV μ (.sl b o n cap) v) : ∃ (L : Loc) (cap' off' : Nat), μ b = some L ∧ n < 9223372036854775808 ∧ n ≤ cap' ∧ (n ≠ 0 → off' = L.sh + o) ∧ v = .slice (some ⟨L.c, off', none⟩) n cap' := by
  cases h with
  | slk _ _ c e x y => exact ⟨_, _, _, e, by omega, x, fun _ => rfl, rfl⟩
  | slu _ _ _ c e x y z => exact ⟨_, _, _, e, y, x, fun _ => rfl, rfl⟩
  | sle _ o' _ e => exact ⟨_, _, o', e, by decide, Nat.le_refl _, fun h => absurd rfl h, rfl⟩
noncomputable def tabK (i : Nat) : Nat := Nat.land (Nat.shiftRight 12749536319551302420830055290731983042906869231766370170184255228463894984119587222357463453493748006886229547019502462691509165827871124329361635492757504 (Nat.mul 32 i)) 4294967295
theorem tabK_eq (i : Nat) (h : i < 16) : tabK i = tabN i := by
  have hi8 : i = 0 ∨ i = 1 ∨ i = 2 ∨ i = 3 ∨ i = 4 ∨ i = 5 ∨ i = 6 ∨ i = 7 ∨ i = 8 ∨ i = 9 ∨ i = 10 ∨ i = 11 ∨ i = 12 ∨ i = 13 ∨ i = 14 ∨ i = 15 := by omega
  rcases hi8 with rfl | rfl | rfl | rfl | rfl | rfl | rfl | rfl | rfl | rfl | rfl | rfl | rfl | rfl | rfl | rfl <;> rfl
noncomputable def crcK (l : List Nat) (r : Nat) (K : Nat → Out) : Out := List.rec (motive := fun _ => Nat → Out) (fun r => K r) (fun c _ ih r =>
  force (Nat.xor r c) fun a => force (Nat.xor (Nat.shiftRight a 4) (tabK (Nat.land a 15))) fun a => force (Nat.xor (Nat.shiftRight a 4) (tabK (Nat.land a 15))) ih) l r
theorem land15 (x : Nat) : Nat.land x 15 < 16 := by
  show x &&& 15 < 16
  rw [show (15 : Nat) = 2 ^ 4 - 1 from rfl, Nat.and_two_pow_sub_one_eq_mod]; exact Nat.mod_lt _ (by decide)
theorem crcK_eq (l : List Nat) : ∀ (r : Nat) (K : Nat → Out), crcK l r K = K (l.foldl crcB r) := by
  induction l with
  | nil => exact fun r K => rfl
  | cons c l ih =>
    intro r K
    show force (Nat.xor r c) (fun a => force (Nat.xor (Nat.shiftRight a 4) (tabK (Nat.land a 15))) fun a => force (Nat.xor (Nat.shiftRight a 4) (tabK (Nat.land a 15))) fun r => crcK l r K) = _
    rw [force_eq, force_eq, force_eq, ih, tabK_eq _ (land15 _), tabK_eq _ (land15 _), List.foldl_cons]
    have e : ∀ x : Nat, Nat.shiftRight x 4 = x / 16 := fun x => Nat.shiftRight_eq_div_pow x 4
    rw [e, e]; rfl
theorem crcN_fold (zs : List Nat) (r : Nat) : ∀ k, k ≤ zs.length → crcN zs r k = (zs.take k).foldl crcB r := by
  intro k
  induction k with
  | zero => intro _; rfl
  | succ k ih =>
    intro hk
    have hz : zs[k]? = some zs[k] := List.getElem?_eq_getElem (by omega)
    rw [List.take_add_one, List.foldl_append, hz]
    show crcB (crcN zs r k) (zs[k]?.getD 0) = _
    rw [ih (by omega), hz]; rfl
noncomputable def pMore (args : List V) (σ : St) (K : V → St → Out) : Out := match args with
  | [.n .u32 s, .sl b o n _] => loadN σ b o n (.fail 302) fun l => bytesK l fun l => force (Nat.xor 4294967295 s) fun r => crcK l r fun r => force (Nat.xor 4294967295 r) fun r => K (.n .u32 r) σ
  | _ => .fail 303
theorem pMore_ok {cx : Cx} (hP : cx.P = Tryz.prog) : FnOk cx pMore 106 := by
  intro args σ K x fr σ' hk μ w args' hm hG hl
  unfold pMore at hk
  split at hk
  · rename_i s b o n cap
    cases hl' : args'.toList with
    | nil => rw [hl'] at hl; cases hl
    | cons a1 l =>
      rw [hl'] at hl
      cases hl with | cons h1 hl =>
      cases hl with | @cons _ v2 _ _ h2 hl =>
      cases hl
      cases h1 with
      | n _ _ hs =>
        have hs : s < 4294967296 := hs
        obtain ⟨L, cap', off', hL, hn, _, hoff, rfl⟩ := slice_inv h2
        obtain ⟨zs, hk2, hlen, hz, hc⟩ := bytes_cells hm hL hk
        rw [force_eq, crcK_eq, force_eq] at hk2
        have hs0 : 4294967295 ^^^ s < 4294967296 := Nat.xor_lt_two_pow (n := 32) (by decide) hs
        have hf : Tryz.prog.funcs[106]? = some Tryz.f106 := Tryz.func106
        have hargs : args' = #[.int .u32 (s : Nat), .slice (some ⟨L.c, off', none⟩) n cap'] := by
          have := arr2 hl'
          rw [this, wrap_nn .u32 s hs rfl]
        have hw := more_walk s (4294967295 ^^^ s) L.c off' n cap' zs w (Lib.hid (xor_u32 4294967295 s (by decide) hs)) hs0 hn hz (hm.inb _ _ hL) (fun j hj => by
          have h0 : n ≠ 0 := by omega
          rw [hoff h0]; exact hc j hj)
        have e : crcN zs (4294967295 ^^^ s) n = zs.foldl crcB (Nat.xor 4294967295 s) := by
          rw [crcN_fold zs _ n (by omega), List.take_of_length_le (by omega)]; rfl
        have hlt := crcN_lt hz hs0 n
        have hr32 : 4294967295 ^^^ crcN zs (4294967295 ^^^ s) n < 4294967296 := Nat.xor_lt_two_pow (n := 32) (by decide) hlt
        rw [hP] at hm ⊢
        rw [hargs]
        obtain ⟨c, hb⟩ : ∃ c, Tryz.f106.body = some c := ⟨_, rfl⟩
        refine comes_calls hf (by decide +kernel) hb hm (v := .n .u32 (4294967295 ^^^ crcN zs (4294967295 ^^^ s) n)) ?_ hw ?_
        · have := RelV.n (μ := μ) .u32 (4294967295 ^^^ crcN zs (4294967295 ^^^ s) n) hr32
          rwa [wrap_nn .u32 _ hr32 rfl] at this
        · rw [e]; exact hk2
  · cases hk
end Ae
namespace Ae
open Go Go.Proofs Go.RowKit
theorem wrap_u64' (n : Nat) (h : n < 18446744073709551616) : IntKind.u64.wrap (n : Int) = n := by
  have : IntKind.u64.wrap (n : Int) = (n : Int) % 18446744073709551616 := by simp [IntKind.wrap, IntKind.bits, IntKind.signed]
  rw [this]; omega
theorem or_step (a z F : Nat) (FI : Int) (hFI : FI = (F : Int)) (ha : a < 18446744073709551616) (hz : z < 256) (hF : F ≤ 72057594037927936) :
    bits .or .u64 (a : Int) (IntKind.u64.wrap (IntKind.u64.wrap (z : Int) * FI)) = ((Nat.lor a (Nat.mul z F) : Nat) : Int) ∧ Nat.lor a (Nat.mul z F) < 18446744073709551616 := by
  have h1 : z * F < 18446744073709551616 := Nat.lt_of_le_of_lt (Nat.mul_le_mul (Nat.le_of_lt_succ hz) hF) (by decide)
  subst hFI
  rw [wrap_u64' z (by omega), ← Int.natCast_mul, wrap_u64' _ h1]
  exact ⟨bits_or_u64_nat a _ ha h1, Nat.or_lt_two_pow (n := 64) ha h1⟩
noncomputable def orK (l : List Nat) : Nat → Nat → (Nat → Out) → Out := List.rec (motive := fun _ => Nat → Nat → (Nat → Out) → Out) (fun _ a K => K a) (fun z _ ih m a K => force (Nat.lor a (Nat.mul z m)) fun a => force (Nat.mul m 256) fun m => ih m a K) l
theorem le8_eq (zs : List Nat) (h : ∀ j : Nat, zs[j]?.getD 0 < 256) : ∃ r : Nat, le8 zs 8 = (r : Int) ∧ r < 18446744073709551616 ∧ r = Nat.lor (Nat.lor (Nat.lor (Nat.lor (Nat.lor (Nat.lor (Nat.lor (Nat.lor (0) (Nat.mul (zs[0]?.getD 0) 1)) (Nat.mul (zs[1]?.getD 0) 256)) (Nat.mul (zs[2]?.getD 0) 65536)) (Nat.mul (zs[3]?.getD 0) 16777216)) (Nat.mul (zs[4]?.getD 0) 4294967296)) (Nat.mul (zs[5]?.getD 0) 1099511627776)) (Nat.mul (zs[6]?.getD 0) 281474976710656)) (Nat.mul (zs[7]?.getD 0) 72057594037927936) := by
  obtain ⟨e1, b1⟩ := or_step 0 (zs[0]?.getD 0) 1 1 rfl (by decide) (h 0) (by decide)
  obtain ⟨e2, b2⟩ := or_step _ (zs[1]?.getD 0) 256 256 rfl b1 (h 1) (by decide)
  obtain ⟨e3, b3⟩ := or_step _ (zs[2]?.getD 0) 65536 65536 rfl b2 (h 2) (by decide)
  obtain ⟨e4, b4⟩ := or_step _ (zs[3]?.getD 0) 16777216 16777216 rfl b3 (h 3) (by decide)
  obtain ⟨e5, b5⟩ := or_step _ (zs[4]?.getD 0) 4294967296 4294967296 rfl b4 (h 4) (by decide)
  obtain ⟨e6, b6⟩ := or_step _ (zs[5]?.getD 0) 1099511627776 1099511627776 rfl b5 (h 5) (by decide)
  obtain ⟨e7, b7⟩ := or_step _ (zs[6]?.getD 0) 281474976710656 281474976710656 rfl b6 (h 6) (by decide)
  obtain ⟨e8, b8⟩ := or_step _ (zs[7]?.getD 0) 72057594037927936 72057594037927936 rfl b7 (h 7) (by decide)
  rw [Int.mul_one] at e1
  have f0 : le8 zs 0 = ((0 : Nat) : Int) := by simp only [le8]; rfl
  have f1 := (le8_1 zs).trans ((congrArg (fun q => bits .or .u64 q _) f0).trans e1)
  have f2 := (le8_2 zs).trans ((congrArg (fun q => bits .or .u64 q _) f1).trans e2)
  have f3 := (le8_3 zs).trans ((congrArg (fun q => bits .or .u64 q _) f2).trans e3)
  have f4 := (le8_4 zs).trans ((congrArg (fun q => bits .or .u64 q _) f3).trans e4)
  have f5 := (le8_5 zs).trans ((congrArg (fun q => bits .or .u64 q _) f4).trans e5)
  have f6 := (le8_6 zs).trans ((congrArg (fun q => bits .or .u64 q _) f5).trans e6)
  have f7 := (le8_7 zs).trans ((congrArg (fun q => bits .or .u64 q _) f6).trans e7)
  have f8 := (le8_8 zs).trans ((congrArg (fun q => bits .or .u64 q _) f7).trans e8)
  exact ⟨_, f8, b8, rfl⟩
theorem le8_ok (z0 z1 z2 z3 z4 z5 z6 z7 : Nat) (h : ∀ j : Nat, [z0, z1, z2, z3, z4, z5, z6, z7][j]?.getD 0 < 256) : ∃ r : Nat, le8 [z0, z1, z2, z3, z4, z5, z6, z7] 8 = (r : Int) ∧ r < 18446744073709551616 ∧ ∀ K, orK [z0, z1, z2, z3, z4, z5, z6, z7] 1 0 K = K r := by
  obtain ⟨r, h1, h2, h3⟩ := le8_eq _ h
  refine ⟨r, h1, h2, fun K => ?_⟩
  rw [h3]
  unfold orK
  simp only [force_eq]
  rfl
noncomputable def pGet (args : List V) (σ : St) (K : V → St → Out) : Out := match args with
  | [.sl b o n _] => ifb (Nat.blt n 8) (K (.t [.n .u64 0, .b false]) σ) (loadN σ b o 8 (.fail 304) fun l => bytesK l fun l => orK l 1 0 fun r => K (.t [.n .u64 r, .b true]) σ)
  | [.sl0] => K (.t [.n .u64 0, .b false]) σ
  | _ => .fail 305
theorem u64_val (μ : Mu) (r : Nat) (h : r < 18446744073709551616) : RelV μ (.n .u64 r) (.int .u64 (r : Nat)) := by
  have := RelV.n (μ := μ) .u64 r h
  rwa [wrap_nn .u64 r h rfl] at this
theorem eight {l : List Nat} (h : l.length = 8) : ∃ a b c d e f g i, l = [a, b, c, d, e, f, g, i] := by
  match l, h with
  | [a, b, c, d, e, f, g, i], _ => exact ⟨a, b, c, d, e, f, g, i, rfl⟩
theorem pGet_ok {cx : Cx} (hP : cx.P = Tryz.prog) : FnOk cx pGet 70 := by
  intro args σ K x fr σ' hk μ w args' hm hG hl
  have hf : Tryz.prog.funcs[70]? = some Tryz.f70 := Tryz.func70
  obtain ⟨c, hb⟩ : ∃ c, Tryz.f70.body = some c := ⟨_, rfl⟩
  have short : ∀ a n cap', n < 8 → args' = #[.slice a n cap'] → K (.t [.n .u64 0, .b false]) σ = .done x fr σ' → Comes1 cx.P (callFunc 70 args') μ σ w fun v σ1 => K v σ1 = .done x fr σ' := by
    intro a n cap' hn ha hk
    rw [hP] at hm ⊢
    rw [ha]
    exact comes_calls hf (by decide +kernel) hb hm (v := .t [.n .u64 0, .b false]) (.t (vs' := #[.int .u64 0, .bool false]) (.cons (u64_val μ 0 (by decide)) (.cons (.b false) .nil))) ((get64_short a n cap' w hn).mono fun e w1 he => ⟨he.1, he.2 ▸ Below.refl _ _⟩) hk
  unfold pGet at hk
  split at hk
  · rename_i b o n cap
    cases hl' : args'.toList with
    | nil => rw [hl'] at hl; cases hl
    | cons a1 l =>
      rw [hl'] at hl
      cases hl with | cons h2 hl =>
      cases hl
      obtain ⟨L, cap', off', hL, hn, hcap, hoff, rfl⟩ := slice_inv h2
      rw [ifb_eq] at hk
      split at hk
      · rename_i hlt
        exact short _ n cap' (by simpa using hlt) (arr1 hl') hk
      · rename_i hlt
        have hn8 : 8 ≤ n := by
          rcases Nat.lt_or_ge n 8 with q | q
          · exact absurd (by simpa using q) hlt
          · exact q
        obtain ⟨zs, hk2, hlen, hz, hc⟩ := bytes_cells hm hL hk
        obtain ⟨z0, z1, z2, z3, z4, z5, z6, z7, rfl⟩ := eight hlen
        obtain ⟨r, e1, e2, e3⟩ := le8_ok z0 z1 z2 z3 z4 z5 z6 z7 hz
        rw [e3] at hk2
        have hw := get64 L.c off' n cap' [z0, z1, z2, z3, z4, z5, z6, z7] w hn8 (by omega) (fun j hj => by rw [hoff (by omega)]; exact hc j hj)
        rw [e1] at hw
        rw [hP] at hm ⊢
        rw [arr1 hl']
        exact comes_calls hf (by decide +kernel) hb hm (v := .t [.n .u64 r, .b true]) (.t (vs' := #[.int .u64 (r : Nat), .bool true]) (.cons (u64_val μ r e2) (.cons (.b true) .nil))) (hw.mono fun e w1 he => ⟨he.1, he.2 ▸ Below.refl _ _⟩) hk2
  · cases hl' : args'.toList with
    | nil => rw [hl'] at hl; cases hl
    | cons a1 l =>
      rw [hl'] at hl
      cases hl with | cons h2 hl =>
      cases hl
      cases h2
      exact short none 0 0 (by decide) (arr1 hl') hk
  · cases hk
end Ae
namespace Ae
open Go
noncomputable def konstK (args : List V) (n0 : Nat) (val : V) (news : List Blk) (fb : List V → St → (V → St → Out) → Out) (ags : List V) (σ : St) (K : V → St → Out) : Out :=
  ifb (sameL (same 12) args ags) (ifb (Nat.ble n0 σ.next) (St.rec (fun h next => newsK (gOf (fun b => b) n0 next) news next h fun h n => cpV (ren (gOf (fun b => b) n0 next) val) fun v => K v ⟨h, n⟩) σ) (.fail 344)) (fb ags σ K)
theorem konstK_ok {cx : Cx} {f : Nat} {m : Memo} {fb : List V → St → (V → St → Out) → Out} (hM : MemoOk cx.P cx.globs f (unM m)) (hfb : FnOk cx fb f) {args : List V} {n0 : Nat} {val : V} {news : List Blk}
    (h1 : (unM m).args = args) (h2 : (unM m).pre.length = n0) (h3 : deadL (unM m).pre = true) (h4 : (unM m).chg = []) (h5 : (unM m).val = val) (h6 : (unM m).news = news) : FnOk cx (konstK args n0 val news fb) f := by
  intro ags σ K x fr σ' hk μ w args' hm hG hl
  unfold konstK at hk
  rw [ifb_eq] at hk
  split at hk
  · rename_i ha
    obtain ⟨b2, hk⟩ := ifb_inv hk
    have b2 : n0 ≤ σ.next := Nat.le_of_ble_eq_true b2
    have hd := deadL_ok _ h3
    have hk2 : applyK (unM m) (fun b => b) σ K = .done x fr σ' := by
      rw [← hk]
      unfold applyK
      rw [force_eq, lenL_eq, h2, h4, h5, h6]
      rfl
    refine memo_apply hM (fun k x hk => ⟨?_, fun hx => absurd hx (hd k x hk)⟩) (fun k k' x x' h1 h2 h3 h4 h5 => absurd h3 (hd k x h1)) ?_ (fun _ _ => rfl) hk2 hm hG hl
    · rcases Nat.lt_or_ge k (unM m).pre.length with q | q
      · omega
      · rw [List.getElem?_eq_none q] at hk; cases hk
    · rw [renL_id fun v hv => ren_id (dom := fun c => Nat.blt c (unM m).pre.length) (fun _ _ => rfl) v (okL_mem hM.1.args v hv), h1]
      exact sameL_eq (same_eq 12) _ _ ha
  · exact hfb hk hm hG hl
end Ae
namespace Ae
open Go
noncomputable def cntL (c : Nat) (l : List Nat) : Nat := List.rec 0 (fun x _ ih => ifb (Nat.beq x c) (Nat.succ ih) ih) l
noncomputable def pCount : List V → St → (V → St → Out) → Out := fun args σ K => match args with
  | [.s l, .n .u8 c] => force (cntL c l) fun n => K (.n .i64 n) σ
  | _ => .fail 326
theorem cntL_eq (c : Nat) (hc : c < 256) : ∀ l : List UInt8, cntL c (l.map UInt8.toNat) = Go.Lib.countByte l c.toUInt8 := by
  intro l
  induction l with
  | nil => rfl
  | cons x l ih =>
    show ifb (Nat.beq x.toNat c) (Nat.succ (cntL c (l.map UInt8.toNat))) (cntL c (l.map UInt8.toNat)) = _
    unfold Go.Lib.countByte at ih ⊢
    rw [List.count_cons, ih, ifb_eq]
    have he : (x == c.toUInt8) = Nat.beq x.toNat c := by
      rw [Bool.eq_iff_iff, beq_iff_eq, Nat.beq_eq]
      constructor
      · intro h; rw [h]; show (UInt8.ofNat c).toNat = c; simp; omega
      · intro h; rw [← UInt8.toNat_inj, h]; show c = (UInt8.ofNat c).toNat; simp; omega
    rw [he]
    cases Nat.beq x.toNat c <;> simp
theorem pCount_ok {cx : Cx} {f : Nat} {fn : Func} (hf : cx.P.funcs[f]? = some fn) (hname : (fn.name == "runtime.NumGoroutine") = false) (hb : fn.body.isNone = true) (hn : Extern.findNext fn = none) (he : Extern.find fn = some Extern.BytealgCount.count) : FnOk cx pCount f := by
  refine extern_ok hf hname hb hn he fun {args σ K x fr σ'} hk {μ args'} w hl => ?_
  unfold pCount at hk
  split at hk
  · rename_i l c
    cases hl' : args'.toList with
    | nil => rw [hl'] at hl; cases hl
    | cons a l2 =>
      rw [hl'] at hl
      cases hl with | cons h1 hl =>
      cases hl with | cons h2 hl =>
      cases hl
      rw [force_eq] at hk
      generalize hv : V.s l = v at h1
      cases h1 with
      | s bs hbs =>
        injection hv with hv
        subst hv
        cases h2 with
        | n _ _ hc =>
          have hc : c < 256 := hc
          have hw : IntKind.u8.wrap (c : Int) = c := wrap_nn .u8 c hc rfl
          have hrun := Go.Lib.run_countString (P := cx.P) bs (c : Int) w
          rw [cntL_eq c hc] at hk
          refine ⟨_, _, hk, ?_, by rw [arr2 hl', hw, hrun, Int.toNat_natCast]⟩
          refine rel_len μ ?_
          unfold Go.Lib.countByte
          have h1 := List.count_le_length (a := c.toUInt8) (l := bs.data.toList)
          have h2 : bs.data.toList.length = bs.size := by rw [Array.length_toList]; rfl
          omega
      | _ => cases hv
  · cases hk
end Ae
namespace Ae
open Go Go.Proofs Go.RowKit
def hdC (c : Code) : Code := match c with | .seq a _ => a | c => c
def tlC (c : Code) : Code := match c with | .seq _ b => b | c => c
noncomputable def b198 : Code := match Tryz.f530.body with | some c => c | none => .skip
noncomputable def loop198 : Code := tlC (hdC (tlC (tlC (tlC b198))))
theorem b198_eq : b198 = .seq (hdC b198) (.seq (hdC (tlC b198)) (.seq (hdC (tlC (tlC b198))) (.seq (.seq (hdC (hdC (tlC (tlC (tlC b198))))) loop198) (tlC (tlC (tlC (tlC b198))))))) := by kernel_rfl
theorem write1 (i : Nat) (b sb off len cap so : Nat) (z : Nat) (w : World) (hz : z < 256) (hi : i < len) (hs : w.cell? ⟨sb, so, none⟩ = some (.slice (some ⟨b, off, none⟩) len cap)) (hc : w.cell? ⟨b, off + i, none⟩ = some (.int .u8 (z : Nat))) :
    Calls Tryz.prog 427 #[.int .i64 i, .pointer (some ⟨sb, so, none⟩)] w fun e w' => e = .returned (.int .u8 (z : Nat)) ∧ w = w' := by
  go_enter Tryz.func427, Tryz.ntmps427
  go_wp2
  go_ret
  exact ⟨rfl, rfl⟩
theorem fill1 (i : Int) (sb so : Nat) (z : Nat) (w : World) (hs : w.cell? ⟨sb, so, none⟩ = some (.int .u8 (z : Nat))) :
    Calls Tryz.prog 428 #[.int .i64 i, .pointer (some ⟨sb, so, none⟩)] w fun e w' => e = .returned (.int .u8 (z : Nat)) ∧ w = w' := by
  go_enter Tryz.func428, Tryz.ntmps428
  go_wp2
  go_ret
  exact ⟨rfl, rfl⟩
structure Pg (w W : World) (pg a k : Nat) (cs : Array Value) (e : Nat) (fr : Nat × Nat) (zs : List Nat) : Prop where
  os : W.os = w.os
  tape : W.tape = w.tape
  output : W.output = w.output
  size : W.heap.size = w.heap.size
  other : ∀ c, c ≠ pg → W.heap[c]? = w.heap[c]?
  page : ∃ cs' : Array Value, W.heap[pg]? = some (.cells cs' e fr) ∧ cs'.size = cs.size ∧ ∀ j, cs'[j]? = if a ≤ j ∧ j < a + k then some (.int .u8 (zs[j - a]?.getD 0 : Nat)) else cs[j]?
theorem Pg.cell {w W : World} {pg a k : Nat} {cs : Array Value} {e : Nat} {fr : Nat × Nat} {zs : List Nat} (h : Pg w W pg a k cs e fr zs) {p : Addr} (hp : p.block ≠ pg) : W.cell? p = w.cell? p := by
  unfold World.cell?
  rw [h.other _ hp]
theorem Pg.step {w W : World} {pg a k : Nat} {cs : Array Value} {e : Nat} {fr : Nat × Nat} {zs : List Nat} (h : Pg w W pg a k cs e fr zs) (hk : a + k < cs.size) :
    Pg w (W.setCell ⟨pg, a + k, none⟩ (.int .u8 (zs[k]?.getD 0 : Nat))) pg a (k + 1) cs e fr zs := by
  obtain ⟨cs', h1, h2, h3⟩ := h.page
  have hlt : pg < W.heap.size := by
    rcases Nat.lt_or_ge pg W.heap.size with q | q
    · exact q
    · rw [Array.getElem?_eq_none q] at h1; cases h1
  refine ⟨h.os, h.tape, h.output, ?_, fun c hc => ?_, cs'.setIfInBounds (a + k) (.int .u8 (zs[k]?.getD 0 : Nat)), ?_, by simpa using h2, fun j => ?_⟩
  · rw [← h.size]; simp [World.setCell]
  · rw [← h.other c hc]
    simp only [World.setCell, Array.getElem?_modify]
    rw [if_neg (fun e => hc e.symm)]
  · simp only [World.setCell, Array.getElem?_modify, if_true, h1]
    rfl
  · rw [Array.getElem?_setIfInBounds, h3 j]
    by_cases hj : a + k = j
    · subst hj
      rw [if_pos rfl, if_pos (by omega), if_pos (by omega), show a + k - a = k by omega]
    · rw [if_neg hj]
      by_cases hj2 : a ≤ j ∧ j < a + k
      · rw [if_pos hj2, if_pos (by omega)]
      · rw [if_neg hj2, if_neg (by omega)]
theorem zbeq (z : Nat) : (((z : Nat) : Int) == 0) = (z == 0) := by
  rw [Bool.eq_iff_iff, beq_iff_eq, beq_iff_eq]; omega
def anyN (zs : List Nat) : Nat → Bool
  | 0 => false
  | k + 1 => (anyN zs k || (zs[k]?.getD 0 == 0))
set_option maxRecDepth 100000 in
set_option maxHeartbeats 1000000 in
theorem lay_write (a at_ n cf of_ pg po sb so bb off len cap : Nat) (v0 v2 v4 v6 v7 v8 v9 v11 v13 v14 v15 v16 v17 v18 v19 v20 v21 v22 v23 v24 v25 v26 v29 v30 v31 v32 v33 v34 v35 v36 v37 v38 v39 v40 v41 v42 v43 v44 v45 v46 v47 v48 v49 v50 v51 v52 v53 v54 v55 v56 v57 v58 v59 v60 v61 v62 v63 v64 v65 v66 v67 v68 v69 v70 v71 v72 v73 v74 v75 v76 : Value) (dd : List Deferred) (zs : List Nat) (w : World) (cs : Array Value) (e : Nat) (fr : Nat × Nat) (Q : Exit → Act → World → Prop)
    (hpage : w.heap[pg]? = some (.cells cs e fr)) (hsz : po + 4096 ≤ cs.size) (h4 : a + n ≤ 4096) (hfz : ∀ j, j < cs.size → ¬ (fr.1 ≤ j ∧ j < fr.2))
    (hn : n < 9223372036854775808) (hat : at_ + n ≤ len) (hlen : len < 9223372036854775808) (n1 : cf ≠ pg) (n2 : sb ≠ pg) (n3 : bb ≠ pg)
    (hcf : w.cell? ⟨cf, of_, none⟩ = some (.func (.func 427) #[] #[.pointer (some ⟨sb, so, none⟩)])) (hsb : w.cell? ⟨sb, so, none⟩ = some (.slice (some ⟨bb, off, none⟩) len cap))
    (hz : ∀ j : Nat, zs[j]?.getD 0 < 256) (hb : ∀ j : Nat, j < n → w.cell? ⟨bb, off + (at_ + j), none⟩ = some (.int .u8 (zs[j]?.getD 0 : Nat)))
    (hQ : ∀ (u13 u30 u31 u32 u33 u34 u35 u36 u37 u38 u39 u40 u41 u42 u43 u44 u45 u46 u47 u48 u49 u50 u51 u52 u53 : Value) (wr : World), Pg w wr pg (po + a) n cs e fr zs → Q .normal { tmps := #[v0, .int .i64 (a : Nat), v2, .int .i64 (at_ : Nat), v4, .pointer (some ⟨cf, of_, none⟩), v6, v7, v8, v9, .pointer (some ⟨pg, po, none⟩), v11, .bool (anyN zs n), u13, v14, v15, v16, v17, v18, v19, v20, v21, v22, v23, v24, v25, v26, .int .i64 (n : Nat), .int .i64 (n : Nat), .bool false, u30, u31, u32, u33, u34, u35, u36, u37, u38, u39, u40, u41, u42, u43, u44, u45, u46, u47, u48, u49, u50, u51, u52, u53, v54, v55, v56, v57, v58, v59, v60, v61, v62, v63, v64, v65, v66, v67, v68, v69, v70, v71, v72, v73, v74, v75, v76], defers := dd } wr) :
    loop198.wp Tryz.prog Q { tmps := #[v0, .int .i64 (a : Nat), v2, .int .i64 (at_ : Nat), v4, .pointer (some ⟨cf, of_, none⟩), v6, v7, v8, v9, .pointer (some ⟨pg, po, none⟩), v11, .bool false, v13, v14, v15, v16, v17, v18, v19, v20, v21, v22, v23, v24, v25, v26, .int .i64 (n : Nat), .int .i64 0, v29, v30, v31, v32, v33, v34, v35, v36, v37, v38, v39, v40, v41, v42, v43, v44, v45, v46, v47, v48, v49, v50, v51, v52, v53, v54, v55, v56, v57, v58, v59, v60, v61, v62, v63, v64, v65, v66, v67, v68, v69, v70, v71, v72, v73, v74, v75, v76], defers := dd } w := by
  have hQ' := Lib.hid hQ
  clear hQ
  unfold loop198 b198
  simp only [Tryz.f530, hdC, tlC]
  go_wp2
  go_loopw [12, 28] (fun fl i wr => ∃ k : Nat, k ≤ n ∧ i = .int .i64 k ∧ fl = .bool (anyN zs k) ∧ Pg w wr pg (po + a) k cs e fr zs) (fun _ i _ => (n - intOf i).toNat)
  case atStart => exact ⟨0, by omega, rfl, rfl, ⟨rfl, rfl, rfl, rfl, fun _ _ => rfl, cs, hpage, rfl, fun j => by rw [if_neg (by omega)]⟩⟩
  case round =>
    obtain ⟨k, hk, rfl, rfl, hP⟩ := hrel
    by_cases hlt : k < n
    · have hcell := hP.cell (p := ⟨cf, of_, none⟩) n1
      rw [hcf] at hcell
      have hs1 : IntKind.i64.wrap ((at_ : Int) + (k : Int)) = (at_ : Int) + (k : Int) := IntWalk.i64_in _ (by omega)
      have hs2 : IntKind.i64.wrap ((a : Int) + (k : Int)) = (a : Int) + (k : Int) := IntWalk.i64_in _ (by omega)
      have h00 : 0 ≤ (a : Int) + (k : Int) := by omega
      have h40 : (a : Int) + (k : Int) < 4096 := by omega
      have htn : ((a : Int) + (k : Int)).toNat = a + k := by omega
      have hw1 : Calls Tryz.prog 427 #[.int .i64 ((at_ : Int) + (k : Int)), .pointer (some ⟨sb, so, none⟩)] wr.drew fun e w'' => e = .returned (.int .u8 (zs[k]?.getD 0 : Nat)) ∧ w'' = wr.drew := by
        have h := write1 (at_ + k) bb sb off len cap so (zs[k]?.getD 0) wr.drew (hz k) (by omega) ((hP.cell (p := ⟨sb, so, none⟩) n2).trans hsb) ((hP.cell (p := ⟨bb, off + (at_ + k), none⟩) n3).trans (hb k hlt))
        rw [Int.natCast_add] at h
        exact h.mono fun e w' he => ⟨he.1, he.2.symm⟩
      go_wp2
      go_still_tail 11, (by kernel_rfl)
      still_call hw1
      repeat still_step
      try refine wpStill_nil ?_
      change wpList _ _ _ _ _ wr.drew
      have hP2 : Pg w wr.drew pg (po + a) k cs e fr zs := ⟨hP.os, hP.tape, hP.output, hP.size, hP.other, hP.page⟩
      clear hw1 hcell hP
      generalize wr.drew = w2 at hP2
      obtain ⟨old, hold⟩ : ∃ old, w2.cell? ⟨pg, po + (a + k), none⟩ = some old := by
        obtain ⟨cs', h1, h2, h3⟩ := hP2.page
        refine ⟨cs'[po + (a + k)]'(by omega), ?_⟩
        unfold World.cell?
        simp only [h1]
        exact Array.getElem?_eq_getElem _
      have hfz2 : w2.frozen? ⟨pg, po + (a + k), none⟩ = false := by
        obtain ⟨cs', h1, h2, h3⟩ := hP2.page
        unfold World.frozen?
        simp only [h1]
        have := hfz (po + (a + k)) (by omega)
        simpa using this
      have hP3 := Lib.hid hP2
      clear hP2 hfz hpage hcf hsb hb
      by_cases hany : anyN zs k = true
      · go_wp2
        go_round
        case rel => exact ⟨k + 1, by omega, by go_num, by simp only [anyN, hany, Bool.true_or], by rw [← Nat.add_assoc]; exact hP3.out.step (by omega)⟩
        case measure => simp [intOf]; omega
      · have hany : anyN zs k = false := by simpa using hany
        go_wp2
        go_round
        case rel => exact ⟨k + 1, by omega, by go_num, by simp only [anyN, hany, Bool.false_or, zbeq], by rw [← Nat.add_assoc]; exact hP3.out.step (by omega)⟩
        case measure => simp [intOf]; omega
    · have : k = n := by omega
      subst this
      go_wp2
      exact hQ'.out _ _ _ _ _ _ _ _ _ _ _ _ _ _ _ _ _ _ _ _ _ _ _ _ _ _ hP
end Ae
namespace Ae
open Go Go.Proofs Go.RowKit
set_option maxRecDepth 100000 in
set_option maxHeartbeats 1000000 in
theorem lay_fill (a at_ n cf of_ pg po sb so z0 : Nat) (v0 v2 v4 v6 v7 v8 v9 v11 v13 v14 v15 v16 v17 v18 v19 v20 v21 v22 v23 v24 v25 v26 v29 v30 v31 v32 v33 v34 v35 v36 v37 v38 v39 v40 v41 v42 v43 v44 v45 v46 v47 v48 v49 v50 v51 v52 v53 v54 v55 v56 v57 v58 v59 v60 v61 v62 v63 v64 v65 v66 v67 v68 v69 v70 v71 v72 v73 v74 v75 v76 : Value) (dd : List Deferred) (zs : List Nat) (w : World) (cs : Array Value) (e : Nat) (fr : Nat × Nat) (Q : Exit → Act → World → Prop)
    (hpage : w.heap[pg]? = some (.cells cs e fr)) (hsz : po + 4096 ≤ cs.size) (h4 : a + n ≤ 4096) (hfz : ∀ j, j < cs.size → ¬ (fr.1 ≤ j ∧ j < fr.2))
    (hn : n < 9223372036854775808) (hat : at_ + n < 9223372036854775808) (n1 : cf ≠ pg) (n2 : sb ≠ pg)
    (hcf : w.cell? ⟨cf, of_, none⟩ = some (.func (.func 428) #[] #[.pointer (some ⟨sb, so, none⟩)])) (hsb : w.cell? ⟨sb, so, none⟩ = some (.int .u8 (z0 : Nat)))
    (hb : ∀ j : Nat, j < n → zs[j]?.getD 0 = z0)
    (hQ : ∀ (u13 u30 u31 u32 u33 u34 u35 u36 u37 u38 u39 u40 u41 u42 u43 u44 u45 u46 u47 u48 u49 u50 u51 u52 u53 : Value) (wr : World), Pg w wr pg (po + a) n cs e fr zs → Q .normal { tmps := #[v0, .int .i64 (a : Nat), v2, .int .i64 (at_ : Nat), v4, .pointer (some ⟨cf, of_, none⟩), v6, v7, v8, v9, .pointer (some ⟨pg, po, none⟩), v11, .bool (anyN zs n), u13, v14, v15, v16, v17, v18, v19, v20, v21, v22, v23, v24, v25, v26, .int .i64 (n : Nat), .int .i64 (n : Nat), .bool false, u30, u31, u32, u33, u34, u35, u36, u37, u38, u39, u40, u41, u42, u43, u44, u45, u46, u47, u48, u49, u50, u51, u52, u53, v54, v55, v56, v57, v58, v59, v60, v61, v62, v63, v64, v65, v66, v67, v68, v69, v70, v71, v72, v73, v74, v75, v76], defers := dd } wr) :
    loop198.wp Tryz.prog Q { tmps := #[v0, .int .i64 (a : Nat), v2, .int .i64 (at_ : Nat), v4, .pointer (some ⟨cf, of_, none⟩), v6, v7, v8, v9, .pointer (some ⟨pg, po, none⟩), v11, .bool false, v13, v14, v15, v16, v17, v18, v19, v20, v21, v22, v23, v24, v25, v26, .int .i64 (n : Nat), .int .i64 0, v29, v30, v31, v32, v33, v34, v35, v36, v37, v38, v39, v40, v41, v42, v43, v44, v45, v46, v47, v48, v49, v50, v51, v52, v53, v54, v55, v56, v57, v58, v59, v60, v61, v62, v63, v64, v65, v66, v67, v68, v69, v70, v71, v72, v73, v74, v75, v76], defers := dd } w := by
  have hQ' := Lib.hid hQ
  have hb' := Lib.hid hb
  clear hQ hb
  unfold loop198 b198
  simp only [Tryz.f530, hdC, tlC]
  go_wp2
  go_loopw [12, 28] (fun fl i wr => ∃ k : Nat, k ≤ n ∧ i = .int .i64 k ∧ fl = .bool (anyN zs k) ∧ Pg w wr pg (po + a) k cs e fr zs) (fun _ i _ => (n - intOf i).toNat)
  case atStart => exact ⟨0, by omega, rfl, rfl, ⟨rfl, rfl, rfl, rfl, fun _ _ => rfl, cs, hpage, rfl, fun j => by rw [if_neg (by omega)]⟩⟩
  case round =>
    obtain ⟨k, hk, rfl, rfl, hP⟩ := hrel
    by_cases hlt : k < n
    · have hcell := hP.cell (p := ⟨cf, of_, none⟩) n1
      rw [hcf] at hcell
      have hs1 : IntKind.i64.wrap ((at_ : Int) + (k : Int)) = (at_ : Int) + (k : Int) := IntWalk.i64_in _ (by omega)
      have hs2 : IntKind.i64.wrap ((a : Int) + (k : Int)) = (a : Int) + (k : Int) := IntWalk.i64_in _ (by omega)
      have h00 : 0 ≤ (a : Int) + (k : Int) := by omega
      have h40 : (a : Int) + (k : Int) < 4096 := by omega
      have htn : ((a : Int) + (k : Int)).toNat = a + k := by omega
      have hw1 : Calls Tryz.prog 428 #[.int .i64 ((at_ : Int) + (k : Int)), .pointer (some ⟨sb, so, none⟩)] wr.drew fun e w'' => e = .returned (.int .u8 (zs[k]?.getD 0 : Nat)) ∧ w'' = wr.drew := by
        have h := fill1 ((at_ : Int) + (k : Int)) sb so z0 wr.drew ((hP.cell (p := ⟨sb, so, none⟩) n2).trans hsb)
        rw [hb'.out k hlt]
        exact h.mono fun e w' he => ⟨he.1, he.2.symm⟩
      go_wp2
      go_still_tail 11, (by kernel_rfl)
      still_call hw1
      repeat still_step
      try refine wpStill_nil ?_
      change wpList _ _ _ _ _ wr.drew
      have hP2 : Pg w wr.drew pg (po + a) k cs e fr zs := ⟨hP.os, hP.tape, hP.output, hP.size, hP.other, hP.page⟩
      clear hw1 hcell hP
      generalize wr.drew = w2 at hP2
      obtain ⟨old, hold⟩ : ∃ old, w2.cell? ⟨pg, po + (a + k), none⟩ = some old := by
        obtain ⟨cs', h1, h2, h3⟩ := hP2.page
        refine ⟨cs'[po + (a + k)]'(by omega), ?_⟩
        unfold World.cell?
        simp only [h1]
        exact Array.getElem?_eq_getElem _
      have hfz2 : w2.frozen? ⟨pg, po + (a + k), none⟩ = false := by
        obtain ⟨cs', h1, h2, h3⟩ := hP2.page
        unfold World.frozen?
        simp only [h1]
        have := hfz (po + (a + k)) (by omega)
        simpa using this
      have hP3 := Lib.hid hP2
      clear hP2 hfz hpage hcf hsb
      by_cases hany : anyN zs k = true
      · go_wp2
        go_round
        case rel => exact ⟨k + 1, by omega, by go_num, by simp only [anyN, hany, Bool.true_or], by rw [← Nat.add_assoc]; exact hP3.out.step (by omega)⟩
        case measure => simp [intOf]; omega
      · have hany : anyN zs k = false := by simpa using hany
        go_wp2
        go_round
        case rel => exact ⟨k + 1, by omega, by go_num, by simp only [anyN, hany, Bool.false_or, zbeq], by rw [← Nat.add_assoc]; exact hP3.out.step (by omega)⟩
        case measure => simp [intOf]; omega
    · have : k = n := by omega
      subst this
      go_wp2
      exact hQ'.out _ _ _ _ _ _ _ _ _ _ _ _ _ _ _ _ _ _ _ _ _ _ _ _ _ _ hP
end Ae
namespace Ae
open Go Go.Proofs Go.RowKit
theorem list_eta (d : Value) (n : Nat) (l : List Value) (h : l.length = n) : l = (List.range n).map fun i => l.getD i d := by
  apply List.ext_getElem (by simpa using h)
  intro i h1 h2
  simp [List.getD, List.getElem?_eq_getElem h1]
set_option maxRecDepth 10000 in
theorem arr77 (t : Array Value) (h : t.size = 77) : ∃ f : Nat → Value, t = #[f 0, f 1, f 2, f 3, f 4, f 5, f 6, f 7, f 8, f 9, f 10, f 11, f 12, f 13, f 14, f 15, f 16, f 17, f 18, f 19, f 20, f 21, f 22, f 23, f 24, f 25, f 26, f 27, f 28, f 29, f 30, f 31, f 32, f 33, f 34, f 35, f 36, f 37, f 38, f 39, f 40, f 41, f 42, f 43, f 44, f 45, f 46, f 47, f 48, f 49, f 50, f 51, f 52, f 53, f 54, f 55, f 56, f 57, f 58, f 59, f 60, f 61, f 62, f 63, f 64, f 65, f 66, f 67, f 68, f 69, f 70, f 71, f 72, f 73, f 74, f 75, f 76] := by
  refine ⟨fun i => t.toList.getD i Go.undef, ?_⟩
  apply Array.ext'
  exact list_eta Go.undef 77 t.toList (by simpa using h)
theorem pg_world {w W : World} {pg a k : Nat} {cs : Array Value} {e : Nat} {fr : Nat × Nat} {zs : List Nat} (h : Pg w W pg a k cs e fr zs) : ∃ cs' : Array Value, W = { w with heap := w.heap.setIfInBounds pg (.cells cs' e fr), drawn := W.drawn } ∧ cs'.size = cs.size ∧
    ∀ j, cs'[j]? = if a ≤ j ∧ j < a + k then some (.int .u8 (zs[j - a]?.getD 0 : Nat)) else cs[j]? := by
  obtain ⟨cs', h1, h2, h3⟩ := h.page
  refine ⟨cs', ?_, h2, h3⟩
  have hlt : pg < W.heap.size := by
    rcases Nat.lt_or_ge pg W.heap.size with q | q
    · exact q
    · rw [Array.getElem?_eq_none q] at h1; cases h1
  have hh : W.heap = w.heap.setIfInBounds pg (.cells cs' e fr) := by
    apply Array.ext_getElem?
    intro c
    rw [Array.getElem?_setIfInBounds]
    by_cases hc : pg = c
    · subst hc
      rw [if_pos rfl, if_pos (by rw [← h.size]; exact hlt), h1]
    · rw [if_neg hc, h.other c (fun e => hc e.symm)]
  obtain ⟨hp, tp, dr, os, out⟩ := W
  have e1 := h.os
  have e2 := h.tape
  have e3 := h.output
  simp only at hh e1 e2 e3
  rw [hh, e1, e2, e3]
noncomputable def any0 (l : List Nat) : Bool := List.rec false (fun z _ ih => ifb (Nat.beq z 0) true ih) l
theorem anyN_any0 (zs : List Nat) : anyN zs zs.length = any0 zs := by
  have key : ∀ k, k ≤ zs.length → anyN zs k = any0 (zs.take k) := by
    intro k
    induction k with
    | zero => intro _; rfl
    | succ k ih =>
      intro hk
      have hz : zs[k]? = some zs[k] := List.getElem?_eq_getElem (by omega)
      rw [List.take_add_one, hz]
      show (anyN zs k || (zs[k]?.getD 0 == 0)) = any0 (zs.take k ++ [zs[k]])
      rw [ih (by omega), hz]
      have app : ∀ (l : List Nat) (z : Nat), any0 (l ++ [z]) = (any0 l || (z == 0)) := by
        intro l z
        induction l with
        | nil =>
          show ifb (Nat.beq z 0) true false = _
          cases z <;> rfl
        | cons y l ih =>
          show ifb (Nat.beq y 0) true (any0 (l ++ [z])) = (ifb (Nat.beq y 0) true (any0 l) || (z == 0))
          cases Nat.beq y 0
          · exact ih
          · rfl
      rw [app]; rfl
  have := key zs.length (Nat.le_refl _)
  rwa [List.take_length] at this
noncomputable def bytesV (l : List Nat) : List V := l.map fun u => V.n .u8 u
noncomputable def repN (z n : Nat) : List Nat := Nat.rec [] (fun _ ih => z :: ih) n
theorem repN_eq (z n : Nat) : repN z n = List.replicate n z := by
  induction n with
  | zero => rfl
  | succ n ih => show z :: repN z n = _; rw [ih]; rfl
noncomputable def layPg (pg a n : Nat) (zs : List Nat) (sl : T V) (ds : DS) (σ : St) : Out :=
  Option.rec (.fail 371) (fun x => match x with
    | .row e c z m g => ifb (andB [Nat.beq m 4096, Nat.ble (Nat.add a n) 4096, Nat.beq (lenL zs) n]) (cpL (bytesV zs) fun l => stK l c a fun c => σ.setK pg (.row e c z m g) fun σ => T.setP (.b (any0 zs)) (pth 12) (reS 3089 sl 13) fun sl => .done .norm ⟨sl, ds⟩ σ) (.fail 372)
    | _ => .fail 373) (σ.get pg)
noncomputable def cellOf (σ : St) (b o : Nat) : Option V := Option.rec none (fun x => match x with | .row _ c z m _ => cellAt c z m o | _ => none) (σ.get b)
noncomputable def clo198 (fb : Out) (pg a at_ n cf : Nat) (sl : T V) (ds : DS) (σ : St) (v : V) : Out := match v with
  | .f (.func 427) [] [.p sb so] => Option.rec (.fail 374) (fun s => match s with
    | .sl bb o len _ => ifb (andB [Nat.ble (Nat.add at_ n) len, Bool.not (Nat.beq cf pg), Bool.not (Nat.beq sb pg), Bool.not (Nat.beq bb pg), Nat.ble 1 n]) (loadN σ bb (Nat.add o at_) n (.fail 375) fun l => bytesK l fun zs => layPg pg a n zs sl ds σ) (.fail 376)
    | _ => .fail 377) (cellOf σ sb so)
  | .f (.func 428) [] [.p sb so] => Option.rec (.fail 374) (fun s => match s with
    | .n .u8 z => ifb (andB [Nat.ble (Nat.add at_ n) 1152921504606846976, Bool.not (Nat.beq cf pg), Bool.not (Nat.beq sb pg)]) (layPg pg a n (repN z n) sl ds σ) (.fail 378)
    | _ => .fail 379) (cellOf σ sb so)
  | _ => fb
noncomputable def fast198 (self : Self) (fr : Fr) (σ : St) : Out := Fr.rec (fun sl ds => noPz ds (match sl.get 10, sl.get 1, sl.get 3, sl.get 5, sl.get 27 with
  | some (.p pg 0), some (.n .i64 a), some (.n .i64 at_), some (.p cf of_), some (.n .i64 n) => (match sl.get 28, sl.get 12 with
    | some (.n .i64 0), some (.b false) => Option.rec (.fail 381) (clo198 (self 530 loop198 ⟨sl, ds⟩ σ) pg a at_ n cf sl ds σ) (cellOf σ cf of_)
    | _, _ => .fail 382)
  | _, _, _, _, _ => .fail 383)) fr
theorem cellOf_ok {P : Program} {μ : Mu} {σ : St} {w : World} (hm : RelM P μ σ w) {b o : Nat} {L : Loc} (hL : μ b = some L) {v : V} (h : cellOf σ b o = some v) : ∃ v', w.cell? ⟨L.c, L.sh + o, none⟩ = some v' ∧ RelV μ v v' := by
  unfold cellOf at h
  rw [St.get_eq] at h
  cases hb : σ.heap.get b with
  | none => rw [hb] at h; cases h
  | some x =>
    rw [hb] at h
    cases x with
    | row e c z m g =>
      obtain ⟨cs, fr, h1, h2, h3, h4, h5, h6⟩ := hm.blk b _ L hb hL
      obtain ⟨v', a, r⟩ := h6 o v h
      refine ⟨v', ?_, r⟩
      unfold World.cell?
      simp only [h1]
      exact a
    | _ => cases h
theorem cellOf_live {σ : St} {b o : Nat} {v : V} (h : cellOf σ b o = some v) : ∃ x, σ.heap.get b = some x ∧ x.live := by
  unfold cellOf at h
  rw [St.get_eq] at h
  cases hb : σ.heap.get b with
  | none => rw [hb] at h; cases h
  | some x =>
    rw [hb] at h
    cases x with
    | row e c z m g => exact ⟨_, rfl, trivial⟩
    | _ => cases h
theorem ne_of_not {a b : Nat} (h : Bool.not (Nat.beq a b) = true) : a ≠ b := by
  intro e
  subst e
  rw [Nat.beq_refl] at h
  cases h
theorem layPg_inv {pg a n : Nat} {zs : List Nat} {sl : T V} {ds : DS} {σ : St} {x : Ex} {fr' : Fr} {σ' : St} (hk : layPg pg a n zs sl ds σ = .done x fr' σ') :
    ∃ e c z g, σ.heap.get pg = some (.row e c z 4096 g) ∧ a + n ≤ 4096 ∧ zs.length = n ∧ x = .norm ∧ fr' = ⟨(reS 3089 sl 13).set (.b (any0 zs)) 12, ds⟩ ∧ σ' = ⟨σ.heap.set (.row e (stT (bytesV zs) c a) z 4096 g) pg, σ.next⟩ := by
  unfold layPg at hk
  rw [St.get_eq] at hk
  cases hb : σ.heap.get pg with
  | none => rw [hb] at hk; cases hk
  | some y =>
    rw [hb] at hk
    cases y with
    | row e c z m g =>
      obtain ⟨h1, hk1⟩ := ifb_inv hk
      obtain ⟨a1, h1⟩ := andB_cons h1
      obtain ⟨a2, h1⟩ := andB_cons h1
      obtain ⟨a3, _⟩ := andB_cons h1
      have a1 := Nat.eq_of_beq_eq_true a1
      have a3 := Nat.eq_of_beq_eq_true a3
      rw [lenL_eq] at a3
      subst a1
      have hk2 : cpL (bytesV zs) (fun l => stK l c a fun c => σ.setK pg (.row e c z 4096 g) fun σ => T.setK (.b (any0 zs)) (reS 3089 sl 13) 12 fun sl => Out.done .norm ⟨sl, ds⟩ σ) = Out.done x fr' σ' := hk1
      rw [cpL_eq, stK_eq, St.setK_eq, T.setK_eq] at hk2
      injection hk2 with q1 q2 q3
      exact ⟨e, c, z, g, rfl, Nat.le_of_ble_eq_true a2, a3, q1.symm, q2.symm, q3.symm⟩
    | _ => cases hk
theorem slot3089 {i : Nat} (h : slotB 3089 i = true) : i = 0 ∨ i = 4 ∨ i = 10 ∨ i = 11 := by
  rcases Nat.lt_or_ge i 12 with q | q
  · have : i = 0 ∨ i = 1 ∨ i = 2 ∨ i = 3 ∨ i = 4 ∨ i = 5 ∨ i = 6 ∨ i = 7 ∨ i = 8 ∨ i = 9 ∨ i = 10 ∨ i = 11 := by omega
    rcases this with rfl | rfl | rfl | rfl | rfl | rfl | rfl | rfl | rfl | rfl | rfl | rfl <;> first | (left; rfl) | (right; left; rfl) | (right; right; left; rfl) | (right; right; right; rfl) | cases h
  · have h0 : Nat.shiftRight 3089 i = 0 := by
      show 3089 >>> i = 0
      rw [Nat.shiftRight_eq_div_pow]
      have : 2 ^ 12 ≤ 2 ^ i := Nat.pow_le_pow_right (by decide) q
      exact Nat.div_eq_of_lt (by omega)
    unfold slotB at h
    rw [h0] at h
    cases h
theorem pg_done {cx : Cx} {μ : Mu} {σ : St} {w W : World} (hm : RelM cx.P μ σ w) {pg a n : Nat} {Lp : Loc} (hLp : μ pg = some Lp) {e : Nat} {c : T V} {z : List V} {g : Bool} (hb : σ.heap.get pg = some (.row e c z 4096 g)) {zs : List Nat} (hlen : zs.length = n) (hz : ∀ j : Nat, zs[j]?.getD 0 < 256) (ha : a + n ≤ 4096)
    {cs : Array Value} {fr : Nat × Nat} (h1 : w.heap[Lp.c]? = some (.cells cs e fr)) (hP : Pg w W Lp.c (Lp.sh + 0 + a) n cs e fr zs) : Step cx.P μ σ w μ ⟨σ.heap.set (.row e (stT (bytesV zs) c a) z 4096 g) pg, σ.next⟩ W := by
  obtain ⟨cs', hW, hsz, hcell⟩ := pg_world hP
  obtain ⟨cs2, fr2, k1, k2, k3, k4, k5, k6⟩ := hm.blk pg _ Lp hb hLp
  rw [h1] at k1
  cases k1
  have hin := hm.inb pg Lp hLp
  have st := step_set hm pg _ (.row e (stT (bytesV zs) c a) z 4096 g) (.cells cs' e fr) Lp hb trivial hLp (by
    refine ⟨cs', fr, ?_, by rw [hsz]; exact k2, k3, ?_, k5, fun j v hj => ?_⟩
    · show (w.heap.setIfInBounds Lp.c _)[Lp.c]? = _
      rw [Array.getElem?_setIfInBounds_self_of_lt hin]
    · unfold Free at k4 ⊢
      rw [hsz]; exact k4
    · have hjl : j < 4096 := by
        rcases Nat.lt_or_ge j 4096 with q | q
        · exact q
        · rw [cellAt_ge q] at hj; cases hj
      rw [cellAt_eq, if_neg (by omega), get_stT] at hj
      rw [hcell]
      have hbl : (bytesV zs).length = n := by unfold bytesV; rw [List.length_map]; exact hlen
      by_cases hr : a ≤ j ∧ j < a + n
      · rw [if_pos (by rw [hbl]; exact hr)] at hj
        rw [if_pos (by omega)]
        have hzj : zs[j - a]? = some zs[j - a] := List.getElem?_eq_getElem (by omega)
        have he : (bytesV zs)[j - a]? = some (.n .u8 zs[j - a]) := by unfold bytesV; rw [List.getElem?_map, hzj]; rfl
        rw [he] at hj
        cases hj
        refine ⟨_, rfl, ?_⟩
        rw [show Lp.sh + j - (Lp.sh + 0 + a) = j - a by omega, hzj]
        have hz1 : zs[j - a] < 256 := by have := hz (j - a); rw [hzj] at this; exact this
        have := RelV.n (μ := μ) .u8 zs[j - a] hz1
        rwa [wrap_nn .u8 _ hz1 rfl] at this
      · rw [if_neg (by rw [hbl]; exact hr)] at hj
        rw [if_neg (by omega)]
        refine k6 j v ?_
        rw [cellAt_eq, if_neg (by omega)]
        exact hj) (fun _ _ _ _ hq => by rw [h1] at hq; cases hq; exact ⟨_, rfl⟩)
  rw [hW]
  exact st.trans (Step.draw st.rel W.drawn)
set_option maxRecDepth 20000 in
set_option maxHeartbeats 1000000 in
theorem fast198_ok {cx : Cx} {self : Self} (H : CallsOk cx self) (hP : cx.P = Tryz.prog) (hmk : ∀ i, i = 0 ∨ i = 4 ∨ i = 10 ∨ i = 11 ∨ i = 12 → slotB (cx.mask 530) i = true) : CodeOk cx none 530 loop198 (fast198 self) := by
  intro sl ds σ x fr' σ' hk μ w act hm hG hf Q hQ
  obtain ⟨_, hd0, hk1⟩ := noPz_inv hf.d hk
  clear hk
  split at hk1
  · rename_i pg a at_ cf of_ n h10 h1 h3 h5 h27
    split at hk1
    · rename_i h28 h12
      have hnt : act.tmps.size = 77 := by
        rw [hf.n]
        unfold ntmps
        rw [hP, Tryz.func530]; rfl
      obtain ⟨f, hfe⟩ := arr77 act.tmps hnt
      have at' : ∀ i v, i < 77 → sl.get i = some v → ∃ v', act.tmps[i]? = some v' ∧ RelV μ v v' := fun i v _ h => hf.s i v h
      obtain ⟨x10, g10, r10⟩ := at' 10 _ (by decide) h10
      obtain ⟨x1, g1, r1⟩ := at' 1 _ (by decide) h1
      obtain ⟨x3, g3, r3⟩ := at' 3 _ (by decide) h3
      obtain ⟨x5, g5, r5⟩ := at' 5 _ (by decide) h5
      obtain ⟨x27, g27, r27⟩ := at' 27 _ (by decide) h27
      obtain ⟨x28, g28, r28⟩ := at' 28 _ (by decide) h28
      obtain ⟨x12, g12, r12⟩ := at' 12 _ (by decide) h12
      cases r10 with | @p _ Lp _ hLp =>
      cases r5 with | @p _ Lc _ hLc =>
      cases r12
      cases r1 with | n _ _ ha0 =>
      cases r3 with | n _ _ hat0 =>
      cases r27 with | n _ _ hn0 =>
      cases r28 with | n _ _ hz0 =>
      cases hcl : cellOf σ cf of_ with
      | none => rw [hcl] at hk1; cases hk1
      | some vc =>
        rw [hcl] at hk1
        have hk2 : clo198 (self 530 loop198 ⟨sl, ds⟩ σ) pg a at_ n cf sl ds σ vc = .done x fr' σ' := hk1
        clear hk1
        obtain ⟨vc', gc, rc⟩ := cellOf_ok hm hLc hcl
        have e10 : f 10 = .pointer (some ⟨Lp.c, Lp.sh + 0, none⟩) := by rw [hfe] at g10; exact Option.some.inj g10
        have e5 : f 5 = .pointer (some ⟨Lc.c, Lc.sh + of_, none⟩) := by rw [hfe] at g5; exact Option.some.inj g5
        have e12 : f 12 = .bool false := by rw [hfe] at g12; exact Option.some.inj g12
        have e1' : f 1 = .int .i64 (IntKind.i64.wrap (a : Int)) := by rw [hfe] at g1; exact Option.some.inj g1
        have e3' : f 3 = .int .i64 (IntKind.i64.wrap (at_ : Int)) := by rw [hfe] at g3; exact Option.some.inj g3
        have e27' : f 27 = .int .i64 (IntKind.i64.wrap (n : Int)) := by rw [hfe] at g27; exact Option.some.inj g27
        have e28' : f 28 = .int .i64 (IntKind.i64.wrap ((0 : Nat) : Int)) := by rw [hfe] at g28; exact Option.some.inj g28
        have fin : ∀ (zs : List Nat), layPg pg a n zs sl ds σ = .done x fr' σ' → (∀ j : Nat, zs[j]?.getD 0 < 256) → a < 9223372036854775808 → n < 9223372036854775808 → at_ < 9223372036854775808 → ∃ (cs : Array Value) (e : Nat) (fr : Nat × Nat), w.heap[Lp.c]? = some (.cells cs e fr) ∧ Lp.sh + 0 + 4096 ≤ cs.size ∧ a + n ≤ 4096 ∧ (∀ j, j < cs.size → ¬ (fr.1 ≤ j ∧ j < fr.2)) ∧ zs.length = n ∧
            act = { tmps := #[f 0, .int .i64 (a : Nat), f 2, .int .i64 (at_ : Nat), f 4, .pointer (some ⟨Lc.c, Lc.sh + of_, none⟩), f 6, f 7, f 8, f 9, .pointer (some ⟨Lp.c, Lp.sh + 0, none⟩), f 11, .bool false, f 13, f 14, f 15, f 16, f 17, f 18, f 19, f 20, f 21, f 22, f 23, f 24, f 25, f 26, .int .i64 (n : Nat), .int .i64 0, f 29, f 30, f 31, f 32, f 33, f 34, f 35, f 36, f 37, f 38, f 39, f 40, f 41, f 42, f 43, f 44, f 45, f 46, f 47, f 48, f 49, f 50, f 51, f 52, f 53, f 54, f 55, f 56, f 57, f 58, f 59, f 60, f 61, f 62, f 63, f 64, f 65, f 66, f 67, f 68, f 69, f 70, f 71, f 72, f 73, f 74, f 75, f 76], defers := act.defers } ∧ (∀ (u13 u30 u31 u32 u33 u34 u35 u36 u37 u38 u39 u40 u41 u42 u43 u44 u45 u46 u47 u48 u49 u50 u51 u52 u53 : Value) (wr : World), Pg w wr Lp.c (Lp.sh + 0 + a) n cs e fr zs → Q .normal { tmps := #[f 0, .int .i64 (a : Nat), f 2, .int .i64 (at_ : Nat), f 4, .pointer (some ⟨Lc.c, Lc.sh + of_, none⟩), f 6, f 7, f 8, f 9, .pointer (some ⟨Lp.c, Lp.sh + 0, none⟩), f 11, .bool (anyN zs n), u13, f 14, f 15, f 16, f 17, f 18, f 19, f 20, f 21, f 22, f 23, f 24, f 25, f 26, .int .i64 (n : Nat), .int .i64 (n : Nat), .bool false, u30, u31, u32, u33, u34, u35, u36, u37, u38, u39, u40, u41, u42, u43, u44, u45, u46, u47, u48, u49, u50, u51, u52, u53, f 54, f 55, f 56, f 57, f 58, f 59, f 60, f 61, f 62, f 63, f 64, f 65, f 66, f 67, f 68, f 69, f 70, f 71, f 72, f 73, f 74, f 75, f 76], defers := act.defers } wr) := by
          intro zs hlay hz ha hn hat
          obtain ⟨e, c, z, g, hb, h4, hlen, rfl, rfl, rfl⟩ := layPg_inv hlay
          have e1 : f 1 = .int .i64 (a : Nat) := by rw [e1', wrap_small .i64 a ha]
          have e3 : f 3 = .int .i64 (at_ : Nat) := by rw [e3', wrap_small .i64 at_ hat]
          have e27 : f 27 = .int .i64 (n : Nat) := by rw [e27', wrap_small .i64 n hn]
          have e28 : f 28 = .int .i64 0 := by rw [e28']; rfl
          obtain ⟨cs, fr, k1, k2, k3, k4, k5, k6⟩ := hm.blk pg _ Lp hb hLp
          refine ⟨cs, e, fr, k1, by omega, h4, fun j hj => k4.out j hj, hlen, ?_, fun u13 u30 u31 u32 u33 u34 u35 u36 u37 u38 u39 u40 u41 u42 u43 u44 u45 u46 u47 u48 u49 u50 u51 u52 u53 wr hPg => ?_⟩
          · exact congrArg (fun t => ({ tmps := t, defers := act.defers } : Act)) (hfe.trans (by rw [e1, e3, e5, e10, e12, e27, e28]))
          · have st := pg_done hm hLp hb hlen hz h4 k1 hPg
            refine hQ μ _ wr st ⟨fun i v hv => ?_, fun i v hv => ?_, hd0, ?_⟩
            · change ((reS 3089 sl 13).set (.b (any0 zs)) 12).get i = some v at hv
              rw [T.get_set] at hv
              split at hv
              · rename_i hi
                subst hi
                cases hv
                refine ⟨.bool (anyN zs n), rfl, ?_⟩
                rw [← hlen, anyN_any0]
                exact .b _
              · obtain ⟨q1, q2⟩ := reS_ok (m := 3089) hf.s 13
                obtain ⟨v', b1, b2⟩ := q1 i v hv
                rw [hfe] at b1
                rcases slot3089 (q2 i v hv) with rfl | rfl | rfl | rfl
                · exact ⟨f 0, rfl, by cases Option.some.inj b1; exact b2⟩
                · exact ⟨f 4, rfl, by cases Option.some.inj b1; exact b2⟩
                · exact ⟨_, rfl, by rw [← e10]; cases Option.some.inj b1; exact b2⟩
                · exact ⟨f 11, rfl, by cases Option.some.inj b1; exact b2⟩
            · change ((reS 3089 sl 13).set (.b (any0 zs)) 12).get i = some v at hv
              rw [T.get_set] at hv
              split at hv
              · rename_i hi; exact hmk i (by omega)
              · obtain ⟨q1, q2⟩ := reS_ok (m := 3089) hf.s 13
                exact hmk i (by have := slot3089 (q2 i v hv); omega)
            · rw [← hf.n, hnt]; rfl
        have hwp : ∀ (K : Code.wp Tryz.prog loop198 Q act w), loop198.wpIn (fe none) 0 cx.P Q act w := fun K => by
          rw [hP]
          exact (wpIn_wide (n := 0)).2 K
        obtain ⟨xc, hxc, lxc⟩ := cellOf_live hcl
        unfold clo198 at hk2
        split at hk2
        · rename_i sb so
          cases rc with | @f _ fn' _ _ fs cap' hfn hx hy =>
          cases hfn
          have hx0 : fs = #[] := by apply Array.ext'; generalize fs.toList = q at hx; cases hx; rfl
          subst hx0
          obtain ⟨Ls, hLs, hyc⟩ : ∃ Ls, μ sb = some Ls ∧ cap' = #[.pointer (some ⟨Ls.c, Ls.sh + so, none⟩)] := by
            cases hy' : cap'.toList with
            | nil => rw [hy'] at hy; cases hy
            | cons y1 l =>
              rw [hy'] at hy
              cases hy with | cons h1 h2 =>
              cases h2
              cases h1 with | @p _ Ls _ e => exact ⟨Ls, e, arr1 hy'⟩
          subst hyc
          cases hs : cellOf σ sb so with
          | none => rw [hs] at hk2; cases hk2
          | some vs =>
            rw [hs] at hk2
            obtain ⟨vs', gs, rs⟩ := cellOf_ok hm hLs hs
            obtain ⟨xs, hxs, lxs⟩ := cellOf_live hs
            cases vs with
            | sl bb o len cap =>
              have hk3 : ifb (andB [Nat.ble (Nat.add at_ n) len, Bool.not (Nat.beq cf pg), Bool.not (Nat.beq sb pg), Bool.not (Nat.beq bb pg), Nat.ble 1 n]) (loadN σ bb (Nat.add o at_) n (.fail 375) fun l => bytesK l fun zs => layPg pg a n zs sl ds σ) (.fail 376) = .done x fr' σ' := hk2
              obtain ⟨hc, hk4⟩ := ifb_inv hk3
              obtain ⟨c1, hc⟩ := andB_cons hc
              obtain ⟨c2, hc⟩ := andB_cons hc
              obtain ⟨c3, hc⟩ := andB_cons hc
              obtain ⟨c4, hc⟩ := andB_cons hc
              obtain ⟨c5, _⟩ := andB_cons hc
              have hn0 : n ≠ 0 := by have : 1 ≤ n := Nat.le_of_ble_eq_true c5; omega
              have c1 : at_ + n ≤ len := Nat.le_of_ble_eq_true c1
              obtain ⟨Lb, cap2, off', hLb, hlen, hlc, hoff, rfl⟩ := slice_inv rs
              obtain ⟨zs, hk5, hzl, hz, hcells⟩ := bytes_cells hm hLb hk4
              have hn4 : a + n ≤ 4096 := (layPg_inv hk5).choose_spec.choose_spec.choose_spec.choose_spec.2.1
              obtain ⟨cs, e, fr, m1, m2, m3, m4, m5, m6, m7⟩ := fin zs hk5 hz (by omega) (by omega) (by omega)
              obtain ⟨e0, c0, z0, g0, hb0, _⟩ := layPg_inv hk5
              have hxb : n ≠ 0 → ∃ xb, σ.heap.get bb = some xb ∧ xb.live := fun _ => by
                rcases loadN_inv σ bb (Nat.add o at_) n (.fail 375) (fun l => bytesK l fun zs => layPg pg a n zs sl ds σ) with ⟨e, c, z, len, g, l, hb, _⟩ | hbad
                · exact ⟨_, hb, trivial⟩
                · rw [hbad] at hk4; cases hk4
              refine hwp ?_
              rw [m6]
              · obtain ⟨xb, hxb1, hxb2⟩ := hxb hn0
                exact lay_write a at_ n Lc.c (Lc.sh + of_) Lp.c (Lp.sh + 0) Ls.c (Ls.sh + so) Lb.c off' len cap2 (f 0) (f 2) (f 4) (f 6) (f 7) (f 8) (f 9) (f 11) (f 13) (f 14) (f 15) (f 16) (f 17) (f 18) (f 19) (f 20) (f 21) (f 22) (f 23) (f 24) (f 25) (f 26) (f 29) (f 30) (f 31) (f 32) (f 33) (f 34) (f 35) (f 36) (f 37) (f 38) (f 39) (f 40) (f 41) (f 42) (f 43) (f 44) (f 45) (f 46) (f 47) (f 48) (f 49) (f 50) (f 51) (f 52) (f 53) (f 54) (f 55) (f 56) (f 57) (f 58) (f 59) (f 60) (f 61) (f 62) (f 63) (f 64) (f 65) (f 66) (f 67) (f 68) (f 69) (f 70) (f 71) (f 72) (f 73) (f 74) (f 75) (f 76) act.defers zs w cs e fr Q m1 m2 m3 m4 (by omega) c1 hlen
                  (hm.inj cf pg _ _ Lc Lp (ne_of_not c2) hxc hb0 lxc trivial hLc hLp) (hm.inj sb pg _ _ Ls Lp (ne_of_not c3) hxs hb0 lxs trivial hLs hLp) (hm.inj bb pg _ _ Lb Lp (ne_of_not c4) hxb1 hb0 hxb2 trivial hLb hLp)
                  gc gs hz (fun j hj => by
                    rw [hoff (by omega), ← hcells j hj]
                    congr 2
                    show Lb.sh + o + (at_ + j) = Lb.sh + (o + at_) + j
                    omega) m7
            | _ => cases hk2
        · rename_i sb so
          cases rc with | @f _ fn' _ _ fs cap' hfn hx hy =>
          cases hfn
          have hx0 : fs = #[] := by apply Array.ext'; generalize fs.toList = q at hx; cases hx; rfl
          subst hx0
          obtain ⟨Ls, hLs, hyc⟩ : ∃ Ls, μ sb = some Ls ∧ cap' = #[.pointer (some ⟨Ls.c, Ls.sh + so, none⟩)] := by
            cases hy' : cap'.toList with
            | nil => rw [hy'] at hy; cases hy
            | cons y1 l =>
              rw [hy'] at hy
              cases hy with | cons h1 h2 =>
              cases h2
              cases h1 with | @p _ Ls _ e => exact ⟨Ls, e, arr1 hy'⟩
          subst hyc
          cases hs : cellOf σ sb so with
          | none => rw [hs] at hk2; cases hk2
          | some vs =>
            rw [hs] at hk2
            obtain ⟨vs', gs, rs⟩ := cellOf_ok hm hLs hs
            obtain ⟨xs, hxs, lxs⟩ := cellOf_live hs
            have hk3 : (match vs with
              | .n .u8 z => ifb (andB [Nat.ble (Nat.add at_ n) 1152921504606846976, Bool.not (Nat.beq cf pg), Bool.not (Nat.beq sb pg)]) (layPg pg a n (repN z n) sl ds σ) (.fail 378)
              | _ => .fail 379) = .done x fr' σ' := hk2
            split at hk3
            · rename_i z
              obtain ⟨hc, hk4⟩ := ifb_inv hk3
              obtain ⟨c1, hc⟩ := andB_cons hc
              obtain ⟨c2, hc⟩ := andB_cons hc
              obtain ⟨c3, _⟩ := andB_cons hc
              have c1 : at_ + n ≤ 1152921504606846976 := Nat.le_of_ble_eq_true c1
              cases rs with | n _ _ hz0' =>
              have hzb : z < 256 := hz0'
              rw [wrap_nn .u8 z hzb rfl] at gs
              have hzs : ∀ j : Nat, j < n → (repN z n)[j]?.getD 0 = z := fun j hj => by rw [repN_eq, List.getElem?_replicate, if_pos hj]; rfl
              have hz : ∀ j : Nat, (repN z n)[j]?.getD 0 < 256 := fun j => by
                rcases Nat.lt_or_ge j n with q | q
                · rw [hzs j q]; exact hzb
                · rw [repN_eq, List.getElem?_replicate, if_neg (by omega)]; decide
              have hn4 : a + n ≤ 4096 := (layPg_inv hk4).choose_spec.choose_spec.choose_spec.choose_spec.2.1
              obtain ⟨cs, e, fr, m1, m2, m3, m4, m5, m6, m7⟩ := fin (repN z n) hk4 hz (by omega) (by omega) (by omega)
              obtain ⟨e0, c0, z0, g0, hb0, _⟩ := layPg_inv hk4
              refine hwp ?_
              rw [m6]
              exact lay_fill a at_ n Lc.c (Lc.sh + of_) Lp.c (Lp.sh + 0) Ls.c (Ls.sh + so) z (f 0) (f 2) (f 4) (f 6) (f 7) (f 8) (f 9) (f 11) (f 13) (f 14) (f 15) (f 16) (f 17) (f 18) (f 19) (f 20) (f 21) (f 22) (f 23) (f 24) (f 25) (f 26) (f 29) (f 30) (f 31) (f 32) (f 33) (f 34) (f 35) (f 36) (f 37) (f 38) (f 39) (f 40) (f 41) (f 42) (f 43) (f 44) (f 45) (f 46) (f 47) (f 48) (f 49) (f 50) (f 51) (f 52) (f 53) (f 54) (f 55) (f 56) (f 57) (f 58) (f 59) (f 60) (f 61) (f 62) (f 63) (f 64) (f 65) (f 66) (f 67) (f 68) (f 69) (f 70) (f 71) (f 72) (f 73) (f 74) (f 75) (f 76) act.defers (repN z n) w cs e fr Q m1 m2 m3 m4 (by omega) (by omega)
                (hm.inj cf pg _ _ Lc Lp (ne_of_not c2) hxc hb0 lxc trivial hLc hLp) (hm.inj sb pg _ _ Ls Lp (ne_of_not c3) hxs hb0 lxs trivial hLs hLp) gc gs hzs m7
            · cases hk3
        · exact H.self none 530 loop198 hk2 hm hG hf hQ
    · cases hk1
  · cases hk1
theorem bodyC_calls {cx : Cx} {self : Self} (H : CallsOk cx self) {dcall : DCall} (hD : DT cx dcall) {f : Nat} {fn : Func} {c : Code} (hf : cx.P.funcs[f]? = some fn) (hb : fn.body = some c) {runc : Fr → St → Out} (hc : CodeOk cx none f c runc) {args : List V} (hn : args.length ≤ fn.ntmps)
    (hmask : ∀ k, k < args.length → slotB (cx.mask f) k = true) {σ : St} {K : V → St → Out} {x : Ex} {fr : Fr} {σ' : St} (hk : leave cx dcall fn.results.toList K (runc ⟨stT args .e 0, []⟩ σ) = .done x fr σ') {μ : Mu} {w : World} {args' : Array Value}
    (hm : RelM cx.P μ σ w) (hG : Glob cx.globs μ) (hl : RelL μ args args'.toList) : Comes1 cx.P (callFunc f args') μ σ w fun v σ1 => K v σ1 = .done x fr σ' := by
  obtain ⟨x1, sl, ds, σ1, h1, hx, h2⟩ := leave_inv hk
  refine .inr ⟨f, args', run_enter hf (H.names f fn c hf hb) hb args' w, (callsIn_wide (n := 0)).1 (callsIn_of_wp_marks hf hb trivial ?_)⟩
  refine hc h1 hm hG (enter_frame hf hl hn hmask) fun μ1 a1 w1 st hf1 => ?_
  have fin : LeavesInM Fence.wide 0 cx.P fn a1.tmps (fun e w1 => ∃ v' μ1 v σ1, e = .returned v' ∧ RelV μ1 v v' ∧ Step cx.P μ σ w μ1 σ1 w1 ∧ K v σ1 = .done x fr σ') a1.defers .returning w1 := by
    refine leaves_ok hD ds hf1.d st.rel (hG.mono st.le) h2 fun μ2 σ2 w2 st2 h3 => ?_
    obtain ⟨v, v', h4, h5, h6⟩ := resultsK_ok st2.rel (hf1.s.mono st2.le) h3
    exact ⟨v', h6, v', μ2, v, σ2, rfl, h5, st.trans st2, h4⟩
  rcases hx with rfl | rfl <;> exact fin
noncomputable def run198 (self : Self) (fr : Fr) (σ : St) : Out :=
  again (fun fr σ => again (fun fr σ => again (fun fr σ => again (self 530 (tlC (tlC (tlC (tlC b198))))) (again (fast198 self) (self 530 (hdC (hdC (tlC (tlC (tlC b198))))) fr σ))) (self 530 (hdC (tlC (tlC b198))) fr σ)) (self 530 (hdC (tlC b198)) fr σ)) (self 530 (hdC b198) fr σ)
noncomputable def p198 (cx : Cx) (self : Self) (args : List V) (σ : St) (K : V → St → Out) : Out :=
  ifb (Nat.beq (lenL args) 6) (stK args .e 0 fun s => leave cx (fun _ _ _ _ => .fail 384) [] K (run198 self ⟨s, []⟩ σ)) (.fail 385)
theorem p198_ok {cx : Cx} {self : Self} (H : CallsOk cx self) (hP : cx.P = Tryz.prog) (hmk : ∀ i, i ≤ 5 ∨ i = 10 ∨ i = 11 ∨ i = 12 → slotB (cx.mask 530) i = true) : FnOk cx (p198 cx self) 530 := by
  intro args σ K x fr σ' hk μ w args' hm hG hl
  obtain ⟨h6, hk⟩ := ifb_inv hk
  have h6 := Nat.eq_of_beq_eq_true h6
  rw [lenL_eq] at h6
  rw [stK_eq] at hk
  have hf : cx.P.funcs[530]? = some Tryz.f530 := by rw [hP]; exact Tryz.func530
  have hb : Tryz.f530.body = some b198 := by kernel_rfl
  have hres : Tryz.f530.results.toList = [] := by kernel_rfl
  have hnt : Tryz.f530.ntmps = 77 := by kernel_rfl
  have hc : CodeOk cx none 530 b198 (run198 self) := by
    rw [b198_eq]
    exact seq_ok (H.self none 530 _) (seq_ok (H.self none 530 _) (seq_ok (H.self none 530 _) (seq_ok (seq_ok (H.self none 530 _) (fast198_ok H hP (fun i hi => hmk i (by omega)))) (H.self none 530 _))))
  exact bodyC_calls H (DT.none cx 384) hf hb hc (by rw [h6, hnt]; decide) (fun k hk => hmk k (by omega)) (by rw [hres]; exact hk) hm hG hl
end Ae
namespace Ae
open Go
structure RI where
  o1 : Oper
  o2 : Oper
  x : Operand
  rest : Code
noncomputable def asgOf (o : Op) : Option Operand := match o with | .assign x => some x | .move x => some x | _ => none
noncomputable def isRec (o : Op) : Bool := match o with | .call c => (match c.callee with | .builtin .recover => true | _ => false) | _ => false
noncomputable def recTwo (l : List Oper) (rest : Code) : Option RI := match l with
  | [o1, o2] => (match isRec o1.op, o1.guard, o2.guard, asgOf o2.op with | true, none, none, some x => some ⟨o1, o2, x, rest⟩ | _, _, _, _ => none)
  | _ => none
noncomputable def recOf (c : Code) : Option RI := match c with
  | .seq (.region _ ops false) rest => recTwo ops.toList rest
  | _ => none
theorem asgOf_ok {o : Oper} {x : Operand} (h : asgOf o.op = some x) {P : Program} (ρ : Operand → Value) (w : World) : (execOp ρ o).run P w = .ok (.value (ρ x)) w := by
  unfold asgOf at h
  split at h
  · rename_i q; cases h; simp [execOp, q]
  · rename_i q; cases h; simp [execOp, q]
  · cases h
theorem isRec_ok {o : Oper} (h : isRec o.op = true) {P : Program} (ρ : Operand → Value) (w : World) : (execOp ρ o).run P w = .ok .recover w := by
  unfold isRec at h
  split at h
  · rename_i c q
    split at h
    · rename_i q2; simp [execOp, q, resolve, q2, invoke, builtin]
    · cases h
  · cases h
theorem recOf_ok {c : Code} {r : RI} (h : recOf c = some r) : ∃ id ops, c = .seq (.region id ops false) r.rest ∧ ops.toList = [r.o1, r.o2] ∧ isRec r.o1.op = true ∧ r.o1.guard = none ∧ r.o2.guard = none ∧ asgOf r.o2.op = some r.x := by
  unfold recOf at h
  split at h
  · rename_i id ops rest
    unfold recTwo at h
    split at h
    · rename_i o1 o2 hl
      split at h
      · rename_i x h1 h2 h3 h4
        cases h
        exact ⟨id, ops, rfl, hl, h1, h2, h3, h4⟩
      · cases h
    · cases h
  · cases h
section
variable (cx : Cx) (self : Self)
noncomputable def recRun (f : Nat) (r : RI) (sl : T V) (σ : St) : Out :=
  ifb (Bool.and (okDst (ntmps cx f) r.o1.dst) (okDst (ntmps cx f) r.o2.dst))
   (putD (dstOf (cx.mask f) r.o1.dst) .i0 [] sl fun env sl => accK (res cx.globs (cx.mask f) (namesOf (cx.mask f) r.o1.dst []) r.x) env sl fun v =>
     putD (dstOf (cx.mask f) r.o2.dst) v env sl fun _ sl => self f r.rest ⟨sl, []⟩ σ) (.fail 333)
noncomputable def recF (f : Nat) (args : List V) (σ : St) (K : V → St → Out) : Out :=
  Option.rec (.fail 330) (fun i => FnInfo.rec (fun c rs => Option.rec (.fail 331) (fun r => stK args .e 0 fun s => leave cx (fun _ _ _ _ => .fail 332) rs K (recRun cx self f r s σ)) (recOf c)) i) (fnInfo cx f (lenL args))
end
section
variable {cx : Cx} {self : Self}
theorem recF_ok (H : CallsOk cx self) (f : Nat) : DefOk cx (recF cx self f) f := by
  intro args σ K x fr σ' hk μ w args' hm hG hl
  unfold recF at hk
  rw [lenL_eq] at hk
  cases hi : fnInfo cx f args.length with
  | none => rw [hi] at hk; cases hk
  | some i =>
    rw [hi] at hk
    obtain ⟨fn, c, hf, hb, rfl, hn, hmask⟩ := fnInfo_ok hi
    change Option.rec (motive := fun _ => Out) (.fail 331) (fun r => stK args .e 0 fun s => leave cx (fun _ _ _ _ => .fail 332) fn.results.toList K (recRun cx self f r s σ)) (recOf c) = _ at hk
    cases hr : recOf c with
    | none => rw [hr] at hk; cases hk
    | some r =>
      rw [hr] at hk
      change stK args .e 0 (fun s => leave cx (fun _ _ _ _ => .fail 332) fn.results.toList K (recRun cx self f r s σ)) = _ at hk
      rw [stK_eq] at hk
      obtain ⟨x1, sl, ds, σ1, h1, hx, h2⟩ := leave_inv hk
      obtain ⟨id, ops, rfl, hops, ho1, hg1, hg2, ho2⟩ := recOf_ok hr
      refine ⟨run_enter hf (H.names f fn _ hf hb) hb args' w, ?_⟩
      have hds : ds = [] := by cases ds with | nil => rfl | cons d ds => cases h2
      subst hds
      have h3 : resultsK cx sl fn.results.toList σ1 K = .done x fr σ' := h2
      have hF := enter_frame hf hl hn hmask
      obtain ⟨hd, h4⟩ := ifb_inv h1
      rw [Bool.and_eq_true] at hd
      generalize hact : ({ tmps := args' ++ Array.replicate (fn.ntmps - args'.size) Go.undef, defers := [] } : Act) = a0 at hF
      obtain ⟨env1, sl1, e1, q1, q2, q3, q4⟩ := putD_ok hd.1 (names := []) (env := []) hF.n hF.s hF.m (RelE'.nil _ _ _) (fun t k h => by cases h) (RelV.i0) (fun env sl => accK (res cx.globs (cx.mask f) (namesOf (cx.mask f) r.o1.dst []) r.x) env sl fun v =>
        putD (dstOf (cx.mask f) r.o2.dst) v env sl fun _ sl => self f r.rest ⟨sl, []⟩ σ)
      rw [e1] at h4
      obtain ⟨v, hv, h5⟩ := hacc (hG) q1 q3 r.x _ _ _ _ h4
      have hn1 : (a0.put r.o1.dst .nilIface).tmps.size = ntmps cx f := by rw [put_size]; exact hF.n
      obtain ⟨env2, sl2, e2, p1, p2, p3, p4⟩ := putD_ok hd.2 hn1 q1 q2 q3 q4 hv (fun _ sl => self f r.rest ⟨sl, []⟩ σ)
      rw [e2] at h5
      refine callsDIn_of_wpSIn hf hb trivial fun c₀ cs hu => ?_
      rw [hact]
      refine wpSIn_seq (wpSIn_region ?_)
      have hsz : ops.size = 2 := by rw [← Array.length_toList, hops]; rfl
      have g1 : ops[0]? = some r.o1 := by rw [← Array.getElem?_toList, hops]; rfl
      have g2 : ops[1]? = some r.o2 := by rw [← Array.getElem?_toList, hops]; rfl
      rw [hsz]
      show wpOpsSIn Fence.wide 0 cx.P ops _ [0, 1] a0 (c₀ :: cs) w
      have hrun1 : (execOp a0.eval r.o1).run cx.P w = .ok .recover w := isRec_ok ho1 _ _
      have hrec : recoverD (c₀ :: cs) = none := by simp [recoverD, hu]
      unfold wpOpsSIn
      simp only [g1]
      refine ⟨fun _ _ => trivial, ?_⟩
      rw [if_pos (wanted_none hg1 _), hrun1]
      simp only [hrec]
      unfold wpOpsSIn
      simp only [g2]
      refine ⟨fun _ _ => trivial, ?_⟩
      rw [if_pos (wanted_none hg2 _), asgOf_ok ho2]
      simp only
      unfold wpOpsSIn
      refine wpSIn_of_wpIn rfl (H.self none f r.rest h5 hm hG ⟨p1, p2, ?_, by rw [put_size]; exact hn1⟩ fun μ1 a1 w1 st hf1 => ?_)
      · show RelD0 μ [] _
        rw [put_defers', put_defers']
        exact hF.d
      · have hd1 : a1.defers = [] := by have : RelD0 μ1 [] a1.defers := hf1.d; generalize a1.defers = q at this; cases this; rfl
        obtain ⟨v, v', h6, h7, h8⟩ := resultsK_ok st.rel hf1.s h3
        have fin : a1.defers = [] ∧ ∃ u', c₀ :: cs = { c₀ with mode := u' } :: cs ∧ ∃ v, (results fn a1.tmps).run cx.P w1 = .ok v w1 ∧ ∃ v' μ1 v0 σ1, Ending.returned v = .returned v' ∧ u' = .returning ∧ Step cx.P μ σ w μ1 σ1 w1 ∧ K v0 σ1 = .done x fr σ' :=
          ⟨hd1, .returning, by rw [← hu], v', h8, v', μ1, v, σ1, rfl, rfl, st, h6⟩
        rcases hx with rfl | rfl <;> exact fin
end
end Ae
namespace Ae
open Go
noncomputable def pfL (q : Nat → Option V) (l : List V) : Nat → Bool := List.rec (motive := fun _ => Nat → Bool) (fun _ => true) (fun v _ ih j => match v with
  | .n _ u => ifb (Option.rec false (fun x => match x with | .n _ u' => Nat.beq u u' | _ => false) (q j)) (ih (Nat.succ j)) false
  | _ => ih (Nat.succ j)) l
noncomputable def pfN (u : Nat) (x : Option V) : Bool := Option.rec true (fun x => match x with | .n _ u' => Nat.beq u u' | _ => true) x
noncomputable def pfR (q : Nat → Option V) (l : List Nat) : Nat → Bool := List.rec (motive := fun _ => Nat → Bool) (fun _ => true) (fun u _ ih j => ifb (pfN u (q j)) (ih (Nat.succ j)) false) l
noncomputable def pfO (q : Nat → Option V) (l : List (Nat × List Nat)) : Bool := List.rec true (fun r _ ih => ifb (pfR q r.2 r.1) ih false) l
noncomputable def pfS (l : List V) (r : List (Nat × V)) : Bool := List.rec true (fun r _ ih => ifb (match r.2 with | .n _ u => pfN u (nth l r.1) | _ => true) ih false) r
noncomputable def pfB (x : Option LB) (b : Nat) (σ : St) : Bool := match x with
  | some (.ro _ [(0, l)] _ _ _) => (match σ.get b with | some (.row _ c z n _) => pfL (cellAt c z n) l 0 | _ => true)
  | some (.oc _ r _ _ _) => (match σ.get b with | some (.row _ c z n _) => pfO (cellAt c z n) r | _ => true)
  | _ => true
noncomputable def pf1 (pre : List LB) (σ : St) (a : LA) (v : V) : Bool := match a with
  | .v (.n _ u) => (match v with | .n _ u' => Nat.beq u u' | _ => false)
  | .v (.p k _) => (match v with | .p b _ => pfB (nthB pre k) b σ | _ => false)
  | .v (.sl k o _ _) => (match v with | .sl b o' _ _ => ifb (Nat.beq o o') (pfB (nthB pre k) b σ) false | _ => false)
  | .sp _ _ r => (match v with | .a l => pfS l r | _ => false)
  | _ => true
noncomputable def pfZ (pre : List LB) (σ : St) (ags : List LA) : List V → Bool := List.rec (motive := fun _ => List V → Bool) (fun _ => true) (fun a _ ih vs => List.rec true (fun v vs _ => ifb (pf1 pre σ a v) (ih vs) false) vs) ags
noncomputable def pf (m : Memo) (args : List V) (σ : St) : Bool := pfZ m.pre σ m.args args
noncomputable def memoF (G : Nat) (m : Memo) (fb : List V → St → (V → St → Out) → Out) (args : List V) (σ : St) (K : V → St → Out) : Out := ifb (pf m args σ) (memoK G m fb args σ K) (fb args σ K)
theorem memoF_ok {cx : Cx} {f : Nat} {m : Memo} {fb : List V → St → (V → St → Out) → Out} (hM : MemoOk cx.P cx.globs f (unM m)) (hfb : FnOk cx fb f) : FnOk cx (memoF cx.globs m fb) f := by
  intro args σ K x fr σ' hk
  unfold memoF at hk
  rw [ifb_eq] at hk
  split at hk
  · exact memoK_ok hM hfb hk
  · exact hfb hk
noncomputable def memosF (G : Nat) (l : List Memo) (fb : List V → St → (V → St → Out) → Out) : List V → St → (V → St → Out) → Out := List.rec fb (fun m _ ih => memoF G m ih) l
theorem memosF_ok {cx : Cx} {f : Nat} {fb : List V → St → (V → St → Out) → Out} (hfb : FnOk cx fb f) : ∀ (l : List Memo), (∀ m ∈ l, MemoOk cx.P cx.globs f (unM m)) → FnOk cx (memosF cx.globs l fb) f := by
  intro l
  induction l with
  | nil => exact fun _ => hfb
  | cons m l ih => exact fun h => memoF_ok (h m List.mem_cons_self) (ih fun q hq => h q (List.mem_cons_of_mem _ hq))
abbrev Pf := List V → St → (V → St → Out) → Out
noncomputable def memTab (G : Nat) (base : Prim) (l : List (Nat × List Memo)) (fb : Nat → Pf) (f : Nat) : Option Pf := List.rec (base f) (fun e _ ih => ifb (Nat.beq e.1 f) (some (memosF G e.2 (fb f))) ih) l
noncomputable def cxN (P : Program) (mask : Nat → Nat) (base dprim : Prim) (d : Nat) (l : List (Nat × List Memo)) (n : Nat) : Cx :=
  Nat.rec ⟨P, mask, memTab 14 base l (fun _ _ _ _ => .fail 360), dprim, 24, 14⟩ (fun _ cx => ⟨P, mask, memTab 14 base l (fun f => bodyF cx (exec cx d) (callD cx (exec cx d)) f), dprim, 24, 14⟩) n
theorem cxN_P {P : Program} {mask : Nat → Nat} {base dprim : Prim} {d : Nat} {l : List (Nat × List Memo)} : ∀ n, (cxN P mask base dprim d l n).P = P ∧ (cxN P mask base dprim d l n).globs = 14 ∧ (cxN P mask base dprim d l n).dprim = dprim
  | 0 => ⟨rfl, rfl, rfl⟩
  | _ + 1 => ⟨rfl, rfl, rfl⟩
def PfOk (P : Program) (f : Nat) (g : Pf) : Prop := ∀ cx : Cx, cx.P = P → cx.globs = 14 → FnOk cx g f
def PdOk (P : Program) (f : Nat) (g : Pf) : Prop := ∀ cx : Cx, cx.P = P → cx.globs = 14 → DefOk cx g f
theorem memTab_ok {P : Program} {cx : Cx} (hP : cx.P = P) (hG : cx.globs = 14) {base : Prim} (hbase : ∀ f g, base f = some g → PfOk P f g) {fb : Nat → Pf} (hfb : ∀ f, FnOk cx (fb f) f) : ∀ (l : List (Nat × List Memo)), (∀ e ∈ l, ∀ m ∈ e.2, MemoOk P 14 e.1 (unM m)) →
    ∀ f g, memTab 14 base l fb f = some g → FnOk cx g f := by
  intro l
  induction l with
  | nil => exact fun _ f g h => hbase f g h cx hP hG
  | cons e l ih =>
    intro h f g hg
    change ifb (Nat.beq e.1 f) (some (memosF 14 e.2 (fb f))) (memTab 14 base l fb f) = some g at hg
    rw [ifb_eq] at hg
    split at hg
    · rename_i he
      have he := Nat.eq_of_beq_eq_true he
      cases hg
      have h1 : ∀ m ∈ e.2, MemoOk cx.P cx.globs f (unM m) := fun m hm => by rw [hP, hG, ← he]; exact h e List.mem_cons_self m hm
      have h2 := memosF_ok (hfb f) e.2 h1
      rw [hG] at h2
      exact h2
    · exact ih (fun q hq => h q (List.mem_cons_of_mem _ hq)) f g hg
structure ProgOk (P : Program) : Prop where
  mix : P.follows .mixedOrders = true
  names : ∀ (f : Nat) (fn : Func) (c : Code), P.funcs[f]? = some fn → fn.body = some c → (fn.name == "runtime.NumGoroutine") = false
theorem cxN_ok {P : Program} (hp : ProgOk P) {mask : Nat → Nat} {base dprim : Prim} {d : Nat} {l : List (Nat × List Memo)} (hbase : ∀ f g, base f = some g → PfOk P f g) (hdp : ∀ f g, dprim f = some g → PdOk P f g) (hl : ∀ e ∈ l, ∀ m ∈ e.2, MemoOk P 14 e.1 (unM m)) :
    ∀ (n d2 : Nat), CallsOk (cxN P mask base dprim d l n) (exec (cxN P mask base dprim d l n) d2) := by
  intro n
  induction n with
  | zero =>
    intro d2
    exact exec_ok hp.mix (memTab_ok (P := P) rfl rfl hbase (fun _ => fail_ok) l hl) (fun f g h => hdp f g h _ rfl rfl) hp.names d2
  | succ n ih =>
    intro d2
    refine exec_ok hp.mix (memTab_ok (P := P) rfl rfl hbase (fun f => ?_) l hl) (fun f g h => hdp f g h _ rfl rfl) hp.names d2
    have H := ih d
    have hb := bodyF_ok H (callD_ok H) f
    obtain ⟨e1, e2, _⟩ := cxN_P (P := P) (mask := mask) (base := base) (dprim := dprim) (d := d) (l := l) n
    intro args σ K x fr σ' hk μ w args' hm hG hl'
    have := @hb args σ K x fr σ' hk μ w args' (by rw [e1]; exact hm) (by rw [e2]; exact hG) hl'
    rw [e1] at this
    exact this
theorem memo_known {P : Program} (hp : ProgOk P) {mask : Nat → Nat} {base dprim : Prim} {d : Nat} {l : List (Nat × List Memo)} (hbase : ∀ f g, base f = some g → PfOk P f g) (hdp : ∀ f g, dprim f = some g → PdOk P f g) (hl : ∀ e ∈ l, ∀ m ∈ e.2, MemoOk P 14 e.1 (unM m)) (n f : Nat) {m : Memo}
    (h : chunk 14 (bodyF (cxN P mask base dprim d l n) (exec (cxN P mask base dprim d l n) d) (callD (cxN P mask base dprim d l n) (exec (cxN P mask base dprim d l n) d)) f) m = .done .norm ⟨.e, []⟩ st0) : MemoOk P 14 f (unM m) := by
  have H := cxN_ok (mask := mask) (d := d) hp hbase hdp hl n d
  obtain ⟨e1, e2, _⟩ := cxN_P (P := P) (mask := mask) (base := base) (dprim := dprim) (d := d) (l := l) n
  have := memo_of (cx := cxN P mask base dprim d l n) (bodyF_ok H (callD_ok H) f) (by rw [e2]; exact h)
  rw [e1, e2] at this
  exact this
theorem hl_nil {P : Program} : ∀ e ∈ ([] : List (Nat × List Memo)), ∀ m ∈ e.2, MemoOk P 14 e.1 (unM m) := fun e he => by cases he
theorem hl_cons {P : Program} {f : Nat} {ms : List Memo} {l : List (Nat × List Memo)} (h1 : ∀ m ∈ ms, MemoOk P 14 f (unM m)) (h2 : ∀ e ∈ l, ∀ m ∈ e.2, MemoOk P 14 e.1 (unM m)) : ∀ e ∈ (f, ms) :: l, ∀ m ∈ e.2, MemoOk P 14 e.1 (unM m) := fun e he => by
  rcases List.mem_cons.1 he with rfl | he
  · exact h1
  · exact h2 e he
theorem hm_nil {P : Program} {f : Nat} : ∀ m ∈ ([] : List Memo), MemoOk P 14 f (unM m) := fun m hm => by cases hm
theorem hm_cons {P : Program} {f : Nat} {m0 : Memo} {ms : List Memo} (h1 : MemoOk P 14 f (unM m0)) (h2 : ∀ m ∈ ms, MemoOk P 14 f (unM m)) : ∀ m ∈ m0 :: ms, MemoOk P 14 f (unM m) := fun m hm => by
  rcases List.mem_cons.1 hm with rfl | hm
  · exact h1
  · exact h2 m hm
end Ae
namespace Ae
open Go Go.Proofs Go.RowKit Go.Extern.Stop Go.Stop Go.Extern Go.Extern.ReflectliteType Go.Extern.Rtype
theorem isTypeOf (v : Value) (w : World) : (Extern.ReflectliteType.typeOf #[.iface 30 v]).run Tryz.prog w = .ok (.iface 399 (.agg #[.pointer (some ⟨14, 30, none⟩)])) w := by kernel_rfl
theorem isComparable (w : World) : ((Extern.ReflectliteType.method fun t => do noPackHeld "Comparable" t; pure (.bool (← typeInfo t).comparable)) #[.agg #[.pointer (some ⟨14, 30, none⟩)]]).run Tryz.prog w = .ok (.bool true) w := by kernel_rfl
theorem isMethodComparable (v : Value) (w : World) : (Go.method 1022 399 v "Comparable").run Tryz.prog w = .ok (760, v) w := by kernel_rfl
theorem isComp : (Tryz.prog.info? 30).map (·.comparable) = some true := by kernel_rfl
theorem noIsE (v : Value) (xT : TypeId) (w : World) : (Instr.typeAssert (.iface 30 v) xT 401 true).run Tryz.prog w = .ok (.tuple #[.nilIface, .bool false]) w := run_typeAssert_lacksB Tryz.underlying401 (by kernel_rfl) (by kernel_rfl) v xT w
theorem noUnwrapE (v : Value) (xT : TypeId) (w : World) : (Instr.typeAssert (.iface 30 v) xT 404 true).run Tryz.prog w = .ok (.tuple #[.nilIface, .bool false]) w := run_typeAssert_lacksB Tryz.underlying404 (by kernel_rfl) (by kernel_rfl) v xT w
theorem noUnwrapsE (v : Value) (xT : TypeId) (w : World) : (Instr.typeAssert (.iface 30 v) xT 405 true).run Tryz.prog w = .ok (.tuple #[.nilIface, .bool false]) w := run_typeAssert_lacksB Tryz.underlying405 (by kernel_rfl) (by kernel_rfl) v xT w
theorem callTypeOf (v : Value) (w : World) : (callFunc 92 #[.iface 30 v]).run Tryz.prog w = .ok (.value (.iface 399 (.agg #[.pointer (some ⟨14, 30, none⟩)]))) w := by
  rw [@run_callFunc_extern Tryz.prog 92 _ Extern.ReflectliteType.typeOf Tryz.func92 (by kernel_rfl) (by kernel_rfl) (by kernel_rfl) (by kernel_rfl), isTypeOf]; rfl
theorem callComparable (w : World) : (callFunc 760 #[.agg #[.pointer (some ⟨14, 30, none⟩)]]).run Tryz.prog w = .ok (.value (.bool true)) w := by
  rw [@run_callFunc_extern Tryz.prog 760 _ (Extern.ReflectliteType.method fun t => do noPackHeld "Comparable" t; pure (.bool (← typeInfo t).comparable)) Tryz.func760 (by kernel_rfl) (by kernel_rfl) (by kernel_rfl) (by kernel_rfl), isComparable]; rfl
set_option maxRecDepth 100000 in
theorem is_errno (a b : Int) (w : World) :
    Calls Tryz.prog 54 #[.iface 30 (.int .i64 a), .iface 30 (.int .i64 b)] w fun e w' => e = .returned (.bool (a == b)) ∧ w' = w := by
  have h8 := callTypeOf
  have h32 := callComparable
  have mR := isMethodComparable
  have nE := noIsE
  have uE := noUnwrapE
  have vE := noUnwrapsE
  have heq := fun w => Lib.run_eql_iface_int (P := Tryz.prog) w (k := .i64) a b Tryz.underlying44 isComp Tryz.underlying30
  cases hab : (a == b)
  · rw [hab] at heq
    go_enter Tryz.func54, Tryz.ntmps54
    go_wp2
    refine wp_loop_rounds 1 ?_
    rw [rounds_succ]
    go_wp2
    go_ret
    exact ⟨rfl, rfl⟩
  · rw [hab] at heq
    go_enter Tryz.func54, Tryz.ntmps54
    go_wp2
    refine wp_loop_rounds 1 ?_
    rw [rounds_succ]
    go_wp2
    go_ret
    exact ⟨rfl, rfl⟩
end Ae
namespace Ae
open Go Go.Proofs
noncomputable def pIs (args : List V) (σ : St) (K : V → St → Out) : Out := match args with
  | [.i t (.n .i64 a), .i u (.n .i64 b)] => ifb (andB [Nat.beq t 30, Nat.beq u 30]) (ifb (Nat.beq a b) (K (.b true) σ) (K (.b false) σ)) (.fail 361)
  | _ => .fail 361
theorem pIs_ok {cx : Cx} (hP : cx.P = Tryz.prog) : FnOk cx pIs 54 := by
  intro args σ K x fr σ' hk μ w args' hm hG hl
  unfold pIs at hk
  split at hk
  · rename_i t a u b
    obtain ⟨h0, hk2⟩ := ifb_inv hk
    clear hk
    obtain ⟨h1, h0⟩ := andB_cons h0
    obtain ⟨h2, _⟩ := andB_cons h0
    obtain rfl := Nat.eq_of_beq_eq_true h1
    obtain rfl := Nat.eq_of_beq_eq_true h2
    cases hl' : args'.toList with
    | nil => rw [hl'] at hl; cases hl
    | cons a1 l =>
      rw [hl'] at hl
      cases hl with | cons r1 hl =>
      cases hl with | @cons _ a2 _ _ r2 hl =>
      cases hl
      cases r1 with | i _ r1 =>
      cases r2 with | i _ r2 =>
      cases r1 with | n _ _ ha =>
      cases r2 with | n _ _ hb =>
      have hargs := arr2 hl'
      subst hargs
      have hc := is_errno (IntKind.i64.wrap a) (IntKind.i64.wrap b) w
      have hf : cx.P.funcs[54]? = some Tryz.f54 := by rw [hP]; exact Tryz.func54
      have hname : (Tryz.f54.name == "runtime.NumGoroutine") = false := by kernel_rfl
      have hbody : Tryz.f54.body = some (Tryz.f54.body.getD .skip) := by kernel_rfl
      have hbeq : (IntKind.i64.wrap a == IntKind.i64.wrap b) = Nat.beq a b := by
        rw [Bool.eq_iff_iff, beq_iff_eq, wrap_inj .i64 a b ha hb]
        exact ⟨fun h => by rw [h]; exact Nat.beq_refl b, Nat.eq_of_beq_eq_true⟩
      rw [hbeq] at hc
      rw [← hP] at hc
      rw [ifb_eq] at hk2
      split at hk2
      · rename_i h3
        rw [h3] at hc
        exact comes_calls hf hname hbody hm (.b true) (hc.mono fun e w1 ⟨he, hw⟩ => ⟨he, by rw [hw]; exact Go.RowKit.Below.refl _ _⟩) hk2
      · rename_i h3
        rw [Bool.not_eq_true] at h3
        rw [h3] at hc
        exact comes_calls hf hname hbody hm (.b false) (hc.mono fun e w1 ⟨he, hw⟩ => ⟨he, by rw [hw]; exact Go.RowKit.Below.refl _ _⟩) hk2
  · cases hk
end Ae
namespace Ae
noncomputable def maskT : T Nat :=
  (.n none (.n none (.n (some 264179) (.n (some 524411) (.n (some 33571891) (.n (some 259) (.n (some 259) (.n (some 72746131631) (.n (some 16515) (.n (some 549755814855) .e
  .e)
  (.n (some 1) .e
  .e))
  (.n (some 5) (.n (some 129) .e
  .e)
  .e))
  (.n (some 618970019643261883730887163) (.n (some 7) (.n (some 536932539) .e
  .e)
  .e)
  (.n (some 1031) (.n (some 1037) .e
  .e)
  .e)))
  (.n (some 5) (.n (some 66023) (.n (some 19) (.n (some 34897658371) .e
  .e)
  .e)
  (.n (some 17179886351) (.n (some 131075) .e
  .e)
  .e))
  (.n (some 3) (.n (some 3) (.n (some 288231475663604767) .e
  .e)
  .e)
  (.n (some 16908503) (.n (some 1) .e
  .e)
  .e))))
  (.n (some 281539401247431) (.n (some 16806963) (.n (some 21) (.n (some 359) (.n (some 271) .e
  .e)
  .e)
  (.n (some 3) (.n (some 33551) .e
  .e)
  .e))
  (.n (some 71) (.n (some 983049) (.n (some 5) .e
  .e)
  .e)
  (.n (some 15) (.n (some 1) .e
  .e)
  .e)))
  (.n (some 35467840061935) (.n (some 21) (.n (some 2063) (.n (some 51) .e
  .e)
  .e)
  (.n (some 137992699923) (.n (some 5) .e
  .e)
  .e))
  (.n (some 19) (.n (some 42535296023574879666274036850519702559) (.n (some 5) .e
  .e)
  .e)
  (.n (some 11) (.n (some 1) .e
  .e)
  .e)))))
  (.n (some 63) (.n (some 35184372091037) (.n (some 18519857216345873855) (.n (some 128865798899) (.n (some 137438969359) (.n (some 68987912391) .e
  .e)
  (.n (some 1) .e
  .e))
  (.n (some 11) (.n (some 1053) .e
  .e)
  .e))
  (.n (some 315) (.n (some 7) (.n (some 262411) .e
  .e)
  .e)
  (.n (some 33562871) (.n (some 3) .e
  .e)
  .e)))
  (.n (some 458867) (.n (some 5) (.n (some 2079) (.n (some 5) .e
  .e)
  .e)
  (.n (some 277) (.n (some 1) .e
  .e)
  .e))
  (.n (some 259) (.n (some 5) (.n (some 66111) .e
  .e)
  .e)
  (.n (some 3) (.n (some 2100287) .e
  .e)
  .e))))
  (.n (some 1295) (.n (some 4402073043423) (.n (some 4427218577690292387849) (.n (some 19) (.n (some 10889035749816223784615850998949191090419) .e
  .e)
  .e)
  (.n (some 7) (.n (some 2101007) .e
  .e)
  .e))
  (.n (some 72059793078091743) (.n (some 179) (.n (some 3) .e
  .e)
  .e)
  (.n (some 3) (.n (some 1) .e
  .e)
  .e)))
  (.n (some 131941395333291) (.n (some 21) (.n (some 2063) (.n (some 159815) .e
  .e)
  .e)
  (.n (some 524549) (.n (some 4159) .e
  .e)
  .e))
  (.n (some 5) (.n (some 262599) (.n (some 131575) .e
  .e)
  .e)
  (.n (some 35218731966223) (.n (some 3) .e
  .e)
  .e))))))
  (.n (some 33571891) (.n (some 2101023) (.n (some 5) (.n (some 51) (.n (some 19) (.n (some 276365789) (.n (some 5) .e
  .e)
  (.n (some 71) .e
  .e))
  (.n (some 262599) (.n (some 2267743825679) .e
  .e)
  .e))
  (.n (some 67109371) (.n (some 13) (.n (some 19) .e
  .e)
  .e)
  (.n (some 35418036852173368725463) (.n (some 5) .e
  .e)
  .e)))
  (.n (some 1193287703199244111) (.n (some 71500501862111) (.n (some 1415574729477994959075929798309317428907975) (.n (some 3) .e
  .e)
  .e)
  (.n (some 33551) (.n (some 928459751974774139896493183) .e
  .e)
  .e))
  (.n (some 31) (.n (some 13) (.n (some 16445) .e
  .e)
  .e)
  (.n (some 37) (.n (some 1) .e
  .e)
  .e))))
  (.n (some 1) (.n (some 281474976710975) (.n (some 31) (.n (some 7) (.n (some 19) .e
  .e)
  .e)
  (.n (some 262599) (.n (some 455) .e
  .e)
  .e))
  (.n (some 7) (.n (some 983049) (.n (some 3) .e
  .e)
  .e)
  (.n (some 3) (.n (some 1) .e
  .e)
  .e)))
  (.n (some 7) (.n (some 21) (.n (some 2063) (.n (some 7) .e
  .e)
  .e)
  (.n (some 5) (.n (some 71) .e
  .e)
  .e))
  (.n (some 5) (.n (some 5) (.n (some 19) .e
  .e)
  .e)
  (.n (some 19626159714509907661164535) (.n (some 271) .e
  .e)
  .e)))))
  (.n (some 137506136015) (.n (some 4616194024827535517) (.n (some 75557864007389333700863) (.n (some 178405961754398494508920699068695387186397245) (.n (some 551) (.n (some 16781071) .e
  .e)
  (.n (some 1) .e
  .e))
  (.n (some 3) (.n (some 17179886351) .e
  .e)
  .e))
  (.n (some 302531214494889433628923) (.n (some 2227) (.n (some 199) .e
  .e)
  .e)
  (.n (some 15) (.n (some 151115727469970589747187) .e
  .e)
  .e)))
  (.n (some 8623505907) (.n (some 81667787532138450736951871798028309539257) (.n (some 2063) (.n (some 19) .e
  .e)
  .e)
  (.n (some 11) (.n (some 71) .e
  .e)
  .e))
  (.n (some 19) (.n (some 2151812127) (.n (some 27) .e
  .e)
  .e)
  (.n (some 13) (.n (some 1) .e
  .e)
  .e))))
  (.n (some 34368129779) (.n (some 4763954272708076821886843132807621902463) (.n (some 85634943230125653893370682233069978663805266601) (.n (some 19) (.n (some 3) .e
  .e)
  .e)
  (.n (some 4115) (.n (some 19) .e
  .e)
  .e))
  (.n (some 51) (.n (some 8307) (.n (some 16106912799) .e
  .e)
  .e)
  (.n (some 31) (.n (some 1) .e
  .e)
  .e)))
  (.n (some 1966093) (.n (some 19) (.n (some 2063) (.n (some 7) .e
  .e)
  .e)
  (.n (some 5192297013579600887630569674900287) (.n (some 5) .e
  .e)
  .e))
  (.n (some 1051535) (.n (some 5) (.n (some 15) .e
  .e)
  .e)
  (.n (some 1217485249602318769183) (.n (some 1) .e
  .e)
  .e)))))))
  (.n (some 268692143) (.n (some 138355086214035544051) (.n (some 16455) (.n (some 3) (.n (some 21) (.n (some 135) (.n (some 3) (.n (some 549755814855) .e
  .e)
  (.n (some 1) .e
  .e))
  (.n (some 262599) (.n (some 15) .e
  .e)
  .e))
  (.n (some 1048635) (.n (some 8621457095) (.n (some 59) .e
  .e)
  .e)
  (.n (some 13) (.n (some 702342826256273603086707106465568295829491) .e
  .e)
  .e)))
  (.n (some 1) (.n (some 31) (.n (some 19) (.n (some 3) .e
  .e)
  .e)
  (.n (some 35218731966223) (.n (some 18014402804449523) .e
  .e)
  .e))
  (.n (some 3) (.n (some 263219) (.n (some 4159) .e
  .e)
  .e)
  (.n (some 5708990770824488640568623245516165934690107379) (.n (some 5) .e
  .e)
  .e))))
  (.n (some 21) (.n (some 19) (.n (some 35184372088863) (.n (some 7) (.n (some 2503) .e
  .e)
  .e)
  (.n (some 262599) (.n (some 1217485249602318769183) .e
  .e)
  .e))
  (.n (some 127) (.n (some 983049) (.n (some 23) .e
  .e)
  .e)
  (.n (some 3) (.n (some 1) .e
  .e)
  .e)))
  (.n (some 7) (.n (some 21) (.n (some 2063) (.n (some 5) .e
  .e)
  .e)
  (.n (some 103) (.n (some 19) .e
  .e)
  .e))
  (.n (some 7) (.n (some 51) (.n (some 3) .e
  .e)
  .e)
  (.n (some 125860895) (.n (some 199) .e
  .e)
  .e)))))
  (.n (some 5) (.n (some 5) (.n (some 4212903067990049357742947073013958594459131661752215102178780168189) (.n (some 66483) (.n (some 103) (.n (some 19342824643614261840706687) .e
  .e)
  (.n (some 5) .e
  .e))
  (.n (some 262599) (.n (some 1053) .e
  .e)
  .e))
  (.n (some 134221851) (.n (some 1967) (.n (some 199) .e
  .e)
  .e)
  (.n (some 7) (.n (some 316912838952437276284744179709) .e
  .e)
  .e)))
  (.n (some 458867) (.n (some 4323455710995183705) (.n (some 2147483919) (.n (some 66483) .e
  .e)
  .e)
  (.n (some 1073742279) (.n (some 35184642918205) .e
  .e)
  .e))
  (.n (some 527) (.n (some 1208944266921662535174119) (.n (some 1099512677389) .e
  .e)
  .e)
  (.n (some 19342813113979202331215859) (.n (some 5) .e
  .e)
  .e))))
  (.n (some 66551) (.n (some 9066943647373601601495039) (.n (some 70368744300653) (.n (some 19) (.n (some 73786993887091378163) .e
  .e)
  .e)
  (.n (some 274877976691) (.n (some 71) .e
  .e)
  .e))
  (.n (some 9368758278695158333) (.n (some 147573953697241169843) (.n (some 21) .e
  .e)
  .e)
  (.n (some 943) (.n (some 1) .e
  .e)
  .e)))
  (.n (some 3853) (.n (some 21) (.n (some 2063) (.n (some 3) .e
  .e)
  .e)
  (.n (some 983083) (.n (some 19) .e
  .e)
  .e))
  (.n (some 5) (.n (some 13) (.n (some 524353) .e
  .e)
  .e)
  (.n (some 33551) (.n (some 1) .e
  .e)
  .e))))))
  (.n (some 68992106727) (.n (some 143082809195583) (.n (some 532483) (.n (some 495869) (.n (some 17389) (.n (some 3) (.n (some 16445) .e
  .e)
  (.n (some 3) .e
  .e))
  (.n (some 549755814855) (.n (some 17247509535) .e
  .e)
  .e))
  (.n (some 635) (.n (some 20981935) (.n (some 19) .e
  .e)
  .e)
  (.n (some 7) (.n (some 3) .e
  .e)
  .e)))
  (.n (some 5) (.n (some 1238562506217667412799657343) (.n (some 32214231795) (.n (some 3) .e
  .e)
  .e)
  (.n (some 1217485249602318769183) (.n (some 2103) .e
  .e)
  .e))
  (.n (some 5) (.n (some 20426010943356750102455122975) (.n (some 4039) .e
  .e)
  .e)
  (.n (some 19) (.n (some 8406983) .e
  .e)
  .e))))
  (.n (some 9127071743) (.n (some 519423137503) (.n (some 5) (.n (some 16371) (.n (some 5987315600389491610691635045420053813205420944130547) .e
  .e)
  .e)
  (.n (some 262599) (.n (some 131091) .e
  .e)
  .e))
  (.n (some 16927) (.n (some 19033328104151072307126856614229) (.n (some 515) .e
  .e)
  .e)
  (.n (some 1048579) (.n (some 1) .e
  .e)
  .e)))
  (.n (some 16543) (.n (some 21) (.n (some 2063) (.n (some 15) .e
  .e)
  .e)
  (.n (some 269) (.n (some 288231475663604767) .e
  .e)
  .e))
  (.n (some 27) (.n (some 7) (.n (some 229) .e
  .e)
  .e)
  (.n (some 17179886351) (.n (some 5) .e
  .e)
  .e)))))
  (.n (some 67112853) (.n (some 13) (.n (some 537399539) (.n (some 4109) (.n (some 66023) (.n (some 5) .e
  .e)
  .e)
  (.n (some 3) (.n (some 35218731966223) .e
  .e)
  .e))
  (.n (some 134225979) (.n (some 2448399481192318572175199) (.n (some 19) .e
  .e)
  .e)
  (.n (some 33747) (.n (some 1) .e
  .e)
  .e)))
  (.n (some 71) (.n (some 21) (.n (some 2063) (.n (some 1011) .e
  .e)
  .e)
  (.n (some 5) (.n (some 16810611) .e
  .e)
  .e))
  (.n (some 19) (.n (some 16503) (.n (some 141) .e
  .e)
  .e)
  (.n (some 5) (.n (some 1) .e
  .e)
  .e))))
  (.n (some 259) (.n (some 4639143427053511) (.n (some 1) (.n (some 19) (.n (some 42949689347) .e
  .e)
  .e)
  (.n (some 66483) (.n (some 3) .e
  .e)
  .e))
  (.n (some 3) (.n (some 4986823331758559347109883) (.n (some 9223497381180405687) .e
  .e)
  .e)
  (.n (some 4503601790600947) (.n (some 1) .e
  .e)
  .e)))
  (.n (some 3932189) (.n (some 1) (.n (some 4026593453) (.n (some 63) .e
  .e)
  .e)
  (.n (some 16357786299) (.n (some 39614383488875302838941755379) .e
  .e)
  .e))
  (.n (some 8422653) (.n (some 141) (.n (some 8652801) .e
  .e)
  .e)
  (.n (some 549755814855) (.n (some 1) .e
  .e)
  .e))))))))
  (.n none (.n (some 187802960409271190198327305033898153225031510916879) (.n (some 524411) (.n (some 33571891) (.n (some 3) (.n (some 5) (.n (some 8590000509) (.n (some 2067) (.n (some 5) .e
  .e)
  (.n (some 1) .e
  .e))
  (.n (some 11) (.n (some 7) .e
  .e)
  .e))
  (.n (some 4503599661973563) (.n (some 71) (.n (some 17729624997975) .e
  .e)
  .e)
  (.n (some 37778931865156478568435) (.n (some 3) .e
  .e)
  .e)))
  (.n (some 1) (.n (some 274877962239) (.n (some 19) (.n (some 3) .e
  .e)
  .e)
  (.n (some 8592039695) (.n (some 531911) .e
  .e)
  .e))
  (.n (some 3) (.n (some 101218289428364493977104185500852357152742950873023135088627) (.n (some 271) .e
  .e)
  .e)
  (.n (some 215) (.n (some 1) .e
  .e)
  .e))))
  (.n (some 70368752582463) (.n (some 33781) (.n (some 4835703278458670311014421) (.n (some 243) (.n (some 4159) .e
  .e)
  .e)
  (.n (some 5) (.n (some 21268317252094917911888073248812900111) .e
  .e)
  .e))
  (.n (some 4211) (.n (some 8246337208329) (.n (some 78403170312013250029) .e
  .e)
  .e)
  (.n (some 3) (.n (some 1) .e
  .e)
  .e)))
  (.n (some 31) (.n (some 21) (.n (some 7) (.n (some 5) .e
  .e)
  .e)
  (.n (some 19) (.n (some 3259264009699125022261772349) .e
  .e)
  .e))
  (.n (some 36267843763729151777922079) (.n (some 1101663305779) (.n (some 5) .e
  .e)
  .e)
  (.n (some 783) (.n (some 5) .e
  .e)
  .e)))))
  (.n (some 134251005) (.n (some 1223) (.n (some 540431955285512183) (.n (some 5) (.n (some 7) (.n (some 73855) .e
  .e)
  (.n (some 1) .e
  .e))
  (.n (some 2155905139) (.n (some 1053) .e
  .e)
  .e))
  (.n (some 91) (.n (some 4462506678183) (.n (some 66483) .e
  .e)
  .e)
  (.n (some 7) (.n (some 3) .e
  .e)
  .e)))
  (.n (some 458867) (.n (some 701520785923937636241602893838591751214894915893983) (.n (some 19) (.n (some 5) .e
  .e)
  .e)
  (.n (some 16661) (.n (some 1) .e
  .e)
  .e))
  (.n (some 5) (.n (some 2102159) (.n (some 349533) .e
  .e)
  .e)
  (.n (some 5) (.n (some 1) .e
  .e)
  .e))))
  (.n (some 5) (.n (some 9444741977368808194015) (.n (some 35417750732584664679085) (.n (some 19) (.n (some 5333568847123803275519) .e
  .e)
  .e)
  (.n (some 3389) (.n (some 4197407) .e
  .e)
  .e))
  (.n (some 19) (.n (some 239) (.n (some 2214597117) .e
  .e)
  .e)
  (.n (some 34078723) (.n (some 1) .e
  .e)
  .e)))
  (.n (some 3932189) (.n (some 21) (.n (some 7) (.n (some 7) .e
  .e)
  .e)
  (.n (some 3) (.n (some 1189835258970071138063) .e
  .e)
  .e))
  (.n (some 5) (.n (some 262599) (.n (some 115) .e
  .e)
  .e)
  (.n (some 1333065575601045263) (.n (some 1) .e
  .e)
  .e))))))
  (.n (some 68992106727) (.n (some 16792639) (.n (some 3) (.n (some 51) (.n (some 31) (.n (some 18989427897531368147) (.n (some 5) .e
  .e)
  (.n (some 29) .e
  .e))
  (.n (some 268435463) (.n (some 749019592093908130998168547243562859198691857383367) .e
  .e)
  .e))
  (.n (some 17179869243) (.n (some 191) (.n (some 263111) .e
  .e)
  .e)
  (.n (some 2404944301298205795995608671609117409532530230387297364930076198850559986959171280842211662609370182400574881787) (.n (some 4197407) .e
  .e)
  .e)))
  (.n (some 1) (.n (some 23) (.n (some 171270376469351985928356652762270137642217810605) (.n (some 3) .e
  .e)
  .e)
  (.n (some 21268317252094917911888073248812900111) (.n (some 7) .e
  .e)
  .e))
  (.n (some 3) (.n (some 2923003971560093291123168138537876760321514930163) (.n (some 4197407) .e
  .e)
  .e)
  (.n (some 85) (.n (some 525255) .e
  .e)
  .e))))
  (.n (some 16511) (.n (some 127) (.n (some 3975) (.n (some 243) (.n (some 21) .e
  .e)
  .e)
  (.n (some 7) (.n (some 1125918428956663) .e
  .e)
  .e))
  (.n (some 19) (.n (some 983049) (.n (some 5) .e
  .e)
  .e)
  (.n (some 19) (.n (some 1) .e
  .e)
  .e)))
  (.n (some 31) (.n (some 21) (.n (some 7) (.n (some 268435459) .e
  .e)
  .e)
  (.n (some 2097157) (.n (some 71) .e
  .e)
  .e))
  (.n (some 13194139542003) (.n (some 15) (.n (some 2111139645345779) .e
  .e)
  .e)
  (.n (some 549819789303) (.n (some 1) .e
  .e)
  .e)))))
  (.n (some 563473947852751) (.n (some 13) (.n (some 111) (.n (some 131) (.n (some 7) (.n (some 288231475663604767) .e
  .e)
  .e)
  (.n (some 262599) (.n (some 8592039695) .e
  .e)
  .e))
  (.n (some 144150381037879355) (.n (some 36965565532666580851) (.n (some 259) .e
  .e)
  .e)
  (.n (some 262411) (.n (some 1107300861) .e
  .e)
  .e)))
  (.n (some 495869) (.n (some 21) (.n (some 7) (.n (some 35184908959859) .e
  .e)
  .e)
  (.n (some 11) (.n (some 8796126839539) .e
  .e)
  .e))
  (.n (some 79) (.n (some 115) (.n (some 7) .e
  .e)
  .e)
  (.n (some 5) (.n (some 1) .e
  .e)
  .e))))
  (.n (some 137707422075) (.n (some 1) (.n (some 19015920783349880113919829214549) (.n (some 19) (.n (some 131075) .e
  .e)
  .e)
  (.n (some 127) (.n (some 1105731015) .e
  .e)
  .e))
  (.n (some 31) (.n (some 4303880947) (.n (some 18898117346603431623711) .e
  .e)
  .e)
  (.n (some 604275) (.n (some 1) .e
  .e)
  .e)))
  (.n (some 1966093) (.n (some 17188391667) (.n (some 7) (.n (some 8389363) .e
  .e)
  .e)
  (.n (some 2055) (.n (some 1298074253319337746486915690530803) .e
  .e)
  .e))
  (.n (some 2606289655829909590687318202646717) (.n (some 5) (.n (some 7) .e
  .e)
  .e)
  (.n (some 22997644815212700899627017342834150232570911) (.n (some 1) .e
  .e)
  .e)))))))
  (.n (some 151115727451897366381567) (.n (some 18448996010964426739) (.n (some 31) (.n (some 33269) (.n (some 5) (.n (some 73823040278140002269) (.n (some 275146342429) (.n (some 5) .e
  .e)
  (.n (some 1) .e
  .e))
  (.n (some 3) (.n (some 5) .e
  .e)
  .e))
  (.n (some 134348827) (.n (some 15405) (.n (some 374144508365136459053375850493849644411114100629463) .e
  .e)
  .e)
  (.n (some 755873789668953275102615) (.n (some 77) .e
  .e)
  .e)))
  (.n (some 1) (.n (some 33558643) (.n (some 19) (.n (some 3) .e
  .e)
  .e)
  (.n (some 1333065575601045263) (.n (some 65591) .e
  .e)
  .e))
  (.n (some 3) (.n (some 21) (.n (some 16445) .e
  .e)
  .e)
  (.n (some 16777415) (.n (some 1) .e
  .e)
  .e))))
  (.n (some 19) (.n (some 63) (.n (some 33087) (.n (some 243) (.n (some 295165919578818624575) .e
  .e)
  .e)
  (.n (some 15) (.n (some 22997644815212700899627017342834150232570911) .e
  .e)
  .e))
  (.n (some 31) (.n (some 983049) (.n (some 9671406556925829499060623) .e
  .e)
  .e)
  (.n (some 3) (.n (some 1) .e
  .e)
  .e)))
  (.n (some 288230377158623085) (.n (some 21) (.n (some 7) (.n (some 71009601651) .e
  .e)
  .e)
  (.n (some 2596149048237433459207189722825203) (.n (some 19) .e
  .e)
  .e))
  (.n (some 9671407710010061818445255) (.n (some 4597) (.n (some 5) .e
  .e)
  .e)
  (.n (some 783) (.n (some 4427223081289919760327) .e
  .e)
  .e)))))
  (.n (some 2013273775) (.n (some 5) (.n (some 1133367955888714851551219) (.n (some 66175) (.n (some 15) (.n (some 5) .e
  .e)
  (.n (some 1) .e
  .e))
  (.n (some 3) (.n (some 458867) .e
  .e)
  .e))
  (.n (some 281483566645307) (.n (some 7) (.n (some 199) .e
  .e)
  .e)
  (.n (some 19) (.n (some 3) .e
  .e)
  .e)))
  (.n (some 64424713715) (.n (some 3849) (.n (some 32985380354791) (.n (some 319388530210577016060112871421) .e
  .e)
  .e)
  (.n (some 159) (.n (some 35192962023443) .e
  .e)
  .e))
  (.n (some 16806963) (.n (some 19) (.n (some 33629533) .e
  .e)
  .e)
  (.n (some 5) (.n (some 1) .e
  .e)
  .e))))
  (.n (some 4019) (.n (some 67555025218441215) (.n (some 64426477309) (.n (some 19) (.n (some 34361835523) .e
  .e)
  .e)
  (.n (some 8796093268295) (.n (some 495869) .e
  .e)
  .e))
  (.n (some 2305843009213710333) (.n (some 61) (.n (some 21) .e
  .e)
  .e)
  (.n (some 19) (.n (some 1) .e
  .e)
  .e)))
  (.n (some 1966093) (.n (some 33587827) (.n (some 7) (.n (some 6212098462653308778664145217356018093774124482675) .e
  .e)
  .e)
  (.n (some 10404955393597153145976807980556275) (.n (some 5) .e
  .e)
  .e))
  (.n (some 32999) (.n (some 3) (.n (some 19) .e
  .e)
  .e)
  (.n (some 21268317252094917911888073248812900111) (.n (some 3) .e
  .e)
  .e))))))
  (.n (some 536889341) (.n (some 115) (.n (some 5) (.n (some 495869) (.n (some 604275) (.n (some 11) (.n (some 16445) .e
  .e)
  (.n (some 7) .e
  .e))
  (.n (some 5) (.n (some 5491) .e
  .e)
  .e))
  (.n (some 59) (.n (some 2430359657628573764283) (.n (some 262411) .e
  .e)
  .e)
  (.n (some 549787795693) (.n (some 3) .e
  .e)
  .e)))
  (.n (some 2473918005299) (.n (some 4093) (.n (some 7880391) (.n (some 19) .e
  .e)
  .e)
  (.n (some 22997644815212700899627017342834150232570911) (.n (some 1037) .e
  .e)
  .e))
  (.n (some 5) (.n (some 7) (.n (some 65565) .e
  .e)
  .e)
  (.n (some 19) (.n (some 207) .e
  .e)
  .e))))
  (.n (some 2099) (.n (some 31) (.n (some 20795022860841104132052621760559513139440971240620291725491180608312081507682017235906279765084625194682511346547801930376282985813) (.n (some 51) (.n (some 2251799822139507) .e
  .e)
  .e)
  (.n (some 262599) (.n (some 558347847623) .e
  .e)
  .e))
  (.n (some 21) (.n (some 3849) (.n (some 13) .e
  .e)
  .e)
  (.n (some 3) (.n (some 1) .e
  .e)
  .e)))
  (.n (some 5847433797016629170507309715937316859735827415037) (.n (some 21) (.n (some 7) (.n (some 16455) .e
  .e)
  .e)
  (.n (some 19) (.n (some 271) .e
  .e)
  .e))
  (.n (some 42535296023574879666274036850519702559) (.n (some 5) (.n (some 1153449278778114083) .e
  .e)
  .e)
  (.n (some 8592039695) (.n (some 1) .e
  .e)
  .e)))))
  (.n (some 1) (.n (some 9024860227693343) (.n (some 31) (.n (some 1075) (.n (some 7) (.n (some 5) .e
  .e)
  .e)
  (.n (some 11) (.n (some 1333065575601045263) .e
  .e)
  .e))
  (.n (some 524339) (.n (some 261724569685) (.n (some 42535296023574879666274036850519702559) .e
  .e)
  .e)
  (.n (some 66483) (.n (some 1) .e
  .e)
  .e)))
  (.n (some 71) (.n (some 21) (.n (some 7) (.n (some 2097283) .e
  .e)
  .e)
  (.n (some 8589935877) (.n (some 19) .e
  .e)
  .e))
  (.n (some 5) (.n (some 19) (.n (some 4367) .e
  .e)
  .e)
  (.n (some 5) (.n (some 3) .e
  .e)
  .e))))
  (.n (some 259) (.n (some 51) (.n (some 73263) (.n (some 19) (.n (some 3) .e
  .e)
  .e)
  (.n (some 15) (.n (some 8519683) .e
  .e)
  .e))
  (.n (some 7) (.n (some 263229) (.n (some 17215522431) .e
  .e)
  .e)
  (.n (some 524487) (.n (some 1) .e
  .e)
  .e)))
  (.n (some 270215981668761661) (.n (some 3) (.n (some 2063) (.n (some 259) .e
  .e)
  .e)
  (.n (some 65579) (.n (some 5575) .e
  .e)
  .e))
  (.n (some 275) (.n (some 549755814855) (.n (some 158610994757637) .e
  .e)
  .e)
  (.n (some 7) (.n (some 1) .e
  .e)
  .e)))))))))
noncomputable def maskOf (f : Nat) : Nat := Option.rec 0 (fun m => m) (maskT.get f)
end Ae
namespace Ae
open Go Go.Proofs
theorem prog_mix : Tryz.prog.follows .mixedOrders = true := by kernel_rfl
noncomputable def namesB (P : Program) : Bool := P.funcs.toList.all fun f => Bool.not (f.name == "runtime.NumGoroutine")
theorem prog_namesB : namesB Tryz.prog = true := by kernel_rfl
theorem prog_ok : ProgOk Tryz.prog where
  mix := prog_mix
  names := fun f fn _ hf _ => by
    have h := prog_namesB
    unfold namesB at h
    rw [List.all_eq_true] at h
    have := h fn (by rw [Array.mem_toList_iff]; exact Array.mem_of_getElem? hf)
    simpa using this
noncomputable def cxA : Cx := ⟨Tryz.prog, maskOf, fun _ => none, fun _ => none, 24, 14⟩
theorem cxA_ok (d : Nat) : CallsOk cxA (exec cxA d) := exec_ok (cx := cxA) prog_mix (fun _ _ h => by cases h) (fun _ _ h => by cases h) prog_ok.names d
noncomputable def dprims (f : Nat) : Option (List V → St → (V → St → Out) → Out) := match f with
  | 117 => some (recF cxA (exec cxA 20) 117) | 138 => some (recF cxA (exec cxA 20) 138) | 146 => some (recF cxA (exec cxA 20) 146)
  | _ => none
noncomputable def wMemo (v : Nat) : Memo := ⟨[], [.bx .dead, .bx .dead, .bx .dead, .bx .dead, .bx .dead, .bx .dead, .bx .dead, .bx .dead, .bx .dead, .bx .dead, .bx .dead, .bx .dead, .bx .dead, .bx .dead], [], .v (.n .i64 v), [], []⟩
noncomputable def wK (v : Nat) : Pf := konstK [] 14 (.n .i64 v) [] (fun _ _ _ => .fail 342)
noncomputable def prims0 (f : Nat) : Option (List V → St → (V → St → Out) → Out) := match f with
  | 106 => some pMore | 70 => some pGet | 530 => some (p198 cxA (exec cxA 40)) | 704 => some pCount
  | 54 => some pIs | 709 => some pIndexByteString | 273 => some pAdd64 | 275 => some pSub64 | 679 => some pSame
  | 110 => some (wK 8) | 109 => some (wK 4) | 207 => some (wK 2) | 665 => some (wK 1)
  | _ => none
theorem none_ok (f : Nat) (g : Pf) (h : (fun _ => none : Prim) f = some g) : PfOk Tryz.prog f g := by cases h
theorem noned_ok (f : Nat) (g : Pf) (h : (fun _ => none : Prim) f = some g) : PdOk Tryz.prog f g := by cases h
theorem FnOk.cast {cx cx' : Cx} {f : Nat} {g : Pf} (h : FnOk cx g f) (h1 : cx'.P = cx.P) (h2 : cx'.globs = cx.globs) : FnOk cx' g f := by
  intro args σ K x fr σ' hk μ w args' hm hG hl
  have := @h args σ K x fr σ' hk μ w args' (by rw [← h1]; exact hm) (by rw [← h2]; exact hG) hl
  rw [← h1] at this
  exact this
theorem DefOk.cast {cx cx' : Cx} {f : Nat} {g : Pf} (h : DefOk cx g f) (h1 : cx'.P = cx.P) (h2 : cx'.globs = cx.globs) : DefOk cx' g f := by
  intro args σ K x fr σ' hk μ w args' hm hG hl
  have := @h args σ K x fr σ' hk μ w args' (by rw [← h1]; exact hm) (by rw [← h2]; exact hG) hl
  rw [← h1] at this
  exact this
theorem rec_ok (f : Nat) : PdOk Tryz.prog f (recF cxA (exec cxA 20) f) := fun _ h1 h2 => DefOk.cast (recF_ok (cxA_ok 20) f) h1 h2
theorem dprims_ok (f : Nat) (g : Pf) (h : dprims f = some g) : PdOk Tryz.prog f g := by
  unfold dprims at h
  split at h <;> first | (injection h with h; subst h; exact rec_ok _) | cases h
theorem w327 : MemoOk Tryz.prog 14 110 (unM (wMemo 8)) := memo_known prog_ok (mask := maskOf) (d := 10) none_ok noned_ok hl_nil 0 110 (by kernel_rfl)
theorem w455 : MemoOk Tryz.prog 14 109 (unM (wMemo 4)) := memo_known prog_ok (mask := maskOf) (d := 10) none_ok noned_ok hl_nil 0 109 (by kernel_rfl)
theorem w532 : MemoOk Tryz.prog 14 207 (unM (wMemo 2)) := memo_known prog_ok (mask := maskOf) (d := 10) none_ok noned_ok hl_nil 0 207 (by kernel_rfl)
theorem w605 : MemoOk Tryz.prog 14 665 (unM (wMemo 1)) := memo_known prog_ok (mask := maskOf) (d := 10) none_ok noned_ok hl_nil 0 665 (by kernel_rfl)
theorem wK_ok {f v : Nat} (h : MemoOk Tryz.prog 14 f (unM (wMemo v))) : PfOk Tryz.prog f (wK v) := fun cx h1 h2 => konstK_ok (m := wMemo v) (by rw [h1, h2]; exact h) fail_ok rfl rfl rfl rfl rfl rfl
theorem m198 (i : Nat) (h : i ≤ 5 ∨ i = 10 ∨ i = 11 ∨ i = 12) : slotB (cxA.mask 530) i = true := by
  have : i = 0 ∨ i = 1 ∨ i = 2 ∨ i = 3 ∨ i = 4 ∨ i = 5 ∨ i = 10 ∨ i = 11 ∨ i = 12 := by omega
  have h0 : slotB (cxA.mask 530) 0 = true := by kernel_rfl
  have h1 : slotB (cxA.mask 530) 1 = true := by kernel_rfl
  have h2 : slotB (cxA.mask 530) 2 = true := by kernel_rfl
  have h3 : slotB (cxA.mask 530) 3 = true := by kernel_rfl
  have h4 : slotB (cxA.mask 530) 4 = true := by kernel_rfl
  have h5 : slotB (cxA.mask 530) 5 = true := by kernel_rfl
  have h10 : slotB (cxA.mask 530) 10 = true := by kernel_rfl
  have h11 : slotB (cxA.mask 530) 11 = true := by kernel_rfl
  have h12 : slotB (cxA.mask 530) 12 = true := by kernel_rfl
  rcases this with rfl | rfl | rfl | rfl | rfl | rfl | rfl | rfl | rfl <;> assumption
theorem prims0_ok (f : Nat) (g : Pf) (h : prims0 f = some g) : PfOk Tryz.prog f g := by
  unfold prims0 at h
  split at h <;> first | (injection h with h; subst h) | (cases h; done)
  · exact fun cx h1 _ => pMore_ok h1
  · exact fun cx h1 _ => pGet_ok h1
  · exact fun cx h1 h2 => FnOk.cast (p198_ok (cx := cxA) (cxA_ok 40) rfl m198) h1 h2
  · exact fun cx h1 _ => pCount_ok (fn := Tryz.f704) (by rw [h1]; exact Tryz.func704) (by kernel_rfl) (by kernel_rfl) (by kernel_rfl) (by kernel_rfl)
  · exact fun cx h1 _ => pIs_ok h1
  · exact fun cx h1 _ => pIndexByteString_ok (fn := Tryz.f709) (by rw [h1]; exact Tryz.func709) (by kernel_rfl) (by kernel_rfl) (by kernel_rfl) (by kernel_rfl)
  · exact fun cx h1 _ => pAdd64_ok (fn := Tryz.f273) (by rw [h1]; exact Tryz.func273) (by kernel_rfl) (by kernel_rfl) (by kernel_rfl) (by kernel_rfl)
  · exact fun cx h1 _ => pSub64_ok (fn := Tryz.f275) (by rw [h1]; exact Tryz.func275) (by kernel_rfl) (by kernel_rfl) (by kernel_rfl) (by kernel_rfl)
  · exact fun cx h1 _ => pSame_ok (fn := Tryz.f679) (by rw [h1]; exact Tryz.func679) (by kernel_rfl) (by kernel_rfl) (by kernel_rfl) (by kernel_rfl)
  · exact wK_ok w327
  · exact wK_ok w455
  · exact wK_ok w532
  · exact wK_ok w605
noncomputable def putB (g : Pf) (f : Nat) : Option Pf := ifb (Nat.beq f 105) (some g) (prims0 f)
theorem putB_ok {g : Pf} (h : PfOk Tryz.prog 105 g) (f : Nat) (g' : Pf) (hg : putB g f = some g') : PfOk Tryz.prog f g' := by
  unfold putB at hg
  rw [ifb_eq] at hg
  split at hg
  · rename_i he
    have := Nat.eq_of_beq_eq_true he
    subst this
    injection hg with hg
    subst hg
    exact h
  · exact prims0_ok f g' hg
noncomputable def putE : Pf := fun _ _ _ => .fail 360
theorem putE_ok : PfOk Tryz.prog 105 putE := fun _ _ _ => fail_ok
end Ae
namespace Ae
open Go Go.Proofs
noncomputable def litsOf (k : IntKind) (ns : List Nat) : List Value := ns.map fun n : Nat => Value.int k (Int.ofNat n)
noncomputable def rowB (k : IntKind) (ns : List Nat) (x : Blk) (t : Nat) : Bool := match x with
  | .row t' c z len _ => andB [Nat.beq t' t, Nat.beq len ns.length, (List.range ns.length).all fun j => same 2 ((cellAt c z len j).getD .u) (.n k (ns[j]?.getD 0)), ns.all fun n => Nat.blt n (md k)]
  | _ => false
theorem rowB_ok {k : IntKind} {ns : List Nat} {x : Blk} {t : Nat} (h : rowB k ns x t = true) : ∃ c z g, x = .row t c z ns.length g ∧ (∀ (j : Nat) (hj : j < ns.length), cellAt c z ns.length j = some (.n k ns[j])) ∧ ∀ n ∈ ns, n < md k := by
  unfold rowB at h
  split at h
  · rename_i t' c z len g
    obtain ⟨h1, h⟩ := andB_cons h
    obtain ⟨h2, h⟩ := andB_cons h
    obtain ⟨h3, h⟩ := andB_cons h
    obtain ⟨h4, _⟩ := andB_cons h
    obtain rfl := Nat.eq_of_beq_eq_true h1
    obtain rfl := Nat.eq_of_beq_eq_true h2
    refine ⟨c, z, g, rfl, fun j hj => ?_, fun n hn => ?_⟩
    · rw [List.all_eq_true] at h3
      have := same_eq 2 _ _ (h3 j (List.mem_range.2 hj))
      rw [List.getElem?_eq_getElem hj] at this
      cases hc : cellAt c z ns.length j with
      | none => rw [hc] at this; cases this
      | some v => rw [hc] at this; exact congrArg some this
    · rw [List.all_eq_true] at h4
      have := h4 n hn; rwa [Nat.blt_eq] at this
  · cases h
structure GT where
  g : Nat
  k : IntKind
  t : Nat
  ns : List Nat
def GT.met (W : World) (x : GT) : Prop := W.heap[x.g]? = some (.cells (litsOf x.k x.ns).toArray x.t) ∧ 100 ≤ x.t ∧ (x.k = .u8 ∨ x.k = .u64)
theorem wrap_u {k : IntKind} (hk : k = .u8 ∨ k = .u64) {n : Nat} (h : n < md k) : k.wrap n = n := by
  rcases hk with rfl | rfl
  · exact wrap_nn .u8 n h rfl
  · exact wrap_nn .u64 n h rfl
noncomputable def muG (l : List GT) : Mu := fun b => if b < 14 then some ⟨b, 0, ((l.find? fun x => x.g == b).map fun x => x.ns.length).getD 0⟩ else none
noncomputable def preB (l : List GT) (pre : List Blk) : Bool := Bool.and (Nat.beq pre.length 14) ((List.range 14).all fun b => match pre[b]? with
  | some .dead => true
  | some x => match l.find? fun x => x.g == b with | some y => rowB y.k y.ns x y.t | none => false
  | none => false)
theorem preB_ok {l : List GT} {pre : List Blk} (h : preB l pre = true) : pre.length = 14 ∧ ∀ b x, pre[b]? = some x → x = .dead ∨ ∃ y, (l.find? fun x => x.g == b) = some y ∧ rowB y.k y.ns x y.t = true := by
  unfold preB at h
  rw [Bool.and_eq_true] at h
  have hl := Nat.eq_of_beq_eq_true h.1
  refine ⟨hl, fun b x hx => ?_⟩
  have hb : b < 14 := by
    rcases Nat.lt_or_ge b 14 with q | q
    · exact q
    · rw [List.getElem?_eq_none (by omega)] at hx; cases hx
  have := (List.all_eq_true.1 h.2) b (List.mem_range.2 hb)
  rw [hx] at this
  cases x with
  | dead => exact .inl rfl
  | _ =>
    right
    simp only at this
    split at this
    · rename_i y hy; exact ⟨y, hy, this⟩
    · cases this
theorem find_g {l : List GT} {b : Nat} {y : GT} (h : (l.find? fun x => x.g == b) = some y) : y ∈ l ∧ y.g = b := ⟨List.mem_of_find?_eq_some h, by have := List.find?_some h; simpa using this⟩
theorem relG {P : Program} {W : World} {l : List GT} (hl : ∀ y ∈ l, y.met W) (h14 : 14 ≤ W.heap.size) {pre : List Blk} (hp : preB l pre = true) : RelM P (muG l) (stM pre) W := by
  obtain ⟨hlen, hpre⟩ := preB_ok hp
  have hmu : ∀ b L, muG l b = some L → b < 14 ∧ L = ⟨b, 0, ((l.find? fun x => x.g == b).map fun x => x.ns.length).getD 0⟩ := by
    intro b L h
    unfold muG at h
    split at h
    · rename_i q; exact ⟨q, (Option.some.inj h).symm⟩
    · cases h
  refine ⟨fun b x L hb hL => ?_, fun b b' x x' L L' hne hb hb' hl1 hl2 hL hL' => ?_, fun b hb => ?_, fun b L hL => ?_, fun b hb => ?_⟩
  · rw [stM_get] at hb
    obtain ⟨q, rfl⟩ := hmu b L hL
    rcases hpre b x hb with rfl | ⟨y, hy, hr⟩
    · trivial
    · obtain ⟨c, z, g, rfl, hc, hs⟩ := rowB_ok hr
      obtain ⟨hm, rfl⟩ := find_g hy
      obtain ⟨w1, w2, w3⟩ := hl y hm
      rw [hy]
      refine ⟨(litsOf y.k y.ns).toArray, (0, 0), w1, by simp [litsOf], by simp, .inl rfl, fun _ => Nat.zero_le _, fun j v hj => ?_⟩
      have hjl : j < y.ns.length := by
        rcases Nat.lt_or_ge j y.ns.length with q | q
        · exact q
        · rw [cellAt_ge q] at hj; cases hj
      rw [hc j hjl] at hj
      cases hj
      refine ⟨.int y.k (y.ns[j] : Int), by simp [litsOf, hjl], ?_⟩
      have hn := hs _ (List.getElem_mem hjl)
      have := RelV.n (μ := muG l) y.k y.ns[j] hn
      rwa [wrap_u w3 hn] at this
  · obtain ⟨_, rfl⟩ := hmu b L hL
    obtain ⟨_, rfl⟩ := hmu b' L' hL'
    exact hne
  · have hb : 14 ≤ b := by have : (stM pre).next = 14 := hlen; omega
    unfold muG
    rw [if_neg (by omega)]
  · obtain ⟨q, rfl⟩ := hmu b L hL
    exact Nat.lt_of_lt_of_le q h14
  · rw [stM_get, List.getElem?_eq_none]
    exact hb
theorem globG (l : List GT) : Glob 14 (muG l) := fun g hg => ⟨_, by unfold muG; rw [if_pos hg]⟩
theorem stepG {P : Program} {W W' : World} {l : List GT} (hl : ∀ y ∈ l, y.met W) {pre : List Blk} (hp : preB l pre = true) {μ' : Mu} (st : Step P (muG l) (stM pre) W μ' (stM pre) W') :
    W'.os = W.os ∧ W'.output = W.output ∧ W.heap.size ≤ W'.heap.size ∧ ∀ c, c < W.heap.size → W'.heap[c]? = W.heap[c]? := by
  obtain ⟨hlen, hpre⟩ := preB_ok hp
  refine ⟨st.rest.os, st.rest.output, st.rest.size, fun c hc => ?_⟩
  by_cases hh : Held (muG l) (stM pre) c
  · obtain ⟨b, x, L, hb, hx, hL, rfl⟩ := hh
    have hb' := hb
    rw [stM_get] at hb
    rcases hpre b x hb with rfl | ⟨y, hy, hr⟩
    · exact hx.elim
    · obtain ⟨cc, z, g, rfl, hcc, hs⟩ := rowB_ok hr
      obtain ⟨hm, rfl⟩ := find_g hy
      obtain ⟨w1, w2, w3⟩ := hl y hm
      have hLe : L = ⟨y.g, 0, y.ns.length⟩ := by
        unfold muG at hL
        split at hL
        · rw [hy] at hL; exact (Option.some.inj hL).symm
        · cases hL
      subst hLe
      obtain ⟨cs1, k1⟩ := st.rest.keep y.g _ y.t (0, 0) w2 w1
      obtain ⟨cs, fr, q1, q2, q3, q4, q5, q6⟩ := st.rel.blk y.g _ _ hb' (st.le _ _ hL)
      change W'.heap[y.g]? = _ at q1
      rw [k1] at q1
      cases q1
      show W'.heap[y.g]? = W.heap[y.g]?
      rw [k1, w1]
      have hq2 : cs1.size = y.ns.length := q2
      have e : cs1 = (litsOf y.k y.ns).toArray := by
        apply Array.ext
        · simp [litsOf, hq2]
        · intro j h1 h2
          have hj : j < y.ns.length := by omega
          obtain ⟨v', a1, a2⟩ := q6 j _ (hcc j hj)
          have a3 : cs1[j]? = some v' := by simpa using a1
          rw [Array.getElem?_eq_getElem h1] at a3
          cases a2 with
          | n k u hn =>
            rw [wrap_u w3 hn] at a3
            have := Option.some.inj a3
            rw [this]
            simp [litsOf]
      rw [e]
  · exact st.frame c hc hh
theorem calls_root {P : Program} {f : Nat} {m : Memo} {fn : Func} (hf : P.funcs[f]? = some fn) {c : Code} (hb : fn.body = some c) (hnm : (fn.name == "runtime.NumGoroutine") = false) (hm : MemoOk P 14 f (unM m)) {l : List GT} (hp : preB l (unM m).pre = true) (ha : (unM m).args = []) (hv : (unM m).val = .b true) (hn : (unM m).news = []) (hcg : (unM m).chg = [])
    {W : World} (h14 : 14 ≤ W.heap.size) (hl : ∀ y ∈ l, y.met W) :
    Calls P f #[] W fun e W' => e = .returned (.bool true) ∧ W'.os = W.os ∧ W'.output = W.output ∧ W.heap.size ≤ W'.heap.size ∧ ∀ c, c < W.heap.size → W'.heap[c]? = W.heap[c]? := by
  have hpost : ∀ l : List Blk, postL l [] = l := by
    intro l
    induction l with
    | nil => rfl
    | cons x l ih => show x :: postL l [] = _; rw [ih]
  have hpm : postM (unM m) = (unM m).pre := by unfold postM; rw [hn, hcg, hpost, List.append_nil]
  have hrun : (callFunc f #[]).run P W = .ok (.enter f #[]) W := run_enter hf hnm hb #[] W
  rcases hm.2 (relG hl h14 hp) (globG l) (by rw [ha]; exact .nil) with ⟨v', w1, μ1, v, σ1, h1, _⟩ | ⟨f', args', h1, h2⟩
  · rw [hrun] at h1; cases h1
  · rw [hrun] at h1
    cases h1
    refine h2.mono fun e W' ⟨v', μ1, v, σ1, he, hrv, hst, hv1, hσ⟩ => ?_
    subst he
    rw [hv] at hv1
    subst hv1
    rw [hpm] at hσ
    subst hσ
    cases hrv
    exact ⟨rfl, stepG hl hp hst⟩
end Ae
namespace Ae
open Go Go.Proofs
theorem laid_mem {P : Program} {w : World} {n : String} {d : DataW Unit} : ∀ {l : List (String × DataW Unit)} {ps : List MemPlace}, DataW.LaidVars P w l ps → (n, d) ∈ l →
    ∃ g t cs fuel p, P.globalNamed n = some g ∧ (P.globals[g]?).map (·.type) = some t ∧ w.var? P n = some cs ∧ DataW.trod (fun _ => ()) P w 0 (fun _ => true) false fuel t cs.toList = some (d, p)
  | [], _, _, h => by cases h
  | (n', d') :: r, ps, hl, h => by
    obtain ⟨g, t, cs, fuel, p, q, h1, h2, h3, h4, h5, _⟩ := hl
    rcases List.mem_cons.1 h with e | h
    · cases e; exact ⟨g, t, cs, fuel, p, h1, h2, h3, h4⟩
    · exact laid_mem h5 h
theorem laidH_mem {P : Program} {w : World} {n : String} {d : DataW Unit} {l : List (String × DataW Unit)} (h : laidMetH P l w) (hm : (n, d) ∈ l) (hd : d.handleName? = none) :
    ∃ g t cs fuel p, P.globalNamed n = some g ∧ (P.globals[g]?).map (·.type) = some t ∧ w.var? P n = some cs ∧ DataW.trod (fun _ => ()) P w 0 (fun _ => true) false fuel t cs.toList = some (d, p) := by
  unfold laidMetH at h
  split at h
  · obtain ⟨ps, h1, _⟩ := h
    exact laid_mem h1 hm
  · obtain ⟨⟨ps, h1, _⟩, _⟩ := h
    exact laid_mem h1 (List.mem_filter.2 ⟨hm, by rw [hd]; rfl⟩)
def aggD (k : IntKind) (ns : List Nat) : DataW Unit := .agg (ns.map fun n => .lit (.int k (Int.ofNat n)))
theorem agg_cells {P : Program} {W : World} {base : Nat} {spare : Nat → Bool} {held : Bool} {fuel t e n : Nat} {k : IntKind} {ns : List Nat} {cs : List Value} {p : List MemPlace} (hn : n = ns.length) (ht : P.underlying t = some (.array n e)) (he : P.underlying e = some (.int k)) (hc : P.cellsOf e = 1) (hct : P.cellsOf t = n)
    (h : DataW.trod (fun _ => ()) P W base spare held fuel t cs = some (aggD k ns, p)) : cs = litsOf k ns := by
  obtain ⟨xs, m, rfl, hx, hlen, hxn, hel⟩ := DataW.trod_array ht h
  unfold aggD at hx
  have hx1 : ns.map (fun n => (DataW.lit (.int k (Int.ofNat n)) : DataW Unit)) = xs.map (·.1) := by injection hx with a b; injection a
  apply List.ext_getElem?
  intro i
  by_cases hi : i < n
  · have h1 := hel i hi
    rw [hc, Nat.mul_one] at h1
    have hxi : i < xs.length := by omega
    rw [List.getElem?_eq_getElem hxi] at h1
    obtain ⟨z, e1, e2, _⟩ := DataW.trod_int he h1
    have e3 : (xs.map (·.1))[i]? = some (xs[i].1) := by rw [List.getElem?_map, List.getElem?_eq_getElem hxi]; rfl
    have hni : i < ns.length := by omega
    rw [← hx1, List.getElem?_map, List.getElem?_eq_getElem hni, e2] at e3
    have e4 : (ns[i] : Int) = z := by
      have := Option.some.inj e3
      injection this with this
      injection this
    have hcs : cs[i]? = some (.int k z) := by
      have : (cs.drop i)[0]? = some (.int k z) := by
        have h0 : ((cs.drop i).take 1)[0]? = some (.int k z) := by rw [e1]; rfl
        rwa [List.getElem?_take_of_lt (by omega)] at h0
      rw [List.getElem?_drop] at this
      simpa using this
    rw [hcs]
    unfold litsOf
    rw [List.getElem?_map, List.getElem?_eq_getElem hni, ← e4]
    rfl
  · rw [List.getElem?_eq_none (by rw [hlen, hct]; omega), List.getElem?_eq_none (by unfold litsOf; rw [List.length_map]; omega)]
noncomputable def rowT (P : Program) (g : Nat) : Option Nat := (((begin P (fun _ _ => 0) default).world.heap[g]?).bind Obj.row?).map (·.2)
theorem met_of {P : Program} {W : World} (sh : W.ShapedOpen P) {l : List (String × DataW Unit)} (hl : laidMetH P l W) (x : GT) (n : String) (e : Nat) (hm : (n, aggD x.k x.ns) ∈ l) (hg : P.globalNamed n = some x.g) (ht : (P.globals[x.g]?).map (·.type) = some x.t) (hs : x.g < P.globals.size) (hr : rowT P x.g = some x.t)
    (hu : P.underlying x.t = some (.array x.ns.length e)) (he : P.underlying e = some (.int x.k)) (hc : P.cellsOf e = 1) (hct : P.cellsOf x.t = x.ns.length) (h100 : 100 ≤ x.t) (hk : x.k = .u8 ∨ x.k = .u64) : x.met W := by
  obtain ⟨g, t, cs, fuel, p, h1, h2, h3, h4⟩ := laidH_mem hl hm rfl
  obtain rfl := Option.some.inj (hg.symm.trans h1)
  obtain rfl := Option.some.inj (ht.symm.trans h2)
  have hcs := agg_cells rfl hu he hc hct h4
  unfold rowT at hr
  obtain ⟨⟨zero, t'⟩, hz, rfl⟩ := Option.map_eq_some_iff.1 hr
  obtain ⟨cs', k1, _⟩ := sh.1 x.g zero _ hs hz
  have : cs' = cs := by
    simp only [World.var?, hg, Option.bind_some, k1] at h3
    exact Option.some.inj h3
  subst this
  refine ⟨?_, h100, hk⟩
  rw [k1, ← hcs]
theorem size_of {P : Program} {W : World} (sh : W.ShapedOpen P) {g : Nat} (hs : g < P.globals.size) {t : Nat} (hr : rowT P g = some t) : g + 1 ≤ W.heap.size := by
  unfold rowT at hr
  obtain ⟨⟨zero, t'⟩, hz, rfl⟩ := Option.map_eq_some_iff.1 hr
  obtain ⟨cs', k1, _⟩ := sh.1 g zero _ hs hz
  rcases Nat.lt_or_ge g W.heap.size with q | q
  · exact q
  · rw [Array.getElem?_eq_none q] at k1; cases k1
theorem keptBut_of {W W' : World} {may : MemPlace → Prop} (h1 : W'.os = W.os) (h2 : W'.output = W.output) (h : ∀ c, c < W.heap.size → W'.heap[c]? = W.heap[c]?) : W.keptBut W' may := by
  refine ⟨h1, h2, fun i hi => ?_⟩
  rw [h i hi]
  split
  · rename_i c t fr c' t' fr' e1 e2
    rw [e1] at e2
    cases e2
    exact ⟨rfl, rfl, rfl, fun _ _ => rfl⟩
  · rename_i es cl es' cl' e1 e2
    rw [e1] at e2
    cases e2
    exact .inr ⟨rfl, rfl⟩
  · rfl
theorem lifted_of {C : Checked} {os : Os} (started : os.Started) {f : Nat} {fn : Func} {H : Type} {enc : TypeId × Value → H} {s : ChangeSpec} {laid : List (String × DataW Unit)} {a : Assume} {m : Memo} {l : List GT} {t b13 : Nat} {cd : Code}
    (own : ownKnob C.prog.godebug = none) (noInit : C.prog.inits.idxOf? f = none) (hfn : C.prog.funcs[f]? = some fn) (hb : fn.body = some cd) (hnm : (fn.name == "runtime.NumGoroutine") = false) (hps : fn.params = #[]) (hrt : fn.resultTypes = #[t]) (ht : C.prog.underlying t = some .bool) (hvars : s.vars = []) (hs : s.fn H [] = { results := [.lit (.bool true)], args := [] })
    (hg13 : 13 < C.prog.globals.size) (hr13 : rowT C.prog 13 = some b13)
    (hm : MemoOk C.prog 14 f (unM m)) (hp : preB l (unM m).pre = true) (ha : (unM m).args = []) (hv : (unM m).val = .b true) (hn : (unM m).news = []) (hcg : (unM m).chg = [])
    (hmet : ∀ W : World, W.ShapedOpen C.prog → laidMetH C.prog laid W → ∀ y ∈ l, y.met W)
    (witness : ∃ (w : World) (tape : Tape) (i : Input), w.os = os ∧ (w.forCall tape i).Shaped C.prog ∧ i.vars = [] ∧ Input.okWide C.prog (w.forCall tape i) .any w.heap.size f i ∧
      ((s.pre enc C.prog fn [] false (w.forCall tape i).memory i.args ∧ laidMetH C.prog laid (w.forCall tape i).memory) ∧ sizedMet enc C.prog fn (OpenSpec.ofChange s) false (w.forCall tape i).memory i.args) ∧ a.holds C.prog (lone (Frame.enter C.prog f i.args .normal) [] (w.forCall tape i))) :
    ReturnsInHanded a C os f .any (fun w args => (s.pre enc C.prog fn [] false w args ∧ laidMetH C.prog laid w) ∧ sizedMet enc C.prog fn (OpenSpec.ofChange s) false w args) (s.post enc C.prog fn false true false false) := by
  refine returnsInHanded_of_calls own started noInit witness ?_
  intro w tape i _ sh _ hok hpre hholds
  obtain ⟨⟨⟨ds, gs, before, hw, hc⟩, hx⟩, hz⟩ := hpre
  have hw' := DataW.Whole.of_heap (w' := w.forCall tape i) (by rfl) hw
  have hx' : laidMetH C.prog laid (w.forCall tape i) := hx.of_heap (by rfl)
  generalize hW : w.forCall tape i = W at *
  have hall := hw'
  obtain ⟨p, q, hA, hV, rfl, hfz, hnd⟩ := hall
  have hA0 : DataW.TrodAll enc C.prog W 0 (fun _ => true) true [] i.args.toList ds p := by rw [hps] at hA; exact hA
  rw [hvars] at hV
  obtain ⟨rfl, rfl⟩ := Go.ChangeShapes.trodVars_none hV
  obtain ⟨e1, e2, e3⟩ : i.args.toList = [] ∧ ds = [] ∧ p = [] := by
    cases hl : i.args.toList with
    | nil => rw [hl] at hA0; cases ds with
      | nil => exact ⟨rfl, rfl, by simpa [DataW.TrodAll] using hA0⟩
      | cons d ds => simp [DataW.TrodAll] at hA0
    | cons v vs => rw [hl] at hA0; simp [DataW.TrodAll] at hA0
  have e4 : i.args = #[] := Array.toList_eq_nil_iff.1 e1
  subst e2 e3
  rw [e4] at hw' ⊢
  refine (calls_root hfn hb hnm hm hp ha hv hn hcg (size_of sh hg13 hr13) (hmet W sh hx')).mono fun e W' ⟨he, h1, h2, h3, h4⟩ => ?_
  subst he
  apply ChangeSpec.post_blind
  refine ⟨[], [], [], [], [], [], hw', ?_, ?_, ?_, keptBut_of h1 h2 h4, fun h => by cases h⟩
  · rw [List.append_nil, hs, hrt]
    exact ChangeShapes.trodAll_mk1 (Go.RowKit.shut_bool ht true)
  · rw [List.append_nil, hs, hps]
    simp [DataW.TrodAll]
  · rw [List.append_nil, hs, hvars]
    simp [DataW.TrodVars]
end Ae
namespace Ae
open Go Go.Proofs
set_option maxRecDepth 100000
def nsPow : List Nat := [1, 10, 100, 1000, 10000, 100000, 1000000, 10000000, 100000000, 1000000000, 10000000000, 100000000000, 1000000000000, 10000000000000, 100000000000000, 1000000000000000, 10000000000000000, 100000000000000000, 1000000000000000000, 10000000000000000000]
def nsClass : List Nat := [0, 0, 0, 0, 0, 0, 0, 0, 0, 1, 1, 0, 0, 1, 0, 0, 0, 0, 0, 0, 0, 0, 0, 0, 0, 0, 0, 0, 0, 0, 0, 0, 1, 6, 5, 2, 0, 6, 6, 0, 6, 6, 6, 6, 6, 6, 6, 6, 3, 3, 3, 3, 3, 3, 3, 3, 3, 3, 0, 6, 6, 6, 6, 0, 0, 4, 4, 4, 4, 4, 4, 4, 4, 4, 4, 4, 4, 4, 4, 4, 4, 4, 4, 4, 4, 4, 4, 4, 4, 4, 4, 6, 0, 6, 6, 4, 0, 4, 4, 4, 4, 4, 4, 4, 4, 4, 4, 4, 4, 4, 4, 4, 4, 4, 4, 4, 4, 4, 4, 4, 4, 4, 4, 6, 6, 6, 0, 0]
def nsSpace : List Nat := [0, 0, 0, 0, 0, 0, 0, 0, 0, 1, 1, 1, 1, 1, 0, 0, 0, 0, 0, 0, 0, 0, 0, 0, 0, 0, 0, 0, 0, 0, 0, 0, 1, 0, 0, 0, 0, 0, 0, 0, 0, 0, 0, 0, 0, 0, 0, 0, 0, 0, 0, 0, 0, 0, 0, 0, 0, 0, 0, 0, 0, 0, 0, 0, 0, 0, 0, 0, 0, 0, 0, 0, 0, 0, 0, 0, 0, 0, 0, 0, 0, 0, 0, 0, 0, 0, 0, 0, 0, 0, 0, 0, 0, 0, 0, 0, 0, 0, 0, 0, 0, 0, 0, 0, 0, 0, 0, 0, 0, 0, 0, 0, 0, 0, 0, 0, 0, 0, 0, 0, 0, 0, 0, 0, 0, 0, 0, 0, 0, 0, 0, 0, 0, 0, 0, 0, 0, 0, 0, 0, 0, 0, 0, 0, 0, 0, 0, 0, 0, 0, 0, 0, 0, 0, 0, 0, 0, 0, 0, 0, 0, 0, 0, 0, 0, 0, 0, 0, 0, 0, 0, 0, 0, 0, 0, 0, 0, 0, 0, 0, 0, 0, 0, 0, 0, 0, 0, 0, 0, 0, 0, 0, 0, 0, 0, 0, 0, 0, 0, 0, 0, 0, 0, 0, 0, 0, 0, 0, 0, 0, 0, 0, 0, 0, 0, 0, 0, 0, 0, 0, 0, 0, 0, 0, 0, 0, 0, 0, 0, 0, 0, 0, 0, 0, 0, 0, 0, 0, 0, 0, 0, 0, 0, 0, 0, 0, 0, 0, 0, 0, 0, 0, 0, 0, 0, 0]
def nsRank : List Nat := [1, 1, 1, 1, 1, 1, 2, 3, 4, 5, 5, 6, 6, 7]
def gts : List GT := [⟨2, .u64, 688, nsPow⟩, ⟨3, .u8, 802, nsClass⟩, ⟨4, .u8, 811, nsSpace⟩, ⟨8, .u8, 878, nsRank⟩]
theorem metAll {laid : List (String × DataW Unit)} (h2 : ("internal/strconv.uint64pow10", aggD .u64 nsPow) ∈ laid) (h3 : ("bulkhead/scan.classes", aggD .u8 nsClass) ∈ laid) (h4 : ("strings.asciiSpace", aggD .u8 nsSpace) ∈ laid) (h8 : ("bulkhead/render.ranks", aggD .u8 nsRank) ∈ laid)
    (W : World) (sh : W.ShapedOpen Tryz.prog) (hl : laidMetH Tryz.prog laid W) : ∀ y ∈ gts, y.met W := by
  have k2 : GT.met W ⟨2, .u64, 688, nsPow⟩ := met_of sh hl ⟨2, .u64, 688, nsPow⟩ _ 26 h2 (by kernel_rfl) (by kernel_rfl) (of_decide_eq_true (by kernel_rfl)) (by kernel_rfl) (by kernel_rfl) (by kernel_rfl) (by kernel_rfl) (by kernel_rfl) (by decide) (.inr rfl)
  have k3 : GT.met W ⟨3, .u8, 802, nsClass⟩ := met_of sh hl ⟨3, .u8, 802, nsClass⟩ _ 5 h3 (by kernel_rfl) (by kernel_rfl) (of_decide_eq_true (by kernel_rfl)) (by kernel_rfl) (by kernel_rfl) (by kernel_rfl) (by kernel_rfl) (by kernel_rfl) (by decide) (.inl rfl)
  have k4 : GT.met W ⟨4, .u8, 811, nsSpace⟩ := met_of sh hl ⟨4, .u8, 811, nsSpace⟩ _ 5 h4 (by kernel_rfl) (by kernel_rfl) (of_decide_eq_true (by kernel_rfl)) (by kernel_rfl) (by kernel_rfl) (by kernel_rfl) (by kernel_rfl) (by kernel_rfl) (by decide) (.inl rfl)
  have k8 : GT.met W ⟨8, .u8, 878, nsRank⟩ := met_of sh hl ⟨8, .u8, 878, nsRank⟩ _ 5 h8 (by kernel_rfl) (by kernel_rfl) (of_decide_eq_true (by kernel_rfl)) (by kernel_rfl) (by kernel_rfl) (by kernel_rfl) (by kernel_rfl) (by kernel_rfl) (by decide) (.inl rfl)
  intro y hy
  simp only [gts, List.mem_cons, List.not_mem_nil, or_false] at hy
  rcases hy with rfl | rfl | rfl | rfl
  · exact k2
  · exact k3
  · exact k4
  · exact k8
theorem row13 : rowT Tryz.prog 13 = some 849 := by kernel_rfl
end Ae
namespace Ae
open Go Go.Proofs Go.RowKit
theorem agg455 : agg? Tryz.prog 455 = some true := by kernel_rfl
theorem info455 : (Tryz.prog.info? 455).map (fun i => i.size) = some 2 := by kernel_rfl
theorem load455 {w : World} {b : Nat} {x y : Value} (h0 : w.cell? ⟨b, 0, none⟩ = some x) (h1 : w.cell? ⟨b, 1, none⟩ = some y) : (loadVar 455 ⟨b, 0, none⟩).run Tryz.prog w = .ok (.agg #[x, y]) w := by
  obtain ⟨i, hi, e⟩ := Option.map_eq_some_iff.1 info455
  have hs : Tryz.prog.cellsOf 455 = 2 := by kernel_rfl
  simp only [loadVar, Sem.run_bind, run_isAgg agg455, Result.andThen_ok, if_true, run_sizeOf w hi]
  simp [hs, loadCells, go_sem, h0, h1]
theorem results_peek {fn : Func} {t u T : Nat} (h : fn.results = #[.tmp t, .cell u T]) (tmps : Array Value) (w : World) (v x y : Value) (b : Nat) (h1 : tmps.getD t Go.undef = v) (h2 : tmps.getD u Go.undef = .pointer (some ⟨b, 0, none⟩)) (hl : (loadVar T ⟨b, 0, none⟩).run Tryz.prog w = .ok (.agg #[x, y]) w) :
    (results fn tmps).run Tryz.prog w = .ok (.tuple #[v, .agg #[x, y]]) w := by
  rw [Array.getD_eq_getD_getElem?] at h1 h2
  simp [results, h, h1, h2, asAddr, hl]
set_option maxHeartbeats 4000000 in
set_option maxRecDepth 100000 in
theorem peek64 (ib io B d rb ro len cap : Nat) (zs : List Nat) (w : World) (hi : ib < w.heap.size) (h1 : w.cell? ⟨ib, io, none⟩ = some (.int .u64 (B : Nat))) (h2 : w.cell? ⟨ib, io + 14, none⟩ = some (.slice (some ⟨rb, ro, none⟩) len cap))
    (hB : B + d < 18446744073709551616) (hd : d + 8 ≤ len) (hlc : len ≤ cap) (hlen : len < 9223372036854775808) (hr : rb < w.heap.size) (hc : ∀ j, j < 8 → w.cell? ⟨rb, ro + d + j, none⟩ = some (.int .u8 (zs[j]?.getD 0 : Nat))) :
    Calls Tryz.prog 754 #[.pointer (some ⟨ib, io, none⟩), .int .u64 ((B + d : Nat) : Int), .int .i64 8] w fun e w' => e = .returned (.tuple #[.int .u64 (le8 zs 8), .agg #[.int .i64 0, .int .u64 0]]) ∧ Below w.heap.size w w' := by
  have f1 : decide ((B : Int) + (d : Int) < (B : Int)) = false := by simp; omega
  have f2 : IntKind.u64.wrap ((B : Int) + (d : Int) - (B : Int)) = (d : Int) := by
    have : IntKind.u64.wrap ((B : Int) + (d : Int) - (B : Int)) = ((B : Int) + (d : Int) - (B : Int)) % 18446744073709551616 := by simp [IntKind.wrap, IntKind.bits, IntKind.signed]
    rw [this]; omega
  have f3 : IntKind.u64.wrap (len : Int) = (len : Int) := by
    have : IntKind.u64.wrap (len : Int) = (len : Int) % 18446744073709551616 := by simp [IntKind.wrap, IntKind.bits, IntKind.signed]
    rw [this]; omega
  have f4 : decide (len ≤ d) = false := by simp; omega
  have f5 : IntKind.u64.wrap ((len : Int) - (d : Int)) = (len : Int) - (d : Int) := by
    have : IntKind.u64.wrap ((len : Int) - (d : Int)) = ((len : Int) - (d : Int)) % 18446744073709551616 := by simp [IntKind.wrap, IntKind.bits, IntKind.signed]
    rw [this]; omega
  have f6 : decide ((len : Int) - (d : Int) < 8) = false := by simp; omega
  have g1 : (w.alloc (.cells #[.int .i64 0, .int .u64 0] 455)).cell? ⟨ib, io, none⟩ = some (.int .u64 (B : Nat)) := by rw [World.cell?_alloc_old _ _ _ (Nat.ne_of_lt hi)]; exact h1
  go_enter Tryz.func754, Tryz.ntmps754
  go_wp2
  go_quiet (fail)
  go_wp2
  have s1 : (d : Int) ≤ (len : Int) := by omega
  have s2 : (8 : Int) ≤ (cap : Int) - (d : Int) := by omega
  have s3 : 8 ≤ cap - d := by omega
  have s4 : d ≤ len := by omega
  go_quiet (fail)
  go_wp2
  go_loop [8, 70] (fun v i => ∃ k : Nat, k ≤ 8 ∧ i = .int .i64 k ∧ v = .int .u64 (le8 zs k)) (fun _ i => (8 - intOf i).toNat)
  case atStart => exact ⟨0, by omega, rfl, by simp only [le8]⟩
  case round =>
    obtain ⟨k, hk, rfl, rfl⟩ := hrel
    have hcell : k < 8 → w.cell? ⟨rb, ro + d + k, none⟩ = some (.int .u8 (zs[k]?.getD 0 : Nat)) := fun h => hc k h
    clear hc
    have hk8 : k = 0 ∨ k = 1 ∨ k = 2 ∨ k = 3 ∨ k = 4 ∨ k = 5 ∨ k = 6 ∨ k = 7 ∨ k = 8 := by omega
    rcases hk8 with rfl | rfl | rfl | rfl | rfl | rfl | rfl | rfl | rfl
    all_goals (try replace hcell := hcell (by omega))
    all_goals (try rw [Nat.add_zero] at hcell)
    all_goals go_wp2
    all_goals first
      | (go_round
         case rel =>
           first
             | exact ⟨_, _, _, _, ⟨1, by omega, rfl, by rw [le8_1]⟩, rfl, rfl, rfl, rfl⟩ | exact ⟨_, _, _, _, ⟨2, by omega, rfl, by rw [le8_2]⟩, rfl, rfl, rfl, rfl⟩ | exact ⟨_, _, _, _, ⟨3, by omega, rfl, by rw [le8_3]⟩, rfl, rfl, rfl, rfl⟩ | exact ⟨_, _, _, _, ⟨4, by omega, rfl, by rw [le8_4]⟩, rfl, rfl, rfl, rfl⟩
             | exact ⟨_, _, _, _, ⟨5, by omega, rfl, by rw [le8_5]⟩, rfl, rfl, rfl, rfl⟩ | exact ⟨_, _, _, _, ⟨6, by omega, rfl, by rw [le8_6]⟩, rfl, rfl, rfl, rfl⟩ | exact ⟨_, _, _, _, ⟨7, by omega, rfl, by rw [le8_7]⟩, rfl, rfl, rfl, rfl⟩ | exact ⟨_, _, _, _, ⟨8, by omega, rfl, by rw [le8_8]⟩, rfl, rfl, rfl, rfl⟩
         case measure => decide)
      | skip
    (try simp only [Exit.inBlock, Exit.then])
    refine bodyPost_ret (results_peek rfl _ _ _ (.int .i64 0) (.int .u64 0) w.heap.size rfl rfl ?_) rfl ⟨rfl, ?_⟩
    · refine load455 ?_ ?_
      · simp [go_sem]
      · simp [go_sem]
    · have hb : ∀ n, Below w.heap.size w ((w.alloc (.cells #[.int .i64 0, .int .u64 0] 455)).drewN n) := fun n => ⟨rfl, rfl, rfl, ((Below.refl _ w).alloc (Nat.le_refl _) _).size, fun k hk => Below.heap_alloc w _ k hk⟩
      exact ((hb _).setCell (p := ⟨w.heap.size, 0, none⟩) (Nat.le_refl _) _).setCell (p := ⟨w.heap.size, 1, none⟩) (Nat.le_refl _) _
end Ae
namespace Ae
open Go Go.Proofs Go.RowKit
noncomputable def peekK (at_ : Nat) (σ : St) (K : V → St → Out) (B : V) (s : V) : Out := match B with
  | .n .u64 B => (match s with
    | .sl rb ro len _ => ifb (andB [Nat.ble B at_, Nat.ble (Nat.add (Nat.sub at_ B) 8) len]) (loadN σ rb (Nat.add ro (Nat.sub at_ B)) 8 (.fail 391) fun l => bytesK l fun l => orK l 1 0 fun r => K (.t [.n .u64 r, .a [.n .i64 0, .n .u64 0]]) σ) (.fail 392)
    | _ => .fail 393)
  | _ => .fail 394
noncomputable def pPeek (args : List V) (σ : St) (K : V → St → Out) : Out := match args with
  | [.p ib io, .n .u64 at_, .n .i64 wd] => ifb (andB [Nat.beq wd 8, Nat.blt at_ 18446744073709551616]) (Option.rec (.fail 395) (fun B => Option.rec (.fail 396) (fun s => peekK at_ σ K B s) (cellOf σ ib (Nat.add io 14))) (cellOf σ ib io)) (.fail 397)
  | _ => .fail 398
theorem pPeek_ok {cx : Cx} (hP : cx.P = Tryz.prog) : FnOk cx pPeek 754 := by
  intro args σ K x fr σ' hk μ w args' hm hG hl
  have hf : Tryz.prog.funcs[754]? = some Tryz.f754 := Tryz.func754
  obtain ⟨c, hb⟩ : ∃ c, Tryz.f754.body = some c := ⟨_, rfl⟩
  unfold pPeek at hk
  split at hk
  · rename_i ib io at_ wd
    obtain ⟨hg1, hk1⟩ := ifb_inv hk
    obtain ⟨g1, hg2⟩ := andB_cons hg1
    obtain ⟨g2, -⟩ := andB_cons hg2
    obtain rfl := Nat.eq_of_beq_eq_true g1
    have hat : at_ < 18446744073709551616 := by simpa using g2
    cases hB : cellOf σ ib io with
    | none => rw [hB] at hk1; cases hk1
    | some Bv =>
    rw [hB] at hk1
    cases hS : cellOf σ ib (Nat.add io 14) with
    | none => rw [hS] at hk1; cases hk1
    | some sv =>
    rw [hS] at hk1
    replace hk1 : peekK at_ σ K Bv sv = .done x fr σ' := hk1
    unfold peekK at hk1
    split at hk1
    · rename_i B
      split at hk1
      · rename_i rb ro len cap
        obtain ⟨hg3, hk2⟩ := ifb_inv hk1
        obtain ⟨g3, hg4⟩ := andB_cons hg3
        obtain ⟨g4, -⟩ := andB_cons hg4
        have hBa : B ≤ at_ := Nat.le_of_ble_eq_true g3
        have hle : at_ - B + 8 ≤ len := Nat.le_of_ble_eq_true g4
        cases hl' : args'.toList with
        | nil => rw [hl'] at hl; cases hl
        | cons a1 l1 =>
        rw [hl'] at hl
        cases hl with | cons h1 hl =>
        cases hl with | cons h2 hl =>
        cases hl with | cons h3 hl =>
        cases hl
        cases h1 with | @p _ L _ hL =>
        cases h2 with | n _ _ hx2 =>
        cases h3 with | n _ _ hx3 =>
        obtain ⟨B', gB, rB⟩ := cellOf_ok hm hL hB
        obtain ⟨sv', gS, rS⟩ := cellOf_ok hm hL hS
        obtain ⟨L2, cap', off', hL2, hn, hcap, hoff, rfl⟩ := slice_inv rS
        have hoff' := hoff (by omega)
        subst hoff'
        obtain ⟨zs, hk3, hlen, hz, hc⟩ := bytes_cells hm hL2 hk2
        obtain ⟨z0, z1, z2, z3, z4, z5, z6, z7, rfl⟩ := eight hlen
        obtain ⟨r, e1, e2, e3⟩ := le8_ok z0 z1 z2 z3 z4 z5 z6 z7 hz
        rw [e3] at hk3
        have hBw : B' = .int .u64 (B : Nat) := by
          cases rB with | n _ _ hx => rw [wrap_u64' B hx]
        subst hBw
        obtain ⟨d, hd⟩ : ∃ d : Nat, at_ = B + d := ⟨at_ - B, by omega⟩
        subst hd
        have hdd : B + d - B = d := by omega
        have hw := peek64 L.c (L.sh + io) B d L2.c (L2.sh + ro) len cap' [z0, z1, z2, z3, z4, z5, z6, z7] w (hm.inb _ _ hL) gB gS (by omega) (by omega) hcap hn (hm.inb _ _ hL2) (fun j hj => by
          have h := hc j hj
          have e : L2.sh + Nat.add ro (Nat.sub (B + d) B) + j = L2.sh + ro + d + j := by show L2.sh + (ro + (B + d - B)) + j = _; rw [hdd]; omega
          rw [e] at h
          exact h)
        rw [e1] at hw
        have ha : args' = #[.pointer (some ⟨L.c, L.sh + io, none⟩), .int .u64 ((B + d : Nat) : Int), .int .i64 8] := by
          refine Array.toList_inj.1 (hl'.trans ?_)
          rw [wrap_u64' _ hat]
          rfl
        rw [hP] at hm ⊢
        rw [ha]
        exact comes_calls hf (by decide +kernel) hb hm (v := .t [.n .u64 r, .a [.n .i64 0, .n .u64 0]]) (.t (vs' := #[.int .u64 (r : Nat), .agg #[.int .i64 0, .int .u64 0]]) (.cons (u64_val μ r e2) (.cons (.a (.cons (.n .i64 0 (by decide)) (.cons (u64_val μ 0 (by decide)) .nil))) .nil))) (hw.mono fun e w1 he => ⟨he.1, he.2⟩) hk3
      · cases hk1
    · cases hk1
  · cases hk
end Ae
namespace Ae
open Go Go.Proofs
noncomputable def primsP (f : Nat) : Option Pf := ifb (Nat.beq f 754) (some pPeek) (prims0 f)
theorem primsP_ok (f : Nat) (g : Pf) (h : primsP f = some g) : PfOk Tryz.prog f g := by
  unfold primsP at h
  rw [ifb_eq] at h
  split at h
  · rename_i he
    have := Nat.eq_of_beq_eq_true he
    subst this
    injection h with h
    subst h
    exact fun cx h1 _ => pPeek_ok h1
  · exact prims0_ok f g h
end Ae
namespace Ae
open Go
noncomputable def finO : Out := .done .norm ⟨.e, []⟩ st0
noncomputable def isFin (o : Out) : Bool := match o with
  | .done .norm ⟨.e, []⟩ ⟨.e, n⟩ => Nat.beq n 0
  | _ => false
theorem isFin_eq {o : Out} (h : isFin o = true) : o = finO := by
  unfold isFin at h
  split at h
  · rw [Nat.eq_of_beq_eq_true h]; rfl
  · cases h
noncomputable def allO {α : Type} (f : α → Out) (l : List α) : Out := List.rec finO (fun x _ ih => ifb (isFin (f x)) ih (.fail 410)) l
theorem allO_fin {α : Type} {f : α → Out} : ∀ {l : List α}, allO f l = finO → ∀ x ∈ l, f x = finO := by
  intro l
  induction l with
  | nil => intro _ x hx; cases hx
  | cons y l ih =>
    intro h x hx
    obtain ⟨h1, h2⟩ := ifb_inv (a := allO f l) (n := 410) h
    rcases List.mem_cons.1 hx with rfl | hx
    · exact isFin_eq h1
    · exact ih h2 x hx
abbrev NC := Fr → St → (Ex → Fr → St → Out) → Out
def NOk (cx : Cx) (r : Option Nat) (f : Nat) (c : Code) (g : NC) : Prop :=
  ∀ ⦃sl : T V⦄ ⦃ds : DS⦄ ⦃σ : St⦄ ⦃K : Ex → Fr → St → Out⦄, g ⟨sl, ds⟩ σ K = finO → ∀ ⦃μ : Mu⦄ ⦃w : World⦄ ⦃a : Act⦄, RelM cx.P μ σ w → Glob cx.globs μ → FrOk cx r f μ sl ds a →
    ∀ ⦃Q : Exit → Act → World → Prop⦄, (∀ x fr1 σ1 μ1 a1 w1, K x fr1 σ1 = finO → Step cx.P μ σ w μ1 σ1 w1 → FrOk cx r f μ1 fr1.slots fr1.ds a1 → Q (exOf x) a1 w1) → c.wpIn (fe r) 0 cx.P Q a w
noncomputable def nLift (run : Fr → St → Out) : NC := fun fr σ K => Out.rec (fun x fr σ => K x fr σ) (fun n => .fail n) (run fr σ)
theorem nLift_ok {cx : Cx} {r : Option Nat} {f : Nat} {c : Code} {run : Fr → St → Out} (h : CodeOk cx r f c run) : NOk cx r f c (nLift run) := by
  intro sl ds σ K hk μ w a hm hG hf Q hQ
  unfold nLift at hk
  cases hr : run ⟨sl, ds⟩ σ with
  | fail n => rw [hr] at hk; cases hk
  | done x fr1 σ1 =>
    rw [hr] at hk
    exact h hr hm hG hf fun μ1 a1 w1 st hf1 => hQ x fr1 σ1 μ1 a1 w1 hk st hf1
noncomputable def nSeq (ga gb : NC) : NC := fun fr σ K => ga fr σ fun x fr σ => Ex.rec (gb fr σ K) (fun i => K (.exit i) fr σ) (fun l => K (.goto l) fr σ) (K .ret fr σ) x
theorem nSeq_ok {cx : Cx} {r : Option Nat} {f : Nat} {a b : Code} {ga gb : NC} (ha : NOk cx r f a ga) (hb : NOk cx r f b gb) : NOk cx r f (.seq a b) (nSeq ga gb) := by
  intro sl ds σ K hk μ w act hm hG hf Q hQ
  refine wpIn_seq (ha hk hm hG hf fun x fr1 σ1 μ1 a1 w1 h1 st hf1 => ?_)
  cases x with
  | norm => exact hb (sl := fr1.slots) (ds := fr1.ds) h1 st.rel (hG.mono st.le) hf1 fun x2 fr2 σ2 μ2 a2 w2 h2 st2 hf2 => hQ x2 fr2 σ2 μ2 a2 w2 h2 (st.trans st2) hf2
  | exit i => exact exOf_then (x := .exit i) (by intro c; cases c) (hQ (.exit i) fr1 σ1 μ1 a1 w1 h1 st hf1)
  | goto l => exact exOf_then (x := .goto l) (by intro c; cases c) (hQ (.goto l) fr1 σ1 μ1 a1 w1 h1 st hf1)
  | ret => exact exOf_then (x := .ret) (by intro c; cases c) (hQ .ret fr1 σ1 μ1 a1 w1 h1 st hf1)
end Ae
namespace Ae
open Go
section
variable {r : Option Nat} {cx : Cx} {self : Self} {f : Nat} {mr : MR} {b : Nat}
theorem mr_loopN (hcall : CallT cx self) (hmeth : MethT cx self) (hs : SelfOk cx self) {a b' : Code} (hr : MROk cx.P (cx.mask f) (ntmps cx f) a b' mr) {id1 id2 : Nat} {ops1 ops2 : Array Oper} {o1 o2 o3 : Oper}
    (h1 : ops1.toList = [o1, o2]) (p4 : o1.op = .next (.tmp mr.it) false) (p5 : o1.dst = some mr.nx) (p6 : o1.guard = none) (p7 : o2.op = .extract (.tmp mr.nx) 0) (p8 : o2.dst = some mr.ok) (p9 : o2.guard = none)
    (h2 : ops2.toList = mr.ops2) (h3 : mr.ops2 = o3 :: mr.post) (p10 : o3.op = .entry (.tmp mr.it)) (p11 : o3.dst = some mr.en) (p12 : o3.guard = none)
    {Q : Exit → Act → World → Prop} {μ0 : Mu} {σ0 : St} {wb : World} {N r0 bm clock : Nat} {es' : Array MapEntry} (hBorn : Born es'.toList clock) (hr0 : wb.heap.size ≤ r0)
    {Φ : List MapEntry → Mu → T V → St → Prop}
    (hΦ : ∀ l μ sl σ, Φ l μ sl σ → μ b = some ⟨r0, 0, N⟩ ∧ sl.get mr.it = some (.p b 0))
    (hstep : ∀ l μ sl σ, Φ l μ sl σ → ∀ e' ∈ l, ∃ e sl1 σe, RelV μ e.1 e'.key ∧ RelV μ e.2 e'.val ∧ mrOut cx self f mr σ e (clr (cx.mask f) mr.ok (clr (cx.mask f) mr.nx sl)) = .done .norm ⟨sl1, []⟩ σe ∧ ∀ μ1, μ.le μ1 → Φ (l.filter (fun x => x.born != e'.born)) μ1 sl1 σe)
    (hQ : ∀ μ sl σ a w, Φ [] μ sl σ → Step cx.P μ0 σ0 wb μ σ w → ¬ Held μ σ bm → w.heap[bm]? = some (.map es' clock) → FrOk cx r f μ (clr (cx.mask f) mr.ok (clr (cx.mask f) mr.nx sl)) [] a → Q (.exit mr.bid) a w) :
    ∀ (n : Nat) (l : List MapEntry) (seen : Array Nat) (μ : Mu) (sl : T V) (σ : St) (w : World) (a : Act), l.length ≤ n → (leftOf es' seen).toList = l → Φ l μ sl σ → Glob cx.globs μ → Step cx.P μ0 σ0 wb μ σ w → ¬ Held μ σ r0 → ¬ Held μ σ bm → w.heap[r0]? = some (.mapIter (some bm) clock seen clock) → w.heap[bm]? = some (.map es' clock) → FrOk cx r f μ sl [] a →
      Code.roundsIn (fe r) 0 cx.P (.seq (.region id1 ops1 false) (.seq (.cond (.tmp mr.ok) .skip (.exit mr.bid)) (.block mr.jid (.seq (.region id2 ops2 false) mr.body)))) Q (n + 1) a w := by
  have key : ∀ n : Nat, (∀ (l : List MapEntry) (seen : Array Nat) (μ : Mu) (sl : T V) (σ : St) (w : World) (a : Act), l.length < n → (leftOf es' seen).toList = l → Φ l μ sl σ → Glob cx.globs μ → Step cx.P μ0 σ0 wb μ σ w → ¬ Held μ σ r0 → ¬ Held μ σ bm → w.heap[r0]? = some (.mapIter (some bm) clock seen clock) → w.heap[bm]? = some (.map es' clock) → FrOk cx r f μ sl [] a →
        Code.roundsIn (fe r) 0 cx.P (.seq (.region id1 ops1 false) (.seq (.cond (.tmp mr.ok) .skip (.exit mr.bid)) (.block mr.jid (.seq (.region id2 ops2 false) mr.body)))) Q n a w) →
      ∀ (l : List MapEntry) (seen : Array Nat) (μ : Mu) (sl : T V) (σ : St) (w : World) (a : Act), l.length ≤ n → (leftOf es' seen).toList = l → Φ l μ sl σ → Glob cx.globs μ → Step cx.P μ0 σ0 wb μ σ w → ¬ Held μ σ r0 → ¬ Held μ σ bm → w.heap[r0]? = some (.mapIter (some bm) clock seen clock) → w.heap[bm]? = some (.map es' clock) → FrOk cx r f μ sl [] a →
        Code.roundsIn (fe r) 0 cx.P (.seq (.region id1 ops1 false) (.seq (.cond (.tmp mr.ok) .skip (.exit mr.bid)) (.block mr.jid (.seq (.region id2 ops2 false) mr.body)))) Q (n + 1) a w := by
    intro n ih l seen μ sl σ w a hn hl hP hG st nr nb hit hmp hf
    obtain ⟨hb, hsl⟩ := hΦ l μ sl σ hP
    have hst := hstep l μ sl σ hP
    have hm := st.rel
    have hbnd := hm.inb _ _ hb
    have hbm : bm < w.heap.size := by
      rcases Nat.lt_or_ge bm w.heap.size with q | q
      · exact q
      · rw [Array.getElem?_eq_none q] at hmp; cases hmp
    have tit : a.tmps[mr.it]? = some (.pointer (some ⟨r0, 0, none⟩)) := by
      obtain ⟨v', e1, e2⟩ := hf.s _ _ hsl
      rw [e1]
      cases e2 with
      | @p _ L _ hL => rw [hb] at hL; cases hL; rfl
    have hitv : a.eval (.tmp mr.it) = .pointer (some ⟨r0, 0, none⟩) := eval_tmp tit
    have lnx : mr.nx < a.tmps.size := by rw [hf.n]; exact hr.lnx
    have lok : mr.ok < a.tmps.size := by rw [hf.n]; exact hr.lok
    rw [roundsIn_succ]
    refine wpIn_seq (wpIn_region (wpOps_in _ _ _ ?_))
    have hsz : ops1.size = 2 := by rw [← Array.length_toList, h1]; rfl
    have g0 : ops1[0]? = some o1 := by rw [← Array.getElem?_toList, h1]; rfl
    have g1 : ops1[1]? = some o2 := by rw [← Array.getElem?_toList, h1]; rfl
    rw [hsz]
    show wpOps r cx.P ops1 _ [0, 1] a w
    rw [wpOps_cons]
    have hrun := run_next_at (P := cx.P) w o1.type r0 bm clock clock seen es' clock hit hmp (fun x hx => hBorn.1 x hx) (Nat.le_refl _)
    unfold wpOp
    simp only [g0, wanted_none p6, if_true]
    refine ⟨.inr (fun q e => (by rw [p4] at e; cases e)), ?_⟩
    -- a frame behind the two
    have fr2 : ∀ (u1 u2 : Value) (sl' : T V), (∀ i v, sl'.get i = some v → sl.get i = some v) → FrOk cx r f μ (clr (cx.mask f) mr.ok (clr (cx.mask f) mr.nx sl')) [] ((a.put (some mr.nx) u1).put (some mr.ok) u2) := by
      intro u1 u2 sl' hsub
      have m1 : Msk (cx.mask f) sl' := fun i v hv => hf.m i v (hsub i v hv)
      have s1 : RelS μ sl' a.tmps := fun i v hv => hf.s i v (hsub i v hv)
      refine ⟨?_, clr_msk (clr_msk m1), hf.d, by rw [put_size, put_size]; exact hf.n⟩
      exact clr_put (clr_msk m1) (clr_put m1 s1 lnx u1) (by simpa using lok) u2
    have step2 : ∀ (w2 : World) (u1 u2 : Value) (Q2 : Exit → Act → World → Prop), ((execOp (a.put (some mr.nx) u1).eval o2).run cx.P w2 = .ok (.value u2) w2) → Q2 .normal ((a.put (some mr.nx) u1).put (some mr.ok) u2) w2 → wpOps r cx.P ops1 Q2 [1] (a.put (some mr.nx) u1) w2 := by
      intro w2 u1 u2 Q2 hx hq
      rw [wpOps_cons]
      unfold wpOp
      simp only [g1, wanted_none p9, if_true]
      refine ⟨.inr (fun q e => (by rw [p7] at e; cases e)), ?_⟩
      rw [hx, uponR_value, p8]
      exact hq
    have tup : ∀ u1 : Value, (a.put (some mr.nx) u1).eval (.tmp mr.nx) = u1 := fun u1 => eval_tmp (by show (a.tmps.setIfInBounds mr.nx u1)[mr.nx]? = _; exact Array.getElem?_setIfInBounds_self_of_lt lnx)
    have tok : ∀ u1 u2 : Value, ((a.put (some mr.nx) u1).put (some mr.ok) u2).eval (.tmp mr.ok) = u2 := fun u1 u2 => eval_tmp (by
      show ((a.tmps.setIfInBounds mr.nx u1).setIfInBounds mr.ok u2)[mr.ok]? = _
      exact Array.getElem?_setIfInBounds_self_of_lt (by simpa using lok))
    rcases hrun with ⟨hz, hrun⟩ | ⟨e', he', w1, hw1, hrun⟩
    · have hl0 : l = [] := by
        rw [← hl]
        apply List.eq_nil_of_length_eq_zero
        rw [Array.length_toList]; exact hz
      subst hl0
      have hx : (execOp a.eval o1).run cx.P w = .ok (.value (.tuple #[.bool false])) w := by simp [execOp, p4, hitv, hrun]
      rw [hx, uponR_value, p5]
      refine step2 w (.tuple #[.bool false]) (.bool false) _ (by simp [execOp, p7, tup, Instr.extract]) ?_
      refine wpIn_seq (wpIn_cond_false (tok _ _) (wpIn_exit ?_))
      exact hQ μ sl σ _ _ hP st nb hmp (fr2 _ _ sl (fun _ _ h => h))
    · have he2 : e' ∈ l := by rw [← hl]; exact he'
      have hpos : 0 < n := by have := List.length_pos_of_mem he2; omega
      have hes : e' ∈ es'.toList := by
        unfold leftOf at he'
        simp at he'
        simpa using he'.1
      have hx : (execOp a.eval o1).run cx.P w = .ok (.value (.tuple #[.bool true, e'.key, e'.val])) { w1 with heap := w1.heap.setIfInBounds r0 (.mapIter (some bm) clock (seen.push e'.born) clock) } := by
        have : ChangeMaps.setBlock w1 r0 (.mapIter (some bm) clock (seen.push e'.born) clock) = { w1 with heap := w1.heap.setIfInBounds r0 (.mapIter (some bm) clock (seen.push e'.born) clock) } := rfl
        simp [execOp, p4, hitv, hrun, this]
      rw [hx, uponR_value, p5]
      have st2 : Step cx.P μ0 σ0 wb μ σ { w1 with heap := w1.heap.setIfInBounds r0 (.mapIter (some bm) clock (seen.push e'.born) clock) } := by
        rcases hw1 with rfl | rfl
        · exact st.free nr hr0 _
        · exact (st.trans (Step.draw st.rel (w.drawn + 1))).free nr hr0 _
      have hh1 : w1.heap = w.heap := by rcases hw1 with rfl | rfl <;> rfl
      generalize hw2 : ({ w1 with heap := w1.heap.setIfInBounds r0 (.mapIter (some bm) clock (seen.push e'.born) clock) } : World) = w2 at st2
      have hne : bm ≠ r0 := fun e => by rw [e, hit] at hmp; cases hmp
      have hit2 : w2.heap[r0]? = some (.mapIter (some bm) clock (seen.push e'.born) clock) := by
        rw [← hw2]
        show (w1.heap.setIfInBounds r0 _)[r0]? = _
        rw [hh1, Array.getElem?_setIfInBounds_self_of_lt hbnd]
      have hmp2 : w2.heap[bm]? = some (.map es' clock) := by
        rw [← hw2]
        show (w1.heap.setIfInBounds r0 _)[bm]? = _
        rw [hh1, Array.getElem?_setIfInBounds, if_neg (fun e => hne e.symm)]; exact hmp
      refine step2 w2 _ (.bool true) _ (by simp [execOp, p7, tup, Instr.extract]) ?_
      refine wpIn_seq (wpIn_cond_true (tok _ _) (wpIn_skip ?_))
      have f2 := fr2 (.tuple #[.bool true, e'.key, e'.val]) (.bool true) sl (fun _ _ h => h)
      generalize ha2 : (a.put (some mr.nx) (.tuple #[.bool true, e'.key, e'.val])).put (some mr.ok) (.bool true) = a2 at f2
      have tit2 : a2.eval (.tmp mr.it) = .pointer (some ⟨r0, 0, none⟩) := eval_tmp (by
        rw [← ha2]
        show ((a.tmps.setIfInBounds mr.nx _).setIfInBounds mr.ok _)[mr.it]? = _
        rw [Array.getElem?_setIfInBounds, if_neg hr.ok, Array.getElem?_setIfInBounds, if_neg hr.nx]; exact tit)
      show Code.wpIn (fe r) 0 cx.P _ _ a2 w2
      obtain ⟨e, sl1, σe, hk, hv, hout, hΦ2⟩ := hst e' he2
      unfold mrOut at hout
      obtain ⟨y, hy, hy2⟩ := endBlock_norm hout
      have ren := run_entry_at (P := cx.P) w2 r0 bm clock seen es' clock e' hit2 hmp2 hes hBorn.2
      obtain ⟨env1, slp, e1, q1, q2, q3, q4⟩ := putD_ok (m := cx.mask f) (n := ntmps cx f) (d := some mr.en) (by simpa [okDst] using hr.len) (μ := μ) (names := []) (env := []) (sl := clr (cx.mask f) mr.ok (clr (cx.mask f) mr.nx sl)) (a := a2) f2.n f2.s f2.m (RelE'.nil _ _ _) (fun t k h => by cases h)
        (v := .t [e.1, e.2]) (v' := .tuple #[e'.key, e'.val]) (.t (.cons hk (.cons hv .nil))) (fun env sl => xRC cx self (compL cx.P cx.globs (cx.mask f) (ntmps cx f) mr.ops2 mr.post (namesOf (cx.mask f) (some mr.en) [])) env sl [] σ)
      rw [e1] at hy
      obtain ⟨x1, fr1, σ1, ho, hcase⟩ := again_inv hy
      rw [← h2] at ho
      have g3 : ops2[0]? = some o3 := by rw [← Array.getElem?_toList, h2, h3]; rfl
      have hsz2 : ops2.size = mr.post.length + 1 := by rw [← Array.length_toList, h2, h3]; rfl
      refine wpIn_block (wpIn_seq (wpIn_region (wpOps_in _ _ _ ?_)))
      rw [hsz2, List.range_eq_range', List.range'_succ, wpOps_cons]
      unfold wpOp
      simp only [g3, wanted_none p12, if_true]
      refine ⟨.inr (fun q e => (by rw [p10] at e; cases e)), ?_⟩
      have hx3 : (execOp a2.eval o3).run cx.P w2 = .ok (.value (.tuple #[e'.key, e'.val])) w2 := by simp [execOp, p10, tit2, ren]
      rw [hx3, uponR_value, p11]
      have fin : ∀ μ4 a4 w4, Step cx.P μ σ w2 μ4 σe w4 → FrOk cx r f μ4 sl1 [] a4 → Code.roundsIn (fe r) 0 cx.P (.seq (.region id1 ops1 false) (.seq (.cond (.tmp mr.ok) .skip (.exit mr.bid)) (.block mr.jid (.seq (.region id2 ops2 false) mr.body)))) Q n a4 w4 := by
        intro μ4 a4 w4 st4 hf4
        have hbd2 := st2.rel.inb _ _ hb
        have hbm2 : bm < w2.heap.size := by rw [← hw2]; show bm < (w1.heap.setIfInBounds r0 _).size; rw [Array.size_setIfInBounds, hh1]; exact hbm
        refine ih (l.filter (fun x => x.born != e'.born)) (seen.push e'.born) μ4 sl1 σe w4 a4 ?_ (by rw [left_push, hl]) (hΦ2 μ4 st4.le) (hG.mono st4.le) (st2.trans st4) (fun h => nr (st4.held r0 hbd2 h)) (fun h => nb (st4.held bm hbm2 h)) (by rw [st4.frame r0 hbd2 nr]; exact hit2) (by rw [st4.frame bm hbm2 nb]; exact hmp2) hf4
        refine Nat.lt_of_lt_of_le ?_ hn
        have : (l.filter (fun x => x.born != e'.born)).length < l.length := by
          refine List.length_filter_lt_length_iff_exists.2 ⟨e', he2, by simp⟩
        exact this
      refine reg_ok (ops := ops2) (m := cx.mask f) (n := ntmps cx f) hcall hmeth mr.post 1 (fun j => ?_) ho st2.rel hG q1 q2 q3 q4 (by rw [put_defers']; exact f2.d) (by rw [put_size]; exact f2.n) fun μ3 a3 w3 st3 hs3 hm3 hd3 hn3 => ?_
      · rw [← Array.getElem?_toList, h2, h3, Nat.add_comm 1 j]; rfl
      · rcases hcase with ⟨rfl, hb3⟩ | ⟨hne3, rfl, rfl, rfl⟩
        · show Code.wpIn (fe r) 0 cx.P mr.body _ a3 w3
          refine hs r f mr.body (sl := fr1.slots) (ds := fr1.ds) hb3 st3.rel (hG.mono st3.le) ⟨hs3, hm3, hd3, hn3⟩ fun μ4 a4 w4 st4 hf4 => ?_
          rcases hy2 with rfl | rfl
          · exact fin μ4 a4 w4 (st3.trans st4) hf4
          · show (if mr.jid = mr.jid then _ else _)
            rw [if_pos rfl]
            exact fin μ4 a4 w4 (st3.trans st4) hf4
        · rcases hy2 with rfl | rfl
          · exact absurd rfl hne3
          · show (if mr.jid = mr.jid then _ else _)
            rw [if_pos rfl]
            exact fin μ3 a3 w3 st3 ⟨hs3, hm3, hd3, hn3⟩
  intro n
  induction n with
  | zero => exact key 0 (fun l seen μ sl σ w a h => absurd h (Nat.not_lt_zero _))
  | succ n ih => exact key (n + 1) (fun l seen μ sl σ w a h => ih l seen μ sl σ w a (Nat.le_of_lt_succ h))
end
end Ae
namespace Ae
open Go
theorem Step.viaN {P : Program} {μ1 μ2 μE : Mu} {σ1 σb σE : St} {wb w2 wE : World} {mb : Nat} {x : Blk} {L : Loc} (h1 : Step P μ1 σ1 wb μ2 σb w2) (hb : σb.heap.get mb = some x) (hx : x.live) (hL : μ2 mb = some L)
    (hS : Step P μ2 ⟨σb.heap.set .dead mb, σb.next⟩ wb μE σE wE) (hw : wE.heap[L.c]? = w2.heap[L.c]?) (nb : ¬ Held μE σE L.c) : Step P μ1 σ1 wb μE ⟨σE.heap.set x mb, σE.next⟩ wE := by
  have hLE := hS.le _ _ hL
  have hmb : mb < σb.next := by
    rcases Nat.lt_or_ge mb σb.next with q | q
    · exact q
    · rw [h1.rel.top mb q] at hL; cases hL
  have hnx : σb.next ≤ σE.next := hS.next
  have hidS : ∀ c, Held μ2 ⟨σb.heap.set .dead mb, σb.next⟩ c → Held μ2 σb c := by
    rintro c ⟨d, y, M, hd, hy, hM, rfl⟩
    change (σb.heap.set .dead mb).get d = some y at hd
    rw [T.get_set] at hd
    split at hd
    · cases hd; exact hy.elim
    · exact ⟨d, y, M, hd, hy, hM, rfl⟩
  refine ⟨Mu.le_trans h1.le hS.le, ⟨fun c y M hc hM => ?_, fun c c' y y' M M' hne hc hc' hy hy' hM hM' => ?_, hS.rel.top, hS.rel.inb, fun c hc => ?_⟩, hS.rest, fun c hc hn => hS.frame c hc (fun h => hn (h1.held c hc (hidS c h))), fun c hc hh => ?_, Nat.le_trans h1.next hnx, fun c hc hcn => ?_⟩
  · change (σE.heap.set x mb).get c = some y at hc
    rw [T.get_set] at hc
    split at hc
    · rename_i e
      subst e
      cases hc
      rw [hLE] at hM; cases hM
      exact (h1.rel.blk c x L hb hL).of_heap hS.le hw
    · exact hS.rel.blk c y M hc hM
  · change (σE.heap.set x mb).get c = some y at hc
    change (σE.heap.set x mb).get c' = some y' at hc'
    rw [T.get_set] at hc hc'
    split at hc
    · rename_i e
      subst e
      rw [hLE] at hM; cases hM
      rw [if_neg (fun e => hne e.symm)] at hc'
      exact fun e => nb ⟨c', y', M', hc', hy', hM', e.symm⟩
    · split at hc'
      · rename_i e
        subst e
        rw [hLE] at hM'; cases hM'
        exact fun e => nb ⟨c, y, M, hc, hy, hM, e⟩
      · exact hS.rel.inj c c' y y' M M' hne hc hc' hy hy' hM hM'
  · show (σE.heap.set x mb).get c = none
    have hc : σE.next ≤ c := hc
    rw [T.get_set, if_neg (by omega)]; exact hS.rel.emp c hc
  · obtain ⟨d, y, M, hd, hy, hM, e⟩ := hh
    change (σE.heap.set x mb).get d = some y at hd
    rw [T.get_set] at hd
    split at hd
    · rename_i e2
      subst e2
      rw [hLE] at hM; cases hM
      exact h1.held c hc ⟨d, x, L, hb, hx, hL, e⟩
    · exact h1.held c hc (hidS c (hS.held c hc ⟨d, y, M, hd, hy, hM, e⟩))
  · obtain ⟨g1, g2⟩ := h1.hid c hc hcn
    have hne : c ≠ mb := fun e => by rw [e, hL] at g1; cases g1
    obtain ⟨g3, g4⟩ := hS.hid c (Nat.lt_of_lt_of_le hc h1.next) g1
    refine ⟨g3, ?_⟩
    show (σE.heap.set x mb).get c = _
    rw [T.get_set, if_neg hne, g4]
    show (σb.heap.set .dead mb).get c = _
    rw [T.get_set, if_neg hne, g2]
section
variable (cx : Cx) (self : Self) (f : Nat) (mr : MR) (b : Nat)
noncomputable def nRd (p : Nat × Nat) (sl : T V) (σ : St) (K : T V → St → Out) : Out :=
  ifb (andB [Nat.blt p.1 18446744073709551616, Nat.blt p.2 18446744073709551616]) (Out.rec (fun x fr σ => Ex.rec (Fr.rec (fun sl ds => List.rec (ifb (isIt mr b sl) (K sl σ) (.fail 411)) (fun _ _ _ => .fail 412) ds) fr) (fun _ => .fail 417) (fun _ => .fail 417) (.fail 417) x) (fun n => .fail n)
    (mrOut cx self f mr σ (.a [.n .i64 p.1, .n .i64 p.2], .u) (clr (cx.mask f) mr.ok (clr (cx.mask f) mr.nx sl)))) (.fail 418)
noncomputable def nBag (KE : T V → St → Out) (k : Nat) : List (Nat × Nat) → T V → St → Out := Nat.rec (motive := fun _ => List (Nat × Nat) → T V → St → Out) (fun _ _ _ => .fail 415)
  (fun _ ih rem sl σ => ifb (isFin (KE sl σ)) (allO (fun p => nRd cx self f mr b p.1 sl σ (ih p.2)) (selL rem)) (.fail 416)) k
noncomputable def nBagGo (sl : T V) (σ : St) (K : Ex → Fr → St → Out) (v : V) : Out := match v with
  | .m mb => Option.rec (.fail 303) (fun x => match x with
    | .bag ks => σ.newK .dead fun b σb => σb.setK mb .dead fun S0 => T.setP (.p b 0) (pth mr.it) sl fun sl0 =>
      nBag cx self f mr b (fun sl2 σ2 => σ2.setK mb (.bag ks) fun σ3 => K .norm ⟨clr (cx.mask f) mr.ok (clr (cx.mask f) mr.nx sl2), []⟩ σ3) (Nat.succ (lenL ks)) ks sl0 S0
    | _ => .fail 305) (σ.get mb)
  | _ => .fail 306
noncomputable def nBagR : NC := fun fr σ K => Fr.rec (fun sl ds => List.rec
  (xRCK cx self (compL cx.P cx.globs (cx.mask f) (ntmps cx f) mr.ops0 mr.pre []) (fun env sl ds σ => List.rec (accK (res cx.globs (cx.mask f) (namesL (cx.mask f) mr.pre []) mr.x) env sl fun v => nBagGo cx self f mr sl σ K v) (fun _ _ _ => .fail 307) ds) [] sl [] σ)
  (fun _ _ _ => .fail 308) ds) fr
end
section
variable {r : Option Nat} {cx : Cx} {self : Self} {f : Nat} {mr : MR} {b : Nat}
theorem nBag_end {KE : T V → St → Out} {k : Nat} {rem : List (Nat × Nat)} {sl : T V} {σ : St} (h : nBag cx self f mr b KE k rem sl σ = finO) : KE sl σ = finO := by
  cases k with
  | zero => cases h
  | succ k => exact isFin_eq (ifb_inv h).1
theorem nBag_inv {KE : T V → St → Out} {k : Nat} {rem : List (Nat × Nat)} {sl : T V} {σ : St} (h : nBag cx self f mr b KE (k + 1) rem sl σ = finO) (q : (Nat × Nat) × List (Nat × Nat)) (hq : q ∈ selL rem) :
    (q.1.1 < 18446744073709551616 ∧ q.1.2 < 18446744073709551616) ∧ ∃ sl3 σ3, mrOut cx self f mr σ (.a [.n .i64 q.1.1, .n .i64 q.1.2], .u) (clr (cx.mask f) mr.ok (clr (cx.mask f) mr.nx sl)) = .done .norm ⟨sl3, []⟩ σ3 ∧ sl3.get mr.it = some (.p b 0) ∧ nBag cx self f mr b KE k q.2 sl3 σ3 = finO := by
  have h1 := allO_fin (ifb_inv h).2 q hq
  unfold nRd at h1
  obtain ⟨hb, h1⟩ := ifb_inv h1
  obtain ⟨hb1, hb2⟩ := andB_cons hb
  obtain ⟨hb2, _⟩ := andB_cons hb2
  refine ⟨⟨by simpa using hb1, by simpa using hb2⟩, ?_⟩
  cases ho : mrOut cx self f mr σ (.a [.n .i64 q.1.1, .n .i64 q.1.2], .u) (clr (cx.mask f) mr.ok (clr (cx.mask f) mr.nx sl)) with
  | fail n => rw [ho] at h1; cases h1
  | done x fr1 σ3 =>
    rw [ho] at h1
    cases x with
    | norm =>
      obtain ⟨sl3, ds⟩ := fr1
      cases ds with
      | cons d ds => cases h1
      | nil =>
        obtain ⟨g1, g2⟩ := ifb_inv (a := nBag cx self f mr b KE k q.2 sl3 σ3) (n := 411) h1
        refine ⟨sl3, σ3, rfl, ?_, g2⟩
        unfold isIt at g1
        cases hg : sl3.get mr.it with
        | none => rw [hg] at g1; cases g1
        | some v =>
          rw [hg] at g1
          cases v with
          | p b' o =>
            change Bool.and (Nat.beq b' b) (Nat.beq o 0) = true at g1
            rw [Bool.and_eq_true] at g1
            rw [Nat.eq_of_beq_eq_true g1.1, Nat.eq_of_beq_eq_true g1.2]
          | _ => cases g1
    | _ => cases h1
theorem nBagR_ok (hcall : CallT cx self) (hmeth : MethT cx self) (hs : SelfOk cx self) {a b' : Code} (h : mrOf cx.P (cx.mask f) (ntmps cx f) a b' = some mr) : NOk cx r f (.seq a b') (nBagR cx self f mr) := by
  have hr := mrOf_ok h
  obtain ⟨id0, id1, id2, ops0, ops1, ops2, t, o, o1, o2, o3, rfl, rfl, k1, k2, k3, k4, k5, k6, p1, p4, p5, p6, p7, p8, p9, q2, q3, p10, p11, p12⟩ := hr.ex
  intro sl ds σ K hk μ w act hm hG hf Q hQ
  change List.rec (xRCK cx self (compL cx.P cx.globs (cx.mask f) (ntmps cx f) mr.ops0 mr.pre []) (fun env sl ds σ => List.rec (accK (res cx.globs (cx.mask f) (namesL (cx.mask f) mr.pre []) mr.x) env sl fun v => nBagGo cx self f mr sl σ K v) (fun _ _ _ => .fail 307) ds) [] sl [] σ)
    (fun _ _ _ => .fail 308) ds = finO at hk
  cases ds with
  | cons d ds => cases hk
  | nil =>
    have hk1 : xRCK cx self (compL cx.P cx.globs (cx.mask f) (ntmps cx f) mr.ops0 mr.pre []) (fun env sl ds σ => List.rec (accK (res cx.globs (cx.mask f) (namesL (cx.mask f) mr.pre []) mr.x) env sl fun v => nBagGo cx self f mr sl σ K v) (fun _ _ _ => .fail 307) ds) [] sl [] σ = finO := hk
    rw [← k1] at hk1
    refine wpIn_seq (wpIn_region (wpOps_in _ _ _ ?_))
    have hsz : ops0.size = mr.pre.length + 1 := by rw [← Array.length_toList, k1, k2]; simp
    rw [hsz, List.range_eq_range', ← List.range'_append_1 (s := 0) (m := mr.pre.length) (n := 1)]
    refine reg_okK (ops := ops0) (m := cx.mask f) (n := ntmps cx f) hcall hmeth mr.pre 0 (fun j hj => ?_) hk1 hm hG hf.s hf.m (RelE'.nil _ _ _) (fun t k h => by cases h) hf.d hf.n fun env1 sl1 ds1 σ1 μ1 a1 wb hK st1 hs1 hm1 he1 hd1 hn1 => ?_
    · rw [← Array.getElem?_toList, k1, k2, Nat.zero_add, List.getElem?_append_left hj]
    cases ds1 with
    | cons d ds1 => cases hK
    | nil =>
      have hK1 : accK (res cx.globs (cx.mask f) (namesL (cx.mask f) mr.pre []) mr.x) env1 sl1 (fun v => nBagGo cx self f mr sl1 σ1 K v) = finO := hK
      obtain ⟨v, hv, hK2⟩ := hacc (hG.mono st1.le) hs1 he1 mr.x _ .norm ⟨.e, []⟩ st0 hK1
      show wpOps r cx.P ops0 _ [0 + mr.pre.length] a1 wb
      rw [wpOps_cons, Nat.zero_add]
      have g0 : ops0[mr.pre.length]? = some o := by rw [← Array.getElem?_toList, k1, k2]; simp
      unfold wpOp
      simp only [g0, wanted_none k5, if_true]
      refine ⟨.inr (fun q e => (by rw [k3] at e; cases e)), ?_⟩
      generalize hx : a1.eval mr.x = vx at hv
      cases v with
      | m mb =>
        cases hv with
        | @m _ L hL =>
          change Option.rec (.fail 303) (fun x => match x with
            | .bag ks => σ1.newK .dead fun b σb => σb.setK mb .dead fun S0 => T.setP (.p b 0) (pth mr.it) sl1 fun sl0 =>
              nBag cx self f mr b (fun sl2 σ2 => σ2.setK mb (.bag ks) fun σ3 => K .norm ⟨clr (cx.mask f) mr.ok (clr (cx.mask f) mr.nx sl2), []⟩ σ3) (Nat.succ (lenL ks)) ks sl0 S0
            | _ => .fail 305) (σ1.get mb) = finO at hK2
          rw [St.get_eq] at hK2
          cases hb : σ1.heap.get mb with
          | none => rw [hb] at hK2; cases hK2
          | some y =>
            rw [hb] at hK2
            cases y with
            | bag es =>
              have hK3 : σ1.newK .dead (fun b σb => σb.setK mb .dead fun S0 => T.setK (.p b 0) sl1 mr.it fun sl0 =>
                nBag cx self f mr b (fun sl2 σ2 => σ2.setK mb (.bag es) fun σ3 => K .norm ⟨clr (cx.mask f) mr.ok (clr (cx.mask f) mr.nx sl2), []⟩ σ3) (Nat.succ (lenL es)) es sl0 S0) = finO := hK2
              rw [St.newK_eq, St.setK_eq, T.setK_eq] at hK3
              simp only at hK3
              obtain ⟨es', clock, w1, w2, w3⟩ := st1.rel.blk mb _ L hb hL
              have hrange : (execOp a1.eval o).run cx.P wb = .ok (.value (.pointer (some ⟨wb.heap.size, 0, none⟩))) { wb with heap := wb.heap.push (.mapIter (some L.c) clock #[] clock) } := by
                have hu : ∃ kt et, cx.P.underlying t = some (.map kt et) := by
                  unfold isMapT at k6
                  split at k6
                  · exact ⟨_, _, by assumption⟩
                  · cases k6
                obtain ⟨kt, et, hu⟩ := hu
                simp [execOp, k3, hx, Instr.range, run_underlying hu, getObj, Sem.run, w1, newObj]
              rw [hrange, uponR_value, k4]
              have st2 := step_new st1.rel .dead (.mapIter (some L.c) clock #[] clock) ⟨wb.heap.size, 0, 0⟩ rfl trivial
              have hμb : (fun b => if b = σ1.next then some (⟨wb.heap.size, 0, 0⟩ : Loc) else μ1 b) σ1.next = some ⟨wb.heap.size, 0, 0⟩ := by simp
              have hlt : mb < σ1.next := by
                rcases Nat.lt_or_ge mb σ1.next with q | q
                · exact q
                · rw [st1.rel.top mb q] at hL; cases hL
              have hbb : (⟨σ1.heap.set .dead σ1.next, σ1.next + 1⟩ : St).heap.get mb = some (.bag es) := by
                show (σ1.heap.set .dead σ1.next).get mb = _
                rw [T.get_set, if_neg (Nat.ne_of_lt hlt)]; exact hb
              have hold : ∀ c, c ≠ σ1.next → (fun b => if b = σ1.next then some (⟨wb.heap.size, 0, 0⟩ : Loc) else μ1 b) c = μ1 c := fun c hc => by simp [hc]
              have hdead : (⟨σ1.heap.set .dead σ1.next, σ1.next + 1⟩ : St).heap.get σ1.next = some .dead := by
                show (σ1.heap.set .dead σ1.next).get σ1.next = _
                rw [T.get_set, if_pos rfl]
              generalize (fun b => if b = σ1.next then some (⟨wb.heap.size, 0, 0⟩ : Loc) else μ1 b) = μ2 at st2 hμb hold
              generalize hσb : (⟨σ1.heap.set .dead σ1.next, σ1.next + 1⟩ : St) = σb at st2 hbb hdead hK3
              have hL2 := st2.le _ _ hL
              have eS0 : (⟨(σ1.heap.set .dead σ1.next).set .dead mb, σ1.next + 1⟩ : St) = ⟨σb.heap.set .dead mb, σb.next⟩ := by rw [← hσb]
              rw [eS0] at hK3
              have hinS : RelM cx.P μ2 ⟨σb.heap.set .dead mb, σb.next⟩ { wb with heap := wb.heap.push (.mapIter (some L.c) clock #[] clock) } := st2.rel.hide (by rw [← hσb]; exact Nat.lt_succ_of_lt hlt)
              have stS : Step cx.P μ2 ⟨σb.heap.set .dead mb, σb.next⟩ wb μ2 ⟨σb.heap.set .dead mb, σb.next⟩ { wb with heap := wb.heap.push (.mapIter (some L.c) clock #[] clock) } :=
                ⟨Mu.le_refl μ2, hinS, st2.rest, fun c hc _ => by show (wb.heap.push _)[c]? = _; rw [Array.getElem?_push, if_neg (by omega)], fun _ _ h => h, Nat.le_refl _, fun _ _ e => ⟨e, rfl⟩⟩
              have nr : ¬ Held μ2 ⟨σb.heap.set .dead mb, σb.next⟩ wb.heap.size := by
                rintro ⟨d, y, M, hd, hy, hM, e⟩
                change (σb.heap.set .dead mb).get d = some y at hd
                rw [T.get_set] at hd
                split at hd
                · cases hd; exact hy
                · by_cases e2 : d = σ1.next
                  · subst e2; rw [hdead] at hd; cases hd; exact hy
                  · rw [hold d e2] at hM
                    have := st1.rel.inb _ _ hM; omega
              have nb : ¬ Held μ2 ⟨σb.heap.set .dead mb, σb.next⟩ L.c := hide_not_held st2.rel hbb trivial hL2
              have hbm : L.c < wb.heap.size := st1.rel.inb _ _ hL
              have hf0 : FrOk cx r f μ2 (sl1.set (.p σ1.next 0) mr.it) [] (a1.put (some mr.it) (.pointer (some ⟨wb.heap.size, 0, none⟩))) := by
                refine ⟨fun i u hu => ?_, fun i u hu => ?_, hd1.mono st2.le, by rw [put_size]; exact hn1⟩
                · show ∃ v', (a1.tmps.setIfInBounds mr.it _)[i]? = some v' ∧ _
                  rw [T.get_set] at hu
                  split at hu
                  · rename_i e; subst e; cases hu
                    exact ⟨_, Array.getElem?_setIfInBounds_self_of_lt (by rw [hn1]; exact hr.lit), RelV.p (L := ⟨wb.heap.size, 0, 0⟩) 0 hμb⟩
                  · rename_i e
                    obtain ⟨v', z1, z2⟩ := hs1 i u hu
                    exact ⟨v', by rw [Array.getElem?_setIfInBounds, if_neg (fun q => e q.symm)]; exact z1, z2.mono st2.le⟩
                · rw [T.get_set] at hu
                  split at hu
                  · rename_i e; subst e; exact hr.mit
                  · exact hm1 i u hu
              have hit0 : (sl1.set (.p σ1.next 0) mr.it).get mr.it = some (.p σ1.next 0) := by rw [T.get_set, if_pos rfl]
              have hiter : ({ wb with heap := wb.heap.push (.mapIter (some L.c) clock #[] clock) } : World).heap[wb.heap.size]? = some (.mapIter (some L.c) clock #[] clock) := by show (wb.heap.push _)[wb.heap.size]? = _; simp
              have hmap : ({ wb with heap := wb.heap.push (.mapIter (some L.c) clock #[] clock) } : World).heap[L.c]? = some (.map es' clock) := by show (wb.heap.push _)[L.c]? = _; rw [Array.getElem?_push, if_neg (by omega)]; exact w1
              have hleft : (leftOf es' #[]).toList = es'.toList := by unfold leftOf; simp
              show Code.wpIn (fe r) 0 cx.P _ Q _ _
              refine wpIn_block (wpIn_loop_rounds (es'.size + 1) ?_)
              refine mr_loopN (b := σ1.next) (μ0 := μ2) (σ0 := ⟨σb.heap.set .dead mb, σb.next⟩) hcall hmeth hs hr p1 p4 p5 p6 p7 p8 p9 q2 q3 p10 p11 p12 (N := 0) (r0 := wb.heap.size) (bm := L.c) (clock := clock) (es' := es') w3 (Nat.le_refl _)
                (Φ := fun l μ sl σ => μ σ1.next = some ⟨wb.heap.size, 0, 0⟩ ∧ sl.get mr.it = some (.p σ1.next 0) ∧ l.Pairwise (fun a b => a.key ≠ b.key) ∧ ∃ k rem, (∀ e' ∈ l, ∃ p ∈ rem, e'.key = pairV p) ∧
                  nBag cx self f mr σ1.next (fun sl2 σ2 => σ2.setK mb (.bag es) fun σ3 => K .norm ⟨clr (cx.mask f) mr.ok (clr (cx.mask f) mr.nx sl2), []⟩ σ3) k rem sl σ = finO)
                ?_ ?_ ?_ es'.size es'.toList #[] μ2 (sl1.set (.p σ1.next 0) mr.it) ⟨σb.heap.set .dead mb, σb.next⟩ _ _ (by simp) hleft ?_ (hG.mono (Mu.le_trans st1.le st2.le)) stS nr nb hiter hmap hf0
              · rintro l μ sl σ ⟨z0, z1, _⟩
                exact ⟨z0, z1⟩
              · rintro l μ sl σ ⟨z0, z1, zp, k, rem, z2, z3⟩ e' he'
                obtain ⟨p, hp, hkey⟩ := z2 e' he'
                obtain ⟨q, hq, rfl⟩ := selL_mem hp
                cases k with
                | zero => cases z3
                | succ k =>
                  obtain ⟨⟨y1, y2⟩, sl3, σ3, x1, x2, x3⟩ := nBag_inv z3 q hq
                  refine ⟨(.a [.n .i64 q.1.1, .n .i64 q.1.2], .u), sl3, σ3, ?_, .u _, x1, fun μ1 hle => ⟨hle _ _ z0, x2, zp.filter _, k, q.2, fun e2 he2 => ?_, x3⟩⟩
                  · rw [hkey]
                    exact .a (.cons (.n .i64 _ y1) (.cons (.n .i64 _ y2) .nil))
                  · obtain ⟨he2l, hb2⟩ := List.mem_filter.1 he2
                    obtain ⟨p2, hp2, hk2⟩ := z2 e2 he2l
                    refine ⟨p2, ?_, hk2⟩
                    have hne : p2 ≠ q.1 := fun e => by
                      rcases pairwise_mem (fun a b h => Ne.symm h) zp he2l he' with rfl | h
                      · simp at hb2
                      · exact h (by rw [hk2, hkey, e])
                    obtain ⟨a, c, s1, s2⟩ := selL_split hq
                    rw [s1] at hp2
                    rw [s2]
                    rcases List.mem_append.1 hp2 with h | h
                    · exact List.mem_append_left _ h
                    · rcases List.mem_cons.1 h with h | h
                      · exact absurd h hne
                      · exact List.mem_append_right _ h
              · rintro μ sl σ a w ⟨z0, z1, _, k, rem, _, z3⟩ stE hnb hE hfE
                have hKE := nBag_end z3
                rw [St.setK_eq] at hKE
                show (if mr.bid = mr.bid then _ else _)
                rw [if_pos rfl]
                exact hQ .norm _ _ μ a w hKE (st1.trans (Step.viaN st2 hbb trivial hL2 stE (hE.trans hmap.symm) hnb)) hfE
              · exact ⟨hμb, hit0, w2.2, _, _, w2.1, hK3⟩
            | _ => cases hK2
      | _ => cases hK2
end
end Ae
namespace Ae
open Go Go.Proofs
noncomputable def bagIt (ks : List (Nat × Nat)) (σ : St) (K : St → Out) (v : V) : Out := match v with
  | .m wb => (match σ.get wb with | some (.map []) => σ.setK wb (.bag ks) K | _ => .fail 422)
  | _ => .fail 423
noncomputable def nBagify (s : Nat) (ks : List (Nat × Nat)) (fr : Fr) (σ : St) (K : Fr → St → Out) : Out := match fr.slots.get s with
  | some (.p c 0) => Option.rec (.fail 421) (fun v => bagIt ks σ (fun σ => K fr σ) v) (cellOf σ c 0)
  | _ => .fail 424
theorem nBagify_ok {cx : Cx} {r : Option Nat} {f s : Nat} {ks : List (Nat × Nat)} {fr : Fr} {σ : St} {K : Fr → St → Out} (h : nBagify s ks fr σ K = finO) : ∃ σ', K fr σ' = finO ∧ ∀ μ w a, RelM cx.P μ σ w → FrOk cx r f μ fr.slots fr.ds a → Step cx.P μ σ w μ σ' w := by
  unfold nBagify at h
  split at h
  · rename_i c hs
    cases hc : cellOf σ c 0 with
    | none => rw [hc] at h; cases h
    | some v =>
      rw [hc] at h
      replace h : bagIt ks σ (fun σ => K fr σ) v = finO := h
      unfold bagIt at h
      split at h
      · rename_i wb
        split at h
        · rename_i hb
          rw [St.get_eq] at hb
          rw [St.setK_eq] at h
          refine ⟨_, h, fun μ w a hm hf => ?_⟩
          obtain ⟨v', _, hv⟩ := hf.s _ _ hs
          cases hv with
          | @p _ Lc _ hLc =>
          obtain ⟨v2, _, hv2⟩ := cellOf_ok hm hLc hc
          cases hv2 with
          | @m _ L hL =>
          obtain ⟨es', cl, q1, q2, q3⟩ := hm.blk wb _ L hb hL
          have hnil : es'.toList = [] := List.eq_nil_of_length_eq_zero q2.len.symm
          have old : ∀ d y, (σ.heap.set (.bag ks) wb).get d = some y → ∃ y0, σ.heap.get d = some y0 ∧ (y.live → y0.live) := fun d y hd => by
            rw [T.get_set] at hd
            split at hd
            · rename_i e; subst e; exact ⟨_, hb, fun _ => trivial⟩
            · exact ⟨y, hd, id⟩
          refine ⟨Mu.le_refl μ, ⟨fun d y M hd hM => ?_, fun d d' y y' M M' hne hd hd' hy hy' hM hM' => ?_, hm.top, hm.inb, fun d hd => ?_⟩, Rest.refl w, fun _ _ _ => rfl, fun c hc hh => ?_, Nat.le_refl _, fun d hd hn => ⟨hn, ?_⟩⟩
          · change (σ.heap.set (.bag ks) wb).get d = some y at hd
            rw [T.get_set] at hd
            split at hd
            · rename_i e
              subst e
              cases hd
              rw [hL] at hM; cases hM
              refine ⟨es', cl, q1, ⟨fun e he => ?_, ?_⟩, q3⟩
              · rw [hnil] at he; cases he
              · rw [hnil]; exact .nil
            · exact hm.blk d y M hd hM
          · obtain ⟨y0, z1, z2⟩ := old d y hd
            obtain ⟨y1, z3, z4⟩ := old d' y' hd'
            exact hm.inj d d' y0 y1 M M' hne z1 z3 (z2 hy) (z4 hy') hM hM'
          · show (σ.heap.set (.bag ks) wb).get d = none
            have hd : σ.next ≤ d := hd
            have hwb : wb < σ.next := by
              rcases Nat.lt_or_ge wb σ.next with q | q
              · exact q
              · rw [hm.top wb q] at hL; cases hL
            rw [T.get_set, if_neg (by omega)]; exact hm.emp d hd
          · obtain ⟨d, y, M, hd, hy, hM, e⟩ := hh
            obtain ⟨y0, z1, z2⟩ := old d y hd
            exact ⟨d, y0, M, z1, z2 hy, hM, e⟩
          · show (σ.heap.set (.bag ks) wb).get d = _
            rw [T.get_set, if_neg (fun e => by rw [e, hL] at hn; cases hn)]
        · cases h
      · cases h
  · cases h
noncomputable def nSeqB (ga : NC) (s : Nat) (ks : List (Nat × Nat)) (gb : NC) : NC := fun fr σ K => ga fr σ fun x fr σ => Ex.rec (nBagify s ks fr σ fun fr σ => gb fr σ K) (fun i => K (.exit i) fr σ) (fun l => K (.goto l) fr σ) (K .ret fr σ) x
theorem nSeqB_ok {cx : Cx} {r : Option Nat} {f s : Nat} {ks : List (Nat × Nat)} {a b : Code} {ga gb : NC} (ha : NOk cx r f a ga) (hb : NOk cx r f b gb) : NOk cx r f (.seq a b) (nSeqB ga s ks gb) := by
  intro sl ds σ K hk μ w act hm hG hf Q hQ
  refine wpIn_seq (ha hk hm hG hf fun x fr1 σ1 μ1 a1 w1 h1 st hf1 => ?_)
  cases x with
  | norm =>
    obtain ⟨σ2, h2, h3⟩ := nBagify_ok (cx := cx) (r := r) (f := f) h1
    have st2 := h3 μ1 w1 a1 st.rel hf1
    exact hb (sl := fr1.slots) (ds := fr1.ds) h2 st2.rel (hG.mono st.le) hf1 fun x2 fr2 σ2 μ2 a2 w2 h2 st3 hf2 => hQ x2 fr2 σ2 μ2 a2 w2 h2 ((st.trans st2).trans st3) hf2
  | exit i => exact exOf_then (x := .exit i) (by intro c; cases c) (hQ (.exit i) fr1 σ1 μ1 a1 w1 h1 st hf1)
  | goto l => exact exOf_then (x := .goto l) (by intro c; cases c) (hQ (.goto l) fr1 σ1 μ1 a1 w1 h1 st hf1)
  | ret => exact exOf_then (x := .ret) (by intro c; cases c) (hQ .ret fr1 σ1 μ1 a1 w1 h1 st hf1)
noncomputable def nR2 (cx : Cx) (self : Self) (f : Nat) (c : Code) : NC := match c with
  | .seq a b => Option.rec (fun _ _ _ => .fail 420) (fun mr => nBagR cx self f mr) (mrOf cx.P (cx.mask f) (ntmps cx f) a b)
  | _ => fun _ _ _ => .fail 425
theorem nR2_ok {r : Option Nat} {cx : Cx} {self : Self} {f : Nat} (hcall : CallT cx self) (hmeth : MethT cx self) (hs : SelfOk cx self) (c : Code) : NOk cx r f c (nR2 cx self f c) := by
  unfold nR2
  split
  · rename_i a b
    cases hm : mrOf cx.P (cx.mask f) (ntmps cx f) a b with
    | none => intro sl ds σ K hk; cases hk
    | some mr => exact nBagR_ok hcall hmeth hs hm
  · intro sl ds σ K hk; cases hk
noncomputable def b73 : Code := match Tryz.f73.body with | some c => c | none => .skip
noncomputable def tl (n : Nat) (c : Code) : Code := Nat.rec c (fun _ ih => tlC ih) n
noncomputable def run73 (ks : List (Nat × Nat)) (cx : Cx) (self : Self) : NC :=
  nSeq (nLift (self 73 (hdC b73))) (nSeq (nLift (self 73 (hdC (tl 1 b73)))) (nSeq (nLift (self 73 (hdC (tl 2 b73)))) (nSeq (nLift (self 73 (hdC (tl 3 b73)))) (nSeqB (nLift (self 73 (hdC (tl 4 b73)))) 7 ks (nSeq (nLift (self 73 (hdC (tl 5 b73)))) (nSeq (nLift (self 73 (hdC (tl 6 b73)))) (nSeq (nLift (self 73 (hdC (tl 7 b73)))) (nSeq (nLift (self 73 (hdC (tl 8 b73)))) (nSeq (nLift (self 73 (hdC (tl 9 b73)))) (nSeq (nLift (self 73 (hdC (tl 10 b73)))) (nSeq (nR2 cx self 73 (hdC (tl 11 b73))) (nLift (self 73 (tl 12 b73))))))))))))))
theorem b73_eq : b73 = .seq (hdC b73) (.seq (hdC (tl 1 b73)) (.seq (hdC (tl 2 b73)) (.seq (hdC (tl 3 b73)) (.seq (hdC (tl 4 b73)) (.seq (hdC (tl 5 b73)) (.seq (hdC (tl 6 b73)) (.seq (hdC (tl 7 b73)) (.seq (hdC (tl 8 b73)) (.seq (hdC (tl 9 b73)) (.seq (hdC (tl 10 b73)) (.seq (hdC (tl 11 b73)) (tl 12 b73)))))))))))) := by kernel_rfl
theorem run73_ok {cx : Cx} {self : Self} {ks : List (Nat × Nat)} (H : CallsOk cx self) : NOk cx none 73 b73 (run73 ks cx self) := by
  rw [b73_eq]
  have L : ∀ c, NOk cx none 73 c (nLift (self 73 c)) := fun c => nLift_ok (H.self none 73 c)
  exact nSeq_ok (L _) (nSeq_ok (L _) (nSeq_ok (L _) (nSeq_ok (L _) (nSeqB_ok (L _) (nSeq_ok (L _) (nSeq_ok (L _) (nSeq_ok (L _) (nSeq_ok (L _) (nSeq_ok (L _) (nSeq_ok (L _) (nSeq_ok (nR2_ok (callT_ok H) (methT_ok H) H.self _) (L _))))))))))))
noncomputable def wkE (v : V) : V := match v with | .sl _ _ _ _ => .x | .sl0 => .x | v => v
noncomputable def wk73 (v : V) : V := match v with | .t [.a [x, y, z, q], e] => .t [.a [x, y, z, wkE q], e] | v => v
theorem wkE_ok {μ : Mu} {v : V} {v' : Value} (h : RelV μ v v') : RelV μ (wkE v) v' := by
  unfold wkE
  split
  · cases h <;> exact .x _ rfl
  · cases h; exact .x _ rfl
  · exact h
theorem wk73_ok {μ : Mu} {v : V} {v' : Value} (h : RelV μ v v') : RelV μ (wk73 v) v' := by
  unfold wk73
  split
  · rename_i x y z q e
    cases h with
    | @t _ cs h =>
      refine .t ?_
      generalize cs.toList = l at h ⊢
      cases h with
      | cons h1 h2 =>
        refine .cons ?_ h2
        cases h1 with
        | @a _ ds h1 =>
          refine .a ?_
          generalize ds.toList = m at h1 ⊢
          cases h1 with
          | cons g1 h1 =>
          cases h1 with
          | cons g2 h1 =>
          cases h1 with
          | cons g3 h1 =>
          cases h1 with
          | cons g4 h1 =>
          cases h1
          exact .cons g1 (.cons g2 (.cons g3 (.cons (wkE_ok g4) .nil)))
  · exact h
noncomputable def onlyFin (o : Out) : Out := ifb (isFin o) finO (.fail 419)
theorem onlyFin_inv {o : Out} {x : Ex} {fr : Fr} {σ : St} (h : onlyFin o = .done x fr σ) : o = finO ∧ finO = .done x fr σ := by
  obtain ⟨h1, h2⟩ := ifb_inv h
  exact ⟨isFin_eq h1, h2⟩
noncomputable def p73 (ks : List (Nat × Nat)) (cx : Cx) (self : Self) (args : List V) (σ : St) (K : V → St → Out) : Out :=
  ifb (Bool.and (Nat.beq (lenL args) 1) (slotB (cx.mask 73) 0)) (stK args .e 0 fun s => onlyFin (run73 ks cx self ⟨s, []⟩ σ fun x fr σ => leave cx (fun _ _ _ _ => .fail 384) Tryz.f73.results.toList (fun v σ => K (wk73 v) σ) (.done x fr σ))) (.fail 385)
theorem p73_ok {ks : List (Nat × Nat)} {cx : Cx} {self : Self} (H : CallsOk cx self) (hP : cx.P = Tryz.prog) : FnOk cx (p73 ks cx self) 73 := by
  intro args σ K x fr σ' hk μ w args' hm hG hl
  obtain ⟨h6, hk⟩ := ifb_inv hk
  rw [Bool.and_eq_true] at h6
  have hlen := Nat.eq_of_beq_eq_true h6.1
  rw [lenL_eq] at hlen
  rw [stK_eq] at hk
  obtain ⟨hk, hfin⟩ := onlyFin_inv hk
  have hf : cx.P.funcs[73]? = some Tryz.f73 := by rw [hP]; exact Tryz.func73
  have hb : Tryz.f73.body = some b73 := by kernel_rfl
  have hn : args.length ≤ Tryz.f73.ntmps := by rw [hlen]; exact Nat.le_of_ble_eq_true (by kernel_rfl)
  have hmask : ∀ k, k < args.length → slotB (cx.mask 73) k = true := fun k hk => by
    have : k = 0 := by omega
    rw [this]; exact h6.2
  refine .inr ⟨73, args', run_enter hf (H.names 73 Tryz.f73 b73 hf hb) hb args' w, (callsIn_wide (n := 0)).1 (callsIn_of_wp_marks hf hb trivial ?_)⟩
  refine run73_ok H hk hm hG (enter_frame hf hl hn hmask) fun x1 fr1 σ1 μ1 a1 w1 h1 st hf1 => ?_
  obtain ⟨x2, sl, ds, σ2, h2, hx, h3⟩ := leave_inv (x := .norm) (fr := ⟨.e, []⟩) (σ' := st0) h1
  cases h2
  have fin : LeavesInM Fence.wide 0 cx.P Tryz.f73 a1.tmps (fun e w1 => ∃ v' μ1 v σ1, e = .returned v' ∧ RelV μ1 v v' ∧ Step cx.P μ σ w μ1 σ1 w1 ∧ K v σ1 = .done x fr σ') a1.defers .returning w1 := by
    refine leaves_ok (DT.none cx 384) ds hf1.d st.rel (hG.mono st.le) h3 fun μ2 σ2 w2 st2 h3 => ?_
    obtain ⟨v, v', h4, h5, h6⟩ := resultsK_ok st2.rel (hf1.s.mono st2.le) h3
    exact ⟨v', h6, v', μ2, wk73 v, σ2, rfl, wk73_ok h5, st.trans st2, by rw [← hfin]; exact h4⟩
  rcases hx with rfl | rfl <;> exact fin
theorem memo_facts (hp : ProgOk Tryz.prog) {mask : Nat → Nat} {base dprim : Prim} {d : Nat} {l : List (Nat × List Memo)} (ks : List (Nat × Nat)) (hbase : ∀ f g, base f = some g → PfOk Tryz.prog f g) (hdp : ∀ f g, dprim f = some g → PdOk Tryz.prog f g) (hl : ∀ e ∈ l, ∀ m ∈ e.2, MemoOk Tryz.prog 14 e.1 (unM m)) (n : Nat) {m : Memo}
    (h : chunk 14 (p73 ks (cxN Tryz.prog mask base dprim d l n) (exec (cxN Tryz.prog mask base dprim d l n) d)) m = .done .norm ⟨.e, []⟩ st0) : MemoOk Tryz.prog 14 73 (unM m) := by
  have H := cxN_ok (mask := mask) (d := d) hp hbase hdp hl n d
  obtain ⟨e1, e2, _⟩ := cxN_P (P := Tryz.prog) (mask := mask) (base := base) (dprim := dprim) (d := d) (l := l) n
  have := memo_of (cx := cxN Tryz.prog mask base dprim d l n) (p73_ok (ks := ks) H e1) (by rw [e2]; exact h)
  rw [e1, e2] at this
  exact this
end Ae
