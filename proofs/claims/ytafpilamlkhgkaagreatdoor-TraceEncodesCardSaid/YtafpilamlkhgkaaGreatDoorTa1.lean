/- The walk of trace's functions, part 1. -/
import Derived.Test.YtafpilamlkhgkaaGreatDoorW0
import Derived.Test.YtafpilamlkhgkaaGreatDoorProg
import Derived.WalkKit
import Derived.WalkSpells
import Derived.WalkLawsBesides
import Derived.OwnWalk
import Derived.Laws.AppendOwn
import Derived.Laws.CopyOwn
import Derived.Deep.AppendLies
import Derived.Below
import Derived.KernelRfl
import Derived.Lib.Hide
import Derived.Deep.RegionLaw
import Derived.Deep.RegionHeld3
import Derived.Laws.Pointers
import Derived.Lib.SliceRun
import Derived.Deep.QuietTactic
import Derived.BigQuiet
import Derived.Laws.StructEq
import Derived.Laws.CopyRow
import Derived.ArgAppend
set_option linter.all false
namespace Ae
open Go Go.Proofs Go.RowKit
theorem info5 : (Tryz.prog.info? 5).map (fun i => (i.zero, i.size, i.bytes)) = some (some (.int .u8 0), 1, 1) := by kernel_rfl
def leS (n : Nat) : Nat → List Nat
  | 0 => []
  | k + 1 => leS n k ++ [n / 256 ^ k % 256]
def bv (l : List Nat) : List Value := l.map fun x => Value.int .u8 (x : Nat)
theorem own_snoc {w : World} {b m k : Nat} {v : Value} (n p : Nat) {x : Int} (h : w.ownsRow b 5 1 v m (bv (leS n k) ++ [.int .u8 x])) (hp : 256 ^ k = p) (hx : x = ((n / p % 256 : Nat) : Int)) : w.ownsRow b 5 1 v m (bv (leS n (k + 1))) := by
  subst hx hp; simpa [bv, leS] using h
def wid16 (k : Nat) : Int := 65536 / 256 ^ k - 1
set_option maxHeartbeats 400000 in
theorem width16 (w : World) : Calls Tryz.prog 207 #[] w fun e w' => e = .returned (.int .i64 2) ∧ w = w' := by
  go_enter Tryz.func207, Tryz.ntmps207
  go_wp2
  go_loop [1, 2] (fun n q => ∃ k : Nat, k ≤ 2 ∧ n = .int .i64 k ∧ q = .int .u16 (wid16 k)) (fun n _ => (8 - intOf n).toNat)
  case atStart => exact ⟨0, by omega, rfl, congrArg (Value.int .u16) (by decide)⟩
  case round =>
    obtain ⟨k, hk, rfl, rfl⟩ := hrel
    have hk8 : k = 0 ∨ k = 1 ∨ k = 2 := by omega
    rcases hk8 with rfl | rfl | rfl
    all_goals simp only [wid16]
    all_goals go_wp2
    all_goals first
      | (go_ret; exact ⟨rfl, rfl⟩)
      | (go_round
         case rel => first | exact ⟨1, by omega, rfl, rfl⟩ | exact ⟨2, by omega, rfl, rfl⟩
         case measure => decide)
set_option maxHeartbeats 4000000 in
theorem put16 (n : Nat) (w : World) (hn : n < 65536) : Calls Tryz.prog 103 #[.slice none 0 0, .int .u16 n] w fun e w' => ∃ g, e = .returned (.slice (some ⟨g, 0, none⟩) 2 8) ∧ w'.ownsRow w.heap.size 5 1 (.slice (some ⟨g, 0, none⟩) 2 8) 2 (bv (leS n 2)) ∧ Below w.heap.size w w' := by
  obtain ⟨i0, hi, hz0, hz1, hz2⟩ := info_parts info5
  go_enter Tryz.func103, Tryz.ntmps103
  go_wp2_with (first
    | (refine wpList_make_own _ rfl _ _ 33 rfl w.heap.size 5 i0 (.int .u8 0) 1 Tryz.underlying33 hi hz0 hz1 .i64 .i64 8 8 rfl rfl rfl (by rw [hz2]; omega) (by simp [maxLen]) (Nat.le_refl _) ?_; intro w1 hown hgrow)
    | (refine wpList_copy_nothing rfl _ _ 33 33 rfl 5 Tryz.underlying33 (by rw [hi]; simp [hz1]) _ _ 0 8 0 0 rfl rfl rfl ?_)
    | (go_at_call 207; refine (width16 _).mono ?_; rintro e w' ⟨rfl, rfl⟩))
  have hb1 : Below w.heap.size w w1 := (Below.refl w.heap.size w).grown hgrow (Nat.le_refl _) (by rintro _ ⟨⟩)
  clear hgrow
  go_loopw [5, 17] (fun v i wr => ∃ k : Nat, k ≤ 2 ∧ i = .int .i64 k ∧ v = .slice (some ⟨w.heap.size, 0, none⟩) k 8 ∧ wr.ownsRow w.heap.size 5 1 v k (bv (leS n k)) ∧ Below w.heap.size w wr) (fun _ i _ => (8 - intOf i).toNat)
  case atStart => exact ⟨0, by omega, rfl, rfl, hown, hb1⟩
  case round =>
    clear hown hb1
    obtain ⟨k, hk, rfl, rfl, hown, hb1⟩ := hrel
    have hsz := hb1.size
    have hk8 : k = 0 ∨ k = 1 ∨ k = 2 := by omega
    rcases hk8 with rfl | rfl | rfl
    all_goals go_wp2_with (first
      | (refine wpList_append_fits _ rfl (.tmp 20) (.tmp 27) 33 rfl w.heap.size 5 i0 1 Tryz.underlying33 hi hz1 w.heap.size 0 8 (bv (leS n 0)) rfl (hown.alloc _) ⟨wr.heap.size, 0, none⟩ 1 1 _ (by rfl) (by rfl) (World.news_of_block (heap_alloc_new wr _)) (by simp [Value.oneCell']) (by omega) ?_; intro w2 hown2 hgrow2)
      | (refine wpList_append_fits _ rfl (.tmp 20) (.tmp 27) 33 rfl w.heap.size 5 i0 1 Tryz.underlying33 hi hz1 w.heap.size 1 8 (bv (leS n 1)) rfl (hown.alloc _) ⟨wr.heap.size, 0, none⟩ 1 1 _ (by rfl) (by rfl) (World.news_of_block (heap_alloc_new wr _)) (by simp [Value.oneCell']) (by omega) ?_; intro w2 hown2 hgrow2))
    all_goals first
      | (go_ret; exact ⟨_, rfl, hown, hb1⟩)
      | (have hb2 : Below w.heap.size w w2 := (hb1.alloc hsz _).grown hgrow2 (by simp; omega) (by rintro _ ⟨⟩; exact Nat.le_refl _)
         clear hgrow2
         go_roundw
         case rel => first | exact ⟨1, by omega, rfl, rfl, own_snoc n 1 hown2 (by decide) (by omega), hb2⟩ | exact ⟨2, by omega, rfl, rfl, own_snoc n 256 hown2 (by decide) (by omega), hb2⟩
         case measure => decide)
def wid32 (k : Nat) : Int := 4294967296 / 256 ^ k - 1
set_option maxHeartbeats 400000 in
theorem width32 (w : World) : Calls Tryz.prog 109 #[] w fun e w' => e = .returned (.int .i64 4) ∧ w = w' := by
  go_enter Tryz.func109, Tryz.ntmps109
  go_wp2
  go_loop [1, 2] (fun n q => ∃ k : Nat, k ≤ 4 ∧ n = .int .i64 k ∧ q = .int .u32 (wid32 k)) (fun n _ => (8 - intOf n).toNat)
  case atStart => exact ⟨0, by omega, rfl, congrArg (Value.int .u32) (by decide)⟩
  case round =>
    obtain ⟨k, hk, rfl, rfl⟩ := hrel
    have hk8 : k = 0 ∨ k = 1 ∨ k = 2 ∨ k = 3 ∨ k = 4 := by omega
    rcases hk8 with rfl | rfl | rfl | rfl | rfl
    all_goals simp only [wid32]
    all_goals go_wp2
    all_goals first
      | (go_ret; exact ⟨rfl, rfl⟩)
      | (go_round
         case rel => first | exact ⟨1, by omega, rfl, rfl⟩ | exact ⟨2, by omega, rfl, rfl⟩ | exact ⟨3, by omega, rfl, rfl⟩ | exact ⟨4, by omega, rfl, rfl⟩
         case measure => decide)
set_option maxHeartbeats 4000000 in
theorem put32 (n : Nat) (w : World) (hn : n < 4294967296) : Calls Tryz.prog 104 #[.slice none 0 0, .int .u32 n] w fun e w' => ∃ g, e = .returned (.slice (some ⟨g, 0, none⟩) 4 8) ∧ w'.ownsRow w.heap.size 5 1 (.slice (some ⟨g, 0, none⟩) 4 8) 4 (bv (leS n 4)) ∧ Below w.heap.size w w' := by
  obtain ⟨i0, hi, hz0, hz1, hz2⟩ := info_parts info5
  go_enter Tryz.func104, Tryz.ntmps104
  go_wp2_with (first
    | (refine wpList_make_own _ rfl _ _ 33 rfl w.heap.size 5 i0 (.int .u8 0) 1 Tryz.underlying33 hi hz0 hz1 .i64 .i64 8 8 rfl rfl rfl (by rw [hz2]; omega) (by simp [maxLen]) (Nat.le_refl _) ?_; intro w1 hown hgrow)
    | (refine wpList_copy_nothing rfl _ _ 33 33 rfl 5 Tryz.underlying33 (by rw [hi]; simp [hz1]) _ _ 0 8 0 0 rfl rfl rfl ?_)
    | (go_at_call 109; refine (width32 _).mono ?_; rintro e w' ⟨rfl, rfl⟩))
  have hb1 : Below w.heap.size w w1 := (Below.refl w.heap.size w).grown hgrow (Nat.le_refl _) (by rintro _ ⟨⟩)
  clear hgrow
  go_loopw [5, 17] (fun v i wr => ∃ k : Nat, k ≤ 4 ∧ i = .int .i64 k ∧ v = .slice (some ⟨w.heap.size, 0, none⟩) k 8 ∧ wr.ownsRow w.heap.size 5 1 v k (bv (leS n k)) ∧ Below w.heap.size w wr) (fun _ i _ => (8 - intOf i).toNat)
  case atStart => exact ⟨0, by omega, rfl, rfl, hown, hb1⟩
  case round =>
    clear hown hb1
    obtain ⟨k, hk, rfl, rfl, hown, hb1⟩ := hrel
    have hsz := hb1.size
    have hk8 : k = 0 ∨ k = 1 ∨ k = 2 ∨ k = 3 ∨ k = 4 := by omega
    rcases hk8 with rfl | rfl | rfl | rfl | rfl
    all_goals go_wp2_with (first
      | (refine wpList_append_fits _ rfl (.tmp 20) (.tmp 27) 33 rfl w.heap.size 5 i0 1 Tryz.underlying33 hi hz1 w.heap.size 0 8 (bv (leS n 0)) rfl (hown.alloc _) ⟨wr.heap.size, 0, none⟩ 1 1 _ (by rfl) (by rfl) (World.news_of_block (heap_alloc_new wr _)) (by simp [Value.oneCell']) (by omega) ?_; intro w2 hown2 hgrow2)
      | (refine wpList_append_fits _ rfl (.tmp 20) (.tmp 27) 33 rfl w.heap.size 5 i0 1 Tryz.underlying33 hi hz1 w.heap.size 1 8 (bv (leS n 1)) rfl (hown.alloc _) ⟨wr.heap.size, 0, none⟩ 1 1 _ (by rfl) (by rfl) (World.news_of_block (heap_alloc_new wr _)) (by simp [Value.oneCell']) (by omega) ?_; intro w2 hown2 hgrow2)
      | (refine wpList_append_fits _ rfl (.tmp 20) (.tmp 27) 33 rfl w.heap.size 5 i0 1 Tryz.underlying33 hi hz1 w.heap.size 2 8 (bv (leS n 2)) rfl (hown.alloc _) ⟨wr.heap.size, 0, none⟩ 1 1 _ (by rfl) (by rfl) (World.news_of_block (heap_alloc_new wr _)) (by simp [Value.oneCell']) (by omega) ?_; intro w2 hown2 hgrow2)
      | (refine wpList_append_fits _ rfl (.tmp 20) (.tmp 27) 33 rfl w.heap.size 5 i0 1 Tryz.underlying33 hi hz1 w.heap.size 3 8 (bv (leS n 3)) rfl (hown.alloc _) ⟨wr.heap.size, 0, none⟩ 1 1 _ (by rfl) (by rfl) (World.news_of_block (heap_alloc_new wr _)) (by simp [Value.oneCell']) (by omega) ?_; intro w2 hown2 hgrow2))
    all_goals first
      | (go_ret; exact ⟨_, rfl, hown, hb1⟩)
      | (have hb2 : Below w.heap.size w w2 := (hb1.alloc hsz _).grown hgrow2 (by simp; omega) (by rintro _ ⟨⟩; exact Nat.le_refl _)
         clear hgrow2
         go_roundw
         case rel => first | exact ⟨1, by omega, rfl, rfl, own_snoc n 1 hown2 (by decide) (by omega), hb2⟩ | exact ⟨2, by omega, rfl, rfl, own_snoc n 256 hown2 (by decide) (by omega), hb2⟩ | exact ⟨3, by omega, rfl, rfl, own_snoc n 65536 hown2 (by decide) (by omega), hb2⟩ | exact ⟨4, by omega, rfl, rfl, own_snoc n 16777216 hown2 (by decide) (by omega), hb2⟩
         case measure => decide)
def wid64 (k : Nat) : Int := 18446744073709551616 / 256 ^ k - 1
set_option maxHeartbeats 400000 in
theorem tWidth64 (w : World) : Calls Tryz.prog 110 #[] w fun e w' => e = .returned (.int .i64 8) ∧ w = w' := by
  go_enter Tryz.func110, Tryz.ntmps110
  go_wp2
  go_loop [1, 2] (fun n q => ∃ k : Nat, k ≤ 8 ∧ n = .int .i64 k ∧ q = .int .u64 (wid64 k)) (fun n _ => (8 - intOf n).toNat)
  case atStart => exact ⟨0, by omega, rfl, congrArg (Value.int .u64) (by decide)⟩
  case round =>
    obtain ⟨k, hk, rfl, rfl⟩ := hrel
    have hk8 : k = 0 ∨ k = 1 ∨ k = 2 ∨ k = 3 ∨ k = 4 ∨ k = 5 ∨ k = 6 ∨ k = 7 ∨ k = 8 := by omega
    rcases hk8 with rfl | rfl | rfl | rfl | rfl | rfl | rfl | rfl | rfl
    all_goals simp only [wid64]
    all_goals go_wp2
    all_goals first
      | (go_ret; exact ⟨rfl, rfl⟩)
      | (go_round
         case rel => first | exact ⟨1, by omega, rfl, rfl⟩ | exact ⟨2, by omega, rfl, rfl⟩ | exact ⟨3, by omega, rfl, rfl⟩ | exact ⟨4, by omega, rfl, rfl⟩ | exact ⟨5, by omega, rfl, rfl⟩ | exact ⟨6, by omega, rfl, rfl⟩ | exact ⟨7, by omega, rfl, rfl⟩ | exact ⟨8, by omega, rfl, rfl⟩
         case measure => decide)
set_option maxHeartbeats 4000000 in
theorem put64 (n : Nat) (w : World) (hn : n < 18446744073709551616) : Calls Tryz.prog 105 #[.slice none 0 0, .int .u64 n] w fun e w' => ∃ g, e = .returned (.slice (some ⟨g, 0, none⟩) 8 8) ∧ w'.ownsRow w.heap.size 5 1 (.slice (some ⟨g, 0, none⟩) 8 8) 8 (bv (leS n 8)) ∧ Below w.heap.size w w' := by
  obtain ⟨i0, hi, hz0, hz1, hz2⟩ := info_parts info5
  go_enter Tryz.func105, Tryz.ntmps105
  go_wp2_with (first
    | (refine wpList_make_own _ rfl _ _ 33 rfl w.heap.size 5 i0 (.int .u8 0) 1 Tryz.underlying33 hi hz0 hz1 .i64 .i64 8 8 rfl rfl rfl (by rw [hz2]; omega) (by simp [maxLen]) (Nat.le_refl _) ?_; intro w1 hown hgrow)
    | (refine wpList_copy_nothing rfl _ _ 33 33 rfl 5 Tryz.underlying33 (by rw [hi]; simp [hz1]) _ _ 0 8 0 0 rfl rfl rfl ?_)
    | (go_at_call 110; refine (tWidth64 _).mono ?_; rintro e w' ⟨rfl, rfl⟩))
  have hb1 : Below w.heap.size w w1 := (Below.refl w.heap.size w).grown hgrow (Nat.le_refl _) (by rintro _ ⟨⟩)
  clear hgrow
  go_loopw [5, 17] (fun v i wr => ∃ k : Nat, k ≤ 8 ∧ i = .int .i64 k ∧ v = .slice (some ⟨w.heap.size, 0, none⟩) k 8 ∧ wr.ownsRow w.heap.size 5 1 v k (bv (leS n k)) ∧ Below w.heap.size w wr) (fun _ i _ => (8 - intOf i).toNat)
  case atStart => exact ⟨0, by omega, rfl, rfl, hown, hb1⟩
  case round =>
    clear hown hb1
    obtain ⟨k, hk, rfl, rfl, hown, hb1⟩ := hrel
    have hsz := hb1.size
    have hk8 : k = 0 ∨ k = 1 ∨ k = 2 ∨ k = 3 ∨ k = 4 ∨ k = 5 ∨ k = 6 ∨ k = 7 ∨ k = 8 := by omega
    rcases hk8 with rfl | rfl | rfl | rfl | rfl | rfl | rfl | rfl | rfl
    all_goals go_wp2_with (first
      | (refine wpList_append_fits _ rfl (.tmp 20) (.tmp 26) 33 rfl w.heap.size 5 i0 1 Tryz.underlying33 hi hz1 w.heap.size 0 8 (bv (leS n 0)) rfl (hown.alloc _) ⟨wr.heap.size, 0, none⟩ 1 1 _ (by rfl) (by rfl) (World.news_of_block (heap_alloc_new wr _)) (by simp [Value.oneCell']) (by omega) ?_; intro w2 hown2 hgrow2)
      | (refine wpList_append_fits _ rfl (.tmp 20) (.tmp 26) 33 rfl w.heap.size 5 i0 1 Tryz.underlying33 hi hz1 w.heap.size 1 8 (bv (leS n 1)) rfl (hown.alloc _) ⟨wr.heap.size, 0, none⟩ 1 1 _ (by rfl) (by rfl) (World.news_of_block (heap_alloc_new wr _)) (by simp [Value.oneCell']) (by omega) ?_; intro w2 hown2 hgrow2)
      | (refine wpList_append_fits _ rfl (.tmp 20) (.tmp 26) 33 rfl w.heap.size 5 i0 1 Tryz.underlying33 hi hz1 w.heap.size 2 8 (bv (leS n 2)) rfl (hown.alloc _) ⟨wr.heap.size, 0, none⟩ 1 1 _ (by rfl) (by rfl) (World.news_of_block (heap_alloc_new wr _)) (by simp [Value.oneCell']) (by omega) ?_; intro w2 hown2 hgrow2)
      | (refine wpList_append_fits _ rfl (.tmp 20) (.tmp 26) 33 rfl w.heap.size 5 i0 1 Tryz.underlying33 hi hz1 w.heap.size 3 8 (bv (leS n 3)) rfl (hown.alloc _) ⟨wr.heap.size, 0, none⟩ 1 1 _ (by rfl) (by rfl) (World.news_of_block (heap_alloc_new wr _)) (by simp [Value.oneCell']) (by omega) ?_; intro w2 hown2 hgrow2)
      | (refine wpList_append_fits _ rfl (.tmp 20) (.tmp 26) 33 rfl w.heap.size 5 i0 1 Tryz.underlying33 hi hz1 w.heap.size 4 8 (bv (leS n 4)) rfl (hown.alloc _) ⟨wr.heap.size, 0, none⟩ 1 1 _ (by rfl) (by rfl) (World.news_of_block (heap_alloc_new wr _)) (by simp [Value.oneCell']) (by omega) ?_; intro w2 hown2 hgrow2)
      | (refine wpList_append_fits _ rfl (.tmp 20) (.tmp 26) 33 rfl w.heap.size 5 i0 1 Tryz.underlying33 hi hz1 w.heap.size 5 8 (bv (leS n 5)) rfl (hown.alloc _) ⟨wr.heap.size, 0, none⟩ 1 1 _ (by rfl) (by rfl) (World.news_of_block (heap_alloc_new wr _)) (by simp [Value.oneCell']) (by omega) ?_; intro w2 hown2 hgrow2)
      | (refine wpList_append_fits _ rfl (.tmp 20) (.tmp 26) 33 rfl w.heap.size 5 i0 1 Tryz.underlying33 hi hz1 w.heap.size 6 8 (bv (leS n 6)) rfl (hown.alloc _) ⟨wr.heap.size, 0, none⟩ 1 1 _ (by rfl) (by rfl) (World.news_of_block (heap_alloc_new wr _)) (by simp [Value.oneCell']) (by omega) ?_; intro w2 hown2 hgrow2)
      | (refine wpList_append_fits _ rfl (.tmp 20) (.tmp 26) 33 rfl w.heap.size 5 i0 1 Tryz.underlying33 hi hz1 w.heap.size 7 8 (bv (leS n 7)) rfl (hown.alloc _) ⟨wr.heap.size, 0, none⟩ 1 1 _ (by rfl) (by rfl) (World.news_of_block (heap_alloc_new wr _)) (by simp [Value.oneCell']) (by omega) ?_; intro w2 hown2 hgrow2))
    all_goals first
      | (go_ret; exact ⟨_, rfl, hown, hb1⟩)
      | (have hb2 : Below w.heap.size w w2 := (hb1.alloc hsz _).grown hgrow2 (by simp; omega) (by rintro _ ⟨⟩; exact Nat.le_refl _)
         clear hgrow2
         go_roundw
         case rel => first | exact ⟨1, by omega, rfl, rfl, own_snoc n 1 hown2 (by decide) (by omega), hb2⟩ | exact ⟨2, by omega, rfl, rfl, own_snoc n 256 hown2 (by decide) (by omega), hb2⟩ | exact ⟨3, by omega, rfl, rfl, own_snoc n 65536 hown2 (by decide) (by omega), hb2⟩ | exact ⟨4, by omega, rfl, rfl, own_snoc n 16777216 hown2 (by decide) (by omega), hb2⟩ | exact ⟨5, by omega, rfl, rfl, own_snoc n 4294967296 hown2 (by decide) (by omega), hb2⟩ | exact ⟨6, by omega, rfl, rfl, own_snoc n 1099511627776 hown2 (by decide) (by omega), hb2⟩ | exact ⟨7, by omega, rfl, rfl, own_snoc n 281474976710656 hown2 (by decide) (by omega), hb2⟩ | exact ⟨8, by omega, rfl, rfl, own_snoc n 72057594037927936 hown2 (by decide) (by omega), hb2⟩
         case measure => decide)
end Ae
namespace Ae
open Go Go.Proofs Go.RowKit
theorem grown_of_below {w w' : World} (h : Below w.heap.size w w') : w.grownBy w' none := ⟨h.os, h.tape, h.output, h.size, fun k hk _ => h.block k hk⟩
def WB (base a : Nat) (w : World) (l : List Nat) : Prop :=
  ∃ v, w.heap[a]? = some (.cells #[v, .int .i64 0] 146 (0, 0)) ∧ w.ownsRow base 5 1 v l.length (bv l) ∧ v.ownBlock ≠ some a ∧ base ≤ a ∧ base ≤ w.heap.size
theorem bv_length (l : List Nat) : (bv l).length = l.length := by simp [bv]
theorem bv_app (l m : List Nat) : bv (l ++ m) = bv l ++ bv m := by simp [bv]
theorem leS_length (n k : Nat) : (leS n k).length = k := by
  induction k with
  | zero => rfl
  | succ k ih => simp [leS, ih]
theorem row_cells {w : World} {base E : Nat} {g n cap : Nat} {xs : List Value} (h : w.ownsRow base E 1 (.slice (some ⟨g, 0, none⟩) n cap) n xs) : ∀ (j : Nat) (u : Value), xs[j]? = some u → w.cell? ((⟨g, 0, none⟩ : Addr).add j) = some u := by
  obtain ⟨hl, h | ⟨g', cap', cur, e, hb, hg, h1, h2, h3, h4⟩⟩ := h
  · cases h.1
  · cases e
    intro j u hj
    have hadd : (⟨g, 0, none⟩ : Addr).add j = ⟨g, j, none⟩ := by unfold Addr.add; split <;> simp_all
    rw [hadd]
    simp only [World.cell?, hg]
    rw [← h4, List.getElem?_take] at hj
    split at hj
    · simpa using hj
    · cases hj
theorem bv_one (l : List Nat) : ∀ u ∈ bv l, u.oneCell' = true := by
  intro u hu
  simp only [bv, List.mem_map] at hu
  obtain ⟨x, _, rfl⟩ := hu
  rfl
theorem bcell {W w1 : World} (hb : Below W.heap.size W w1) : (∀ b o, b < W.heap.size → w1.cell? ⟨b, o, none⟩ = W.cell? ⟨b, o, none⟩) ∧ (∀ b o, b < W.heap.size → w1.frozen? ⟨b, o, none⟩ = W.frozen? ⟨b, o, none⟩) :=
  ⟨fun b o h => hb.cell (p := ⟨b, o, none⟩) h, fun b o h => hb.frozen (p := ⟨b, o, none⟩) h⟩
theorem own_below {w w1 : World} {base E sz n : Nat} {v : Value} {xs : List Value} (h : w.ownsRow base E sz v n xs) (hb : Below w.heap.size w w1) : w1.ownsRow base E sz v n xs :=
  h.kept (grown_of_below hb) (by cases v.ownBlock <;> simp)
def elemOf : Option Obj → Option Nat
  | some (.cells _ e _) => some e
  | _ => none
def Kept (a : Nat) (w w' : World) : Prop := ∀ k, k < w.heap.size → k ≠ a → elemOf w.heap[k]? ≠ some 5 → w'.heap[k]? = w.heap[k]?
theorem Kept.refl (a : Nat) (w : World) : Kept a w w := fun _ _ _ _ => rfl
theorem Kept.trans {a : Nat} {w w1 w2 : World} (h : Kept a w w1) (h' : Kept a w1 w2) (hs : w.heap.size ≤ w1.heap.size) : Kept a w w2 := fun k hk hka he => by
  have e := h k hk hka he
  rw [h' k (Nat.lt_of_lt_of_le hk hs) hka (by rw [e]; exact he), e]
theorem Kept.of_below {a : Nat} {w w1 : World} (h : Below w.heap.size w w1) : Kept a w w1 := fun k hk _ _ => h.block k hk
theorem Kept.of_grown {a base sz n : Nat} {w w1 : World} {v : Value} {xs : List Value} (hown : w.ownsRow base 5 sz v n xs) (h : w.grownBy w1 v.ownBlock) : Kept a w w1 := fun k hk _ he => by
  refine h.block k hk ?_
  intro e
  obtain ⟨_, q | ⟨g, cap, cur, rfl, hb, hg, _⟩⟩ := hown
  · rw [q.1] at e; cases e
  · simp only [Value.ownBlock, Option.some.injEq] at e
    subst e
    rw [hg] at he
    exact he rfl
theorem Kept.setCell {a : Nat} {w w1 : World} (h : Kept a w w1) (o : Nat) (v : Value) : Kept a w (w1.setCell ⟨a, o, none⟩ v) := fun k hk hka he => (heap_setCell_other w1 _ k v hka).trans (h k hk hka he)
theorem wb_store {base a gg cap n : Nat} {w : World} {v : Value} {l : List Nat} (ha : w.heap[a]? = some (.cells #[v, .int .i64 0] 146 (0, 0))) (h : w.ownsRow base 5 1 (.slice (some ⟨gg, 0, none⟩) n cap) n (bv l)) (hn : n = l.length) (hne : gg ≠ a) (hba : base ≤ a) (hbs : base ≤ w.heap.size) :
    WB base a (w.setCell ⟨a, 0, none⟩ (.slice (some ⟨gg, 0, none⟩) n cap)) l := by
  subst hn
  refine ⟨_, (heap_setCell_same w a 0 _ _ _ ha).trans (by rfl), ⟨h.1, ?_⟩, by simp [Value.ownBlock, hne], hba, by simpa using hbs⟩
  obtain ⟨_, h | ⟨g', cap', cur, e, hb, hg, h1, h2, h3, h4⟩⟩ := h
  · cases h.1
  · cases e
    exact .inr ⟨gg, cap, cur, rfl, hb, (heap_setCell_other w _ gg _ hne).trans hg, h1, h2, h3, h4⟩
set_option maxHeartbeats 1600000 in
theorem lay16 (base a n : Nat) (l : List Nat) (w : World) (hn : n < 65536) (h : WB base a w l) (hl : l.length ≤ 100000000) :
    Calls Tryz.prog 61 #[.pointer (some ⟨a, 0, none⟩), .int .u16 n] w fun e w' => e = .returned (.tuple #[]) ∧ WB base a w' (l ++ leS n 2) ∧ Below base w w' ∧ Kept a w w' := by
  obtain ⟨v, ha, hown, hva, hba, hbs⟩ := h
  have c0 : w.cell? ⟨a, 0, none⟩ = some v := by simp [World.cell?, ha]
  have c1 : w.cell? ⟨a, 1, none⟩ = some (.int .i64 0) := by simp [World.cell?, ha]
  have f0 : w.frozen? ⟨a, 0, none⟩ = false := by simp [World.frozen?, ha]
  have la := World.block_lt_of_cell? w _ c0
  obtain ⟨i0, hi, hz0, hz1, hz2⟩ := info_parts info5
  have HA := Lib.hid ha
  clear ha
  go_enter Tryz.func61, Tryz.ntmps61
  go_wp2
  go_region_law (first
    | (go_simp; go_at_call 103; refine (put16 n _ hn).mono ?_; rintro e w1 ⟨g, rfl, hput, hb1⟩; have hown1 := own_below hown.drew hb1; have hs1 : w.heap.size ≤ w1.heap.size := hb1.size; have la1 : a < w1.heap.size := Nat.lt_of_lt_of_le la hs1; obtain ⟨hc1, hf1⟩ := bcell hb1; have e0 : w1.cell? ⟨a, 0, none⟩ = some v := (hc1 a 0 la).trans c0)
    | (refine step_append_lies _ (by rfl) (.tmp 13) (.tmp 15) 33 (by rfl) base 5 i0 (.int .u8 0) 1 1 Tryz.underlying33 hi hz0 hz1 hz2 rfl (by omega) v l.length (bv l) (by rfl) hown1
        ⟨g, 0, none⟩ 2 8 (bv (leS n 2)) (by rfl) (by rfl) (row_cells hput) (bv_one _) (by omega) (by simp [maxLen]; omega) (by omega) (by omega) _ rfl ?_; intro gg cap w2 hown2 hgrow2 hat hlt; have d0 : w2.cell? ⟨a, 0, none⟩ = some v := ((hgrow2.cell_far ⟨a, 0, none⟩ la1 (Ne.symm hva)).trans (hc1 a 0 la)).trans c0; have d1 : w2.frozen? ⟨a, 0, none⟩ = false := ((hgrow2.frozen_far ⟨a, 0, none⟩ la1 (Ne.symm hva)).trans (hf1 a 0 la)).trans f0))
  all_goals go_end0
  all_goals
    have ha1 : w1.heap[a]? = some (.cells #[v, .int .i64 0] 146 (0, 0)) := (hb1.block a la).trans HA.out
    have ha2 : w2.heap[a]? = some (.cells #[v, .int .i64 0] 146 (0, 0)) := (hgrow2.block a la1 (Ne.symm hva)).trans ha1
    have hne : gg ≠ a := by
      rcases hat with q | q
      · intro e; subst e; exact hva q
      · omega
    rw [← bv_app] at hown2
    refine ⟨rfl, wb_store ha2 hown2 (by simp [leS_length]) hne hba (Nat.le_trans (Nat.le_trans hbs hs1) hgrow2.size), ?_, ?_⟩
    · exact (((Below.refl base w).drew.trans (hb1.mono hbs)).grown hgrow2 (Nat.le_trans hbs hs1) (fun k hk => (hown.lt k hk).1)).setCell hba _
    · exact (((Kept.of_below hb1).trans (Kept.of_grown hown1 hgrow2) hs1).setCell 0 _)
set_option maxHeartbeats 1600000 in
theorem lay32 (base a n : Nat) (l : List Nat) (w : World) (hn : n < 4294967296) (h : WB base a w l) (hl : l.length ≤ 100000000) :
    Calls Tryz.prog 62 #[.pointer (some ⟨a, 0, none⟩), .int .u32 n] w fun e w' => e = .returned (.tuple #[]) ∧ WB base a w' (l ++ leS n 4) ∧ Below base w w' ∧ Kept a w w' := by
  obtain ⟨v, ha, hown, hva, hba, hbs⟩ := h
  have c0 : w.cell? ⟨a, 0, none⟩ = some v := by simp [World.cell?, ha]
  have c1 : w.cell? ⟨a, 1, none⟩ = some (.int .i64 0) := by simp [World.cell?, ha]
  have f0 : w.frozen? ⟨a, 0, none⟩ = false := by simp [World.frozen?, ha]
  have la := World.block_lt_of_cell? w _ c0
  obtain ⟨i0, hi, hz0, hz1, hz2⟩ := info_parts info5
  have HA := Lib.hid ha
  clear ha
  go_enter Tryz.func62, Tryz.ntmps62
  go_wp2
  go_region_law (first
    | (go_simp; go_at_call 104; refine (put32 n _ hn).mono ?_; rintro e w1 ⟨g, rfl, hput, hb1⟩; have hown1 := own_below hown.drew hb1; have hs1 : w.heap.size ≤ w1.heap.size := hb1.size; have la1 : a < w1.heap.size := Nat.lt_of_lt_of_le la hs1; obtain ⟨hc1, hf1⟩ := bcell hb1; have e0 : w1.cell? ⟨a, 0, none⟩ = some v := (hc1 a 0 la).trans c0)
    | (refine step_append_lies _ (by rfl) (.tmp 13) (.tmp 15) 33 (by rfl) base 5 i0 (.int .u8 0) 1 1 Tryz.underlying33 hi hz0 hz1 hz2 rfl (by omega) v l.length (bv l) (by rfl) hown1
        ⟨g, 0, none⟩ 4 8 (bv (leS n 4)) (by rfl) (by rfl) (row_cells hput) (bv_one _) (by omega) (by simp [maxLen]; omega) (by omega) (by omega) _ rfl ?_; intro gg cap w2 hown2 hgrow2 hat hlt; have d0 : w2.cell? ⟨a, 0, none⟩ = some v := ((hgrow2.cell_far ⟨a, 0, none⟩ la1 (Ne.symm hva)).trans (hc1 a 0 la)).trans c0; have d1 : w2.frozen? ⟨a, 0, none⟩ = false := ((hgrow2.frozen_far ⟨a, 0, none⟩ la1 (Ne.symm hva)).trans (hf1 a 0 la)).trans f0))
  all_goals go_end0
  all_goals
    have ha1 : w1.heap[a]? = some (.cells #[v, .int .i64 0] 146 (0, 0)) := (hb1.block a la).trans HA.out
    have ha2 : w2.heap[a]? = some (.cells #[v, .int .i64 0] 146 (0, 0)) := (hgrow2.block a la1 (Ne.symm hva)).trans ha1
    have hne : gg ≠ a := by
      rcases hat with q | q
      · intro e; subst e; exact hva q
      · omega
    rw [← bv_app] at hown2
    refine ⟨rfl, wb_store ha2 hown2 (by simp [leS_length]) hne hba (Nat.le_trans (Nat.le_trans hbs hs1) hgrow2.size), ?_, ?_⟩
    · exact (((Below.refl base w).drew.trans (hb1.mono hbs)).grown hgrow2 (Nat.le_trans hbs hs1) (fun k hk => (hown.lt k hk).1)).setCell hba _
    · exact (((Kept.of_below hb1).trans (Kept.of_grown hown1 hgrow2) hs1).setCell 0 _)
set_option maxHeartbeats 1600000 in
theorem lay64 (base a n : Nat) (l : List Nat) (w : World) (hn : n < 18446744073709551616) (h : WB base a w l) (hl : l.length ≤ 100000000) :
    Calls Tryz.prog 63 #[.pointer (some ⟨a, 0, none⟩), .int .u64 n] w fun e w' => e = .returned (.tuple #[]) ∧ WB base a w' (l ++ leS n 8) ∧ Below base w w' ∧ Kept a w w' := by
  obtain ⟨v, ha, hown, hva, hba, hbs⟩ := h
  have c0 : w.cell? ⟨a, 0, none⟩ = some v := by simp [World.cell?, ha]
  have c1 : w.cell? ⟨a, 1, none⟩ = some (.int .i64 0) := by simp [World.cell?, ha]
  have f0 : w.frozen? ⟨a, 0, none⟩ = false := by simp [World.frozen?, ha]
  have la := World.block_lt_of_cell? w _ c0
  obtain ⟨i0, hi, hz0, hz1, hz2⟩ := info_parts info5
  have HA := Lib.hid ha
  clear ha
  go_enter Tryz.func63, Tryz.ntmps63
  go_wp2
  go_region_law (first
    | (go_simp; go_at_call 105; refine (put64 n _ hn).mono ?_; rintro e w1 ⟨g, rfl, hput, hb1⟩; have hown1 := own_below hown.drew hb1; have hs1 : w.heap.size ≤ w1.heap.size := hb1.size; have la1 : a < w1.heap.size := Nat.lt_of_lt_of_le la hs1; obtain ⟨hc1, hf1⟩ := bcell hb1; have e0 : w1.cell? ⟨a, 0, none⟩ = some v := (hc1 a 0 la).trans c0)
    | (refine step_append_lies _ (by rfl) (.tmp 13) (.tmp 15) 33 (by rfl) base 5 i0 (.int .u8 0) 1 1 Tryz.underlying33 hi hz0 hz1 hz2 rfl (by omega) v l.length (bv l) (by rfl) hown1
        ⟨g, 0, none⟩ 8 8 (bv (leS n 8)) (by rfl) (by rfl) (row_cells hput) (bv_one _) (by omega) (by simp [maxLen]; omega) (by omega) (by omega) _ rfl ?_; intro gg cap w2 hown2 hgrow2 hat hlt; have d0 : w2.cell? ⟨a, 0, none⟩ = some v := ((hgrow2.cell_far ⟨a, 0, none⟩ la1 (Ne.symm hva)).trans (hc1 a 0 la)).trans c0; have d1 : w2.frozen? ⟨a, 0, none⟩ = false := ((hgrow2.frozen_far ⟨a, 0, none⟩ la1 (Ne.symm hva)).trans (hf1 a 0 la)).trans f0))
  all_goals go_end0
  all_goals
    have ha1 : w1.heap[a]? = some (.cells #[v, .int .i64 0] 146 (0, 0)) := (hb1.block a la).trans HA.out
    have ha2 : w2.heap[a]? = some (.cells #[v, .int .i64 0] 146 (0, 0)) := (hgrow2.block a la1 (Ne.symm hva)).trans ha1
    have hne : gg ≠ a := by
      rcases hat with q | q
      · intro e; subst e; exact hva q
      · omega
    rw [← bv_app] at hown2
    refine ⟨rfl, wb_store ha2 hown2 (by simp [leS_length]) hne hba (Nat.le_trans (Nat.le_trans hbs hs1) hgrow2.size), ?_, ?_⟩
    · exact (((Below.refl base w).drew.trans (hb1.mono hbs)).grown hgrow2 (Nat.le_trans hbs hs1) (fun k hk => (hown.lt k hk).1)).setCell hba _
    · exact (((Kept.of_below hb1).trans (Kept.of_grown hown1 hgrow2) hs1).setCell 0 _)
theorem half_any (base a n : Nat) (l : List Nat) (w : World) (hn : n < 65536) (h : WB base a w l) (hl : l.length ≤ 100000000) :
    Calls Tryz.prog 32 #[.pointer (some ⟨a, 0, none⟩), .int .u16 n] w fun e w' => e = .returned (.tuple #[]) ∧ WB base a w' (l ++ leS n 2) ∧ Below base w w' ∧ Kept a w w' := by
  have H := Lib.hid h
  clear h
  go_enter Tryz.func32, Tryz.ntmps32
  go_wp2_with fail
  refine (lay16 base a n l _ hn H.out hl).mono ?_
  rintro e w1 ⟨rfl, h1, h2, h3⟩
  go_wp2
  go_end0
  exact ⟨rfl, h1, h2, h3⟩
theorem word_any (base a n : Nat) (l : List Nat) (w : World) (hn : n < 4294967296) (h : WB base a w l) (hl : l.length ≤ 100000000) :
    Calls Tryz.prog 33 #[.pointer (some ⟨a, 0, none⟩), .int .u32 n] w fun e w' => e = .returned (.tuple #[]) ∧ WB base a w' (l ++ leS n 4) ∧ Below base w w' ∧ Kept a w w' := by
  have H := Lib.hid h
  clear h
  go_enter Tryz.func33, Tryz.ntmps33
  go_wp2_with fail
  refine (lay32 base a n l _ hn H.out hl).mono ?_
  rintro e w1 ⟨rfl, h1, h2, h3⟩
  go_wp2
  go_end0
  exact ⟨rfl, h1, h2, h3⟩
theorem long_any (base a n : Nat) (l : List Nat) (w : World) (hn : n < 18446744073709551616) (h : WB base a w l) (hl : l.length ≤ 100000000) :
    Calls Tryz.prog 36 #[.pointer (some ⟨a, 0, none⟩), .int .u64 n] w fun e w' => e = .returned (.tuple #[]) ∧ WB base a w' (l ++ leS n 8) ∧ Below base w w' ∧ Kept a w w' := by
  have H := Lib.hid h
  clear h
  go_enter Tryz.func36, Tryz.ntmps36
  go_wp2_with fail
  refine (lay64 base a n l _ hn H.out hl).mono ?_
  rintro e w1 ⟨rfl, h1, h2, h3⟩
  go_wp2
  go_end0
  exact ⟨rfl, h1, h2, h3⟩
end Ae
namespace Ae
open Go Go.Proofs Go.RowKit
theorem ret_bool {a b : Bool} (h : a = b) : Ending.returned (.bool a) = .returned (.bool b) := by rw [h]
def fitsB (z : Int) : Bool := decide (-2147483648 ≤ z ∧ z < 2147483648)
theorem fits_wrap {z : Int} (h : -9223372036854775808 ≤ z ∧ z < 9223372036854775808) : (wrap64 (wrap32 z) != z) = !fitsB z := by
  unfold fitsB wrap64 wrap32
  by_cases q : -2147483648 ≤ z ∧ z < 2147483648
  · simp [q]; omega
  · simp [q]; omega
theorem all_take {zs : List Int} {k : Nat} (hk : k < zs.length) : (zs.take (k + 1)).all fitsB = ((zs.take k).all fitsB && fitsB zs[k]) := by
  rw [List.take_succ_eq_append_getElem hk, List.all_append]; simp
set_option maxHeartbeats 800000 in
theorem fits_any (b off len cap : Nat) (zs : List Int) (w : World) (hlen : zs.length = len) (hbig : len < 9223372036854775807) (hc : ∀ j, j < len → w.cell? ⟨b, off + j, none⟩ = some (.int .i64 (zs[j]?.getD 0))) (hr : ∀ z ∈ zs, -9223372036854775808 ≤ z ∧ z < 9223372036854775808) :
    Calls Tryz.prog 34 #[.slice (some ⟨b, off, none⟩) len cap] w fun e w' => e = .returned (.bool (zs.all fitsB)) ∧ w = w' := by
  have HL := Lib.hid hlen
  clear hlen
  go_enter Tryz.func34, Tryz.ntmps34
  go_wp2
  go_loop [7] (fun i => ∃ k : Nat, k ≤ len ∧ i = .int .i64 k ∧ (zs.take k).all fitsB = true) (fun i => len - (intOf i).toNat)
  case atStart => exact ⟨0, Nat.zero_le _, rfl, rfl⟩
  case round =>
    obtain ⟨k, hk, rfl, hall⟩ := hrel
    have HA := Lib.hid hall
    clear hall
    by_cases hlt : k < len
    · have hcell := hc k hlt
      have hz := hr (zs[k]?.getD 0) (by have := HL.out; rw [List.getElem?_eq_getElem (by omega)]; exact List.getElem_mem _)
      generalize hzk : zs[k]?.getD 0 = z at hcell hz
      have HZ := Lib.hid hzk
      clear hzk hc hr
      have hkz : zs[k]'(by have := HL.out; omega) = z := by have := HZ.out; rw [List.getElem?_eq_getElem (by have := HL.out; omega)] at this; exact this
      have HK := Lib.hid hkz
      clear hkz
      go_wp2
      · rename_i hq _
        go_ret
        refine ⟨ret_bool ?_, rfl⟩
        have hk' : k < zs.length := by have := HL.out; omega
        have h1 : fitsB zs[k] = false := by rw [HK.out]; have := fits_wrap hz; rw [hq] at this; simpa using this.symm
        have : ¬ (zs.all fitsB = true) := fun h => by
          rw [List.all_eq_true] at h
          have := h zs[k] (List.getElem_mem _)
          rw [h1] at this; cases this
        symm; simpa using this
      · go_round
        case rel =>
          rename_i hq
          have hk' : k < zs.length := by have := HL.out; omega
          refine ⟨k + 1, by omega, by go_num, ?_⟩
          rw [all_take hk', HA.out, HK.out]
          have := fits_wrap hz
          rw [hq] at this
          simpa using this.symm
        case measure => simp [intOf]; omega
    · clear hc hr
      have : k = len := by omega
      subst this
      go_wp2
      go_ret
      refine ⟨ret_bool ?_, rfl⟩
      have := HA.out
      rw [List.take_of_length_le (by have := HL.out; omega)] at this
      rw [this]
end Ae
namespace Ae
open Go Go.Proofs Go.RowKit
structure Stp where
  k : Int
  s : Int
  n : Int
  a : Int
  at_ : Nat
  wd : Int
  v : Nat
structure Rsl where
  why : Int
  v : Nat
  at_ : Nat
  cl : Nat
def i64B (z : Int) : Prop := -9223372036854775808 ≤ z ∧ z < 9223372036854775808
def u64B (n : Nat) : Prop := n < 18446744073709551616
def Stp.ok (x : Stp) : Prop := i64B x.k ∧ i64B x.s ∧ i64B x.n ∧ i64B x.a ∧ u64B x.at_ ∧ i64B x.wd ∧ u64B x.v
def Rsl.ok (x : Rsl) : Prop := i64B x.why ∧ u64B x.v ∧ u64B x.at_ ∧ u64B x.cl
def Stp.cells (x : Stp) : List Value := [.int .i64 x.k, .int .i64 x.s, .int .i64 x.n, .int .i64 x.a, .int .u64 x.at_, .int .i64 x.wd, .int .u64 x.v]
def Rsl.cells (x : Rsl) : List Value := [.int .i64 x.why, .int .u64 x.v, .int .u64 x.at_, .int .u64 x.cl]
def Lies (w : World) (b off : Nat) (size : Nat) (l : List (List Value)) : Prop := ∀ j (x : List Value), l[j]? = some x → ∀ q (u : Value), x[q]? = some u → w.cell? ⟨b, off + j * size + q, none⟩ = some u
def lowN (z : Int) : Nat := (z % 4294967296).toNat
theorem low_any (z : Int) (w : World) (h : i64B z) : Calls Tryz.prog 35 #[.int .i64 z] w fun e w' => e = .returned (.int .u32 (lowN z : Nat)) ∧ w = w' := by
  have hn : (lowN z : Int) = z % 4294967296 := by unfold lowN; omega
  unfold i64B at h
  go_enter Tryz.func35, Tryz.ntmps35
  go_wp2
  go_ret
  exact ⟨by rw [hn]; unfold wrap32; congr 1; show Value.int _ _ = Value.int _ _; congr 1; omega, rfl⟩
theorem stp_cells {w : World} {b off : Nat} {ss : List Stp} (h : Lies w b off 7 (ss.map Stp.cells)) {k : Nat} (hk : k < ss.length) :
    w.cell? ⟨b, off + k * 7, none⟩ = some (.int .i64 ss[k].k) ∧ w.cell? ⟨b, off + k * 7 + 1, none⟩ = some (.int .i64 ss[k].s) ∧ w.cell? ⟨b, off + k * 7 + 2, none⟩ = some (.int .i64 ss[k].n) ∧ w.cell? ⟨b, off + k * 7 + 3, none⟩ = some (.int .i64 ss[k].a) ∧
    w.cell? ⟨b, off + k * 7 + 4, none⟩ = some (.int .u64 ss[k].at_) ∧ w.cell? ⟨b, off + k * 7 + 5, none⟩ = some (.int .i64 ss[k].wd) ∧ w.cell? ⟨b, off + k * 7 + 6, none⟩ = some (.int .u64 ss[k].v) := by
  have h := h k (ss[k].cells) (by simp [hk])
  exact ⟨h 0 _ rfl, h 1 _ rfl, h 2 _ rfl, h 3 _ rfl, h 4 _ rfl, h 5 _ rfl, h 6 _ rfl⟩
theorem Lies.below {w w' : World} {B b off sz : Nat} {l : List (List Value)} (h : Lies w b off sz l) (hb : Below B w w') (hB : b < B) : Lies w' b off sz l :=
  fun j x hj q u hq => (hb.cell (p := ⟨b, off + j * sz + q, none⟩) hB).trans (h j x hj q u hq)
def stpFits (x : Stp) : Bool := fitsB x.k && fitsB x.s && fitsB x.n && fitsB x.a && fitsB x.wd
theorem new_cells (w : World) (B : Nat) (hB : w.heap.size = B) (vs : List Int) : ∀ j, j < vs.length → (w.alloc (.cells (vs.map (Value.int .i64)).toArray 3)).cell? ⟨B, 0 + j, none⟩ = some (.int .i64 (vs[j]?.getD 0)) := by
  intro j hj
  subst hB
  rw [World.cell?_alloc_new]
  simp [hj]
theorem fits5 (x : Stp) (w : World) (B : Nat) (hB : w.heap.size = B) (hx : x.ok) {f : Bool} (hf : stpFits x = f) :
    Calls Tryz.prog 34 #[.slice (some ⟨B, 0, none⟩) 5 5] (w.alloc (.cells #[.int .i64 x.k, .int .i64 x.s, .int .i64 x.n, .int .i64 x.a, .int .i64 x.wd] 3)) fun e w' => e = .returned (.bool f) ∧ (w.alloc (.cells #[.int .i64 x.k, .int .i64 x.s, .int .i64 x.n, .int .i64 x.a, .int .i64 x.wd] 3)) = w' := by
  obtain ⟨h1, h2, h3, h4, h5, h6, h7⟩ := hx
  refine (fits_any B 0 5 5 [x.k, x.s, x.n, x.a, x.wd] (w.alloc (.cells #[.int .i64 x.k, .int .i64 x.s, .int .i64 x.n, .int .i64 x.a, .int .i64 x.wd] 3)) rfl (by omega) (new_cells w B hB [x.k, x.s, x.n, x.a, x.wd]) ?_).mono ?_
  · intro z hz
    simp only [List.mem_cons, List.mem_nil_iff, or_false] at hz
    rcases hz with rfl | rfl | rfl | rfl | rfl <;> assumption
  · rintro e w' ⟨rfl, rfl⟩
    refine ⟨ret_bool ?_, rfl⟩
    rw [← hf]; simp [stpFits, Bool.and_assoc]
theorem stp_take {ss : List Stp} {k : Nat} (hk : k < ss.length) : (ss.take (k + 1)).all stpFits = ((ss.take k).all stpFits && stpFits ss[k]) := by
  rw [List.take_succ_eq_append_getElem hk, List.all_append]; simp
theorem not_all {ss : List Stp} {k : Nat} (hk : k < ss.length) (h : stpFits ss[k] = false) : ss.all stpFits = false := by
  cases q : ss.all stpFits with
  | false => rfl
  | true =>
    rw [List.all_eq_true] at q
    have := q ss[k] (List.getElem_mem _)
    rw [h] at this; cases this
def rightN (ss : List Stp) : Int := if 65536 < ss.length then 4 else if ss.all stpFits then 0 else 132
theorem ret_int {k : IntKind} {a b : Int} (h : a = b) : Ending.returned (.int k a) = .returned (.int k b) := by rw [h]
def Arr (w : World) (p : Option Addr) (size : Nat) (l : List (List Value)) : Prop := 0 < l.length → ∃ b off, p = some ⟨b, off, none⟩ ∧ b < w.heap.size ∧ Lies w b off size l
theorem Arr.below {w w' : World} {p : Option Addr} {sz : Nat} {l : List (List Value)} (h : Arr w p sz l) (hb : Below w.heap.size w w') : Arr w' p sz l := fun h0 => by
  obtain ⟨b, off, e, hlt, hl⟩ := h h0
  exact ⟨b, off, e, Nat.lt_of_lt_of_le hlt hb.size, hl.below hb hlt⟩
set_option maxHeartbeats 400000 in
theorem right_any (p : Option Addr) (len cap : Nat) (ss : List Stp) (w : World) (hlen : ss.length = len) (hbig : len < 9223372036854775807) (hc : Arr w p 7 (ss.map Stp.cells)) (hr : ∀ x ∈ ss, x.ok) :
    Calls Tryz.prog 29 #[.slice p len cap] w fun e w' => e = .returned (.int .i64 (rightN ss)) ∧ Below w.heap.size w w' := by
  have HL := Lib.hid hlen
  clear hlen
  have HC := Lib.hid hc
  clear hc
  have HR := Lib.hid hr
  clear hr
  go_enter Tryz.func29, Tryz.ntmps29
  by_cases hm : 65536 < len
  · go_wp2
    go_ret
    exact ⟨ret_int (by unfold rightN; rw [if_pos (by have := HL.out; omega)]), Below.refl _ _⟩
  · go_wp2
    go_loopw [10] (fun i wr => ∃ k : Nat, k ≤ len ∧ i = .int .i64 k ∧ Below w.heap.size w wr ∧ (ss.take k).all stpFits = true) (fun i _ => len - (intOf i).toNat)
    case atStart => exact ⟨0, Nat.zero_le _, rfl, Below.refl _ _, rfl⟩
    case round =>
      obtain ⟨k, hk, rfl, hb, hall⟩ := hrel
      have HA := Lib.hid hall
      clear hall
      by_cases hlt : k < len
      · have hk' : k < ss.length := by have := HL.out; omega
        obtain ⟨b, off, rfl, hb0, hlies⟩ := HC.out (by simp; omega)
        obtain ⟨c0, c1, c2, c3, c4, c5, c6⟩ := stp_cells (hlies.below hb hb0) hk'
        have HLI := Lib.hid hlies
        clear hlies
        have hx := HR.out ss[k] (List.getElem_mem _)
        generalize hxe : ss[k] = x at c0 c1 c2 c3 c4 c5 c6 hx
        have HX := Lib.hid hxe
        clear hxe
        have hbs := hb.size
        cases hf : stpFits x with
        | false =>
          have HF := Lib.hid hf
          clear hf
          go_wp2_with (go_at_call 34; refine (fits5 x _ _ (by simp) hx HF.out).mono ?_; rintro e w' ⟨rfl, rfl⟩)
          go_ret
          refine ⟨ret_int ?_, (hb.alloc (by omega) _).alloc (by simp; omega) _⟩
          unfold rightN
          rw [if_neg (by have := HL.out; omega), not_all hk' (by rw [HX.out]; exact HF.out)]; rfl
        | true =>
          have HF := Lib.hid hf
          clear hf
          go_wp2_with (go_at_call 34; refine (fits5 x _ _ (by simp) hx HF.out).mono ?_; rintro e w' ⟨rfl, rfl⟩)
          go_roundw
          case rel => exact ⟨k + 1, by omega, by go_num, (hb.alloc (by omega) _).alloc (by simp; omega) _, by rw [stp_take hk', HA.out, HX.out, HF.out]; rfl⟩
          case measure => simp [intOf]; omega
      · have : k = len := by omega
        subst this
        go_wp2
        go_ret
        refine ⟨ret_int ?_, hb⟩
        have := HA.out
        rw [List.take_of_length_le (by have := HL.out; omega)] at this
        unfold rightN
        rw [if_neg (by have := HL.out; omega), this]; rfl
end Ae
namespace Ae
open Go Go.Proofs Go.RowKit
theorem own_slice {w : World} {base E sz n : Nat} {v : Value} {xs : List Value} (h : w.ownsRow base E sz v n xs) (hn : 0 < n) : ∃ g cap, v = .slice (some ⟨g, 0, none⟩) n cap := by
  obtain ⟨_, h | ⟨g, cap, cur, e, _⟩⟩ := h
  · omega
  · exact ⟨g, cap, e⟩
theorem own_apart {w : World} {base E sz n cap gg a : Nat} {xs : List Value} {cs : Array Value} {t : Nat} {fr : Nat × Nat} (h : w.ownsRow base E sz (.slice (some ⟨gg, 0, none⟩) n cap) n xs) (ha : w.heap[a]? = some (.cells cs t fr)) (ht : t ≠ E) : gg ≠ a := by
  rintro rfl
  obtain ⟨_, h | ⟨g, cap, cur, e, _, hg, _⟩⟩ := h
  · cases h.1
  · cases e
    rw [ha] at hg
    cases hg
    exact ht rfl
theorem newWriter_any (w : World) : Calls Tryz.prog 30 #[] w fun e w' => e = .returned (.pointer (some ⟨w.heap.size, 0, none⟩)) ∧ WB w.heap.size w.heap.size w' [] ∧ Below w.heap.size w w' := by
  go_enter Tryz.func30, Tryz.ntmps30
  go_wp2
  go_ret
  refine ⟨rfl, ⟨.slice none 0 0, heap_alloc_new _ _, World.ownsRow_nil _ _ _ _, by simp [Value.ownBlock], Nat.le_refl _, by simp⟩, (Below.refl _ _).alloc (Nat.le_refl _) _⟩
set_option maxHeartbeats 1600000 in
set_option maxRecDepth 100000 in
theorem bytes_any (base a g m c : Nat) (l ms : List Nat) (w : World) (hms : ms.length = m) (hm : 0 < m) (h : WB base a w l) (hl : l.length ≤ 100000000) (hml : m ≤ 100000000) (hc : ∀ (j : Nat) (u : Value), (bv ms)[j]? = some u → w.cell? ((⟨g, 0, none⟩ : Addr).add j) = some u) :
    Calls Tryz.prog 31 #[.pointer (some ⟨a, 0, none⟩), .slice (some ⟨g, 0, none⟩) m c] w fun e w' => e = .returned (.tuple #[]) ∧ WB base a w' (l ++ ms) ∧ Below base w w' ∧ Kept a w w' := by
  obtain ⟨v, ha, hown, hva, hba, hbs⟩ := h
  have c0 : w.cell? ⟨a, 0, none⟩ = some v := by simp [World.cell?, ha]
  have c1 : w.cell? ⟨a, 1, none⟩ = some (.int .i64 0) := by simp [World.cell?, ha]
  have f0 : w.frozen? ⟨a, 0, none⟩ = false := by simp [World.frozen?, ha]
  have la := World.block_lt_of_cell? w _ c0
  obtain ⟨i0, hi, hz0, hz1, hz2⟩ := info_parts info5
  have HA := Lib.hid ha
  have HC := Lib.hid hc
  have HM := Lib.hid hms
  clear ha hc hms
  go_enter Tryz.func31, Tryz.ntmps31
  go_wp2_with (first
    | (refine wpList_append_own _ rfl (.tmp 13) (.tmp 14) 33 rfl base 5 i0 (.int .u8 0) 1 1 Tryz.underlying33 hi hz0 hz1 hz2 rfl (by omega) v l.length (bv l) rfl hown
        ⟨g, 0, none⟩ m c (bv ms) rfl (by rw [bv_length, HM.out]; omega) HC.out (bv_one _) (by simp [maxLen]; omega) (by omega) hbs ?_; intro v2 w2 hown2 hgrow2 _; obtain ⟨gg, cap, rfl⟩ := own_slice hown2 (by omega); have d0 : w2.cell? ⟨a, 0, none⟩ = some v := ((hgrow2.cell_far ⟨a, 0, none⟩ la (Ne.symm hva))).trans c0; have d1 : w2.frozen? ⟨a, 0, none⟩ = false := ((hgrow2.frozen_far ⟨a, 0, none⟩ la (Ne.symm hva))).trans f0))
  go_end0
  have ha2 : w2.heap[a]? = some (.cells #[v, .int .i64 0] 146 (0, 0)) := (hgrow2.block a la (Ne.symm hva)).trans HA.out
  rw [← bv_app] at hown2
  exact ⟨rfl, wb_store ha2 hown2 (by simp [HM.out]) (own_apart hown2 ha2 (by decide)) hba (Nat.le_trans hbs hgrow2.size), (((Below.refl base w).grown hgrow2 hbs (fun k hk => (hown.lt k hk).1)).setCell hba _), (Kept.of_grown hown hgrow2).setCell 0 _⟩
def crcOf (l : List Nat) : Nat := 4294967295 ^^^ crcN l 4294967295 l.length
theorem xor_max : bits .xor .u32 IntKind.u32.max ((0 : Nat) : Int) = ((4294967295 : Nat) : Int) := by decide
theorem crc_any (b off len cap : Nat) (zs : List Nat) (w : World) (hlen : zs.length = len) (hbig : len < 9223372036854775808) (hz : ∀ x ∈ zs, x < 256) (hb : b < w.heap.size) (hc : ∀ j, j < len → w.cell? ⟨b, off + j, none⟩ = some (.int .u8 (zs[j]?.getD 0 : Nat))) :
    Calls Tryz.prog 64 #[.slice (some ⟨b, off, none⟩) len cap] w fun e w' => e = .returned (.int .u32 (crcOf zs : Nat)) ∧ Below w.heap.size w w' := by
  have hz' : ∀ j : Nat, zs[j]?.getD 0 < 256 := fun j => by
    rcases Nat.lt_or_ge j zs.length with q | q
    · rw [List.getElem?_eq_getElem q]; exact hz _ (List.getElem_mem _)
    · rw [List.getElem?_eq_none q]; decide
  have hm := more_walk 0 4294967295 b off len cap zs w (Lib.hid xor_max) (by decide) hbig hz' hb hc
  have HM := Lib.hid hm
  have HL := Lib.hid hlen
  clear hm hz' hlen hz hc
  go_enter Tryz.func64, Tryz.ntmps64
  go_wp2_with fail
  refine HM.out.mono ?_
  rintro e w1 ⟨rfl, h1⟩
  go_wp2
  go_ret
  exact ⟨ret_int (by rw [crcOf, HL.out]), h1⟩
theorem row_at {w : World} {base g n cap : Nat} {l : List Nat} (h : w.ownsRow base 5 1 (.slice (some ⟨g, 0, none⟩) n cap) n (bv l)) (hn : n = l.length) : ∀ j, j < n → w.cell? ⟨g, 0 + j, none⟩ = some (.int .u8 (l[j]?.getD 0 : Nat)) := by
  intro j hj
  have hb := row_cells h j (.int .u8 (l[j]?.getD 0 : Nat)) (by simp [bv, List.getElem?_eq_getElem (show j < l.length by omega)])
  have hadd : (⟨g, 0, none⟩ : Addr).add j = ⟨g, j, none⟩ := by unfold Addr.add; split <;> simp_all
  rw [hadd] at hb
  rw [Nat.zero_add]; exact hb
theorem WB.below {base a : Nat} {w w1 : World} {l : List Nat} (h : WB base a w l) (hb : Below w.heap.size w w1) : WB base a w1 l := by
  obtain ⟨v, ha, hown, hva, hba, hbs⟩ := h
  have la : a < w.heap.size := by
    rcases Nat.lt_or_ge a w.heap.size with q | q
    · exact q
    · rw [Array.getElem?_eq_none q] at ha; cases ha
  exact ⟨v, (hb.block a la).trans ha, own_below hown hb, hva, hba, Nat.le_trans hbs hb.size⟩
theorem crcOf_lt {l : List Nat} (h : ∀ x ∈ l, x < 256) : crcOf l < 4294967296 := by
  have hz' : ∀ j : Nat, l[j]?.getD 0 < 256 := fun j => by
    rcases Nat.lt_or_ge j l.length with q | q
    · rw [List.getElem?_eq_getElem q]; exact h _ (List.getElem_mem _)
    · rw [List.getElem?_eq_none q]; decide
  exact Nat.xor_lt_two_pow (n := 32) (by decide) (crcN_lt hz' (by decide) _)
set_option maxHeartbeats 800000 in
theorem seal_any (base a : Nat) (l : List Nat) (w : World) (h : WB base a w l) (hl : l.length ≤ 100000000) (h0 : 0 < l.length) (hz : ∀ x ∈ l, x < 256) :
    Calls Tryz.prog 37 #[.pointer (some ⟨a, 0, none⟩), .int .i64 0] w fun e w' => e = .returned (.tuple #[]) ∧ WB base a w' (l ++ leS (crcOf l) 4) ∧ Below base w w' ∧ Kept a w w' := by
  have HW := Lib.hid h
  obtain ⟨v, ha, hown, hva, hba, hbs⟩ := h
  obtain ⟨g, cap, rfl⟩ := own_slice hown h0
  have c0 : w.cell? ⟨a, 0, none⟩ = some (.slice (some ⟨g, 0, none⟩) l.length cap) := by simp [World.cell?, ha]
  have c1 : w.cell? ⟨a, 1, none⟩ = some (.int .i64 0) := by simp [World.cell?, ha]
  have HA := Lib.hid ha
  have HZ := Lib.hid hz
  clear ha hz
  go_enter Tryz.func37, Tryz.ntmps37
  go_wp2_with fail
  refine (crc_any g 0 l.length cap l w rfl (by omega) HZ.out ((hown.lt g rfl).2) (row_at hown rfl)).mono ?_
  rintro e w1 ⟨rfl, hb1⟩
  have HW1 := Lib.hid (HW.out.below hb1)
  go_wp2_with fail
  refine (lay32 base a (crcOf l) l _ (crcOf_lt HZ.out) HW1.out hl).mono ?_
  rintro e w2 ⟨rfl, h1, h2, h3⟩
  go_wp2
  go_end0
  exact ⟨rfl, h1, (hb1.mono hbs).trans h2, (Kept.of_below hb1).trans h3 hb1.size⟩
set_option maxRecDepth 100000 in
theorem clone_any (base g n cap : Nat) (l : List Nat) (w : World) (hn : n = l.length) (h0 : 0 < n) (hl : l.length ≤ 100000000) (hown : w.ownsRow base 5 1 (.slice (some ⟨g, 0, none⟩) n cap) n (bv l)) :
    Calls Tryz.prog 65 #[.slice (some ⟨g, 0, none⟩) n cap] w fun e w' => ∃ gg c, e = .returned (.slice (some ⟨gg, 0, none⟩) n c) ∧ w'.ownsRow w.heap.size 5 1 (.slice (some ⟨gg, 0, none⟩) n c) n (bv l) ∧ Below w.heap.size w w' := by
  obtain ⟨i0, hi, hz0, hz1, hz2⟩ := info_parts info5
  have hnil : ∀ w, (binOp .eql 33 (.slice (some ⟨g, 0, none⟩) n cap) (.slice none 0 0)).run Tryz.prog w = .ok (.bool false) w := fun w => Lib.run_eql_slice_nil w 33 5 _ _ _ _ _ Tryz.underlying33
  have HO := Lib.hid (World.ownsRow.alloc hown (.cells #[] 5))
  have HN := Lib.hid hn
  have hmade := World.ownsRow_made (base := w.heap.size) (e := 5) (size := 1) w #[] 0 (Nat.le_refl _) (by simp [maxLen]) rfl
  clear hown hn
  go_enter Tryz.func65, Tryz.ntmps65
  go_wp2_with (first
    | (refine wpList_append_own _ rfl (.tmp 5) (.tmp 6) 33 rfl w.heap.size 5 i0 (.int .u8 0) 1 1 Tryz.underlying33 hi hz0 hz1 hz2 rfl (by omega) _ 0 [] rfl hmade
        ⟨g, 0, none⟩ n cap (bv l) rfl (by rw [bv_length, HN.out]; omega) (row_cells HO.out) (bv_one _) (by simp [maxLen]; have := HN.out; omega) (by have := HN.out; omega) (by simp) ?_; intro v2 w2 hown2 hgrow2 _))
  have hb2 : Below w.heap.size w w2 := ((Below.refl w.heap.size w).alloc (Nat.le_refl _) _).grown hgrow2 (by simp) (by rintro _ ⟨⟩; exact Nat.le_refl _)
  rw [Nat.zero_add, List.nil_append] at hown2
  obtain ⟨gg, cap2, rfl⟩ := own_slice hown2 h0
  go_ret
  exact ⟨gg, cap2, rfl, hown2, hb2⟩
theorem all_any (base a : Nat) (l : List Nat) (w : World) (h0 : 0 < l.length) (hl : l.length ≤ 100000000) (h : WB base a w l) :
    Calls Tryz.prog 38 #[.pointer (some ⟨a, 0, none⟩)] w fun e w' => ∃ g c, e = .returned (.slice (some ⟨g, 0, none⟩) l.length c) ∧ w'.ownsRow w.heap.size 5 1 (.slice (some ⟨g, 0, none⟩) l.length c) l.length (bv l) ∧ Below w.heap.size w w' := by
  obtain ⟨v, ha, hown, hva, hba, hbs⟩ := h
  obtain ⟨g, cap, rfl⟩ := own_slice hown h0
  have c0 : w.cell? ⟨a, 0, none⟩ = some (.slice (some ⟨g, 0, none⟩) l.length cap) := by simp [World.cell?, ha]
  have HO := Lib.hid hown
  clear ha hown
  go_enter Tryz.func38, Tryz.ntmps38
  go_wp2_with fail
  refine (clone_any base g l.length cap l w rfl h0 hl HO.out).mono ?_
  rintro e w1 ⟨g2, c2, rfl, h1, h2⟩
  go_wp2
  go_ret
  exact ⟨g2, c2, rfl, h1, h2⟩
end Ae
namespace Ae
open Go Go.Proofs Go.RowKit
def magicL : List Nat := [98, 117, 108, 107, 116, 114, 99, 10]
def hdrL (n : Nat) : List Nat := magicL ++ leS 1 2 ++ leS 0 2 ++ leS n 4
def wordsL (zs : List Int) : List Nat := zs.flatMap fun z => leS (lowN z) 4
def Stp.ints (x : Stp) : List Int := [x.k, x.s, x.n, x.a, x.wd]
def recL (x : Stp) (r : Rsl) : List Nat := wordsL x.ints ++ leS x.at_ 8 ++ leS x.v 8 ++ leS (lowN r.why) 4 ++ leS r.v 8 ++ leS r.at_ 8 ++ leS r.cl 8
def recsL : List Stp → List Rsl → List Nat
  | x :: ss, r :: rs => recL x r ++ recsL ss rs
  | _, _ => []
def rslFits (r : Rsl) : Bool := fitsB r.why
def bodyL (ss : List Stp) (rs : List Rsl) : List Nat := hdrL ss.length ++ recsL ss rs
def encL (ss : List Stp) (rs : List Rsl) : List Nat := bodyL ss rs ++ leS (crcOf (bodyL ss rs)) 4
def encN (ss : List Stp) (rs : List Rsl) : Int := if ss.length ≠ rs.length then 180 else if rightN ss ≠ 0 then rightN ss else if rs.all rslFits then 0 else 132
theorem wordsL_length (zs : List Int) : (wordsL zs).length = 4 * zs.length := by
  induction zs with
  | nil => rfl
  | cons z zs ih => simp only [wordsL, List.flatMap_cons, List.length_append, leS_length, List.length_cons] at ih ⊢; omega
theorem recL_length (x : Stp) (r : Rsl) : (recL x r).length = 64 := by
  simp [recL, leS_length, wordsL_length, Stp.ints]
theorem recsL_length : ∀ (ss : List Stp) (rs : List Rsl), (recsL ss rs).length = 64 * min ss.length rs.length
  | [], _ => by simp [recsL]
  | _ :: _, [] => by simp [recsL]
  | x :: ss, r :: rs => by
    have := recsL_length ss rs
    simp only [recsL, List.length_append, recL_length, this, List.length_cons]; omega
theorem hdrL_length (n : Nat) : (hdrL n).length = 16 := by simp [hdrL, magicL, leS_length]
theorem recsL_snoc : ∀ (ss : List Stp) (rs : List Rsl) (k : Nat) (h : k < ss.length) (h' : k < rs.length), recsL (ss.take (k + 1)) (rs.take (k + 1)) = recsL (ss.take k) (rs.take k) ++ recL ss[k] rs[k]
  | x :: ss, r :: rs, 0, _, _ => by simp [recsL]
  | x :: ss, r :: rs, k + 1, h, h' => by
    have := recsL_snoc ss rs k (by simpa using h) (by simpa using h')
    simp only [List.take_succ_cons, recsL, this, List.append_assoc, List.getElem_cons_succ]
theorem leS_lt (n : Nat) : ∀ k, ∀ x ∈ leS n k, x < 256
  | 0 => fun x h => by cases h
  | k + 1 => fun x h => by
    rw [leS, List.mem_append] at h
    rcases h with h | h
    · exact leS_lt n k x h
    · rw [List.mem_singleton] at h; subst h; exact Nat.mod_lt _ (by decide)
theorem lt_app {l m : List Nat} (h : ∀ x ∈ l, x < 256) (h' : ∀ x ∈ m, x < 256) : ∀ x ∈ l ++ m, x < 256 := fun x hx => by
  rcases List.mem_append.1 hx with q | q
  · exact h x q
  · exact h' x q
theorem wordsL_lt (zs : List Int) : ∀ x ∈ wordsL zs, x < 256 := fun x h => by
  obtain ⟨z, _, h⟩ := List.mem_flatMap.1 h
  exact leS_lt _ _ x h
theorem recL_lt (x : Stp) (r : Rsl) : ∀ y ∈ recL x r, y < 256 :=
  lt_app (lt_app (lt_app (lt_app (lt_app (lt_app (wordsL_lt _) (leS_lt _ _)) (leS_lt _ _)) (leS_lt _ _)) (leS_lt _ _)) (leS_lt _ _)) (leS_lt _ _)
theorem recsL_lt : ∀ (ss : List Stp) (rs : List Rsl), ∀ y ∈ recsL ss rs, y < 256
  | [], _ => fun y h => by simp [recsL] at h
  | _ :: _, [] => fun y h => by simp [recsL] at h
  | x :: ss, r :: rs => lt_app (recL_lt x r) (recsL_lt ss rs)
theorem hdrL_lt (n : Nat) : ∀ y ∈ hdrL n, y < 256 := lt_app (lt_app (lt_app (by decide) (leS_lt _ _)) (leS_lt _ _)) (leS_lt _ _)
theorem bodyL_lt (ss : List Stp) (rs : List Rsl) : ∀ y ∈ bodyL ss rs, y < 256 := lt_app (hdrL_lt _) (recsL_lt ss rs)
theorem lowN_lt (z : Int) : lowN z < 4294967296 := by unfold lowN; omega
theorem rsl_cells {w : World} {b off : Nat} {rs : List Rsl} (h : Lies w b off 4 (rs.map Rsl.cells)) {k : Nat} (hk : k < rs.length) :
    w.cell? ⟨b, off + k * 4, none⟩ = some (.int .i64 rs[k].why) ∧ w.cell? ⟨b, off + k * 4 + 1, none⟩ = some (.int .u64 rs[k].v) ∧ w.cell? ⟨b, off + k * 4 + 2, none⟩ = some (.int .u64 rs[k].at_) ∧ w.cell? ⟨b, off + k * 4 + 3, none⟩ = some (.int .u64 rs[k].cl) := by
  have h := h k (rs[k].cells) (by simp [hk])
  exact ⟨h 0 _ rfl, h 1 _ rfl, h 2 _ rfl, h 3 _ rfl⟩
def EncPost (ss : List Stp) (rs : List Rsl) (B : Nat) (w : World) (e : Ending) (w' : World) : Prop :=
  ∃ v, e = .returned (.tuple #[v, .int .i64 (encN ss rs)]) ∧ Below B w w' ∧ ((encN ss rs ≠ 0 ∧ v = .slice none 0 0) ∨ (encN ss rs = 0 ∧ ∃ g c, v = .slice (some ⟨g, 0, none⟩) (encL ss rs).length c ∧ w'.ownsRow B 5 1 v (encL ss rs).length (bv (encL ss rs))))
theorem encode_A (p p' : Option Addr) (len cap len' cap' : Nat) (ss : List Stp) (rs : List Rsl) (w : World) (h1 : ss.length = len) (h2 : rs.length = len') (hne : len ≠ len') :
    Calls Tryz.prog 9 #[.slice p len cap, .slice p' len' cap'] w (EncPost ss rs w.heap.size w) := by
  have hd : encN ss rs = 180 := by unfold encN; rw [if_pos (by omega)]
  have HD := Lib.hid hd
  have hq : ((len : Int) != (len' : Int)) = true := by simp; omega
  clear hd h1 h2
  go_enter Tryz.func9, Tryz.ntmps9
  go_wp2
  go_ret2
  exact ⟨.slice none 0 0, by rw [HD.out]; rfl, Below.refl _ _, .inl ⟨by rw [HD.out]; decide, rfl⟩⟩
theorem encode_B (p p' : Option Addr) (len cap cap' : Nat) (ss : List Stp) (rs : List Rsl) (w : World) (h1 : ss.length = len) (h2 : rs.length = len) (hbig : len < 9223372036854775807) (hs : Arr w p 7 (ss.map Stp.cells)) (hok : ∀ x ∈ ss, x.ok) (hne : rightN ss ≠ 0) :
    Calls Tryz.prog 9 #[.slice p len cap, .slice p' len cap'] w (EncPost ss rs w.heap.size w) := by
  have hd : encN ss rs = rightN ss := by unfold encN; rw [if_neg (by omega), if_pos hne]
  have HD := Lib.hid hd
  have HR := Lib.hid (right_any p len cap ss w h1 hbig hs hok)
  have HN := Lib.hid hne
  have hq : (rightN ss != 0) = true := by simpa using hne
  have hq2 : ((len : Int) != (len : Int)) = false := by simp
  clear hd h1 h2 hs hok hne
  go_enter Tryz.func9, Tryz.ntmps9
  go_wp2_with fail
  refine HR.out.mono ?_
  rintro e w1 ⟨rfl, hb1⟩
  go_wp2
  go_ret2
  exact ⟨.slice none 0 0, by rw [HD.out]; rfl, hb1, .inl ⟨by rw [HD.out]; exact HN.out, rfl⟩⟩
theorem fits1 (z : Int) (w : World) (B : Nat) (hB : w.heap.size = B) (hx : i64B z) {f : Bool} (hf : fitsB z = f) :
    Calls Tryz.prog 34 #[.slice (some ⟨B, 0, none⟩) 1 1] (w.alloc (.cells #[.int .i64 z] 3)) fun e w' => e = .returned (.bool f) ∧ (w.alloc (.cells #[.int .i64 z] 3)) = w' := by
  refine (fits_any B 0 1 1 [z] (w.alloc (.cells #[.int .i64 z] 3)) rfl (by omega) (new_cells w B hB [z]) ?_).mono ?_
  · intro z' hz
    simp only [List.mem_cons, List.mem_nil_iff, or_false] at hz
    subst hz; exact hx
  · rintro e w' ⟨rfl, rfl⟩
    refine ⟨ret_bool ?_, rfl⟩
    rw [← hf]; simp
theorem rsl_take {rs : List Rsl} {k : Nat} (hk : k < rs.length) : (rs.take (k + 1)).all rslFits = ((rs.take k).all rslFits && rslFits rs[k]) := by
  rw [List.take_succ_eq_append_getElem hk, List.all_append]; simp
theorem rsl_not {rs : List Rsl} {k : Nat} (hk : k < rs.length) (h : rslFits rs[k] = false) : rs.all rslFits = false := by
  cases q : rs.all rslFits with
  | false => rfl
  | true =>
    rw [List.all_eq_true] at q
    have := q rs[k] (List.getElem_mem _)
    rw [h] at this; cases this
theorem four (w : World) (A B C D : Obj) : ((((w.alloc A).alloc B).alloc C).alloc D).heap[w.heap.size]? = some A ∧ ((((w.alloc A).alloc B).alloc C).alloc D).heap[w.heap.size + 1]? = some B ∧ ((((w.alloc A).alloc B).alloc C).alloc D).heap[w.heap.size + 1 + 1 + 1]? = some D ∧
    w.heap.size + 4 = ((((w.alloc A).alloc B).alloc C).alloc D).heap.size ∧ Below w.heap.size w ((((w.alloc A).alloc B).alloc C).alloc D) := by
  have s1 : (w.alloc A).heap.size = w.heap.size + 1 := by simp
  have s2 : ((w.alloc A).alloc B).heap.size = w.heap.size + 1 + 1 := by simp
  have s3 : (((w.alloc A).alloc B).alloc C).heap.size = w.heap.size + 1 + 1 + 1 := by simp
  refine ⟨?_, ?_, ?_, by simp, (((((Below.refl _ _).alloc (Nat.le_refl _) _).alloc (by simp) _).alloc (by simp; omega) _).alloc (by simp; omega) _)⟩
  · rw [Below.heap_alloc _ _ _ (by omega), Below.heap_alloc _ _ _ (by omega), Below.heap_alloc _ _ _ (by omega)]; exact heap_alloc_new _ _
  · rw [Below.heap_alloc _ _ _ (by omega), Below.heap_alloc _ _ _ (by omega), ← s1]; exact heap_alloc_new _ _
  · rw [← s3]; exact heap_alloc_new _ _
theorem Kept.get {a k : Nat} {w w' : World} (h : Kept a w w') {cs : Array Value} {t : Nat} {fr : Nat × Nat} (e : w.heap[k]? = some (.cells cs t fr)) (hk : k ≠ a) (ht : t ≠ 5) : w'.heap[k]? = some (.cells cs t fr) := by
  have lk : k < w.heap.size := by
    rcases Nat.lt_or_ge k w.heap.size with q | q
    · exact q
    · rw [Array.getElem?_eq_none q] at e; cases e
  rw [h k lk hk (by rw [e]; simp [elemOf, ht]), e]
theorem cell_in {w : World} {k : Nat} {cs : Array Value} {t : Nat} {fr : Nat × Nat} (e : w.heap[k]? = some (.cells cs t fr)) {j : Nat} {v : Value} (h : cs[j]? = some v) : w.cell? ⟨k, j, none⟩ = some v := by
  simp [World.cell?, e, h]
theorem WB.lt {base a : Nat} {w : World} {l : List Nat} (h : WB base a w l) : a < w.heap.size := by
  obtain ⟨v, ha, _⟩ := h
  rcases Nat.lt_or_ge a w.heap.size with q | q
  · exact q
  · rw [Array.getElem?_eq_none q] at ha; cases ha
theorem pre_len {ss : List Stp} {rs : List Rsl} {len k : Nat} (h1 : ss.length = len) (h : len ≤ 65536) : (hdrL len ++ recsL (ss.take k) (rs.take k)).length ≤ 5000000 := by
  rw [List.length_append, hdrL_length, recsL_length, List.length_take, List.length_take]; omega
theorem ints_cell (x : Stp) : ∀ j (h : j < 5), (#[.int .i64 x.k, .int .i64 x.s, .int .i64 x.n, .int .i64 x.a, .int .i64 x.wd] : Array Value)[j]? = some (.int .i64 (x.ints[j]'h))
  | 0, _ => rfl
  | 1, _ => rfl
  | 2, _ => rfl
  | 3, _ => rfl
  | 4, _ => rfl
theorem ints_ok {x : Stp} (hx : x.ok) : ∀ j (h : j < 5), i64B (x.ints[j]'h)
  | 0, _ => hx.1
  | 1, _ => hx.2.1
  | 2, _ => hx.2.2.1
  | 3, _ => hx.2.2.2.1
  | 4, _ => hx.2.2.2.2.2.1
theorem words_snoc (zs : List Int) (j : Nat) (h : j < zs.length) : wordsL (zs.take (j + 1)) = wordsL (zs.take j) ++ leS (lowN zs[j]) 4 := by
  unfold wordsL; rw [List.take_succ_eq_append_getElem h, List.flatMap_append]; simp only [List.flatMap_cons, List.flatMap_nil, List.append_nil]
theorem words_le (zs : List Int) (j : Nat) : (wordsL (zs.take j)).length ≤ 4 * zs.length := by
  rw [wordsL_length, List.length_take]; omega
theorem tModify_push (h : Array Obj) (o : Obj) (f : Obj → Obj) : (h.push o).modify h.size f = h.push (f o) := by
  apply Array.ext_getElem?
  intro i
  rw [Array.getElem?_modify, Array.getElem?_push, Array.getElem?_push]
  by_cases hi : h.size = i
  · subst hi; simp
  · rw [if_neg hi]
    by_cases h2 : i = h.size
    · exact absurd h2.symm hi
    · rw [if_neg h2, if_neg h2]
theorem conv_new (w : World) (B : Nat) (hB : w.heap.size = B) (cs : Array Value) (n c : Nat) :
    (convert 33 33 (.slice (some ⟨B, 0, none⟩) n c)).run Tryz.prog (w.alloc (.cells cs 5)) = .ok (.slice (some ⟨B, 0, none⟩) n c) (w.alloc (.cells cs 5 (cs.size, cs.size + 1))) := by
  subst hB
  have e2 : (w.alloc (.cells cs 5)).shape? w.heap.size = some (5, cs.size) := by
    unfold World.shape?; rw [heap_alloc_new]
  have e1 : (w.alloc (.cells cs 5)).freeze { block := w.heap.size, off := cs.size } 1 = w.alloc (.cells cs 5 (cs.size, cs.size + 1)) := by
    unfold World.freeze
    rw [if_neg (by decide)]
    show ({ w with heap := (w.heap.push (.cells cs 5 (0, 0))).modify w.heap.size _ } : World) = { w with heap := w.heap.push _ }
    rw [tModify_push]
    rfl
  have e3 : (markStringish ⟨w.heap.size, 0, none⟩).run Tryz.prog (w.alloc (.cells cs 5)) = .ok () (w.alloc (.cells cs 5 (cs.size, cs.size + 1))) := by
    unfold markStringish
    rw [Sem.run_bind, run_shape]
    simp only [Result.andThen_ok]
    rw [e2, ← e1]
    rfl
  simp [convert, Sem.run_bind, run_underlying Tryz.underlying33, run_underlying Tryz.underlying5, e3]
theorem magic_new (w : World) (B : Nat) (hB : w.heap.size = B) : ∀ (j : Nat) (u : Value), (bv magicL)[j]? = some u → (w.alloc (.cells #[.int .u8 98, .int .u8 117, .int .u8 108, .int .u8 107, .int .u8 116, .int .u8 114, .int .u8 99, .int .u8 10] 5 (8, 9))).cell? ((⟨B, 0, none⟩ : Addr).add j) = some u := by
  subst hB
  exact World.news_of_block (cs := #[.int .u8 98, .int .u8 117, .int .u8 108, .int .u8 107, .int .u8 116, .int .u8 114, .int .u8 99, .int .u8 10]) (t := 5) (fr := (8, 9)) (heap_alloc_new w _)
set_option maxHeartbeats 4000000 in
set_option maxRecDepth 100000 in
theorem encode_C (p p' : Option Addr) (len cap cap' : Nat) (ss : List Stp) (rs : List Rsl) (w : World) (h1 : ss.length = len) (h2 : rs.length = len) (hbig : len ≤ 65536) (hs : Arr w p 7 (ss.map Stp.cells)) (hs' : Arr w p' 4 (rs.map Rsl.cells)) (hok : ∀ x ∈ ss, x.ok) (hok' : ∀ x ∈ rs, x.ok) (hne : rightN ss = 0) :
    Calls Tryz.prog 9 #[.slice p len cap, .slice p' len cap'] w (EncPost ss rs w.heap.size w) := by
  have hr := right_any p len cap ss w h1 (by omega) hs hok
  rw [hne] at hr
  have HR := Lib.hid hr
  have HS := Lib.hid hs
  have HS' := Lib.hid hs'
  have H1 := Lib.hid h1
  have H2 := Lib.hid h2
  have HO := Lib.hid hok
  have HO' := Lib.hid hok'
  have HN := Lib.hid hne
  have hq2 : ((len : Int) != (len : Int)) = false := by simp
  clear hr h1 h2 hs hs' hok hok' hne
  go_enter Tryz.func9, Tryz.ntmps9
  go_wp2_with fail
  refine HR.out.mono ?_
  rintro e w1 ⟨rfl, hb1⟩
  go_wp2_with fail
  refine (newWriter_any w1).mono ?_
  rintro e w2 ⟨rfl, hw, hb2⟩
  have HW := Lib.hid hw
  clear hw
  have hconv := conv_new w2 _ rfl #[.int .u8 98, .int .u8 117, .int .u8 108, .int .u8 107, .int .u8 116, .int .u8 114, .int .u8 99, .int .u8 10] 8 8
  have hb3 : Below w2.heap.size w2 (w2.alloc (.cells #[.int .u8 98, .int .u8 117, .int .u8 108, .int .u8 107, .int .u8 116, .int .u8 114, .int .u8 99, .int .u8 10] 5 (8, 9))) := (Below.refl _ _).alloc (Nat.le_refl _) _
  go_wp2_with fail
  refine (bytes_any w1.heap.size w1.heap.size w2.heap.size 8 8 [] magicL _ rfl (by omega) (HW.out.below hb3) (by simp) (by omega) (magic_new w2 _ rfl)).mono ?_
  rintro e w3 ⟨rfl, hw3, hb4, -⟩
  have HW3 := Lib.hid hw3
  clear hconv hw3
  go_wp2_with fail
  refine (half_any w1.heap.size w1.heap.size 1 _ _ (by omega) HW3.out (by simp [magicL])).mono ?_
  rintro e w4 ⟨rfl, hw4, hb5, -⟩
  have HW4 := Lib.hid hw4
  clear hw4
  go_wp2_with fail
  refine (half_any w1.heap.size w1.heap.size 0 _ _ (by omega) HW4.out (by simp [magicL, leS_length])).mono ?_
  rintro e w5 ⟨rfl, hw5, hb6, -⟩
  have HW5 := Lib.hid hw5
  clear hw5
  go_wp2_with fail
  refine (word_any w1.heap.size w1.heap.size len _ _ (by omega) HW5.out (by simp [magicL, leS_length])).mono ?_
  rintro e w6 ⟨rfl, hw6, hb7, -⟩
  have hsa : w.heap.size ≤ w1.heap.size := hb1.size
  have hB6 : Below w.heap.size w w6 := hb1.trans ((((((hb2.mono hsa).trans (hb3.mono (Nat.le_trans hsa hb2.size))).trans (hb4.mono hsa)).trans (hb5.mono hsa)).trans (hb6.mono hsa)).trans (hb7.mono hsa))
  have hw6' : WB w1.heap.size w1.heap.size w6 (hdrL len) := by
    have := hw6
    simp only [List.nil_append] at this
    exact this
  clear HW HW3 HW4 HW5 hb1 hb2 hb3 hb4 hb5 hb6 hb7 hw6 HR
  generalize w1.heap.size = a at *
  have HW6 := Lib.hid hw6'
  clear hw6'
  go_wp2_with fail
  go_loopw [39] (fun i wr => ∃ k : Nat, k ≤ len ∧ i = .int .i64 k ∧ WB a a wr (hdrL len ++ recsL (ss.take k) (rs.take k)) ∧ Below w.heap.size w wr ∧ (rs.take k).all rslFits = true) (fun i _ => len - (intOf i).toNat)
  case atStart => exact ⟨0, Nat.zero_le _, rfl, by simpa [recsL] using HW6.out, hB6, rfl⟩
  case round =>
    clear HW6 hB6
    obtain ⟨k, hk, rfl, hw, hb, hall⟩ := hrel
    have HW := Lib.hid hw
    have HA := Lib.hid hall
    clear hw hall
    by_cases hlt : k < len
    · have hk1 : k < ss.length := by have := H1.out; omega
      have hk2 : k < rs.length := by have := H2.out; omega
      obtain ⟨b, off, rfl, hb0, hlies⟩ := HS.out (by simp; omega)
      obtain ⟨b', off', rfl, hb0', hlies'⟩ := HS'.out (by simp; omega)
      obtain ⟨c0, c1, c2, c3, c4, c5, c6⟩ := stp_cells (hlies.below hb hb0) hk1
      obtain ⟨d0, d1, d2, d3⟩ := rsl_cells (hlies'.below hb hb0') hk2
      have hx := HO.out ss[k] (List.getElem_mem _)
      have hy := HO'.out rs[k] (List.getElem_mem _)
      have hsz := hb.size
      have hbl' : b' < wr.heap.size := Nat.lt_of_lt_of_le hb0' hsz
      clear hlies hlies'
      generalize hxe : ss[k] = x at c0 c1 c2 c3 c4 c5 c6 hx
      generalize hye : rs[k] = y at d0 d1 d2 d3 hy
      have HX := Lib.hid hxe
      have HY := Lib.hid hye
      clear hxe hye
      cases hf : fitsB y.why with
      | false =>
        have HF := Lib.hid hf
        clear hf
        go_wp2_with (go_at_call 34; refine (fits1 y.why _ _ (by simp) hy.1 HF.out).mono ?_; rintro e w' ⟨rfl, rfl⟩)
        go_ret2
        have hN : encN ss rs = 132 := by
          unfold encN
          rw [if_neg (by have := H1.out; have := H2.out; omega), if_neg (by rw [HN.out]; decide), rsl_not hk2 (by rw [HY.out]; exact HF.out)]; rfl
        refine ⟨.slice none 0 0, by rw [hN]; rfl, ?_, .inl ⟨by rw [hN]; decide, rfl⟩⟩
        exact ((hb.alloc (by omega) _).alloc (by simp; omega) _).alloc (by simp; omega) _
      | true =>
        have HF := Lib.hid hf
        clear hf
        go_wp2_with (go_at_call 34; refine (fits1 y.why _ _ (by simp) hy.1 HF.out).mono ?_; rintro e w' ⟨rfl, rfl⟩)
        obtain ⟨e0, e1, e3, hsz7, hb7⟩ := four wr (.cells #[.int .i64 x.k, .int .i64 x.s, .int .i64 x.n, .int .i64 x.a, .int .u64 x.at_, .int .i64 x.wd, .int .u64 x.v] 28) (.cells #[.int .i64 y.why, .int .u64 y.v, .int .u64 y.at_, .int .u64 y.cl] 32) (.cells #[.int .i64 y.why] 3) (.cells #[.int .i64 x.k, .int .i64 x.s, .int .i64 x.n, .int .i64 x.a, .int .i64 x.wd] 3)
        have HP := Lib.hid (pre_len (rs := rs) (k := k) H1.out hbig)
        have hna : a < wr.heap.size := HW.out.lt
        have HW7 := Lib.hid (HW.out.below hb7)
        have hb8 : Below w.heap.size w ((((wr.alloc (.cells #[.int .i64 x.k, .int .i64 x.s, .int .i64 x.n, .int .i64 x.a, .int .u64 x.at_, .int .i64 x.wd, .int .u64 x.v] 28)).alloc (.cells #[.int .i64 y.why, .int .u64 y.v, .int .u64 y.at_, .int .u64 y.cl] 32)).alloc (.cells #[.int .i64 y.why] 3)).alloc (.cells #[.int .i64 x.k, .int .i64 x.s, .int .i64 x.n, .int .i64 x.a, .int .i64 x.wd] 3)) := hb.trans (hb7.mono hsz)
        generalize wr.heap.size = n0 at *
        generalize hpe : hdrL len ++ recsL (ss.take k) (rs.take k) = P at *
        have HPE := Lib.hid hpe
        clear hpe
        have HE0 := Lib.hid e0
        have HE1 := Lib.hid e1
        have HE3 := Lib.hid e3
        clear e0 e1 e3 hb7 hsz7
        go_loopw [65] (fun i wi => ∃ j : Nat, j ≤ 5 ∧ i = .int .i64 j ∧ WB a a wi (P ++ wordsL (x.ints.take j)) ∧ Below w.heap.size w wi ∧ wi.heap[n0]? = some (.cells #[.int .i64 x.k, .int .i64 x.s, .int .i64 x.n, .int .i64 x.a, .int .u64 x.at_, .int .i64 x.wd, .int .u64 x.v] 28) ∧
          wi.heap[n0 + 1]? = some (.cells #[.int .i64 y.why, .int .u64 y.v, .int .u64 y.at_, .int .u64 y.cl] 32) ∧ wi.heap[n0 + 1 + 1 + 1]? = some (.cells #[.int .i64 x.k, .int .i64 x.s, .int .i64 x.n, .int .i64 x.a, .int .i64 x.wd] 3)) (fun i _ => 5 - (intOf i).toNat)
        case atStart => exact ⟨0, by omega, rfl, by simpa [wordsL] using HW7.out, hb8, HE0.out, HE1.out, HE3.out⟩
        case round =>
          obtain ⟨j, hj, rfl, hwi, hbi, q0, q1, q3⟩ := hrel
          clear HW7 hb8 HE0 HE1 HE3 hb
          by_cases hj5 : j < 5
          · have hz := ints_ok hx j hj5
            have g := cell_in q3 (ints_cell x j hj5)
            have hsn := words_snoc x.ints j hj5
            have HSN := Lib.hid hsn
            clear hsn
            generalize x.ints[j] = z at *
            have HW := Lib.hid hwi
            have Q0 := Lib.hid q0
            have Q1 := Lib.hid q1
            have Q3 := Lib.hid q3
            clear hwi q0 q1 q3
            go_wp2_with fail
            refine (low_any z _ hz).mono ?_
            rintro e w' ⟨rfl, rfl⟩
            go_wp2_with fail
            refine (word_any a a (lowN z) _ _ (lowN_lt z) HW.out (by rw [List.length_append]; have := HP.out; have := words_le x.ints j; simp only [Stp.ints, List.length_cons, List.length_nil] at this; simp only [Stp.ints]; omega)).mono ?_
            rintro e w9 ⟨rfl, hw9, hb9, hk9⟩
            rw [List.append_assoc, ← HSN.out] at hw9
            have r0 := Lib.hid (hk9.get Q0.out (by omega) (by decide))
            have r1 := Lib.hid (hk9.get Q1.out (by omega) (by decide))
            have r3 := Lib.hid (hk9.get Q3.out (by omega) (by decide))
            clear hk9
            go_wp2
            go_roundw
            case rel => exact ⟨j + 1, by omega, by go_num, hw9, hbi.trans (hb9.mono hsa), r0.out, r1.out, r3.out⟩
            case measure => simp [intOf]; omega
          · have : j = 5 := by omega
            subst this
            have hwi' : WB a a wr (P ++ wordsL x.ints) := hwi
            clear hwi q3
            have g0 := cell_in q0 (j := 4) rfl
            have HW0 := Lib.hid hwi'
            have Q00 := Lib.hid q0
            have Q10 := Lib.hid q1
            clear hwi' q0 q1
            go_wp2_with fail
            refine (long_any a a x.at_ _ _ (hx.2.2.2.2.1) HW0.out (by simp only [List.length_append, leS_length, wordsL_length, Stp.ints, List.length_cons, List.length_nil]; have := HP.out; omega)).mono ?_
            rintro e v0 ⟨rfl, hw0, hb0, hk0⟩
            have q00 := hk0.get Q00.out (by omega) (by decide)
            have q10 := hk0.get Q10.out (by omega) (by decide)
            clear hk0 g0
            have g1 := cell_in q00 (j := 6) rfl
            have HW1 := Lib.hid hw0
            have Q01 := Lib.hid q00
            have Q11 := Lib.hid q10
            clear hw0 q00 q10
            go_wp2_with fail
            refine (long_any a a x.v _ _ (hx.2.2.2.2.2.2) HW1.out (by simp only [List.length_append, leS_length, wordsL_length, Stp.ints, List.length_cons, List.length_nil]; have := HP.out; omega)).mono ?_
            rintro e v1 ⟨rfl, hw1, hb1, hk1⟩
            have q01 := hk1.get Q01.out (by omega) (by decide)
            have q11 := hk1.get Q11.out (by omega) (by decide)
            clear hk1 g1
            have g2 := cell_in q11 (j := 0) rfl
            have HW2 := Lib.hid hw1
            have Q02 := Lib.hid q01
            have Q12 := Lib.hid q11
            clear hw1 q01 q11
            go_wp2_with fail
            refine (low_any y.why _ hy.1).mono ?_
            rintro e w' ⟨rfl, rfl⟩
            go_wp2_with fail
            refine (word_any a a (lowN y.why) _ _ (lowN_lt _) HW2.out (by simp only [List.length_append, leS_length, wordsL_length, Stp.ints, List.length_cons, List.length_nil]; have := HP.out; omega)).mono ?_
            rintro e v2 ⟨rfl, hw2, hb2, hk2⟩
            have q02 := hk2.get Q02.out (by omega) (by decide)
            have q12 := hk2.get Q12.out (by omega) (by decide)
            clear hk2 g2
            have g3 := cell_in q12 (j := 1) rfl
            have HW3 := Lib.hid hw2
            have Q03 := Lib.hid q02
            have Q13 := Lib.hid q12
            clear hw2 q02 q12
            go_wp2_with fail
            refine (long_any a a y.v _ _ hy.2.1 HW3.out (by simp only [List.length_append, leS_length, wordsL_length, Stp.ints, List.length_cons, List.length_nil]; have := HP.out; omega)).mono ?_
            rintro e v3 ⟨rfl, hw3, hb3, hk3⟩
            have q03 := hk3.get Q03.out (by omega) (by decide)
            have q13 := hk3.get Q13.out (by omega) (by decide)
            clear hk3 g3
            have g4 := cell_in q13 (j := 2) rfl
            have HW4 := Lib.hid hw3
            have Q04 := Lib.hid q03
            have Q14 := Lib.hid q13
            clear hw3 q03 q13
            go_wp2_with fail
            refine (long_any a a y.at_ _ _ hy.2.2.1 HW4.out (by simp only [List.length_append, leS_length, wordsL_length, Stp.ints, List.length_cons, List.length_nil]; have := HP.out; omega)).mono ?_
            rintro e v4 ⟨rfl, hw4, hb4, hk4⟩
            have q04 := hk4.get Q04.out (by omega) (by decide)
            have q14 := hk4.get Q14.out (by omega) (by decide)
            clear hk4 g4
            have g5 := cell_in q14 (j := 3) rfl
            have HW5 := Lib.hid hw4
            have Q05 := Lib.hid q04
            have Q15 := Lib.hid q14
            clear hw4 q04 q14
            go_wp2_with fail
            refine (long_any a a y.cl _ _ hy.2.2.2 HW5.out (by simp only [List.length_append, leS_length, wordsL_length, Stp.ints, List.length_cons, List.length_nil]; have := HP.out; omega)).mono ?_
            rintro e v5 ⟨rfl, hw5, hb5, hk5⟩
            have q05 := hk5.get Q05.out (by omega) (by decide)
            have q15 := hk5.get Q15.out (by omega) (by decide)
            clear hk5 g5
            have hb10 := Lib.hid (hbi.trans ((((((hb0.trans hb1).trans hb2).trans hb3).trans hb4).trans hb5).mono hsa))
            clear q05 q15
            have HW6 := Lib.hid hw5
            clear hw5
            go_wp2
            go_roundw
            case rel =>
              refine ⟨k + 1, by omega, by go_num, ?_, hb10.out, by rw [rsl_take hk2, HA.out, HY.out]; exact HF.out⟩
              have h1 := recsL_snoc ss rs k hk1 hk2
              rw [HX.out, HY.out] at h1
              rw [h1, ← List.append_assoc, HPE.out]
              have h2 := HW6.out
              simp only [List.append_assoc] at h2
              simp only [recL, List.append_assoc]
              exact h2
            case measure => simp [intOf]; omega
    · have : k = len := by omega
      subst this
      have hl0 : (hdrL k ++ recsL (ss.take k) (rs.take k)) = bodyL ss rs := by
        unfold bodyL
        rw [List.take_of_length_le (by have := H1.out; omega), List.take_of_length_le (by have := H2.out; omega), H1.out]
      have HW6 := HW.out
      rw [hl0] at HW6
      have hlen0 := pre_len (rs := rs) (k := k) H1.out hbig
      have hlen1 : 0 < (bodyL ss rs).length := by unfold bodyL; rw [List.length_append, hdrL_length]; omega
      rw [hl0] at hlen0
      have HL := Lib.hid (show (encL ss rs).length = (bodyL ss rs).length + 4 by unfold encL; rw [List.length_append, leS_length])
      have HWW := Lib.hid HW6
      have hall := HA.out
      rw [List.take_of_length_le (by have := H2.out; omega)] at hall
      have HA2 := Lib.hid hall
      clear HW6 hl0 HW hall
      go_wp2_with fail
      refine (seal_any a a (bodyL ss rs) _ HWW.out (by omega) hlen1 (bodyL_lt _ _)).mono ?_
      rintro e w7 ⟨rfl, hw7, hb7, -⟩
      have HW7 := Lib.hid hw7
      clear hw7
      go_wp2_with fail
      refine (all_any a a _ _ (by have := HL.out; show 0 < (encL ss rs).length; omega) (by have := HL.out; show (encL ss rs).length ≤ _; omega) HW7.out).mono ?_
      rintro e w8 ⟨g, c, rfl, ho, hb8⟩
      generalize hq : (bodyL ss rs ++ leS (crcOf (bodyL ss rs)) 4).length = n at *
      have HQ := Lib.hid (show n = (encL ss rs).length from hq.symm)
      have HO8 := Lib.hid ho
      clear ho hq
      go_wp2
      go_ret2
      have hN : encN ss rs = 0 := by
        unfold encN
        rw [if_neg (by have := H1.out; have := H2.out; omega), if_neg (by rw [HN.out]; decide), HA2.out]; rfl
      have hs7 : w.heap.size ≤ w7.heap.size := Nat.le_trans hb.size hb7.size
      have hb9 : Below w.heap.size w w8 := (hb.trans (hb7.mono hsa)).trans (hb8.mono hs7)
      have hn := HQ.out
      subst hn
      refine ⟨_, by rw [hN]; rfl, hb9, .inr ⟨hN, g, c, rfl, ?_⟩⟩
      have := HO8.out
      obtain ⟨h1, h2 | ⟨g', cap', cur, e, hbb, rest⟩⟩ := this
      · cases h2.1
      · exact ⟨h1, .inr ⟨g', cap', cur, e, Nat.le_trans hs7 hbb, rest⟩⟩
end Ae
namespace Ae
open Go Go.Proofs Go.RowKit
def ArrB (w : World) (p : Option Addr) (l : List Nat) : Prop := 0 < l.length → ∃ b off, p = some ⟨b, off, none⟩ ∧ b < w.heap.size ∧ ∀ j (h : j < l.length), w.cell? ⟨b, off + j, none⟩ = some (.int .u8 (l[j] : Nat))
set_option maxHeartbeats 400000 in
theorem same_u8 (p q : Option Addr) (n c m d : Nat) (xs ys : List Nat) (w : World) (h1 : xs.length = n) (h2 : ys.length = m) (hn : n < 9223372036854775807) (ha : ArrB w p xs) (hb : ArrB w q ys) :
    Calls Tryz.prog 11 #[.slice p n c, .slice q m d] w fun e w' => e = .returned (.bool (decide (xs = ys))) ∧ ∃ k, w' = w.drewN k := by
  have HA := Lib.hid ha
  have HB := Lib.hid hb
  have H1 := Lib.hid h1
  have H2 := Lib.hid h2
  clear ha hb h1 h2
  go_enter Tryz.func11, Tryz.ntmps11
  by_cases hnm : n = m
  · subst hnm
    go_wp2
    go_loopw [5] (fun i wr => ∃ k : Nat, k ≤ n ∧ i = .int .i64 k ∧ xs.take k = ys.take k ∧ ∃ z, wr = w.drewN z) (fun i _ => n - (intOf i).toNat)
    case atStart => exact ⟨0, by omega, rfl, rfl, 0, rfl⟩
    case round =>
      obtain ⟨k, hk, rfl, heq, z, rfl⟩ := hrel
      have HE := Lib.hid heq
      clear heq
      by_cases hlt : k < n
      · obtain ⟨b, off, rfl, hb0, hc⟩ := HA.out (by have := H1.out; omega)
        obtain ⟨b', off', rfl, hb0', hc'⟩ := HB.out (by have := H2.out; omega)
        have g := hc k (by have := H1.out; omega)
        have g' := hc' k (by have := H2.out; omega)
        generalize hx : xs[k]'(by have := H1.out; omega) = x at g
        generalize hy : ys[k]'(by have := H2.out; omega) = y at g'
        have HX := Lib.hid hx
        have HY := Lib.hid hy
        clear hx hy hc hc'
        have hk1 : (k : Int) < (n : Int) := by omega
        have hk0 : (0 : Int) ≤ (k : Int) := by omega
        go_wp2
        go_quiet (fail)
        go_wp2
        · have hq : ((x : Int) != (y : Int)) = true := by assumption
          go_ret
          refine ⟨ret_bool ?_, z + nq, by simp⟩
          have hne : x ≠ y := by intro e; rw [e] at hq; simp at hq
          refine (decide_eq_false ?_).symm
          rintro rfl
          exact hne (HX.out.symm.trans HY.out)
        · have hq : ((x : Int) != (y : Int)) = false := by assumption
          go_roundw
          case rel =>
            have hxy : x = y := by have h0 : (x : Int) = y := by simpa using hq
                                   omega
            refine ⟨k + 1, by omega, by go_num, ?_, _, rfl⟩
            rw [List.take_succ_eq_append_getElem (by have := H1.out; omega), List.take_succ_eq_append_getElem (by have := H2.out; omega), HE.out, HX.out, HY.out, hxy]
          case measure => simp [intOf]; omega
      · have : k = n := by omega
        subst this
        go_wp2
        go_ret
        refine ⟨ret_bool ?_, z, rfl⟩
        have := HE.out
        rw [List.take_of_length_le (by have := H1.out; omega), List.take_of_length_le (by have := H2.out; omega)] at this
        simp [this]
  · go_wp2
    go_ret
    refine ⟨ret_bool ?_, 0, rfl⟩
    have := H1.out
    have := H2.out
    simp; rintro rfl; omega
end Ae
namespace Ae
open Go Go.Proofs Go.RowKit
def Stp.arr (x : Stp) : Array Value := #[.int .i64 x.k, .int .i64 x.s, .int .i64 x.n, .int .i64 x.a, .int .u64 x.at_, .int .i64 x.wd, .int .u64 x.v]
def Rsl.arr (x : Rsl) : Array Value := #[.int .i64 x.why, .int .u64 x.v, .int .u64 x.at_, .int .u64 x.cl]
theorem fields28 : Tryz.prog.underlying 28 = some (.struct (Tryz.prog.fieldsOf 28)) := by kernel_rfl
theorem fields32 : Tryz.prog.underlying 32 = some (.struct (Tryz.prog.fieldsOf 32)) := by kernel_rfl
theorem held28 : Tryz.prog.stoodInHeld 28 = false := by kernel_rfl
theorem held32 : Tryz.prog.stoodInHeld 32 = false := by kernel_rfl
theorem guard28 : Tryz.prog.eqGuardType Tryz.prog.depth 28 = false := by kernel_rfl
theorem guard32 : Tryz.prog.eqGuardType Tryz.prog.depth 32 = false := by kernel_rfl
def stpEq (x y : Stp) : Bool := x.k == y.k && x.s == y.s && x.n == y.n && x.a == y.a && x.at_ == y.at_ && x.wd == y.wd && x.v == y.v
def rslEq (x y : Rsl) : Bool := x.why == y.why && x.v == y.v && x.at_ == y.at_ && x.cl == y.cl
theorem cast_eq (a b : Nat) : ((a : Int) = (b : Int)) = (a = b) := propext ⟨by omega, by omega⟩
theorem if_ok (p : Prop) [Decidable p] (b : Bool) (w : World) : (if p then Result.ok b w else Result.ok false w) = Result.ok (decide p && b) w := by
  by_cases h : p <;> simp [h]
theorem eq_stp (x y : Stp) (w : World) : (Op.equalIn 10000 28 (.agg x.arr) (.agg y.arr)).run Tryz.prog w = .ok (stpEq x y) w := by
  rw [run_equalIn_agg _ _ _ _ _ fields28 held28]
  simp [go_sem, Program.fieldsOf, Tryz.underlying28, Stp.arr]
  simp only [cast_eq, if_ok]
  simp [stpEq, Bool.and_assoc, Bool.beq_eq_decide_eq]
theorem eq_rsl (x y : Rsl) (w : World) : (Op.equalIn 10000 32 (.agg x.arr) (.agg y.arr)).run Tryz.prog w = .ok (rslEq x y) w := by
  rw [run_equalIn_agg _ _ _ _ _ fields32 held32]
  simp [go_sem, Program.fieldsOf, Tryz.underlying32, Rsl.arr]
  simp only [cast_eq, if_ok]
  simp [rslEq, Bool.and_assoc, Bool.beq_eq_decide_eq]
theorem neq_stp (x y : Stp) (w : World) : (binOp .neq 28 (.agg x.arr) (.agg y.arr)).run Tryz.prog w = .ok (.bool (!(stpEq x y))) w := by
  rw [run_neq_struct, eq_stp]; rfl
theorem neq_rsl (x y : Rsl) (w : World) : (binOp .neq 32 (.agg x.arr) (.agg y.arr)).run Tryz.prog w = .ok (.bool (!(rslEq x y))) w := by
  rw [run_neq_struct, eq_rsl]; rfl
theorem stpEq_iff (x y : Stp) : stpEq x y = true ↔ x = y := by
  obtain ⟨a, b, c, d, e, f, g⟩ := x
  obtain ⟨a', b', c', d', e', f', g'⟩ := y
  simp [stpEq]; omega
theorem rslEq_iff (x y : Rsl) : rslEq x y = true ↔ x = y := by
  obtain ⟨a, b, c, d⟩ := x
  obtain ⟨a', b', c', d'⟩ := y
  simp [rslEq]; omega
end Ae
namespace Ae
open Go Go.Proofs Go.RowKit
set_option maxHeartbeats 400000 in
theorem same_stp (p q : Option Addr) (n c m d : Nat) (xs ys : List Stp) (w : World) (h1 : xs.length = n) (h2 : ys.length = m) (hn : n < 9223372036854775807) (ha : Arr w p 7 (xs.map Stp.cells)) (hb : Arr w q 7 (ys.map Stp.cells)) :
    Calls Tryz.prog 15 #[.slice p n c, .slice q m d] w fun e w' => (∃ f, e = .returned (.bool f) ∧ (f = true ↔ xs = ys)) ∧ ∃ k, w' = w.drewN k := by
  have HA := Lib.hid ha
  have HB := Lib.hid hb
  have H1 := Lib.hid h1
  have H2 := Lib.hid h2
  clear ha hb h1 h2
  go_enter Tryz.func15, Tryz.ntmps15
  by_cases hnm : n = m
  · subst hnm
    go_wp2
    go_loopw [5] (fun i wr => ∃ k : Nat, k ≤ n ∧ i = .int .i64 k ∧ xs.take k = ys.take k ∧ ∃ z, wr = w.drewN z) (fun i _ => n - (intOf i).toNat)
    case atStart => exact ⟨0, by omega, rfl, rfl, 0, rfl⟩
    case round =>
      obtain ⟨k, hk, rfl, heq, z, rfl⟩ := hrel
      have HE := Lib.hid heq
      clear heq
      by_cases hlt : k < n
      · obtain ⟨b, off, rfl, hb0, hc⟩ := HA.out (by have := H1.out; simp; omega)
        obtain ⟨b', off', rfl, hb0', hc'⟩ := HB.out (by have := H2.out; simp; omega)
        obtain ⟨c0, c1, c2, c3, c4, c5, c6⟩ := stp_cells hc (k := k) (by have := H1.out; omega)
        obtain ⟨d0, d1, d2, d3, d4, d5, d6⟩ := stp_cells hc' (k := k) (by have := H2.out; omega)
        generalize hx : xs[k]'(by have := H1.out; omega) = x at c0 c1 c2 c3 c4 c5 c6
        generalize hy : ys[k]'(by have := H2.out; omega) = y at d0 d1 d2 d3 d4 d5 d6
        have HX := Lib.hid hx
        have HY := Lib.hid hy
        clear hx hy hc hc'
        have hk1 : (k : Int) < (n : Int) := by omega
        have hk0 : (0 : Int) ≤ (k : Int) := by omega
        have hgd : ∀ (w : World) (a b : Operand) (u v : Array Value), (eqGuard .neq 28 a b (.agg u) (.agg v)).run Tryz.prog w = .ok () w := fun w a b u v => run_eqGuard_agg w _ _ _ _ _ _ guard28
        cases hs : stpEq x y with
        | false =>
          have hr : ∀ w : World, (binOp .neq 28 (.agg #[.int .i64 x.k, .int .i64 x.s, .int .i64 x.n, .int .i64 x.a, .int .u64 x.at_, .int .i64 x.wd, .int .u64 x.v]) (.agg #[.int .i64 y.k, .int .i64 y.s, .int .i64 y.n, .int .i64 y.a, .int .u64 y.at_, .int .i64 y.wd, .int .u64 y.v])).run Tryz.prog w = .ok (.bool true) w := fun w => by
            have := neq_stp x y w
            rw [hs] at this; exact this
          have HS := Lib.hid hs
          clear hs
          go_wp2
          go_quiet (fail)
          go_wp2
          go_ret
          refine ⟨⟨false, rfl, ?_⟩, z + nq, by simp⟩
          constructor
          · intro h; cases h
          · rintro rfl
            have := HS.out
            rw [← HX.out, ← HY.out, (stpEq_iff _ _).2 rfl] at this
            cases this
        | true =>
          have hr : ∀ w : World, (binOp .neq 28 (.agg #[.int .i64 x.k, .int .i64 x.s, .int .i64 x.n, .int .i64 x.a, .int .u64 x.at_, .int .i64 x.wd, .int .u64 x.v]) (.agg #[.int .i64 y.k, .int .i64 y.s, .int .i64 y.n, .int .i64 y.a, .int .u64 y.at_, .int .i64 y.wd, .int .u64 y.v])).run Tryz.prog w = .ok (.bool false) w := fun w => by
            have := neq_stp x y w
            rw [hs] at this; exact this
          have HS := Lib.hid hs
          clear hs
          go_wp2
          go_quiet (fail)
          go_wp2
          go_roundw
          case rel =>
            refine ⟨k + 1, by omega, by go_num, ?_, _, rfl⟩
            rw [List.take_succ_eq_append_getElem (by have := H1.out; omega), List.take_succ_eq_append_getElem (by have := H2.out; omega), HE.out, HX.out, HY.out, (stpEq_iff _ _).1 HS.out]
          case measure => simp [intOf]; omega
      · have : k = n := by omega
        subst this
        go_wp2
        go_ret
        refine ⟨⟨true, rfl, ?_⟩, z, rfl⟩
        have := HE.out
        rw [List.take_of_length_le (by have := H1.out; omega), List.take_of_length_le (by have := H2.out; omega)] at this
        simp [this]
  · go_wp2
    go_ret
    refine ⟨⟨false, rfl, ?_⟩, 0, rfl⟩
    have := H1.out
    have := H2.out
    simp; rintro rfl; omega
set_option maxHeartbeats 400000 in
theorem same_rsl (p q : Option Addr) (n c m d : Nat) (xs ys : List Rsl) (w : World) (h1 : xs.length = n) (h2 : ys.length = m) (hn : n < 9223372036854775807) (ha : Arr w p 4 (xs.map Rsl.cells)) (hb : Arr w q 4 (ys.map Rsl.cells)) :
    Calls Tryz.prog 16 #[.slice p n c, .slice q m d] w fun e w' => (∃ f, e = .returned (.bool f) ∧ (f = true ↔ xs = ys)) ∧ ∃ k, w' = w.drewN k := by
  have HA := Lib.hid ha
  have HB := Lib.hid hb
  have H1 := Lib.hid h1
  have H2 := Lib.hid h2
  clear ha hb h1 h2
  go_enter Tryz.func16, Tryz.ntmps16
  by_cases hnm : n = m
  · subst hnm
    go_wp2
    go_loopw [5] (fun i wr => ∃ k : Nat, k ≤ n ∧ i = .int .i64 k ∧ xs.take k = ys.take k ∧ ∃ z, wr = w.drewN z) (fun i _ => n - (intOf i).toNat)
    case atStart => exact ⟨0, by omega, rfl, rfl, 0, rfl⟩
    case round =>
      obtain ⟨k, hk, rfl, heq, z, rfl⟩ := hrel
      have HE := Lib.hid heq
      clear heq
      by_cases hlt : k < n
      · obtain ⟨b, off, rfl, hb0, hc⟩ := HA.out (by have := H1.out; simp; omega)
        obtain ⟨b', off', rfl, hb0', hc'⟩ := HB.out (by have := H2.out; simp; omega)
        obtain ⟨c0, c1, c2, c3⟩ := rsl_cells hc (k := k) (by have := H1.out; omega)
        obtain ⟨d0, d1, d2, d3⟩ := rsl_cells hc' (k := k) (by have := H2.out; omega)
        generalize hx : xs[k]'(by have := H1.out; omega) = x at c0 c1 c2 c3
        generalize hy : ys[k]'(by have := H2.out; omega) = y at d0 d1 d2 d3
        have HX := Lib.hid hx
        have HY := Lib.hid hy
        clear hx hy hc hc'
        have hk1 : (k : Int) < (n : Int) := by omega
        have hk0 : (0 : Int) ≤ (k : Int) := by omega
        have hgd : ∀ (w : World) (a b : Operand) (u v : Array Value), (eqGuard .neq 32 a b (.agg u) (.agg v)).run Tryz.prog w = .ok () w := fun w a b u v => run_eqGuard_agg w _ _ _ _ _ _ guard32
        cases hs : rslEq x y with
        | false =>
          have hr : ∀ w : World, (binOp .neq 32 (.agg #[.int .i64 x.why, .int .u64 x.v, .int .u64 x.at_, .int .u64 x.cl]) (.agg #[.int .i64 y.why, .int .u64 y.v, .int .u64 y.at_, .int .u64 y.cl])).run Tryz.prog w = .ok (.bool true) w := fun w => by
            have := neq_rsl x y w
            rw [hs] at this; exact this
          have HS := Lib.hid hs
          clear hs
          go_wp2
          go_quiet (fail)
          go_wp2
          go_ret
          refine ⟨⟨false, rfl, ?_⟩, z + nq, by simp⟩
          constructor
          · intro h; cases h
          · rintro rfl
            have := HS.out
            rw [← HX.out, ← HY.out, (rslEq_iff _ _).2 rfl] at this
            cases this
        | true =>
          have hr : ∀ w : World, (binOp .neq 32 (.agg #[.int .i64 x.why, .int .u64 x.v, .int .u64 x.at_, .int .u64 x.cl]) (.agg #[.int .i64 y.why, .int .u64 y.v, .int .u64 y.at_, .int .u64 y.cl])).run Tryz.prog w = .ok (.bool false) w := fun w => by
            have := neq_rsl x y w
            rw [hs] at this; exact this
          have HS := Lib.hid hs
          clear hs
          go_wp2
          go_quiet (fail)
          go_wp2
          go_roundw
          case rel =>
            refine ⟨k + 1, by omega, by go_num, ?_, _, rfl⟩
            rw [List.take_succ_eq_append_getElem (by have := H1.out; omega), List.take_succ_eq_append_getElem (by have := H2.out; omega), HE.out, HX.out, HY.out, (rslEq_iff _ _).1 HS.out]
          case measure => simp [intOf]; omega
      · have : k = n := by omega
        subst this
        go_wp2
        go_ret
        refine ⟨⟨true, rfl, ?_⟩, z, rfl⟩
        have := HE.out
        rw [List.take_of_length_le (by have := H1.out; omega), List.take_of_length_le (by have := H2.out; omega)] at this
        simp [this]
  · go_wp2
    go_ret
    refine ⟨⟨false, rfl, ?_⟩, 0, rfl⟩
    have := H1.out
    have := H2.out
    simp; rintro rfl; omega
end Ae
namespace Ae
open Go Go.Proofs Go.RowKit
theorem run_copy_rowS {P : Program} (w : World) (dT sT ty elem : TypeId) (g o dLen dCap : Nat) (a : Addr) (sLen sCap : Nat) (cur : Array Value) (t : TypeId) (cs : List Value) (size m : Nat)
    (hu : P.underlying dT = some (.slice elem)) (hs : (P.info? elem).map (·.size) = some size) (hm : m = Nat.min sLen dLen)
    (hg : w.heap[g]? = some (.cells cur t (0, 0))) (hn : cs.length = m * size)
    (hsrc : ∀ j v, cs[j]? = some v → w.cell? (a.add j) = some v) (hfit : o + cs.length ≤ cur.size) (h1 : ∀ v ∈ cs, v.oneCell' = true) :
    (Builtin.copy_ #[dT, sT] ty #[.slice (some ⟨g, o, none⟩) dLen dCap, .slice (some a) sLen sCap]).run P w =
      .ok (goInt m) (w.setRow g (cur.toList.take o ++ cs ++ cur.toList.drop (o + cs.length)).toArray) := by
  have hl := run_loadCells_list (P := P) w a cs hsrc
  have hst := run_storeCells_at P g o t cs 0 cur w hg (by simpa using hfit) h1
  cases hq : P.info? elem with
  | none => simp [hq] at hs
  | some i =>
    have hi : i.size = size := by simpa [hq] using hs
    simp [Builtin.copy_, run_underlying hu, Builtin.lenOf, Builtin.firstCells, Go.sizeOf, typeInfo, hq, hi, ← hm, ← hn, hl, hst]
theorem run_copy_noneS {P : Program} (w : World) (dT sT ty elem : TypeId) (d a : Option Addr) (dLen dCap sCap : Nat) (size : Nat) (hu : P.underlying dT = some (.slice elem)) (hs : (P.info? elem).map (·.size) = some size) :
    (Builtin.copy_ #[dT, sT] ty #[.slice d dLen dCap, .slice a 0 sCap]).run P w = .ok (goInt 0) w := by
  cases hq : P.info? elem with
  | none => simp [hq] at hs
  | some i =>
    cases a with
    | none => cases d <;> simp [Builtin.copy_, run_underlying hu, Builtin.lenOf, Builtin.firstCells, Go.sizeOf, typeInfo, hq, storeCells, loadCells]
    | some a =>
      have hl := run_loadCells_list (P := P) w a [] (by simp)
      simp only [List.length_nil] at hl
      cases d <;> simp [Builtin.copy_, run_underlying hu, Builtin.lenOf, Builtin.firstCells, Go.sizeOf, typeInfo, hq, storeCells, hl]
theorem flat_get {α : Type} : ∀ (L : List (List α)) (sz : Nat) (hL : ∀ l ∈ L, l.length = sz) (j r : Nat), r < sz → L.flatten[j * sz + r]? = L[j]?.bind (fun l => l[r]?)
  | [], sz, _, j, r, _ => by simp
  | l :: L, sz, h, 0, r, hr => by
    have := h l List.mem_cons_self
    simp [List.getElem?_append_left, this, hr]
  | l :: L, sz, h, j + 1, r, hr => by
    have h0 := h l List.mem_cons_self
    rw [List.flatten_cons, List.getElem?_append_right (by rw [h0, Nat.succ_mul]; omega), h0, show (j + 1) * sz + r - sz = j * sz + r by rw [Nat.succ_mul]; omega, flat_get L sz (fun x hx => h x (List.mem_cons_of_mem _ hx)) j r hr]
    simp
theorem flat_len {α : Type} : ∀ (L : List (List α)) (sz : Nat) (_ : ∀ l ∈ L, l.length = sz), L.flatten.length = L.length * sz
  | [], sz, _ => by simp
  | l :: L, sz, h => by
    rw [List.flatten_cons, List.length_append, h l List.mem_cons_self, flat_len L sz (fun x hx => h x (List.mem_cons_of_mem _ hx)), List.length_cons, Nat.succ_mul]; omega
theorem add_plain (b o j : Nat) : (⟨b, o, none⟩ : Addr).add j = ⟨b, o + j, none⟩ := by unfold Addr.add; split <;> simp_all
theorem lies_flat {w : World} {b off sz : Nat} {L : List (List Value)} (h : Lies w b off sz L) (hL : ∀ l ∈ L, l.length = sz) : ∀ q (v : Value), L.flatten[q]? = some v → w.cell? ((⟨b, off, none⟩ : Addr).add q) = some v := by
  intro q v hq
  rcases Nat.eq_zero_or_pos sz with h0 | h0
  · have : L.flatten.length = 0 := by rw [flat_len L sz hL, h0, Nat.mul_zero]
    rw [List.getElem?_eq_none (by omega)] at hq; cases hq
  · have e : q = q / sz * sz + q % sz := by rw [Nat.mul_comm]; exact (Nat.div_add_mod q sz).symm
    rw [e, flat_get L sz hL _ _ (Nat.mod_lt _ h0)] at hq
    obtain ⟨l, h1, h2⟩ := Option.bind_eq_some_iff.1 hq
    have := h _ _ h1 _ _ h2
    rw [add_plain, e, ← Nat.add_assoc]; exact this
theorem wpList_copy_struct {P : Program} {w : World} {ops : Array Oper} {rest : List Oper} {o : Oper} {a : Act} {Q : Exit → Act → World → Prop} (hgd : o.guard = none) (d s : Operand) (dT sT : TypeId)
    (ho : o.op = .call { callee := .builtin .copy, args := #[d, s], argTypes := #[dT, sT] }) (elem : TypeId) (hu : P.underlying dT = some (.slice elem)) (size : Nat) (hsz : (P.info? elem).map (·.size) = some size)
    (g dLen dCap : Nat) (p : Option Addr) (sLen sCap : Nat) (hd : a.eval d = .slice (some ⟨g, 0, none⟩) dLen dCap) (hs : a.eval s = .slice p sLen sCap) (hle : sLen ≤ dLen)
    (cur : Array Value) (t : TypeId) (hg : w.heap[g]? = some (.cells cur t (0, 0))) (L : List (List Value)) (hL : ∀ l ∈ L, l.length = size) (hn : L.length = sLen) (harr : Arr w p size L) (hfit : sLen * size ≤ cur.size) (h1 : ∀ v ∈ L.flatten, v.oneCell' = true)
    (h : ∀ w', w'.heap[g]? = some (.cells (L.flatten ++ cur.toList.drop (sLen * size)).toArray t (0, 0)) → (∀ B, B ≤ g → Below B w w') → wpList P ops Q rest (a.put o.dst (goInt sLen)) w') : wpList P ops Q (o :: rest) a w := by
  have hfl : L.flatten.length = sLen * size := by rw [flat_len L size hL, hn]
  rcases Nat.eq_zero_or_pos sLen with h0 | h0
  · subst h0
    refine wpList_plain hgd fun K hK => ?_
    have hrun := run_copy_noneS (P := P) w dT sT o.type elem (some ⟨g, 0, none⟩) p dLen dCap sCap size hu hsz
    unfold Oper.wp
    simp [execOp, ho, resolve, invoke, builtin, hd, hs, hrun, Result.andThen]
    refine hK _ _ (h w ?_ fun B _ => Below.refl _ _)
    have : L.flatten = [] := List.eq_nil_of_length_eq_zero (by omega)
    simpa [this] using hg
  · obtain ⟨b, off, rfl, hb, hl⟩ := harr (by omega)
    refine wpList_plain hgd fun K hK => ?_
    have hrun := run_copy_rowS (P := P) w dT sT o.type elem g 0 dLen dCap ⟨b, off, none⟩ sLen sCap cur t L.flatten size sLen hu hsz (Nat.min_eq_left hle).symm hg hfl (lies_flat hl hL) (by omega) h1
    unfold Oper.wp
    simp [execOp, ho, resolve, invoke, builtin, hd, hs, hrun, Result.andThen]
    refine hK _ _ (h _ ?_ fun B hB => below_setRow (Below.refl _ _) hB _)
    rw [setRow_heap w g cur _ t _ hg, ← List.length_flatten, hfl]
end Ae
namespace Ae
open Go Go.Proofs Go.RowKit
theorem info28 : (Tryz.prog.info? 28).map (fun i => (i.zero, i.size, i.bytes)) = some (some (.agg #[.int .i64 0, .int .i64 0, .int .i64 0, .int .i64 0, .int .u64 0, .int .i64 0, .int .u64 0]), 7, 56) := by kernel_rfl
theorem info28s : (Tryz.prog.info? 28).map (·.size) = some 7 := by kernel_rfl
theorem info32 : (Tryz.prog.info? 32).map (fun i => (i.zero, i.size, i.bytes)) = some (some (.agg #[.int .i64 0, .int .u64 0, .int .u64 0, .int .u64 0]), 4, 32) := by kernel_rfl
theorem info32s : (Tryz.prog.info? 32).map (·.size) = some 4 := by kernel_rfl
theorem stp_lens (xs : List Stp) : ∀ l ∈ xs.map Stp.cells, l.length = 7 := fun l h => by
  obtain ⟨x, _, rfl⟩ := List.mem_map.1 h; rfl
theorem rsl_lens (xs : List Rsl) : ∀ l ∈ xs.map Rsl.cells, l.length = 4 := fun l h => by
  obtain ⟨x, _, rfl⟩ := List.mem_map.1 h; rfl
theorem stp_one (xs : List Stp) : ∀ v ∈ (xs.map Stp.cells).flatten, v.oneCell' = true := fun v h => by
  obtain ⟨l, h1, h2⟩ := List.mem_flatten.1 h
  obtain ⟨x, _, rfl⟩ := List.mem_map.1 h1
  simp only [Stp.cells, List.mem_cons, List.mem_nil_iff, or_false] at h2
  rcases h2 with rfl | rfl | rfl | rfl | rfl | rfl | rfl <;> rfl
theorem rsl_one (xs : List Rsl) : ∀ v ∈ (xs.map Rsl.cells).flatten, v.oneCell' = true := fun v h => by
  obtain ⟨l, h1, h2⟩ := List.mem_flatten.1 h
  obtain ⟨x, _, rfl⟩ := List.mem_map.1 h1
  simp only [Rsl.cells, List.mem_cons, List.mem_nil_iff, or_false] at h2
  rcases h2 with rfl | rfl | rfl | rfl <;> rfl
theorem set7 {w : World} {g o t : Nat} {cu : Array Value} (h : w.heap[g]? = some (.cells cu t (0, 0))) (hs : o + 7 ≤ cu.size) (a : List Value) (ha : a.length = 7) (a0 a1 a2 a3 a4 a5 a6 : Value) (e : a = [a0, a1, a2, a3, a4, a5, a6]) :
    ∃ cu' : Array Value, (((((((w.setCell ⟨g, o, none⟩ a0).setCell ⟨g, o + 1, none⟩ a1).setCell ⟨g, o + 2, none⟩ a2).setCell ⟨g, o + 3, none⟩ a3).setCell ⟨g, o + 4, none⟩ a4).setCell ⟨g, o + 5, none⟩ a5).setCell ⟨g, o + 6, none⟩ a6).heap[g]? = some (.cells cu' t (0, 0)) ∧ cu'.size = cu.size ∧ (∀ q, q < o → cu'[q]? = cu[q]?) ∧ ∀ r, r < 7 → cu'[o + r]? = a[r]? := by
  subst e
  have h0 := heap_setCell_same w g o cu t a0 h
  have h1 := heap_setCell_same _ g (o + 1) _ t a1 h0
  have h2 := heap_setCell_same _ g (o + 2) _ t a2 h1
  have h3 := heap_setCell_same _ g (o + 3) _ t a3 h2
  have h4 := heap_setCell_same _ g (o + 4) _ t a4 h3
  have h5 := heap_setCell_same _ g (o + 5) _ t a5 h4
  have h6 := heap_setCell_same _ g (o + 6) _ t a6 h5
  refine ⟨_, h6, by simp, fun q hq => ?_, fun r hr => ?_⟩
  · simp only [Array.getElem?_setIfInBounds, Array.size_setIfInBounds]
    rw [if_neg (by omega), if_neg (by omega), if_neg (by omega), if_neg (by omega), if_neg (by omega), if_neg (by omega), if_neg (by omega)]
  · have : r = 0 ∨ r = 1 ∨ r = 2 ∨ r = 3 ∨ r = 4 ∨ r = 5 ∨ r = 6 := by omega
    rcases this with rfl | rfl | rfl | rfl | rfl | rfl | rfl <;> simp [Array.getElem?_setIfInBounds] <;> omega
theorem below_set7 {B : Nat} {w0 w : World} {g o : Nat} (h : Below B w0 w) (hB : B ≤ g) (a0 a1 a2 a3 a4 a5 a6 : Value) : Below B w0 (((((((w.setCell ⟨g, o, none⟩ a0).setCell ⟨g, o + 1, none⟩ a1).setCell ⟨g, o + 2, none⟩ a2).setCell ⟨g, o + 3, none⟩ a3).setCell ⟨g, o + 4, none⟩ a4).setCell ⟨g, o + 5, none⟩ a5).setCell ⟨g, o + 6, none⟩ a6) :=
  ((((((h.setCell hB _).setCell hB _).setCell hB _).setCell hB _).setCell hB _).setCell hB _).setCell hB _
theorem set4 {w : World} {g o t : Nat} {cu : Array Value} (h : w.heap[g]? = some (.cells cu t (0, 0))) (hs : o + 4 ≤ cu.size) (a : List Value) (ha : a.length = 4) (a0 a1 a2 a3 : Value) (e : a = [a0, a1, a2, a3]) :
    ∃ cu' : Array Value, ((((w.setCell ⟨g, o, none⟩ a0).setCell ⟨g, o + 1, none⟩ a1).setCell ⟨g, o + 2, none⟩ a2).setCell ⟨g, o + 3, none⟩ a3).heap[g]? = some (.cells cu' t (0, 0)) ∧ cu'.size = cu.size ∧ (∀ q, q < o → cu'[q]? = cu[q]?) ∧ ∀ r, r < 4 → cu'[o + r]? = a[r]? := by
  subst e
  have h0 := heap_setCell_same w g o cu t a0 h
  have h1 := heap_setCell_same _ g (o + 1) _ t a1 h0
  have h2 := heap_setCell_same _ g (o + 2) _ t a2 h1
  have h3 := heap_setCell_same _ g (o + 3) _ t a3 h2
  refine ⟨_, h3, by simp, fun q hq => ?_, fun r hr => ?_⟩
  · simp only [Array.getElem?_setIfInBounds, Array.size_setIfInBounds]
    rw [if_neg (by omega), if_neg (by omega), if_neg (by omega), if_neg (by omega)]
  · have : r = 0 ∨ r = 1 ∨ r = 2 ∨ r = 3 := by omega
    rcases this with rfl | rfl | rfl | rfl <;> simp [Array.getElem?_setIfInBounds] <;> omega
theorem below_set4 {B : Nat} {w0 w : World} {g o : Nat} (h : Below B w0 w) (hB : B ≤ g) (a0 a1 a2 a3 : Value) : Below B w0 ((((w.setCell ⟨g, o, none⟩ a0).setCell ⟨g, o + 1, none⟩ a1).setCell ⟨g, o + 2, none⟩ a2).setCell ⟨g, o + 3, none⟩ a3) :=
  (((h.setCell hB _).setCell hB _).setCell hB _).setCell hB _
theorem made_row {w w1 : World} {box : Obj} {N E sz : Nat} {zs : List Value} {g : Nat} (hg : g = w.heap.size + 1) (hown : w1.ownsRow w.heap.size E sz (.slice (some ⟨g, 0, none⟩) N N) N zs) (hgrow : (w.alloc box).grownBy w1 none) :
    ∃ cur : Array Value, w1.heap[w.heap.size + 1]? = some (.cells cur E (0, 0)) ∧ cur.size = N * sz ∧ Below w.heap.size w w1 ∧ w1.heap[w.heap.size]? = some box := by
  subst hg
  obtain ⟨_, h0 | ⟨g, cap0, cur, hv, hgb, hg, _, _, hcs, _⟩⟩ := hown
  · cases h0.1
  cases hv
  exact ⟨cur, hg, hcs, ((Below.refl w.heap.size w).alloc (Nat.le_refl _) _).grown hgrow (by simp) (by rintro _ ⟨⟩), (hgrow.block _ (by simp) (by simp)).trans (heap_alloc_new _ _)⟩
set_option maxHeartbeats 800000 in
set_option maxRecDepth 100000 in
theorem roomy_stp (p : Option Addr) (n c : Nat) (xs : List Stp) (mk : Stp) (w : World) (h1 : xs.length = n) (hn : n ≤ 70000) (ha : Arr w p 7 (xs.map Stp.cells)) :
    Calls Tryz.prog 7 #[.slice p n c, .agg #[.int .i64 mk.k, .int .i64 mk.s, .int .i64 mk.n, .int .i64 mk.a, .int .u64 mk.at_, .int .i64 mk.wd, .int .u64 mk.v]] w fun e w' => e = .returned (.slice (some ⟨w.heap.size + 1, 0, none⟩) (n + 80) (n + 80)) ∧ w'.heap[w.heap.size + 1]? = some (.cells (xs.map Stp.cells ++ List.replicate 80 mk.cells).flatten.toArray 28 (0, 0)) ∧ Below w.heap.size w w' := by
  have HA := Lib.hid ha
  have H1 := Lib.hid h1
  clear ha h1
  obtain ⟨i0, hi, hz0, hz1, hz2⟩ := info_parts info28
  go_enter Tryz.func7, Tryz.ntmps7
  have HLL := Lib.hid (show (xs.map Stp.cells).length = n by rw [List.length_map]; exact H1.out)
  go_wp2_with (first
    | (refine wpList_make_full _ rfl (.tmp 9) (.tmp 9) 22 rfl w.heap.size 28 i0 _ 7 Tryz.underlying22 hi hz0 hz1 .i64 .i64 ((n : Int) + 80) ((n : Int) + 80) (n + 80) rfl rfl (by omega) (by omega) (by rw [hz2]; omega) (by simp [maxLen]; omega) (by simp) ?_; intro w1 hown hgrow; obtain ⟨cur, hg, hcs, hb1, hbox⟩ := made_row (by simp) hown hgrow; have HG := Lib.hid hg; have HS := Lib.hid hcs; have HB := Lib.hid hb1; have HX := Lib.hid hbox; clear hown hgrow hg hcs hb1 hbox)
    | (refine wpList_copy_struct rfl (.tmp 11) (.tmp 12) 22 22 rfl 28 Tryz.underlying22 7 info28s (w.heap.size + 1) (n + 80) (n + 80) p n c (by first | rfl | simp) (by rfl) (by omega) cur 28 HG.out (xs.map Stp.cells) (stp_lens xs) HLL.out (HA.out.below HB.out) (by rw [HS.out]; omega) (stp_one xs) ?_; intro w2 hg2 hb2; have HG2 := Lib.hid hg2; have HB2 := Lib.hid hb2; clear hg2 hb2))
  have hF : (xs.map Stp.cells ++ List.replicate 80 mk.cells).flatten.length = (n + 80) * 7 := by
    rw [flat_len _ 7 (by intro l h; rcases List.mem_append.1 h with q | q; exact stp_lens xs l q; rw [(List.mem_replicate.1 q).2]; rfl), List.length_append, HLL.out, List.length_replicate]
  have HF := Lib.hid hF
  have HFL : Hid (∀ l ∈ xs.map Stp.cells ++ List.replicate 80 mk.cells, l.length = 7) := Lib.hid (by intro l h; rcases List.mem_append.1 h with q | q; exact stp_lens xs l q; rw [(List.mem_replicate.1 q).2]; rfl)
  clear hF
  generalize hFe : (xs.map Stp.cells ++ List.replicate 80 mk.cells).flatten = F at *
  have HFE := Lib.hid hFe
  clear hFe
  go_loopw [6] (fun v wr => ∃ (i : Nat) (cu : Array Value), n ≤ i ∧ i ≤ n + 80 ∧ v = .int .i64 i ∧ wr.heap[w.heap.size + 1]? = some (.cells cu 28 (0, 0)) ∧ cu.size = (n + 80) * 7 ∧ (∀ q, q < i * 7 → cu[q]? = F[q]?) ∧ Below w.heap.size w wr ∧ wr.heap[w.heap.size]? = some (.cells #[.int .i64 mk.k, .int .i64 mk.s, .int .i64 mk.n, .int .i64 mk.a, .int .u64 mk.at_, .int .i64 mk.wd, .int .u64 mk.v] 28)) (fun v _ => n + 80 - (intOf v).toNat)
  case atStart =>
    refine ⟨n, _, Nat.le_refl _, by omega, rfl, HG2.out, ?_, ?_, HB.out.trans (HB2.out _ (by omega)), (((HB2.out (w.heap.size + 1) (by omega)).block _ (by omega)).trans HX.out)⟩
    · have h1 := flat_len _ 7 (stp_lens xs)
      rw [HLL.out] at h1
      have h2 := HS.out
      simp only [List.size_toArray, List.length_append, List.length_drop, Array.length_toList, h1]
      omega
    · intro q hq
      have h1 := flat_len _ 7 (stp_lens xs)
      rw [HLL.out] at h1
      rw [List.getElem?_toArray, List.getElem?_append_left (by omega), ← HFE.out, List.flatten_append, List.getElem?_append_left (by omega)]
  case round =>
    obtain ⟨i, cu, hi1, hi2, rfl, hg3, hcs3, hpre, hb3, hbox3⟩ := hrel
    clear HG HS HB HX HG2 HB2
    by_cases hlt : i < n + 80
    · have HP3 := Lib.hid hpre
      have hcx : ∀ r, r < 7 → ∃ v, wr.cell? ⟨w.heap.size + 1, i * 7 + r, none⟩ = some v := fun r hr => ⟨_, cell_in hg3 (Array.getElem?_eq_getElem (show i * 7 + r < cu.size by rw [hcs3]; omega))⟩
      obtain ⟨v0, e0⟩ := hcx 0 (by omega)
      obtain ⟨v1, e1⟩ := hcx 1 (by omega)
      obtain ⟨v2, e2⟩ := hcx 2 (by omega)
      obtain ⟨v3, e3⟩ := hcx 3 (by omega)
      obtain ⟨v4, e4⟩ := hcx 4 (by omega)
      obtain ⟨v5, e5⟩ := hcx 5 (by omega)
      obtain ⟨v6, e6⟩ := hcx 6 (by omega)
      replace e0 : wr.cell? ⟨w.heap.size + 1, i * 7, none⟩ = some v0 := e0
      have hfr : ∀ o, wr.frozen? ⟨w.heap.size + 1, o, none⟩ = false := fun o => by simp [World.frozen?, hg3]
      have m0 := cell_in hbox3 (j := 0) rfl
      have m1 := cell_in hbox3 (j := 1) rfl
      have m2 := cell_in hbox3 (j := 2) rfl
      have m3 := cell_in hbox3 (j := 3) rfl
      have m4 := cell_in hbox3 (j := 4) rfl
      have m5 := cell_in hbox3 (j := 5) rfl
      have m6 := cell_in hbox3 (j := 6) rfl
      have HG3 := Lib.hid hg3
      have HC3 := Lib.hid hcs3
      have HBX := Lib.hid hbox3
      clear hg3 hcs3 hbox3 hpre hcx
      go_wp2
      go_roundw
      case rel =>
        obtain ⟨cu', g1, g2, g3, g4⟩ := set7 (o := i * 7) HG3.out (by rw [HC3.out]; omega) mk.cells rfl _ _ _ _ _ _ _ rfl
        refine ⟨i + 1, cu', by omega, by omega, by go_num, g1, g2.trans HC3.out, fun q hq => ?_, below_set7 hb3 (by omega) _ _ _ _ _ _ _, ?_⟩
        · rcases Nat.lt_or_ge q (i * 7) with h | h
          · rw [g3 q h, HP3.out q h]
          · obtain ⟨r, rfl⟩ : ∃ r, q = i * 7 + r := ⟨q - i * 7, by omega⟩
            rw [g4 r (by omega), ← HFE.out, flat_get _ 7 HFL.out i r (by omega), List.getElem?_append_right (by have := HLL.out; omega), HLL.out, List.getElem?_replicate, if_pos (by omega)]
            rfl
        · exact (below_set7 (Below.refl (w.heap.size + 1) wr) (Nat.le_refl _) _ _ _ _ _ _ _).block _ (by omega) |>.trans HBX.out
      case measure => simp [intOf]; omega
    · have : i = n + 80 := by omega
      subst this
      have HG3 := Lib.hid hg3
      have HC3 := Lib.hid hcs3
      have HP3 := Lib.hid hpre
      clear hg3 hcs3 hpre
      go_wp2
      go_ret
      refine ⟨rfl, ?_, hb3⟩
      rw [HG3.out]
      have he : cu = F.toArray := ?_
      · rw [he, HFE.out]
      apply Array.ext_getElem?
      intro q
      rw [show F.toArray[q]? = F[q]? from List.getElem?_toArray]
      rcases Nat.lt_or_ge q ((n + 80) * 7) with h | h
      · exact HP3.out q h
      · rw [Array.getElem?_eq_none (by rw [HC3.out]; exact h), List.getElem?_eq_none (by rw [HF.out]; exact h)]
set_option maxHeartbeats 800000 in
set_option maxRecDepth 100000 in
theorem roomy_rsl (p : Option Addr) (n c : Nat) (xs : List Rsl) (mk : Rsl) (w : World) (h1 : xs.length = n) (hn : n ≤ 70000) (ha : Arr w p 4 (xs.map Rsl.cells)) :
    Calls Tryz.prog 8 #[.slice p n c, .agg #[.int .i64 mk.why, .int .u64 mk.v, .int .u64 mk.at_, .int .u64 mk.cl]] w fun e w' => e = .returned (.slice (some ⟨w.heap.size + 1, 0, none⟩) (n + 80) (n + 80)) ∧ w'.heap[w.heap.size + 1]? = some (.cells (xs.map Rsl.cells ++ List.replicate 80 mk.cells).flatten.toArray 32 (0, 0)) ∧ Below w.heap.size w w' := by
  have HA := Lib.hid ha
  have H1 := Lib.hid h1
  clear ha h1
  obtain ⟨i0, hi, hz0, hz1, hz2⟩ := info_parts info32
  go_enter Tryz.func8, Tryz.ntmps8
  have HLL := Lib.hid (show (xs.map Rsl.cells).length = n by rw [List.length_map]; exact H1.out)
  go_wp2_with (first
    | (refine wpList_make_full _ rfl (.tmp 9) (.tmp 9) 23 rfl w.heap.size 32 i0 _ 4 Tryz.underlying23 hi hz0 hz1 .i64 .i64 ((n : Int) + 80) ((n : Int) + 80) (n + 80) rfl rfl (by omega) (by omega) (by rw [hz2]; omega) (by simp [maxLen]; omega) (by simp) ?_; intro w1 hown hgrow; obtain ⟨cur, hg, hcs, hb1, hbox⟩ := made_row (by simp) hown hgrow; have HG := Lib.hid hg; have HS := Lib.hid hcs; have HB := Lib.hid hb1; have HX := Lib.hid hbox; clear hown hgrow hg hcs hb1 hbox)
    | (refine wpList_copy_struct rfl (.tmp 11) (.tmp 12) 23 23 rfl 32 Tryz.underlying23 4 info32s (w.heap.size + 1) (n + 80) (n + 80) p n c (by first | rfl | simp) (by rfl) (by omega) cur 32 HG.out (xs.map Rsl.cells) (rsl_lens xs) HLL.out (HA.out.below HB.out) (by rw [HS.out]; omega) (rsl_one xs) ?_; intro w2 hg2 hb2; have HG2 := Lib.hid hg2; have HB2 := Lib.hid hb2; clear hg2 hb2))
  have hF : (xs.map Rsl.cells ++ List.replicate 80 mk.cells).flatten.length = (n + 80) * 4 := by
    rw [flat_len _ 4 (by intro l h; rcases List.mem_append.1 h with q | q; exact rsl_lens xs l q; rw [(List.mem_replicate.1 q).2]; rfl), List.length_append, HLL.out, List.length_replicate]
  have HF := Lib.hid hF
  have HFL : Hid (∀ l ∈ xs.map Rsl.cells ++ List.replicate 80 mk.cells, l.length = 4) := Lib.hid (by intro l h; rcases List.mem_append.1 h with q | q; exact rsl_lens xs l q; rw [(List.mem_replicate.1 q).2]; rfl)
  clear hF
  generalize hFe : (xs.map Rsl.cells ++ List.replicate 80 mk.cells).flatten = F at *
  have HFE := Lib.hid hFe
  clear hFe
  go_loopw [6] (fun v wr => ∃ (i : Nat) (cu : Array Value), n ≤ i ∧ i ≤ n + 80 ∧ v = .int .i64 i ∧ wr.heap[w.heap.size + 1]? = some (.cells cu 32 (0, 0)) ∧ cu.size = (n + 80) * 4 ∧ (∀ q, q < i * 4 → cu[q]? = F[q]?) ∧ Below w.heap.size w wr ∧ wr.heap[w.heap.size]? = some (.cells #[.int .i64 mk.why, .int .u64 mk.v, .int .u64 mk.at_, .int .u64 mk.cl] 32)) (fun v _ => n + 80 - (intOf v).toNat)
  case atStart =>
    refine ⟨n, _, Nat.le_refl _, by omega, rfl, HG2.out, ?_, ?_, HB.out.trans (HB2.out _ (by omega)), (((HB2.out (w.heap.size + 1) (by omega)).block _ (by omega)).trans HX.out)⟩
    · have h1 := flat_len _ 4 (rsl_lens xs)
      rw [HLL.out] at h1
      have h2 := HS.out
      simp only [List.size_toArray, List.length_append, List.length_drop, Array.length_toList, h1]
      omega
    · intro q hq
      have h1 := flat_len _ 4 (rsl_lens xs)
      rw [HLL.out] at h1
      rw [List.getElem?_toArray, List.getElem?_append_left (by omega), ← HFE.out, List.flatten_append, List.getElem?_append_left (by omega)]
  case round =>
    obtain ⟨i, cu, hi1, hi2, rfl, hg3, hcs3, hpre, hb3, hbox3⟩ := hrel
    clear HG HS HB HX HG2 HB2
    by_cases hlt : i < n + 80
    · have HP3 := Lib.hid hpre
      have hcx : ∀ r, r < 4 → ∃ v, wr.cell? ⟨w.heap.size + 1, i * 4 + r, none⟩ = some v := fun r hr => ⟨_, cell_in hg3 (Array.getElem?_eq_getElem (show i * 4 + r < cu.size by rw [hcs3]; omega))⟩
      obtain ⟨v0, e0⟩ := hcx 0 (by omega)
      obtain ⟨v1, e1⟩ := hcx 1 (by omega)
      obtain ⟨v2, e2⟩ := hcx 2 (by omega)
      obtain ⟨v3, e3⟩ := hcx 3 (by omega)
      replace e0 : wr.cell? ⟨w.heap.size + 1, i * 4, none⟩ = some v0 := e0
      have hfr : ∀ o, wr.frozen? ⟨w.heap.size + 1, o, none⟩ = false := fun o => by simp [World.frozen?, hg3]
      have m0 := cell_in hbox3 (j := 0) rfl
      have m1 := cell_in hbox3 (j := 1) rfl
      have m2 := cell_in hbox3 (j := 2) rfl
      have m3 := cell_in hbox3 (j := 3) rfl
      have HG3 := Lib.hid hg3
      have HC3 := Lib.hid hcs3
      have HBX := Lib.hid hbox3
      clear hg3 hcs3 hbox3 hpre hcx
      go_wp2
      go_roundw
      case rel =>
        obtain ⟨cu', g1, g2, g3, g4⟩ := set4 (o := i * 4) HG3.out (by rw [HC3.out]; omega) mk.cells rfl _ _ _ _ rfl
        refine ⟨i + 1, cu', by omega, by omega, by go_num, g1, g2.trans HC3.out, fun q hq => ?_, below_set4 hb3 (by omega) _ _ _ _, ?_⟩
        · rcases Nat.lt_or_ge q (i * 4) with h | h
          · rw [g3 q h, HP3.out q h]
          · obtain ⟨r, rfl⟩ : ∃ r, q = i * 4 + r := ⟨q - i * 4, by omega⟩
            rw [g4 r (by omega), ← HFE.out, flat_get _ 4 HFL.out i r (by omega), List.getElem?_append_right (by have := HLL.out; omega), HLL.out, List.getElem?_replicate, if_pos (by omega)]
            rfl
        · exact (below_set4 (Below.refl (w.heap.size + 1) wr) (Nat.le_refl _) _ _ _ _).block _ (by omega) |>.trans HBX.out
      case measure => simp [intOf]; omega
    · have : i = n + 80 := by omega
      subst this
      have HG3 := Lib.hid hg3
      have HC3 := Lib.hid hcs3
      have HP3 := Lib.hid hpre
      clear hg3 hcs3 hpre
      go_wp2
      go_ret
      refine ⟨rfl, ?_, hb3⟩
      rw [HG3.out]
      have he : cu = F.toArray := ?_
      · rw [he, HFE.out]
      apply Array.ext_getElem?
      intro q
      rw [show F.toArray[q]? = F[q]? from List.getElem?_toArray]
      rcases Nat.lt_or_ge q ((n + 80) * 4) with h | h
      · exact HP3.out q h
      · rw [Array.getElem?_eq_none (by rw [HC3.out]; exact h), List.getElem?_eq_none (by rw [HF.out]; exact h)]
end Ae
namespace Ae
open Go Go.Proofs Go.RowKit
theorem Lies.left {w : World} {b off sz : Nat} {l m : List (List Value)} (h : Lies w b off sz (l ++ m)) : Lies w b off sz l := fun j x hj q u hq => h j x (by rw [List.getElem?_append_left (by rcases Nat.lt_or_ge j l.length with h | h; exact h; rw [List.getElem?_eq_none h] at hj; cases hj)]; exact hj) q u hq
theorem Arr.left {w : World} {p : Option Addr} {sz : Nat} {l m : List (List Value)} (h : Arr w p sz (l ++ m)) : Arr w p sz l := fun h0 => by
  obtain ⟨b, off, e, hb, hl⟩ := h (by rw [List.length_append]; omega)
  exact ⟨b, off, e, hb, hl.left⟩
set_option maxHeartbeats 800000 in
set_option maxRecDepth 100000 in
theorem intact_stp (g : Nat) (p : Option Addr) (n c : Nat) (xs : List Stp) (mk : Stp) (w : World) (h1 : xs.length = n) (hn : n ≤ 70000) (hgl : g < w.heap.size) (hf : Lies w g 0 7 (xs.map Stp.cells ++ List.replicate 80 mk.cells)) (ha : Arr w p 7 (xs.map Stp.cells)) :
    Calls Tryz.prog 12 #[.slice (some ⟨g, 0, none⟩) (n + 80) (n + 80), .slice p n c, .agg #[.int .i64 mk.k, .int .i64 mk.s, .int .i64 mk.n, .int .i64 mk.a, .int .u64 mk.at_, .int .i64 mk.wd, .int .u64 mk.v]] w fun e w' => e = .returned (.bool true) ∧ Below w.heap.size w w' := by
  have hba : Below w.heap.size w (w.alloc (.cells #[.int .i64 mk.k, .int .i64 mk.s, .int .i64 mk.n, .int .i64 mk.a, .int .u64 mk.at_, .int .i64 mk.wd, .int .u64 mk.v] 28)) := (Below.refl _ _).alloc (Nat.le_refl _) _
  have HS := Lib.hid (same_stp (some ⟨g, 0, none⟩) p n (n + 80) n c xs xs (w.alloc (.cells #[.int .i64 mk.k, .int .i64 mk.s, .int .i64 mk.n, .int .i64 mk.a, .int .u64 mk.at_, .int .i64 mk.wd, .int .u64 mk.v] 28)) h1 h1 (by omega) (Arr.left (m := List.replicate 80 mk.cells) (fun _ => ⟨g, 0, rfl, by simp; omega, hf.below hba hgl⟩)) (ha.below hba))
  have HF := Lib.hid hf
  have hbx : (w.alloc (.cells #[.int .i64 mk.k, .int .i64 mk.s, .int .i64 mk.n, .int .i64 mk.a, .int .u64 mk.at_, .int .i64 mk.wd, .int .u64 mk.v] 28)).heap[w.heap.size]? = some (.cells #[.int .i64 mk.k, .int .i64 mk.s, .int .i64 mk.n, .int .i64 mk.a, .int .u64 mk.at_, .int .i64 mk.wd, .int .u64 mk.v] 28) := heap_alloc_new _ _
  have HX := Lib.hid hbx
  have H1 := Lib.hid h1
  clear hf ha h1 hbx
  go_enter Tryz.func12, Tryz.ntmps12
  go_wp2_with (go_at_call 15; refine HS.out.mono ?_; rintro e w' ⟨⟨f, rfl, hf⟩, z, rfl⟩; obtain rfl : f = true := hf.2 rfl; clear hf)
  go_loopw [7] (fun v wr => ∃ i : Nat, n ≤ i ∧ i ≤ n + 80 ∧ v = .int .i64 i ∧ ∃ z, wr = (w.alloc (.cells #[.int .i64 mk.k, .int .i64 mk.s, .int .i64 mk.n, .int .i64 mk.a, .int .u64 mk.at_, .int .i64 mk.wd, .int .u64 mk.v] 28)).drewN z) (fun v _ => n + 80 - (intOf v).toNat)
  case atStart => exact ⟨n, Nat.le_refl _, by omega, rfl, z, rfl⟩
  case round =>
    obtain ⟨i, hi1, hi2, rfl, z, rfl⟩ := hrel
    by_cases hlt : i < n + 80
    · have hl := HF.out i mk.cells (by rw [List.getElem?_append_right (by rw [List.length_map]; have := H1.out; omega), List.length_map, H1.out, List.getElem?_replicate, if_pos (by omega)])
      have c0 : w.cell? ⟨g, i * 7, none⟩ = some (.int .i64 mk.k) := by have := hl 0 _ rfl; rwa [Nat.zero_add, Nat.add_zero] at this
      have c1 : w.cell? ⟨g, i * 7 + 1, none⟩ = some (.int .i64 mk.s) := by have := hl 1 _ rfl; rwa [Nat.zero_add] at this
      have c2 : w.cell? ⟨g, i * 7 + 2, none⟩ = some (.int .i64 mk.n) := by have := hl 2 _ rfl; rwa [Nat.zero_add] at this
      have c3 : w.cell? ⟨g, i * 7 + 3, none⟩ = some (.int .i64 mk.a) := by have := hl 3 _ rfl; rwa [Nat.zero_add] at this
      have c4 : w.cell? ⟨g, i * 7 + 4, none⟩ = some (.int .u64 mk.at_) := by have := hl 4 _ rfl; rwa [Nat.zero_add] at this
      have c5 : w.cell? ⟨g, i * 7 + 5, none⟩ = some (.int .i64 mk.wd) := by have := hl 5 _ rfl; rwa [Nat.zero_add] at this
      have c6 : w.cell? ⟨g, i * 7 + 6, none⟩ = some (.int .u64 mk.v) := by have := hl 6 _ rfl; rwa [Nat.zero_add] at this
      have hgd : ∀ (w : World) (a b : Operand) (u v : Array Value), (eqGuard .neq 28 a b (.agg u) (.agg v)).run Tryz.prog w = .ok () w := fun w a b u v => run_eqGuard_agg w _ _ _ _ _ _ guard28
      have hr : ∀ w : World, (binOp .neq 28 (.agg #[.int .i64 mk.k, .int .i64 mk.s, .int .i64 mk.n, .int .i64 mk.a, .int .u64 mk.at_, .int .i64 mk.wd, .int .u64 mk.v]) (.agg #[.int .i64 mk.k, .int .i64 mk.s, .int .i64 mk.n, .int .i64 mk.a, .int .u64 mk.at_, .int .i64 mk.wd, .int .u64 mk.v])).run Tryz.prog w = .ok (.bool false) w := fun w => by
        have := neq_stp mk mk w
        rw [(stpEq_iff mk mk).2 rfl] at this; exact this
      have hk1 : (i : Int) < (n : Int) + 80 := by omega
      have hk0 : (0 : Int) ≤ (i : Int) := by omega
      clear hl
      go_wp2
      go_quiet (fail)
      go_wp2
      go_roundw
      case rel => exact ⟨i + 1, by omega, by omega, by go_num, _, rfl⟩
      case measure => simp [intOf]; omega
    · have : i = n + 80 := by omega
      subst this
      go_wp2
      go_ret
      exact ⟨rfl, below_drewN hba z⟩
set_option maxHeartbeats 800000 in
set_option maxRecDepth 100000 in
theorem intact_rsl (g : Nat) (p : Option Addr) (n c : Nat) (xs : List Rsl) (mk : Rsl) (w : World) (h1 : xs.length = n) (hn : n ≤ 70000) (hgl : g < w.heap.size) (hf : Lies w g 0 4 (xs.map Rsl.cells ++ List.replicate 80 mk.cells)) (ha : Arr w p 4 (xs.map Rsl.cells)) :
    Calls Tryz.prog 13 #[.slice (some ⟨g, 0, none⟩) (n + 80) (n + 80), .slice p n c, .agg #[.int .i64 mk.why, .int .u64 mk.v, .int .u64 mk.at_, .int .u64 mk.cl]] w fun e w' => e = .returned (.bool true) ∧ Below w.heap.size w w' := by
  have hba : Below w.heap.size w (w.alloc (.cells #[.int .i64 mk.why, .int .u64 mk.v, .int .u64 mk.at_, .int .u64 mk.cl] 32)) := (Below.refl _ _).alloc (Nat.le_refl _) _
  have HS := Lib.hid (same_rsl (some ⟨g, 0, none⟩) p n (n + 80) n c xs xs (w.alloc (.cells #[.int .i64 mk.why, .int .u64 mk.v, .int .u64 mk.at_, .int .u64 mk.cl] 32)) h1 h1 (by omega) (Arr.left (m := List.replicate 80 mk.cells) (fun _ => ⟨g, 0, rfl, by simp; omega, hf.below hba hgl⟩)) (ha.below hba))
  have HF := Lib.hid hf
  have hbx : (w.alloc (.cells #[.int .i64 mk.why, .int .u64 mk.v, .int .u64 mk.at_, .int .u64 mk.cl] 32)).heap[w.heap.size]? = some (.cells #[.int .i64 mk.why, .int .u64 mk.v, .int .u64 mk.at_, .int .u64 mk.cl] 32) := heap_alloc_new _ _
  have HX := Lib.hid hbx
  have H1 := Lib.hid h1
  clear hf ha h1 hbx
  go_enter Tryz.func13, Tryz.ntmps13
  go_wp2_with (go_at_call 16; refine HS.out.mono ?_; rintro e w' ⟨⟨f, rfl, hf⟩, z, rfl⟩; obtain rfl : f = true := hf.2 rfl; clear hf)
  go_loopw [7] (fun v wr => ∃ i : Nat, n ≤ i ∧ i ≤ n + 80 ∧ v = .int .i64 i ∧ ∃ z, wr = (w.alloc (.cells #[.int .i64 mk.why, .int .u64 mk.v, .int .u64 mk.at_, .int .u64 mk.cl] 32)).drewN z) (fun v _ => n + 80 - (intOf v).toNat)
  case atStart => exact ⟨n, Nat.le_refl _, by omega, rfl, z, rfl⟩
  case round =>
    obtain ⟨i, hi1, hi2, rfl, z, rfl⟩ := hrel
    by_cases hlt : i < n + 80
    · have hl := HF.out i mk.cells (by rw [List.getElem?_append_right (by rw [List.length_map]; have := H1.out; omega), List.length_map, H1.out, List.getElem?_replicate, if_pos (by omega)])
      have c0 : w.cell? ⟨g, i * 4, none⟩ = some (.int .i64 mk.why) := by have := hl 0 _ rfl; rwa [Nat.zero_add, Nat.add_zero] at this
      have c1 : w.cell? ⟨g, i * 4 + 1, none⟩ = some (.int .u64 mk.v) := by have := hl 1 _ rfl; rwa [Nat.zero_add] at this
      have c2 : w.cell? ⟨g, i * 4 + 2, none⟩ = some (.int .u64 mk.at_) := by have := hl 2 _ rfl; rwa [Nat.zero_add] at this
      have c3 : w.cell? ⟨g, i * 4 + 3, none⟩ = some (.int .u64 mk.cl) := by have := hl 3 _ rfl; rwa [Nat.zero_add] at this
      have hgd : ∀ (w : World) (a b : Operand) (u v : Array Value), (eqGuard .neq 32 a b (.agg u) (.agg v)).run Tryz.prog w = .ok () w := fun w a b u v => run_eqGuard_agg w _ _ _ _ _ _ guard32
      have hr : ∀ w : World, (binOp .neq 32 (.agg #[.int .i64 mk.why, .int .u64 mk.v, .int .u64 mk.at_, .int .u64 mk.cl]) (.agg #[.int .i64 mk.why, .int .u64 mk.v, .int .u64 mk.at_, .int .u64 mk.cl])).run Tryz.prog w = .ok (.bool false) w := fun w => by
        have := neq_rsl mk mk w
        rw [(rslEq_iff mk mk).2 rfl] at this; exact this
      have hk1 : (i : Int) < (n : Int) + 80 := by omega
      have hk0 : (0 : Int) ≤ (i : Int) := by omega
      clear hl
      go_wp2
      go_quiet (fail)
      go_wp2
      go_roundw
      case rel => exact ⟨i + 1, by omega, by omega, by go_num, _, rfl⟩
      case measure => simp [intOf]; omega
    · have : i = n + 80 := by omega
      subst this
      go_wp2
      go_ret
      exact ⟨rfl, below_drewN hba z⟩
end Ae
namespace Ae
open Go Go.Proofs Go.RowKit
def bst (r : Nat) : Nat := (r / 2) ^^^ (if r % 2 = 1 then 2197175160 else 0)
theorem bst_lin (a b : Nat) : bst (a ^^^ b) = bst a ^^^ bst b := by
  unfold bst
  have h1 : (a ^^^ b) / 2 = a / 2 ^^^ b / 2 := Nat.xor_div_two
  have h2 : (a ^^^ b) % 2 = 1 ↔ ¬ (a % 2 = 1 ↔ b % 2 = 1) := by
    have := Nat.xor_mod_two_eq_one (a := a) (b := b)
    rw [this]
  rw [h1]
  by_cases ha : a % 2 = 1 <;> by_cases hb : b % 2 = 1
  · rw [if_neg (by rw [h2]; simp [ha, hb]), if_pos ha, if_pos hb]
    rw [show a / 2 ^^^ 2197175160 ^^^ (b / 2 ^^^ 2197175160) = (a/2 ^^^ b/2) ^^^ (2197175160 ^^^ 2197175160) by ac_rfl, Nat.xor_self]
  · rw [if_pos (by rw [h2]; simp [ha, hb]), if_pos ha, if_neg hb]
    simp only [Nat.xor_zero]; ac_rfl
  · rw [if_pos (by rw [h2]; simp [ha, hb]), if_neg ha, if_pos hb]
    simp only [Nat.xor_zero]; ac_rfl
  · rw [if_neg (by rw [h2]; simp [ha, hb]), if_neg ha, if_neg hb]
    simp only [Nat.xor_zero]
theorem bst_even (q : Nat) : bst (2 * q) = q := by
  unfold bst
  rw [if_neg (by omega), Nat.xor_zero]; omega
def b4 (r : Nat) : Nat := bst (bst (bst (bst r)))
theorem b4_lin (a b : Nat) : b4 (a ^^^ b) = b4 a ^^^ b4 b := by
  unfold b4; rw [bst_lin, bst_lin, bst_lin, bst_lin]
theorem b4_16 (q : Nat) : b4 (16 * q) = q := by
  unfold b4
  rw [show 16 * q = 2 * (2 * (2 * (2 * q))) by omega, bst_even, bst_even, bst_even, bst_even]
theorem split16 (r : Nat) : r = (16 * (r / 16)) ^^^ (r % 16) := by
  have : 16 * (r / 16) ^^^ r % 16 = 16 * (r / 16) + r % 16 := by
    have h := Nat.two_pow_add_eq_or_of_lt (i := 4) (b := r % 16) (by simpa using Nat.mod_lt r (by decide : 0 < 16)) (r / 16)
    rw [show (2:Nat) ^ 4 = 16 from rfl] at h
    rw [h]
    apply Nat.eq_of_testBit_eq
    intro i
    rw [Nat.testBit_xor, Nat.testBit_or]
    rcases Nat.lt_or_ge i 4 with hi | hi
    · have : (16 * (r / 16)).testBit i = false := by
        rw [show 16 * (r/16) = 2 ^ 4 * (r / 16) from rfl, Nat.testBit_two_pow_mul]
        simp; omega
      rw [this]; simp
    · have : (r % 16).testBit i = false := by
        rw [show (16:Nat) = 2 ^ 4 from rfl, Nat.testBit_mod_two_pow]; simp; omega
      rw [this]; simp
  rw [this]; omega
theorem b4_small : ∀ m, m < 16 → b4 m = tabN m := by decide
theorem b4_eq (r : Nat) : b4 r = (r / 16) ^^^ tabN (r &&& 15) := by
  rw [show (15 : Nat) = 2 ^ 4 - 1 from rfl, Nat.and_two_pow_sub_one_eq_mod, show (2:Nat)^4 = 16 from rfl]
  conv => lhs; rw [split16 r, b4_lin, b4_16, b4_small _ (Nat.mod_lt _ (by decide))]
theorem crcB_bits (r z : Nat) : crcB r z = b4 (b4 (r ^^^ z)) := by
  unfold crcB
  rw [b4_eq (r ^^^ z), b4_eq]
theorem bst_lt {a : Nat} (ha : a < 4294967296) : bst a < 4294967296 := by
  unfold bst
  refine Nat.xor_lt_two_pow (n := 32) (by omega) ?_
  split <;> decide
end Ae
namespace Ae
open Go Go.Proofs Go.RowKit
def bstN (x : Nat) : Nat → Nat
  | 0 => x
  | j + 1 => bst (bstN x j)
theorem bstN_lt {x : Nat} (h : x < 4294967296) : ∀ j, bstN x j < 4294967296
  | 0 => h
  | j + 1 => bst_lt (bstN_lt h j)
theorem bstN8 (r z : Nat) : bstN (r ^^^ z) 8 = crcB r z := by rw [crcB_bits]; rfl
theorem bst_nums {y : Nat} (hy : y < 4294967296) : ∃ a q : Nat, bits .and .u32 (y : Int) 1 = (a : Int) ∧ (y : Int) / 2 = (q : Int) ∧ q < 4294967296 ∧ ((a = 0 ∧ bst y = q) ∨ (a = 1 ∧ bits .xor .u32 (q : Int) 2197175160 = ((bst y : Nat) : Int))) := by
  refine ⟨y &&& 1, y / 2, and_u32 y 1 hy (by decide), by omega, by omega, ?_⟩
  have e : y &&& 1 = y % 2 := by rw [show (1 : Nat) = 2 ^ 1 - 1 from rfl, Nat.and_two_pow_sub_one_eq_mod]
  rw [e]
  rcases Nat.mod_two_eq_zero_or_one y with h | h
  · exact .inl ⟨h, by unfold bst; rw [if_neg (by omega), Nat.xor_zero]⟩
  · exact .inr ⟨h, by unfold bst; rw [if_pos h]; exact xor_u32 _ _ (by omega) (by decide)⟩
set_option maxHeartbeats 1600000 in
theorem refmore_any (p : Option Addr) (len cap : Nat) (zs : List Nat) (w : World) (hlen : zs.length = len) (hbig : len < 9223372036854775807) (hz : ∀ j : Nat, zs[j]?.getD 0 < 256) (ha : ArrB w p zs) :
    Calls Tryz.prog 107 #[.int .u32 0, .slice p len cap] w fun e w' => e = .returned (.int .u32 (4294967295 ^^^ crcN zs 4294967295 len : Nat)) ∧ w = w' := by
  have h0 : bits .xor .u32 0 4294967295 = ((4294967295 : Nat) : Int) := by decide
  have HL := Lib.hid hlen
  have HZ := Lib.hid hz
  have HA := Lib.hid ha
  have HR : Hid (∀ k, crcN zs 4294967295 k < 4294967296) := Lib.hid (crcN_lt hz (by decide))
  clear hlen hz ha
  go_enter Tryz.func107, Tryz.ntmps107
  go_wp2
  clear h0
  go_loop [5, 6] (fun r i => ∃ k : Nat, k ≤ len ∧ i = .int .i64 k ∧ r = .int .u32 (crcN zs 4294967295 k : Nat)) (fun _ i => len - (intOf i).toNat)
  case atStart => exact ⟨0, Nat.zero_le _, rfl, rfl⟩
  case round =>
    obtain ⟨k, hk, rfl, rfl⟩ := hrel
    by_cases hlt : k < len
    · obtain ⟨b, off, rfl, hb0, hc⟩ := HA.out (by have := HL.out; omega)
      have g := hc k (by have := HL.out; omega)
      have hsn : crcN zs 4294967295 (k + 1) = bstN (crcN zs 4294967295 k ^^^ zs[k]'(by have := HL.out; omega)) 8 := by
        rw [bstN8, crcN, List.getElem?_eq_getElem (by have := HL.out; omega)]; rfl
      have hr := HR.out k
      have hzk := HZ.out k
      rw [List.getElem?_eq_getElem (by have := HL.out; omega)] at hzk
      simp only [Option.getD_some] at hzk
      generalize zs[k]'(by have := HL.out; omega) = z at *
      generalize crcN zs 4294967295 k = r at *
      have HSN := Lib.hid hsn
      clear hc hsn
      have hx := xor_u32 r z hr (by omega)
      have hx2 := Nat.xor_lt_two_pow (n := 32) (x := r) (y := z) hr (by omega)
      have hzz : ((z : Nat) : Int) % 4294967296 = z := by omega
      generalize r ^^^ z = x at *
      go_wp2
      clear hx hzz g
      go_loop [5, 7] (fun r i => ∃ j : Nat, j ≤ 8 ∧ i = .int .i64 j ∧ r = .int .u32 (bstN x j : Nat)) (fun _ i => 8 - (intOf i).toNat)
      case atStart => exact ⟨0, by omega, rfl, rfl⟩
      case round =>
        obtain ⟨j, hj, rfl, rfl⟩ := hrel
        by_cases hj8 : j < 8
        · have hy := bstN_lt hx2 j
          have hsj : bstN x (j + 1) = bst (bstN x j) := rfl
          generalize bstN x j = y at *
          obtain ⟨a, q, n1, n2, n3, n4⟩ := bst_nums hy
          have HSJ := Lib.hid hsj
          clear hsj
          rcases n4 with ⟨rfl, n4⟩ | ⟨rfl, n4⟩
          · have HN := Lib.hid n4
            clear n4
            go_wp2
            go_round
            case rel => exact ⟨j + 1, by omega, by go_num, by rw [HSJ.out, HN.out]⟩
            case measure => simp [intOf]; omega
          · go_wp2
            go_round
            case rel => exact ⟨j + 1, by omega, by go_num, by rw [HSJ.out]⟩
            case measure => simp [intOf]; omega
        · have : j = 8 := by omega
          subst this
          go_wp2
          go_round
          case rel => exact ⟨k + 1, by omega, by go_num, by rw [HSN.out]⟩
          case measure => simp [intOf]; omega
    · have : k = len := by omega
      subst this
      have hx := xor_u32 (crcN zs 4294967295 k) 4294967295 (HR.out k) (by decide)
      have hx' : bits .xor .u32 ((crcN zs 4294967295 k : Nat) : Int) 4294967295 = ((crcN zs 4294967295 k ^^^ 4294967295 : Nat) : Int) := hx
      clear hx
      go_wp2
      go_ret
      exact ⟨ret_int (by rw [Nat.xor_comm]), rfl⟩
theorem refcrc39 (p : Option Addr) (len cap : Nat) (zs : List Nat) (w : World) (hlen : zs.length = len) (hbig : len < 9223372036854775807) (hz : ∀ x ∈ zs, x < 256) (ha : ArrB w p zs) :
    Calls Tryz.prog 66 #[.slice p len cap] w fun e w' => e = .returned (.int .u32 (crcOf zs : Nat)) ∧ w = w' := by
  have hz' : ∀ j : Nat, zs[j]?.getD 0 < 256 := fun j => by
    rcases Nat.lt_or_ge j zs.length with q | q
    · rw [List.getElem?_eq_getElem q]; exact hz _ (List.getElem_mem _)
    · rw [List.getElem?_eq_none q]; decide
  have H : Hid (Calls Tryz.prog 107 #[.int .u32 0, .slice p len cap] w fun e w' => e = .returned (.int .u32 (crcOf zs : Nat)) ∧ w = w') := Lib.hid (by
    refine (refmore_any p len cap zs w hlen hbig hz' ha).mono ?_
    rintro e w' ⟨rfl, rfl⟩
    exact ⟨by rw [crcOf, hlen], rfl⟩)
  clear hz hz' hlen ha
  go_enter Tryz.func66, Tryz.ntmps66
  go_wp2_with fail
  refine H.out.mono ?_
  rintro e w' ⟨rfl, rfl⟩
  go_wp2
  go_ret
  exact ⟨rfl, rfl⟩
theorem refcrc_any (p : Option Addr) (len cap : Nat) (zs : List Nat) (w : World) (hlen : zs.length = len) (hbig : len < 9223372036854775807) (hz : ∀ x ∈ zs, x < 256) (ha : ArrB w p zs) :
    Calls Tryz.prog 42 #[.slice p len cap] w fun e w' => e = .returned (.int .u32 (crcOf zs : Nat)) ∧ w = w' := by
  have H := Lib.hid (refcrc39 p len cap zs w hlen hbig hz ha)
  clear hz hlen ha
  go_enter Tryz.func42, Tryz.ntmps42
  go_wp2_with fail
  refine H.out.mono ?_
  rintro e w' ⟨rfl, rfl⟩
  go_wp2
  go_ret
  exact ⟨rfl, rfl⟩
theorem reffits_any (z : Int) (w : World) {f : Bool} (h : fitsB z = f) : Calls Tryz.prog 41 #[.int .i64 z] w fun e w' => e = .returned (.bool f) ∧ w = w' := by
  subst h
  by_cases h1 : -2147483648 ≤ z
  · by_cases h2 : z < 2147483648
    · have hf : fitsB z = true := by unfold fitsB; simp [h1, h2]
      have HF := Lib.hid hf
      clear hf
      go_enter Tryz.func41, Tryz.ntmps41
      go_wp2
      go_ret
      exact ⟨ret_bool (by rw [HF.out]), rfl⟩
    · have hf : fitsB z = false := by unfold fitsB; simp [h2]
      have HF := Lib.hid hf
      clear hf
      go_enter Tryz.func41, Tryz.ntmps41
      go_wp2
      go_ret
      exact ⟨ret_bool (by rw [HF.out]), rfl⟩
  · have hf : fitsB z = false := by unfold fitsB; simp [h1]
    have HF := Lib.hid hf
    clear hf
    go_enter Tryz.func41, Tryz.ntmps41
    go_wp2
    go_ret
    exact ⟨ret_bool (by rw [HF.out]), rfl⟩
end Ae
namespace Ae
open Go Go.Proofs Go.RowKit
theorem reffits_o (z : Int) (w : World) : Calls Tryz.prog 41 #[.int .i64 z] w fun e w' => e = .returned (.bool (fitsB z)) ∧ w = w' := reffits_any z w rfl
set_option maxHeartbeats 1600000 in
theorem refright_any (p : Option Addr) (len cap : Nat) (ss : List Stp) (w : World) (hlen : ss.length = len) (hbig : len < 9223372036854775807) (hc : Arr w p 7 (ss.map Stp.cells)) :
    Calls Tryz.prog 39 #[.slice p len cap] w fun e w' => e = .returned (.int .i64 (rightN ss)) ∧ Below w.heap.size w w' := by
  have HL := Lib.hid hlen
  clear hlen
  have HC := Lib.hid hc
  clear hc
  go_enter Tryz.func39, Tryz.ntmps39
  by_cases hm : 65536 < len
  · go_wp2
    go_ret
    exact ⟨ret_int (by unfold rightN; rw [if_pos (by have := HL.out; omega)]), Below.refl _ _⟩
  · go_wp2
    go_loopw [3] (fun i wr => ∃ k : Nat, k ≤ len ∧ i = .int .i64 k ∧ Below w.heap.size w wr ∧ (ss.take k).all stpFits = true) (fun i _ => len - (intOf i).toNat)
    case atStart => exact ⟨0, Nat.zero_le _, rfl, Below.refl _ _, rfl⟩
    case round =>
      obtain ⟨k, hk, rfl, hb, hall⟩ := hrel
      have HA := Lib.hid hall
      clear hall
      by_cases hlt : k < len
      · have hk' : k < ss.length := by have := HL.out; omega
        obtain ⟨b, off, rfl, hb0, hlies⟩ := HC.out (by simp; omega)
        obtain ⟨c0, c1, c2, c3, c4, c5, c6⟩ := stp_cells (hlies.below hb hb0) hk'
        have HLI := Lib.hid hlies
        clear hlies
        generalize hxe : ss[k] = x at c0 c1 c2 c3 c4 c5 c6
        have HX := Lib.hid hxe
        clear hxe
        have hbs := hb.size
        have hbn := hb.alloc hbs (.cells #[.int .i64 x.k, .int .i64 x.s, .int .i64 x.n, .int .i64 x.a, .int .u64 x.at_, .int .i64 x.wd, .int .u64 x.v] 28)
        have hno : stpFits x = false → rightN ss = 132 := fun hf => by
          unfold rightN
          rw [if_neg (by have := HL.out; omega), not_all hk' (by rw [HX.out]; exact hf)]; rfl
        have HNO := Lib.hid hno
        clear hno
        cases h1 : fitsB x.k with
        | false =>
          have HF := Lib.hid (HNO.out (by unfold stpFits; rw [h1]; rfl))
          have K1 := h1
          clear h1
          go_wp2_with (go_at_call 41; refine (reffits_o _ _).mono ?_; rintro e w' ⟨rfl, rfl⟩)
          go_ret
          exact ⟨ret_int HF.out.symm, hbn⟩
        | true =>
          have K1 := h1
          clear h1
          cases h1 : fitsB x.s with
          | false =>
            have HF := Lib.hid (HNO.out (by unfold stpFits; rw [h1, Bool.and_false]; rfl))
            have K2 := h1
            clear h1
            go_wp2_with (go_at_call 41; refine (reffits_o _ _).mono ?_; rintro e w' ⟨rfl, rfl⟩)
            go_ret
            exact ⟨ret_int HF.out.symm, hbn⟩
          | true =>
            have K2 := h1
            clear h1
            cases h1 : fitsB x.n with
            | false =>
              have HF := Lib.hid (HNO.out (by unfold stpFits; rw [h1, Bool.and_false]; rfl))
              have K3 := h1
              clear h1
              go_wp2_with (go_at_call 41; refine (reffits_o _ _).mono ?_; rintro e w' ⟨rfl, rfl⟩)
              go_ret
              exact ⟨ret_int HF.out.symm, hbn⟩
            | true =>
              have K3 := h1
              clear h1
              cases h1 : fitsB x.a with
              | false =>
                have HF := Lib.hid (HNO.out (by unfold stpFits; rw [h1, Bool.and_false]; rfl))
                have K4 := h1
                clear h1
                go_wp2_with (go_at_call 41; refine (reffits_o _ _).mono ?_; rintro e w' ⟨rfl, rfl⟩)
                go_ret
                exact ⟨ret_int HF.out.symm, hbn⟩
              | true =>
                have K4 := h1
                clear h1
                cases h1 : fitsB x.wd with
                | false =>
                  have HF := Lib.hid (HNO.out (by unfold stpFits; rw [h1, Bool.and_false]))
                  have K5 := h1
                  clear h1
                  go_wp2_with (go_at_call 41; refine (reffits_o _ _).mono ?_; rintro e w' ⟨rfl, rfl⟩)
                  go_ret
                  exact ⟨ret_int HF.out.symm, hbn⟩
                | true =>
                  have K5 := h1
                  clear h1
                  go_wp2_with (go_at_call 41; refine (reffits_o _ _).mono ?_; rintro e w' ⟨rfl, rfl⟩)
                  go_roundw
                  case rel => exact ⟨k + 1, by omega, by go_num, hbn, by rw [stp_take hk', HA.out, HX.out]; unfold stpFits; rw [K1, K2, K3, K4, K5]; rfl⟩
                  case measure => simp [intOf]; omega
      · have : k = len := by omega
        subst this
        go_wp2
        go_ret
        refine ⟨ret_int ?_, hb⟩
        have := HA.out
        rw [List.take_of_length_le (by have := HL.out; omega)] at this
        unfold rightN
        rw [if_neg (by have := HL.out; omega), this]; rfl
end Ae
namespace Ae
open Go Go.Proofs Go.RowKit
def OB (base : Nat) (w : World) (v : Value) (l : List Nat) : Prop :=
  base ≤ w.heap.size ∧ (w.ownsRow base 5 1 v l.length (bv l) ∨ ∃ g, v = .slice (some ⟨g, 0, none⟩) l.length l.length ∧ ∃ cs fr, w.heap[g]? = some (.cells cs 5 fr) ∧ ∀ (j : Nat) (u : Value), (bv l)[j]? = some u → cs[j]? = some u)
theorem own_mono {w : World} {b b' E sz n : Nat} {v : Value} {xs : List Value} (h : w.ownsRow b E sz v n xs) (hb : b' ≤ b) : w.ownsRow b' E sz v n xs := by
  obtain ⟨h1, h2 | ⟨g, cap, cur, e, hbb, rest⟩⟩ := h
  · exact ⟨h1, .inl h2⟩
  · exact ⟨h1, .inr ⟨g, cap, cur, e, Nat.le_trans hb hbb, rest⟩⟩
theorem wpList_append_ob {w : World} {ops : Array Oper} {rest : List Oper} {o : Oper} {a : Act} {Q : Exit → Act → World → Prop} (hgd : o.guard = none) (s x : Operand)
    (ho : o.op = .call { callee := .builtin .append, args := #[s, x], argTypes := #[33, 33] }) (base : Nat) (v : Value) (l : List Nat) (hs : a.eval s = v) (hob : OB base w v l)
    (ad : Addr) (m c : Nat) (news : List Value) (hx : a.eval x = .slice (some ad) m c) (hl : news.length = m) (hnews : ∀ j u, news[j]? = some u → w.cell? (ad.add j) = some u) (h1 : ∀ u ∈ news, u.oneCell' = true) (hm : 0 < m) (hb : l.length + m ≤ 200000000)
    (h : ∀ v' w', w'.ownsRow base 5 1 v' (l.length + m) (bv l ++ news) → Below base w w' → (∀ a, Kept a w w') → w.heap.size ≤ w'.heap.size → wpList Tryz.prog ops Q rest (a.put o.dst v') w') : wpList Tryz.prog ops Q (o :: rest) a w := by
  obtain ⟨i0, hi, hz0, hz1, hz2⟩ := info_parts info5
  obtain ⟨hbs, hown | ⟨g, rfl, cs, fr, hg, hc⟩⟩ := hob
  · refine wpList_append_own _ hgd s x 33 ho base 5 i0 (.int .u8 0) 1 1 Tryz.underlying33 hi hz0 hz1 hz2 rfl (by omega) v l.length (bv l) hs hown ad m c news hx (by omega) hnews h1 (by simp [maxLen]; omega) (by omega) hbs ?_
    intro v' w' h2 h3 _
    exact h v' w' h2 ((Below.refl base w).grown h3 hbs (fun k hk => (hown.lt k hk).1)) (fun a => Kept.of_grown hown h3) h3.size
  · refine wpList_append_grows _ hgd s x 33 ho 5 i0 (.int .u8 0) 1 1 Tryz.underlying33 hi hz0 hz1 hz2 rfl (by omega) (some ⟨g, 0, none⟩) l.length l.length (bv l) hs (fun q => by cases q) (by rw [bv_length]; omega) (fun b q j u hu => by
        cases q
        rw [add_plain, Nat.zero_add]
        exact cell_in hg (hc j u hu)) ad m c news hx (by omega) hnews h1 (by omega) (by simp [maxLen]; omega) (by omega) ?_
    intro v' w' h2 h3
    exact h v' w' (own_mono h2 hbs) ((Below.refl base w).grown h3 hbs (by rintro _ ⟨⟩)) (fun a k hk _ _ => h3.block k hk (by simp)) h3.size
theorem OB.below {base : Nat} {w w1 : World} {v : Value} {l : List Nat} (h : OB base w v l) (hb : Below w.heap.size w w1) : OB base w1 v l := by
  obtain ⟨hbs, hown | ⟨g, rfl, cs, fr, hg, hc⟩⟩ := h
  · exact ⟨Nat.le_trans hbs hb.size, .inl (own_below hown hb)⟩
  · have lg : g < w.heap.size := by
      rcases Nat.lt_or_ge g w.heap.size with q | q
      · exact q
      · rw [Array.getElem?_eq_none q] at hg; cases hg
    exact ⟨Nat.le_trans hbs hb.size, .inr ⟨g, rfl, cs, fr, (hb.block g lg).trans hg, hc⟩⟩
theorem OB.alloc {base : Nat} {w : World} {v : Value} {l : List Nat} (h : OB base w v l) (o : Obj) : OB base (w.alloc o) v l := h.below ((Below.refl _ _).alloc (Nat.le_refl _) _)
theorem ob_snoc {w : World} {b k : Nat} {v : Value} {l : List Nat} (n p : Nat) {x : Int} (h : w.ownsRow b 5 1 v ((l ++ leS n k).length + 1) (bv (l ++ leS n k) ++ [.int .u8 x])) (hp : 256 ^ k = p) (hx : x = ((n / p % 256 : Nat) : Int)) : w.ownsRow b 5 1 v (l ++ leS n (k + 1)).length (bv (l ++ leS n (k + 1))) := by
  subst hx hp
  have e : bv (l ++ leS n (k + 1)) = bv (l ++ leS n k) ++ [.int .u8 ((n / 256 ^ k % 256 : Nat) : Int)] := by simp [bv, leS]
  rw [e, show (l ++ leS n (k + 1)).length = (l ++ leS n k).length + 1 by simp [leS_length]; omega]
  exact h
set_option maxHeartbeats 3200000 in
set_option maxRecDepth 100000 in
theorem number_any (base n k : Nat) (v : Value) (l : List Nat) (w : World) (hn : n < 18446744073709551616) (hk0 : 0 < k) (hk8 : k ≤ 8) (hl : l.length ≤ 100000000) (h : OB base w v l) :
    Calls Tryz.prog 40 #[v, .int .u64 n, .int .i64 k] w fun e w' => ∃ v', e = .returned v' ∧ w'.ownsRow base 5 1 v' (l ++ leS n k).length (bv (l ++ leS n k)) ∧ Below base w w' ∧ (∀ a, Kept a w w') ∧ w.heap.size ≤ w'.heap.size := by
  have H := Lib.hid h
  clear h
  go_enter Tryz.func40, Tryz.ntmps40
  go_wp2
  go_loopw [0, 7] (fun b i wr => ∃ j : Nat, j ≤ k ∧ i = .int .i64 j ∧ OB base wr b (l ++ leS n j) ∧ (0 < j → wr.ownsRow base 5 1 b (l ++ leS n j).length (bv (l ++ leS n j))) ∧ Below base w wr ∧ (∀ a, Kept a w wr) ∧ w.heap.size ≤ wr.heap.size) (fun _ i _ => 8 - (intOf i).toNat)
  case atStart => exact ⟨0, by omega, rfl, by simpa [leS] using H.out, fun q => by omega, Below.refl _ _, fun a => Kept.refl a _, Nat.le_refl _⟩
  case round =>
    obtain ⟨j, hj, rfl, hob, howns, hbl, hkp, hsz⟩ := hrel
    have HOB := Lib.hid hob
    have HOW := Lib.hid howns
    have HKP := Lib.hid hkp
    clear hob howns hkp H
    by_cases hlt : j < k
    · have hlj : (l ++ leS n j).length = l.length + j := by rw [List.length_append, leS_length]
      have HLJ := Lib.hid hlj
      clear hlj
      have hj8 : j = 0 ∨ j = 1 ∨ j = 2 ∨ j = 3 ∨ j = 4 ∨ j = 5 ∨ j = 6 ∨ j = 7 := by omega
      rcases hj8 with rfl | rfl | rfl | rfl | rfl | rfl | rfl | rfl
      all_goals go_wp2_with (refine wpList_append_ob rfl (.tmp 13) (.tmp 20) rfl base _ _ (by rfl) (HOB.out.alloc _) ⟨wr.heap.size, 0, none⟩ 1 1 _ (by rfl) (by rfl) (World.news_of_block (heap_alloc_new wr _)) (by simp [Value.oneCell']) (by omega) (by have := HLJ.out; omega) ?_; intro v2 w2 hown2 hb2 hk2 hs2)
      all_goals
        have hk3 : ∀ a, Kept a w w2 := fun a => ((HKP.out a).trans (Kept.of_below ((Below.refl wr.heap.size wr).alloc (Nat.le_refl _) _)) hsz).trans (hk2 a) (by simp; omega)
        have hb3 : Below base w w2 := (hbl.trans ((Below.refl base wr).alloc HOB.out.1 _)).trans hb2
        have hs3 : w.heap.size ≤ w2.heap.size := by simp at hs2; omega
        have hbs3 : base ≤ w2.heap.size := by have := HOB.out.1; simp at hs2; omega
        clear hb2 hk2 hs2
        go_roundw
        case rel => first | (have ho := ob_snoc n 1 (k := 0) hown2 (by decide) (by omega); exact ⟨1, by omega, rfl, ⟨hbs3, .inl ho⟩, fun _ => ho, hb3, hk3, hs3⟩) | (have ho := ob_snoc n 256 (k := 1) hown2 (by decide) (by omega); exact ⟨2, by omega, rfl, ⟨hbs3, .inl ho⟩, fun _ => ho, hb3, hk3, hs3⟩) | (have ho := ob_snoc n 65536 (k := 2) hown2 (by decide) (by omega); exact ⟨3, by omega, rfl, ⟨hbs3, .inl ho⟩, fun _ => ho, hb3, hk3, hs3⟩) | (have ho := ob_snoc n 16777216 (k := 3) hown2 (by decide) (by omega); exact ⟨4, by omega, rfl, ⟨hbs3, .inl ho⟩, fun _ => ho, hb3, hk3, hs3⟩) | (have ho := ob_snoc n 4294967296 (k := 4) hown2 (by decide) (by omega); exact ⟨5, by omega, rfl, ⟨hbs3, .inl ho⟩, fun _ => ho, hb3, hk3, hs3⟩) | (have ho := ob_snoc n 1099511627776 (k := 5) hown2 (by decide) (by omega); exact ⟨6, by omega, rfl, ⟨hbs3, .inl ho⟩, fun _ => ho, hb3, hk3, hs3⟩) | (have ho := ob_snoc n 281474976710656 (k := 6) hown2 (by decide) (by omega); exact ⟨7, by omega, rfl, ⟨hbs3, .inl ho⟩, fun _ => ho, hb3, hk3, hs3⟩) | (have ho := ob_snoc n 72057594037927936 (k := 7) hown2 (by decide) (by omega); exact ⟨8, by omega, rfl, ⟨hbs3, .inl ho⟩, fun _ => ho, hb3, hk3, hs3⟩)
        case measure => decide
    · have : j = k := by omega
      subst this
      go_wp2
      go_ret
      exact ⟨_, rfl, HOW.out hk0, hbl, HKP.out, hsz⟩
end Ae
namespace Ae
open Go Go.Proofs Go.RowKit
theorem refenc_A (p p' : Option Addr) (len cap len' cap' : Nat) (ss : List Stp) (rs : List Rsl) (w : World) (h1 : ss.length = len) (h2 : rs.length = len') (hne : len ≠ len') :
    Calls Tryz.prog 10 #[.slice p len cap, .slice p' len' cap'] w (EncPost ss rs w.heap.size w) := by
  have hd : encN ss rs = 180 := by unfold encN; rw [if_pos (by omega)]
  have HD := Lib.hid hd
  have hq : ((len : Int) != (len' : Int)) = true := by simp; omega
  clear hd h1 h2
  go_enter Tryz.func10, Tryz.ntmps10
  go_wp2
  go_ret2
  exact ⟨.slice none 0 0, by rw [HD.out]; rfl, Below.refl _ _, .inl ⟨by rw [HD.out]; decide, rfl⟩⟩
theorem refenc_B (p p' : Option Addr) (len cap cap' : Nat) (ss : List Stp) (rs : List Rsl) (w : World) (h1 : ss.length = len) (h2 : rs.length = len) (hbig : len < 9223372036854775807) (hs : Arr w p 7 (ss.map Stp.cells)) (hne : rightN ss ≠ 0) :
    Calls Tryz.prog 10 #[.slice p len cap, .slice p' len cap'] w (EncPost ss rs w.heap.size w) := by
  have hd : encN ss rs = rightN ss := by unfold encN; rw [if_neg (by omega), if_pos hne]
  have HD := Lib.hid hd
  have HR := Lib.hid (refright_any p len cap ss w h1 hbig hs)
  have HN := Lib.hid hne
  have hq : (rightN ss != 0) = true := by simpa using hne
  have hq2 : ((len : Int) != (len : Int)) = false := by simp
  clear hd h1 h2 hs hne
  go_enter Tryz.func10, Tryz.ntmps10
  go_wp2_with fail
  refine HR.out.mono ?_
  rintro e w1 ⟨rfl, hb1⟩
  go_wp2
  go_ret2
  exact ⟨.slice none 0 0, by rw [HD.out]; rfl, hb1, .inl ⟨by rw [HD.out]; exact HN.out, rfl⟩⟩
theorem leS_mod (n m : Nat) (h : n % 4294967296 = m % 4294967296) : leS n 4 = leS m 4 := by
  simp only [leS, List.nil_append]
  have e0 : n / 256 ^ 0 % 256 = m / 256 ^ 0 % 256 := by simp; omega
  have e1 : n / 256 ^ 1 % 256 = m / 256 ^ 1 % 256 := by simp; omega
  have e2 : n / 256 ^ 2 % 256 = m / 256 ^ 2 % 256 := by simp; omega
  have e3 : n / 256 ^ 3 % 256 = m / 256 ^ 3 % 256 := by simp; omega
  rw [e0, e1, e2, e3]
def u64N (z : Int) : Nat := (z % 18446744073709551616).toNat
theorem u64N_eq (z : Int) : z % 18446744073709551616 = (u64N z : Int) := by unfold u64N; omega
theorem wrapu (z : Int) : IntKind.u64.wrap z = (u64N z : Int) := by
  have : IntKind.u64.wrap z = z % 18446744073709551616 := by simp [IntKind.wrap, IntKind.bits, IntKind.signed]
  rw [this, u64N_eq]
theorem u64N_lt (z : Int) : u64N z < 18446744073709551616 := by unfold u64N; omega
theorem u64N_le (z : Int) : leS (u64N z) 4 = leS (lowN z) 4 := leS_mod _ _ (by unfold u64N lowN; omega)
theorem arrb_own {w : World} {base : Nat} {v : Value} {l : List Nat} {n : Nat} (h : w.ownsRow base 5 1 v n (bv l)) (hn : n = l.length) (h0 : 0 < n) : ∃ p c, v = .slice p n c ∧ ArrB w p l := by
  obtain ⟨g, c, rfl⟩ := own_slice h h0
  refine ⟨some ⟨g, 0, none⟩, c, rfl, fun _ => ⟨g, 0, rfl, (h.lt g rfl).2, fun j hj => ?_⟩⟩
  have := row_at h hn j (by omega)
  rwa [List.getElem?_eq_getElem hj] at this
theorem three (w : World) (A B D : Obj) : (((w.alloc A).alloc B).alloc D).heap[w.heap.size]? = some A ∧ (((w.alloc A).alloc B).alloc D).heap[w.heap.size + 1]? = some B ∧ (((w.alloc A).alloc B).alloc D).heap[w.heap.size + 1 + 1]? = some D ∧
    w.heap.size + 3 = (((w.alloc A).alloc B).alloc D).heap.size ∧ Below w.heap.size w (((w.alloc A).alloc B).alloc D) := by
  have s1 : (w.alloc A).heap.size = w.heap.size + 1 := by simp
  have s2 : ((w.alloc A).alloc B).heap.size = w.heap.size + 1 + 1 := by simp
  refine ⟨?_, ?_, ?_, by simp, ((((Below.refl _ _).alloc (Nat.le_refl _) _).alloc (by simp) _).alloc (by simp; omega) _)⟩
  · rw [Below.heap_alloc _ _ _ (by omega), Below.heap_alloc _ _ _ (by omega)]; exact heap_alloc_new _ _
  · rw [Below.heap_alloc _ _ _ (by omega), ← s1]; exact heap_alloc_new _ _
  · rw [← s2]; exact heap_alloc_new _ _
theorem Kept.get' {k : Nat} {w w' : World} (h : ∀ a, Kept a w w') {cs : Array Value} {t : Nat} {fr : Nat × Nat} (e : w.heap[k]? = some (.cells cs t fr)) (ht : t ≠ 5) : w'.heap[k]? = some (.cells cs t fr) :=
  (h (k + 1)).get e (by omega) ht
set_option maxHeartbeats 4000000 in
set_option maxRecDepth 100000 in
theorem refenc_C (p p' : Option Addr) (len cap cap' : Nat) (ss : List Stp) (rs : List Rsl) (w : World) (h1 : ss.length = len) (h2 : rs.length = len) (hbig : len ≤ 65536) (hs : Arr w p 7 (ss.map Stp.cells)) (hs' : Arr w p' 4 (rs.map Rsl.cells)) (hok : ∀ x ∈ ss, x.ok) (hok' : ∀ x ∈ rs, x.ok) (hne : rightN ss = 0) :
    Calls Tryz.prog 10 #[.slice p len cap, .slice p' len cap'] w (EncPost ss rs w.heap.size w) := by
  have hr := refright_any p len cap ss w h1 (by omega) hs
  rw [hne] at hr
  have HR := Lib.hid hr
  have HS := Lib.hid hs
  have HS' := Lib.hid hs'
  have H1 := Lib.hid h1
  have H2 := Lib.hid h2
  have HO := Lib.hid hok
  have HO' := Lib.hid hok'
  have HN := Lib.hid hne
  have hq2 : ((len : Int) != (len : Int)) = false := by simp
  clear hr h1 h2 hs hs' hok hok' hne
  go_enter Tryz.func10, Tryz.ntmps10
  go_wp2_with fail
  refine HR.out.mono ?_
  rintro e w1 ⟨rfl, hb1⟩
  have hconv := conv_new w1 _ rfl #[.int .u8 98, .int .u8 117, .int .u8 108, .int .u8 107, .int .u8 116, .int .u8 114, .int .u8 99, .int .u8 10] 8 8
  have hob0 : OB w.heap.size (w1.alloc (.cells #[.int .u8 98, .int .u8 117, .int .u8 108, .int .u8 107, .int .u8 116, .int .u8 114, .int .u8 99, .int .u8 10] 5 (8, 9))) (.slice (some ⟨w1.heap.size, 0, none⟩) 8 8) magicL :=
    ⟨by have := hb1.size; simp; omega, .inr ⟨w1.heap.size, rfl, _, _, heap_alloc_new _ _, fun j u hu => by rw [List.getElem?_toArray]; exact hu⟩⟩
  have HOB0 := Lib.hid hob0
  have hb2 : Below w.heap.size w (w1.alloc (.cells #[.int .u8 98, .int .u8 117, .int .u8 108, .int .u8 107, .int .u8 116, .int .u8 114, .int .u8 99, .int .u8 10] 5 (8, 9))) := hb1.alloc hb1.size _
  clear hob0
  go_wp2_with fail
  refine (number_any w.heap.size 1 2 _ magicL _ (by omega) (by omega) (by omega) (by simp [magicL]) HOB0.out).mono ?_
  rintro e w3 ⟨v3, rfl, ho3, hb3, -, hs3⟩
  have HO3 : Hid (OB w.heap.size w3 v3 (magicL ++ leS 1 2)) := Lib.hid ⟨Nat.le_trans HOB0.out.1 hs3, .inl ho3⟩
  clear ho3 hconv
  go_wp2_with fail
  refine (number_any w.heap.size 0 2 _ _ _ (by omega) (by omega) (by omega) (by simp [magicL, leS_length]) HO3.out).mono ?_
  rintro e w4 ⟨v4, rfl, ho4, hb4, -, hs4⟩
  have HO4 : Hid (OB w.heap.size w4 v4 (magicL ++ leS 1 2 ++ leS 0 2)) := Lib.hid ⟨Nat.le_trans HO3.out.1 hs4, .inl ho4⟩
  clear ho4
  have hln : (len : Int) % 18446744073709551616 = len := by omega
  go_wp2_with fail
  refine (number_any w.heap.size len 4 _ _ _ (by omega) (by omega) (by omega) (by simp [magicL, leS_length]) HO4.out).mono ?_
  rintro e w5 ⟨v5, rfl, ho5, hb5, -, hs5⟩
  have hB5 : Below w.heap.size w w5 := ((hb2.trans hb3).trans hb4).trans hb5
  have HB5 := Lib.hid hB5
  have HO5 : Hid (w5.ownsRow w.heap.size 5 1 v5 (hdrL len).length (bv (hdrL len))) := Lib.hid ho5
  clear ho5 hln hb1 hb2 hb3 hb4 hb5 hs3 hs4 hs5 HO3 HO4 HOB0 HR hB5
  go_wp2_with fail
  go_loopw [7, 8] (fun b i wr => ∃ k : Nat, k ≤ len ∧ i = .int .i64 k ∧ wr.ownsRow w.heap.size 5 1 b (hdrL len ++ recsL (ss.take k) (rs.take k)).length (bv (hdrL len ++ recsL (ss.take k) (rs.take k))) ∧ Below w.heap.size w wr ∧ (rs.take k).all rslFits = true) (fun _ i _ => len - (intOf i).toNat)
  case atStart => exact ⟨0, Nat.zero_le _, rfl, by simpa [recsL] using HO5.out, HB5.out, rfl⟩
  case round =>
    clear HO5 HB5
    obtain ⟨k, hk, rfl, ho, hb, hall⟩ := hrel
    have HOW := Lib.hid ho
    have HA := Lib.hid hall
    clear ho hall
    by_cases hlt : k < len
    · have hk1 : k < ss.length := by have := H1.out; omega
      have hk2 : k < rs.length := by have := H2.out; omega
      obtain ⟨b, off, rfl, hb0, hlies⟩ := HS.out (by simp; omega)
      obtain ⟨b', off', rfl, hb0', hlies'⟩ := HS'.out (by simp; omega)
      obtain ⟨c0, c1, c2, c3, c4, c5, c6⟩ := stp_cells (hlies.below hb hb0) hk1
      obtain ⟨d0, d1, d2, d3⟩ := rsl_cells (hlies'.below hb hb0') hk2
      have hx := HO.out ss[k] (List.getElem_mem _)
      have hy := HO'.out rs[k] (List.getElem_mem _)
      have hsz := hb.size
      have hbl' : b' < wr.heap.size := Nat.lt_of_lt_of_le hb0' hsz
      clear hlies hlies'
      generalize hxe : ss[k] = x at c0 c1 c2 c3 c4 c5 c6 hx
      generalize hye : rs[k] = y at d0 d1 d2 d3 hy
      have HX := Lib.hid hxe
      have HY := Lib.hid hye
      clear hxe hye
      cases hf : fitsB y.why with
      | false =>
        have HF := Lib.hid hf
        clear hf
        go_wp2_with (go_at_call 41; refine (reffits_any y.why _ HF.out).mono ?_; rintro e w' ⟨rfl, rfl⟩)
        go_ret2
        have hN : encN ss rs = 132 := by
          unfold encN
          rw [if_neg (by have := H1.out; have := H2.out; omega), if_neg (by rw [HN.out]; decide), rsl_not hk2 (by rw [HY.out]; exact HF.out)]; rfl
        refine ⟨.slice none 0 0, by rw [hN]; rfl, ?_, .inl ⟨by rw [hN]; decide, rfl⟩⟩
        exact (hb.alloc (by omega) _).alloc (by simp; omega) _
      | true =>
        have HF := Lib.hid hf
        clear hf
        go_wp2_with (go_at_call 41; refine (reffits_any y.why _ HF.out).mono ?_; rintro e w' ⟨rfl, rfl⟩)
        obtain ⟨e0, e1, e3, hsz7, hb7⟩ := three wr (.cells #[.int .i64 x.k, .int .i64 x.s, .int .i64 x.n, .int .i64 x.a, .int .u64 x.at_, .int .i64 x.wd, .int .u64 x.v] 28) (.cells #[.int .i64 y.why, .int .u64 y.v, .int .u64 y.at_, .int .u64 y.cl] 32) (.cells #[.int .i64 x.k, .int .i64 x.s, .int .i64 x.n, .int .i64 x.a, .int .i64 x.wd] 3)
        have HP := Lib.hid (pre_len (rs := rs) (k := k) H1.out hbig)
        have HW7 : Hid (OB w.heap.size (((wr.alloc (.cells #[.int .i64 x.k, .int .i64 x.s, .int .i64 x.n, .int .i64 x.a, .int .u64 x.at_, .int .i64 x.wd, .int .u64 x.v] 28)).alloc (.cells #[.int .i64 y.why, .int .u64 y.v, .int .u64 y.at_, .int .u64 y.cl] 32)).alloc (.cells #[.int .i64 x.k, .int .i64 x.s, .int .i64 x.n, .int .i64 x.a, .int .i64 x.wd] 3)) u7 (hdrL len ++ recsL (ss.take k) (rs.take k))) := Lib.hid (OB.below ⟨hsz, .inl HOW.out⟩ hb7)
        have hb8 : Below w.heap.size w (((wr.alloc (.cells #[.int .i64 x.k, .int .i64 x.s, .int .i64 x.n, .int .i64 x.a, .int .u64 x.at_, .int .i64 x.wd, .int .u64 x.v] 28)).alloc (.cells #[.int .i64 y.why, .int .u64 y.v, .int .u64 y.at_, .int .u64 y.cl] 32)).alloc (.cells #[.int .i64 x.k, .int .i64 x.s, .int .i64 x.n, .int .i64 x.a, .int .i64 x.wd] 3)) := hb.trans (hb7.mono hsz)
        generalize wr.heap.size = n0 at *
        generalize hpe : hdrL len ++ recsL (ss.take k) (rs.take k) = P at *
        have HPE := Lib.hid hpe
        clear hpe
        have HE0 := Lib.hid e0
        have HE1 := Lib.hid e1
        have HE3 := Lib.hid e3
        clear e0 e1 e3 hb7 hsz7 HOW
        go_loopw [7, 12] (fun bb i wi => ∃ j : Nat, j ≤ 5 ∧ i = .int .i64 j ∧ OB w.heap.size wi bb (P ++ wordsL (x.ints.take j)) ∧ Below w.heap.size w wi ∧ wi.heap[n0]? = some (.cells #[.int .i64 x.k, .int .i64 x.s, .int .i64 x.n, .int .i64 x.a, .int .u64 x.at_, .int .i64 x.wd, .int .u64 x.v] 28) ∧
          wi.heap[n0 + 1]? = some (.cells #[.int .i64 y.why, .int .u64 y.v, .int .u64 y.at_, .int .u64 y.cl] 32) ∧ wi.heap[n0 + 1 + 1]? = some (.cells #[.int .i64 x.k, .int .i64 x.s, .int .i64 x.n, .int .i64 x.a, .int .i64 x.wd] 3)) (fun _ i _ => 5 - (intOf i).toNat)
        case atStart => exact ⟨0, by omega, rfl, by simpa [wordsL] using HW7.out, hb8, HE0.out, HE1.out, HE3.out⟩
        case round =>
          obtain ⟨j, hj, rfl, hwi, hbi, q0, q1, q3⟩ := hrel
          clear HW7 hb8 HE0 HE1 HE3 hb
          by_cases hj5 : j < 5
          · have hz := ints_ok hx j hj5
            have g := cell_in q3 (ints_cell x j hj5)
            have hsn := words_snoc x.ints j hj5
            have HSN := Lib.hid hsn
            clear hsn
            generalize x.ints[j] = z at *
            have HW := Lib.hid hwi
            have Q0 := Lib.hid q0
            have Q1 := Lib.hid q1
            have Q3 := Lib.hid q3
            clear hwi q0 q1 q3
            have hzu := wrapu z
            go_wp2_with fail
            refine (number_any w.heap.size (u64N z) 4 _ _ _ (u64N_lt z) (by omega) (by omega) (by rw [List.length_append]; have := HP.out; have := words_le x.ints j; simp only [Stp.ints, List.length_cons, List.length_nil] at this; simp only [Stp.ints]; omega) HW.out).mono ?_
            rintro e w9 ⟨v9, rfl, ho9, hb9, hk9, hs9⟩
            rw [List.append_assoc, u64N_le, ← HSN.out] at ho9
            have r0 := Lib.hid (Kept.get' hk9 Q0.out (by decide))
            have r1 := Lib.hid (Kept.get' hk9 Q1.out (by decide))
            have r3 := Lib.hid (Kept.get' hk9 Q3.out (by decide))
            clear hk9 hzu
            have HO9 := Lib.hid ho9
            clear ho9
            go_wp2
            go_roundw
            case rel => exact ⟨j + 1, by omega, by go_num, ⟨Nat.le_trans HW.out.1 hs9, .inl HO9.out⟩, hbi.trans hb9, r0.out, r1.out, r3.out⟩
            case measure => simp [intOf]; omega
          · have : j = 5 := by omega
            subst this
            have hwi' : OB w.heap.size wr u7 (P ++ wordsL x.ints) := hwi
            clear hwi q3
            have g0 := cell_in q0 (j := 4) rfl
            have HW0 := Lib.hid hwi'
            have Q00 := Lib.hid q0
            have Q10 := Lib.hid q1
            clear hwi' q0 q1
            go_wp2_with fail
            refine (number_any w.heap.size x.at_ 8 _ _ _ (hx.2.2.2.2.1) (by omega) (by omega) (by simp only [List.length_append, leS_length, wordsL_length, Stp.ints, List.length_cons, List.length_nil]; have := HP.out; omega) HW0.out).mono ?_
            rintro e v0 ⟨x0, rfl, ho0, hb0, hk0, hs0⟩
            have q00 := Kept.get' hk0 Q00.out (by decide)
            have q10 := Kept.get' hk0 Q10.out (by decide)
            have hw0 : OB w.heap.size v0 x0 _ := ⟨Nat.le_trans HW0.out.1 hs0, .inl ho0⟩
            clear hk0 g0 ho0
            have g1 := cell_in q00 (j := 6) rfl
            have HW1 := Lib.hid hw0
            have Q01 := Lib.hid q00
            have Q11 := Lib.hid q10
            clear hw0 q00 q10
            go_wp2_with fail
            refine (number_any w.heap.size x.v 8 _ _ _ (hx.2.2.2.2.2.2) (by omega) (by omega) (by simp only [List.length_append, leS_length, wordsL_length, Stp.ints, List.length_cons, List.length_nil]; have := HP.out; omega) HW1.out).mono ?_
            rintro e v1 ⟨x1, rfl, ho1, hb1, hk1, hs1⟩
            have q01 := Kept.get' hk1 Q01.out (by decide)
            have q11 := Kept.get' hk1 Q11.out (by decide)
            have hw1 : OB w.heap.size v1 x1 _ := ⟨Nat.le_trans HW1.out.1 hs1, .inl ho1⟩
            clear hk1 g1 ho1
            have g2 := cell_in q11 (j := 0) rfl
            have HW2 := Lib.hid hw1
            have Q02 := Lib.hid q01
            have Q12 := Lib.hid q11
            clear hw1 q01 q11
            have hzu := wrapu y.why
            go_wp2_with fail
            refine (number_any w.heap.size (u64N y.why) 4 _ _ _ (u64N_lt _) (by omega) (by omega) (by simp only [List.length_append, leS_length, wordsL_length, Stp.ints, List.length_cons, List.length_nil]; have := HP.out; omega) HW2.out).mono ?_
            rintro e v2 ⟨x2, rfl, ho2, hb2, hk2, hs2⟩
            have q02 := Kept.get' hk2 Q02.out (by decide)
            have q12 := Kept.get' hk2 Q12.out (by decide)
            rw [u64N_le] at ho2
            clear hzu
            have hw2 : OB w.heap.size v2 x2 _ := ⟨Nat.le_trans HW2.out.1 hs2, .inl ho2⟩
            clear hk2 g2 ho2
            have g3 := cell_in q12 (j := 1) rfl
            have HW3 := Lib.hid hw2
            have Q03 := Lib.hid q02
            have Q13 := Lib.hid q12
            clear hw2 q02 q12
            go_wp2_with fail
            refine (number_any w.heap.size y.v 8 _ _ _ hy.2.1 (by omega) (by omega) (by simp only [List.length_append, leS_length, wordsL_length, Stp.ints, List.length_cons, List.length_nil]; have := HP.out; omega) HW3.out).mono ?_
            rintro e v3 ⟨x3, rfl, ho3, hb3, hk3, hs3⟩
            have q03 := Kept.get' hk3 Q03.out (by decide)
            have q13 := Kept.get' hk3 Q13.out (by decide)
            have hw3 : OB w.heap.size v3 x3 _ := ⟨Nat.le_trans HW3.out.1 hs3, .inl ho3⟩
            clear hk3 g3 ho3
            have g4 := cell_in q13 (j := 2) rfl
            have HW4 := Lib.hid hw3
            have Q04 := Lib.hid q03
            have Q14 := Lib.hid q13
            clear hw3 q03 q13
            go_wp2_with fail
            refine (number_any w.heap.size y.at_ 8 _ _ _ hy.2.2.1 (by omega) (by omega) (by simp only [List.length_append, leS_length, wordsL_length, Stp.ints, List.length_cons, List.length_nil]; have := HP.out; omega) HW4.out).mono ?_
            rintro e v4 ⟨x4, rfl, ho4, hb4, hk4, hs4⟩
            have q04 := Kept.get' hk4 Q04.out (by decide)
            have q14 := Kept.get' hk4 Q14.out (by decide)
            have hw4 : OB w.heap.size v4 x4 _ := ⟨Nat.le_trans HW4.out.1 hs4, .inl ho4⟩
            clear hk4 g4 ho4
            have g5 := cell_in q14 (j := 3) rfl
            have HW5 := Lib.hid hw4
            have Q05 := Lib.hid q04
            have Q15 := Lib.hid q14
            clear hw4 q04 q14
            go_wp2_with fail
            refine (number_any w.heap.size y.cl 8 _ _ _ hy.2.2.2 (by omega) (by omega) (by simp only [List.length_append, leS_length, wordsL_length, Stp.ints, List.length_cons, List.length_nil]; have := HP.out; omega) HW5.out).mono ?_
            rintro e v5 ⟨x5, rfl, ho5, hb5, hk5, hs5⟩
            have q05 := Kept.get' hk5 Q05.out (by decide)
            have q15 := Kept.get' hk5 Q15.out (by decide)
            clear hk5 g5
            have hb10 := Lib.hid (hbi.trans (((((hb0.trans hb1).trans hb2).trans hb3).trans hb4).trans hb5))
            clear q05 q15
            have HW6 := Lib.hid ho5
            clear ho5
            go_wp2
            go_roundw
            case rel =>
              have h1 := recsL_snoc ss rs k hk1 hk2
              rw [HX.out, HY.out] at h1
              have h2 : (P ++ wordsL x.ints ++ leS x.at_ 8 ++ leS x.v 8 ++ leS (lowN y.why) 4 ++ leS y.v 8 ++ leS y.at_ 8 ++ leS y.cl 8) = hdrL len ++ recsL (ss.take (k + 1)) (rs.take (k + 1)) := by
                rw [h1, ← List.append_assoc, HPE.out]; simp only [recL, List.append_assoc]
              have h3 := HW6.out
              rw [h2] at h3
              exact ⟨k + 1, by omega, by go_num, h3, hb10.out, by rw [rsl_take hk2, HA.out, HY.out]; exact HF.out⟩
            case measure => simp [intOf]; omega
    · have : k = len := by omega
      subst this
      have hl0 : (hdrL k ++ recsL (ss.take k) (rs.take k)) = bodyL ss rs := by
        unfold bodyL
        rw [List.take_of_length_le (by have := H1.out; omega), List.take_of_length_le (by have := H2.out; omega), H1.out]
      have HW6 := HOW.out
      rw [hl0] at HW6
      have hlen0 := pre_len (rs := rs) (k := k) H1.out hbig
      have hlen1 : 0 < (bodyL ss rs).length := by unfold bodyL; rw [List.length_append, hdrL_length]; omega
      rw [hl0] at hlen0
      have HL := Lib.hid (show (encL ss rs).length = (bodyL ss rs).length + 4 by unfold encL; rw [List.length_append, leS_length])
      have hall := HA.out
      rw [List.take_of_length_le (by have := H2.out; omega)] at hall
      have HA2 := Lib.hid hall
      obtain ⟨pp, cc, rfl, harr⟩ := arrb_own HW6 rfl hlen1
      have HWW := Lib.hid HW6
      have HARR := Lib.hid harr
      have hcl := crcOf_lt (bodyL_lt ss rs)
      have HCR := Lib.hid (refcrc_any pp (bodyL ss rs).length cc (bodyL ss rs) wr rfl (by omega) (bodyL_lt _ _) harr)
      clear HW6 hl0 HOW hall harr
      go_wp2_with fail
      refine HCR.out.mono ?_
      rintro e w7 ⟨rfl, rfl⟩
      have hcu : ((crcOf (bodyL ss rs) : Nat) : Int) % 18446744073709551616 = (crcOf (bodyL ss rs) : Nat) := by omega
      go_wp2_with fail
      have hbw : w.heap.size ≤ wr.heap.size := hb.size
      refine (number_any w.heap.size (crcOf (bodyL ss rs)) 4 _ (bodyL ss rs) _ (by omega) (by omega) (by omega) (by omega) ⟨hbw, .inl HWW.out⟩).mono ?_
      rintro e w8 ⟨v8, rfl, ho8, hb8, -, hs8⟩
      have HO8 : Hid (w8.ownsRow w.heap.size 5 1 v8 (encL ss rs).length (bv (encL ss rs))) := Lib.hid ho8
      clear ho8 hcu
      go_wp2
      go_ret2
      have hN : encN ss rs = 0 := by
        unfold encN
        rw [if_neg (by have := H1.out; have := H2.out; omega), if_neg (by rw [HN.out]; decide), HA2.out]; rfl
      obtain ⟨g, c, hv⟩ := own_slice HO8.out (by have := HL.out; omega)
      exact ⟨_, by rw [hN]; rfl, hb.trans hb8, .inr ⟨hN, g, c, hv, HO8.out⟩⟩
end Ae
namespace Ae
open Go Go.Proofs Go.RowKit
theorem encode_any (p p' : Option Addr) (len cap len' cap' : Nat) (ss : List Stp) (rs : List Rsl) (w : World) (h1 : ss.length = len) (h2 : rs.length = len') (hbig : len < 9223372036854775807) (hs : Arr w p 7 (ss.map Stp.cells)) (hs' : Arr w p' 4 (rs.map Rsl.cells)) (hok : ∀ x ∈ ss, x.ok) (hok' : ∀ x ∈ rs, x.ok) :
    Calls Tryz.prog 9 #[.slice p len cap, .slice p' len' cap'] w (EncPost ss rs w.heap.size w) := by
  by_cases hne : len = len'
  · subst hne
    by_cases hr : rightN ss = 0
    · have hm : len ≤ 65536 := by
        unfold rightN at hr
        split at hr
        · cases hr
        · omega
      exact encode_C p p' len cap cap' ss rs w h1 h2 hm hs hs' hok hok' hr
    · exact encode_B p p' len cap cap' ss rs w h1 h2 hbig hs hok hr
  · exact encode_A p p' len cap len' cap' ss rs w h1 h2 hne
theorem refenc_any (p p' : Option Addr) (len cap len' cap' : Nat) (ss : List Stp) (rs : List Rsl) (w : World) (h1 : ss.length = len) (h2 : rs.length = len') (hbig : len < 9223372036854775807) (hs : Arr w p 7 (ss.map Stp.cells)) (hs' : Arr w p' 4 (rs.map Rsl.cells)) (hok : ∀ x ∈ ss, x.ok) (hok' : ∀ x ∈ rs, x.ok) :
    Calls Tryz.prog 10 #[.slice p len cap, .slice p' len' cap'] w (EncPost ss rs w.heap.size w) := by
  by_cases hne : len = len'
  · subst hne
    by_cases hr : rightN ss = 0
    · have hm : len ≤ 65536 := by
        unfold rightN at hr
        split at hr
        · cases hr
        · omega
      exact refenc_C p p' len cap cap' ss rs w h1 h2 hm hs hs' hok hok' hr
    · exact refenc_B p p' len cap cap' ss rs w h1 h2 hbig hs hr
  · exact refenc_A p p' len cap len' cap' ss rs w h1 h2 hne
def KP (w w' : World) : Prop := w'.os = w.os ∧ w'.output = w.output ∧ w.heap.size ≤ w'.heap.size ∧ ∀ c, c < w.heap.size → w'.heap[c]? = w.heap[c]?
theorem KP.after {w w1 w2 : World} (h : Below w.heap.size w w1) (h' : KP w1 w2) : KP w w2 := ⟨h'.1.trans h.os, h'.2.1.trans h.output, Nat.le_trans h.size h'.2.2.1, fun c hc => (h'.2.2.2 c (Nat.lt_of_lt_of_le hc h.size)).trans (h.block c hc)⟩
theorem encpost_arr {ss : List Stp} {rs : List Rsl} {B : Nat} {w w' : World} {e : Ending} (h : EncPost ss rs B w e w') : ∃ p n c X, e = .returned (.tuple #[.slice p n c, .int .i64 (encN ss rs)]) ∧ Below B w w' ∧ X = (if encN ss rs = 0 then encL ss rs else []) ∧ X.length = n ∧ ArrB w' p X := by
  obtain ⟨v, he, hb, ⟨h0, rfl⟩ | ⟨h0, g, c, rfl, ho⟩⟩ := h
  · exact ⟨none, 0, 0, [], he, hb, by rw [if_neg h0], rfl, fun q => by cases q⟩
  · refine ⟨some ⟨g, 0, none⟩, _, c, _, he, hb, by rw [if_pos h0], rfl, fun _ => ⟨g, 0, rfl, (ho.lt g rfl).2, fun j hj => ?_⟩⟩
    have := row_at ho rfl j hj
    rwa [List.getElem?_eq_getElem hj] at this
theorem ArrB.below {w w' : World} {p : Option Addr} {l : List Nat} (h : ArrB w p l) (hb : Below w.heap.size w w') : ArrB w' p l := fun h0 => by
  obtain ⟨b, off, e, hlt, hl⟩ := h h0
  exact ⟨b, off, e, Nat.lt_of_lt_of_le hlt hb.size, fun j hj => (hb.cell (p := ⟨b, off + j, none⟩) hlt).trans (hl j hj)⟩
theorem lies_block {w : World} {g t sz : Nat} {L : List (List Value)} {fr : Nat × Nat} (h : w.heap[g]? = some (.cells L.flatten.toArray t fr)) (hL : ∀ l ∈ L, l.length = sz) : Lies w g 0 sz L := fun j x hj q u hq => by
  have hx := hL x (List.mem_of_getElem? hj)
  have hq' : q < sz := by
    rcases Nat.lt_or_ge q sz with h | h
    · exact h
    · rw [List.getElem?_eq_none (by omega)] at hq; cases hq
  refine cell_in h ?_
  rw [Nat.zero_add, List.getElem?_toArray, flat_get L sz hL j q hq', hj]
  exact hq
theorem same_u8_refl (p q : Option Addr) (n c d : Nat) (xs : List Nat) (w : World) (h1 : xs.length = n) (hn : n < 9223372036854775807) (ha : ArrB w p xs) (hb : ArrB w q xs) :
    Calls Tryz.prog 11 #[.slice p n c, .slice q n d] w fun e w' => e = .returned (.bool true) ∧ ∃ k, w' = w.drewN k := by
  refine (same_u8 p q n c n d xs xs w h1 h1 hn ha hb).mono ?_
  rintro e w' ⟨rfl, h⟩
  exact ⟨ret_bool (decide_eq_true rfl), h⟩
def mkS : Stp := ⟨-7, 0, 0, 0, 0, 0, 0⟩
def mkR : Rsl := ⟨-7, 0, 0, 0⟩
theorem stp_lens2 (xs : List Stp) (mk : Stp) : ∀ l ∈ xs.map Stp.cells ++ List.replicate 80 mk.cells, l.length = 7 := by
  intro l h; rcases List.mem_append.1 h with q | q
  · exact stp_lens xs l q
  · rw [(List.mem_replicate.1 q).2]; rfl
theorem rsl_lens2 (xs : List Rsl) (mk : Rsl) : ∀ l ∈ xs.map Rsl.cells ++ List.replicate 80 mk.cells, l.length = 4 := by
  intro l h; rcases List.mem_append.1 h with q | q
  · exact rsl_lens xs l q
  · rw [(List.mem_replicate.1 q).2]; rfl
section
variable {Good : World → Prop} (hg : ∀ w w', Good w → Below w.heap.size w w' → Good w') (known : ∀ w, Good w → Calls Tryz.prog 6 #[] w fun e w' => e = .returned (.bool true) ∧ KP w w')
include hg known
set_option maxHeartbeats 4000000 in
set_option maxRecDepth 100000 in
theorem traceEncodes_any (p p' : Option Addr) (len cap len' cap' : Nat) (ss : List Stp) (rs : List Rsl) (w : World) (h1 : ss.length = len) (h2 : rs.length = len') (hgood : Good w) (hs : Arr w p 7 (ss.map Stp.cells)) (hs' : Arr w p' 4 (rs.map Rsl.cells)) (hok : ∀ x ∈ ss, x.ok) (hok' : ∀ x ∈ rs, x.ok) (hb1 : len < 9223372036854775807) (hb2 : len' < 9223372036854775807) :
    Calls Tryz.prog 3 #[.slice p len cap, .slice p' len' cap'] w fun e w' => e = .returned (.bool true) ∧ KP w w' := by
  have HK := Lib.hid known
  have HG := Lib.hid hg
  have HGD := Lib.hid hgood
  have HS := Lib.hid hs
  have HS' := Lib.hid hs'
  have H1 := Lib.hid h1
  have H2 := Lib.hid h2
  have HO := Lib.hid hok
  have HO' := Lib.hid hok'
  clear known hg hgood hs hs' h1 h2 hok hok'
  go_enter Tryz.func3, Tryz.ntmps3
  by_cases q1 : 70000 < len
  · go_wp2_with fail
    refine (HK.out w HGD.out).mono ?_
    rintro e w1 ⟨rfl, hk⟩
    go_wp2
    go_ret
    exact ⟨rfl, hk⟩
  by_cases q2 : 70000 < len'
  · go_wp2_with fail
    refine (HK.out w HGD.out).mono ?_
    rintro e w1 ⟨rfl, hk⟩
    go_wp2
    go_ret
    exact ⟨rfl, hk⟩
  go_wp2_with fail
  refine (roomy_stp p len cap ss mkS w H1.out (by omega) HS.out).mono ?_
  rintro e w1 ⟨rfl, hg1, hbw1⟩
  have HB1 := Lib.hid hbw1
  have HG1 := Lib.hid hg1
  clear hg1 hbw1
  have hl1 : w.heap.size + 1 < w1.heap.size := by
    have := HG1.out
    rcases Nat.lt_or_ge (w.heap.size + 1) w1.heap.size with q | q
    · exact q
    · rw [Array.getElem?_eq_none q] at this; cases this
  generalize hge : w.heap.size + 1 = g1 at *
  have HGE := Lib.hid hge
  clear hge
  go_wp2_with fail
  refine (roomy_rsl p' len' cap' rs mkR w1 H2.out (by omega) (HS'.out.below HB1.out)).mono ?_
  rintro e w2 ⟨rfl, hg2, hbw2⟩
  have HB2 := Lib.hid hbw2
  have HG2 := Lib.hid hg2
  clear hg2 hbw2
  have hl2 : w1.heap.size + 1 < w2.heap.size := by
    have := HG2.out
    rcases Nat.lt_or_ge (w1.heap.size + 1) w2.heap.size with q | q
    · exact q
    · rw [Array.getElem?_eq_none q] at this; cases this
  have hl12 : g1 < w2.heap.size := by omega
  generalize hge : w1.heap.size + 1 = g2 at *
  have HGE2 := Lib.hid hge
  clear hge
  have HBW2 : Hid (Below w.heap.size w w2) := Lib.hid (HB1.out.trans (HB2.out.mono HB1.out.size))
  have HL1 : Hid (Lies w2 g1 0 7 (ss.map Stp.cells ++ List.replicate 80 mkS.cells)) := Lib.hid (lies_block ((HB2.out.block g1 hl1).trans HG1.out) (stp_lens2 ss mkS))
  have HL2 : Hid (Lies w2 g2 0 4 (rs.map Rsl.cells ++ List.replicate 80 mkR.cells)) := Lib.hid (lies_block HG2.out (rsl_lens2 rs mkR))
  clear HG1 HG2
  have HE := Lib.hid (encode_any (some ⟨g1, 0, none⟩) (some ⟨g2, 0, none⟩) len (len + 80) len' (len' + 80) ss rs w2.drew H1.out H2.out hb1 (Arr.left (m := List.replicate 80 mkS.cells) fun _ => ⟨g1, 0, rfl, hl12, HL1.out⟩) (Arr.left (m := List.replicate 80 mkR.cells) fun _ => ⟨g2, 0, rfl, hl2, HL2.out⟩) HO.out HO'.out)
  have hle1 : (len : Int) ≤ (len : Int) + 80 := by omega
  have hle2 : (len' : Int) ≤ (len' : Int) + 80 := by omega
  go_wp2_with fail
  go_region_law (go_simp; go_at_call 9; refine HE.out.mono ?_; intro e w3 he3; obtain ⟨pa, na, ca, X, rfl, hbw3, hX, hXl, harr⟩ := encpost_arr he3; have HB3 : Hid (Below w2.heap.size w2 w3) := Lib.hid ((Below.refl w2.heap.size w2).drew.trans hbw3); have HX := Lib.hid hX; have HXL := Lib.hid hXl; have HAR := Lib.hid harr; clear hbw3 hX hXl harr he3)
  clear HE hle1 hle2
  have HBW3 : Hid (Below w.heap.size w w3) := Lib.hid (HBW2.out.trans (HB3.out.mono HBW2.out.size))
  have HR := Lib.hid (refenc_any p p' len cap len' cap' ss rs w3 H1.out H2.out hb1 (HS.out.below HBW3.out) (HS'.out.below HBW3.out) HO.out HO'.out)
  go_wp2_with fail
  refine HR.out.mono ?_
  intro e w4 he4
  obtain ⟨pb, nb, cb, Y, rfl, hbw4, hY, hYl, harr⟩ := encpost_arr he4
  have hXY : Y = X := hY.trans HX.out.symm
  subst hXY
  have hnn : nb = na := hYl.symm.trans HXL.out
  subst hnn
  have HB4 := Lib.hid hbw4
  have HAR4 := Lib.hid harr
  have HAR3 := Lib.hid (HAR.out.below hbw4)
  have HXX : Hid (Y.length ≤ 100000000) := Lib.hid (by
    rw [HX.out]
    split
    · rw [encL, List.length_append, leS_length, bodyL, List.length_append, hdrL_length, recsL_length, H1.out, H2.out]; omega
    · simp)
  have HBW4 : Hid (Below w.heap.size w w4) := Lib.hid (HBW3.out.trans (HB4.out.mono HBW3.out.size))
  clear hbw4 hY hYl harr he4 HR HAR HX
  have HSM := Lib.hid (same_u8_refl pa pb nb ca cb Y w4 HXL.out (by have := HXX.out; have := HXL.out; omega) HAR3.out HAR4.out)
  have HL14 : Hid (Lies w4 g1 0 7 (ss.map Stp.cells ++ List.replicate 80 mkS.cells)) := Lib.hid (HL1.out.below (HB3.out.trans (HB4.out.mono HB3.out.size)) hl12)
  have HL24 : Hid (Lies w4 g2 0 4 (rs.map Rsl.cells ++ List.replicate 80 mkR.cells)) := Lib.hid (HL2.out.below (HB3.out.trans (HB4.out.mono HB3.out.size)) hl2)
  have hg14 : g1 < w4.heap.size := by have := HB3.out.size; have := HB4.out.size; omega
  have hg24 : g2 < w4.heap.size := by have := HB3.out.size; have := HB4.out.size; omega
  go_wp2_with fail
  refine HSM.out.mono ?_
  rintro e w5 ⟨rfl, z, rfl⟩
  have hbd : Below w4.heap.size w4 (w4.drewN z) := below_drewN (Below.refl _ _) z
  have HBD := Lib.hid hbd
  clear hbd HSM
  generalize w4.drewN z = w5 at *
  have HI1 := Lib.hid (intact_stp g1 p len cap ss mkS w5 H1.out (by omega) (Nat.lt_of_lt_of_le hg14 HBD.out.size) (HL14.out.below HBD.out hg14) (HS.out.below (HBW4.out.trans (HBD.out.mono HBW4.out.size))))
  go_wp2_with fail
  refine HI1.out.mono ?_
  rintro e w6 ⟨rfl, hb6⟩
  have HB6 : Hid (Below w4.heap.size w4 w6) := Lib.hid (HBD.out.trans (hb6.mono HBD.out.size))
  clear hb6 HI1
  have HI2 := Lib.hid (intact_rsl g2 p' len' cap' rs mkR w6 H2.out (by omega) (Nat.lt_of_lt_of_le hg24 HB6.out.size) (HL24.out.below HB6.out hg24) (HS'.out.below (HBW4.out.trans (HB6.out.mono HBW4.out.size))))
  go_wp2_with fail
  refine HI2.out.mono ?_
  rintro e w7 ⟨rfl, hb7⟩
  have HB7 : Hid (Below w.heap.size w w7) := Lib.hid (HBW4.out.trans ((HB6.out.trans (hb7.mono HB6.out.size)).mono HBW4.out.size))
  clear hb7 HI2
  go_wp2_with fail
  refine (HK.out w7 (HG.out w w7 HGD.out HB7.out)).mono ?_
  rintro e w8 ⟨rfl, hk⟩
  go_wp2
  go_ret
  exact ⟨rfl, KP.after HB7.out hk⟩
end
end Ae
