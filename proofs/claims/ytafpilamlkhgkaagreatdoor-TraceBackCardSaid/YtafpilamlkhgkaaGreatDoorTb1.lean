/- The walk of trace's functions, part 1. -/
import Derived.Test.YtafpilamlkhgkaaGreatDoorW0
import Derived.Test.YtafpilamlkhgkaaGreatDoorProg
import Derived.WalkKit
import Derived.WalkSpells
import Derived.WalkLawsBesides
import Derived.OwnWalk
import Derived.Laws.AppendOwn
import Derived.Laws.CopyOwn
import Derived.Deep.AppendLies
import Derived.Below
import Derived.KernelRfl
import Derived.Lib.Hide
import Derived.Deep.RegionLaw
import Derived.Deep.RegionHeld3
import Derived.Laws.Pointers
import Derived.Lib.SliceRun
import Derived.Deep.QuietTactic
import Derived.BigQuiet
import Derived.Laws.StructEq
import Derived.Laws.CopyRow
import Derived.ArgAppend
import Derived.Laws.IdiomStrings
import Derived.Deep.LoopGhost
set_option linter.all false
namespace Ae
open Go Go.Proofs Go.RowKit
theorem info5 : (Tryz.prog.info? 5).map (fun i => (i.zero, i.size, i.bytes)) = some (some (.int .u8 0), 1, 1) := by kernel_rfl
def leS (n : Nat) : Nat → List Nat
  | 0 => []
  | k + 1 => leS n k ++ [n / 256 ^ k % 256]
def bv (l : List Nat) : List Value := l.map fun x => Value.int .u8 (x : Nat)
theorem own_snoc {w : World} {b m k : Nat} {v : Value} (n p : Nat) {x : Int} (h : w.ownsRow b 5 1 v m (bv (leS n k) ++ [.int .u8 x])) (hp : 256 ^ k = p) (hx : x = ((n / p % 256 : Nat) : Int)) : w.ownsRow b 5 1 v m (bv (leS n (k + 1))) := by
  subst hx hp; simpa [bv, leS] using h
def wid16 (k : Nat) : Int := 65536 / 256 ^ k - 1
set_option maxHeartbeats 400000 in
theorem width16 (w : World) : Calls Tryz.prog 207 #[] w fun e w' => e = .returned (.int .i64 2) ∧ w = w' := by
  go_enter Tryz.func207, Tryz.ntmps207
  go_wp2
  go_loop [1, 2] (fun n q => ∃ k : Nat, k ≤ 2 ∧ n = .int .i64 k ∧ q = .int .u16 (wid16 k)) (fun n _ => (8 - intOf n).toNat)
  case atStart => exact ⟨0, by omega, rfl, congrArg (Value.int .u16) (by decide)⟩
  case round =>
    obtain ⟨k, hk, rfl, rfl⟩ := hrel
    have hk8 : k = 0 ∨ k = 1 ∨ k = 2 := by omega
    rcases hk8 with rfl | rfl | rfl
    all_goals simp only [wid16]
    all_goals go_wp2
    all_goals first
      | (go_ret; exact ⟨rfl, rfl⟩)
      | (go_round
         case rel => first | exact ⟨1, by omega, rfl, rfl⟩ | exact ⟨2, by omega, rfl, rfl⟩
         case measure => decide)
set_option maxHeartbeats 4000000 in
theorem put16 (n : Nat) (w : World) (hn : n < 65536) : Calls Tryz.prog 103 #[.slice none 0 0, .int .u16 n] w fun e w' => ∃ g, e = .returned (.slice (some ⟨g, 0, none⟩) 2 8) ∧ w'.ownsRow w.heap.size 5 1 (.slice (some ⟨g, 0, none⟩) 2 8) 2 (bv (leS n 2)) ∧ Below w.heap.size w w' := by
  obtain ⟨i0, hi, hz0, hz1, hz2⟩ := info_parts info5
  go_enter Tryz.func103, Tryz.ntmps103
  go_wp2_with (first
    | (refine wpList_make_own _ rfl _ _ 33 rfl w.heap.size 5 i0 (.int .u8 0) 1 Tryz.underlying33 hi hz0 hz1 .i64 .i64 8 8 rfl rfl rfl (by rw [hz2]; omega) (by simp [maxLen]) (Nat.le_refl _) ?_; intro w1 hown hgrow)
    | (refine wpList_copy_nothing rfl _ _ 33 33 rfl 5 Tryz.underlying33 (by rw [hi]; simp [hz1]) _ _ 0 8 0 0 rfl rfl rfl ?_)
    | (go_at_call 207; refine (width16 _).mono ?_; rintro e w' ⟨rfl, rfl⟩))
  have hb1 : Below w.heap.size w w1 := (Below.refl w.heap.size w).grown hgrow (Nat.le_refl _) (by rintro _ ⟨⟩)
  clear hgrow
  go_loopw [5, 17] (fun v i wr => ∃ k : Nat, k ≤ 2 ∧ i = .int .i64 k ∧ v = .slice (some ⟨w.heap.size, 0, none⟩) k 8 ∧ wr.ownsRow w.heap.size 5 1 v k (bv (leS n k)) ∧ Below w.heap.size w wr) (fun _ i _ => (8 - intOf i).toNat)
  case atStart => exact ⟨0, by omega, rfl, rfl, hown, hb1⟩
  case round =>
    clear hown hb1
    obtain ⟨k, hk, rfl, rfl, hown, hb1⟩ := hrel
    have hsz := hb1.size
    have hk8 : k = 0 ∨ k = 1 ∨ k = 2 := by omega
    rcases hk8 with rfl | rfl | rfl
    all_goals go_wp2_with (first
      | (refine wpList_append_fits _ rfl (.tmp 20) (.tmp 27) 33 rfl w.heap.size 5 i0 1 Tryz.underlying33 hi hz1 w.heap.size 0 8 (bv (leS n 0)) rfl (hown.alloc _) ⟨wr.heap.size, 0, none⟩ 1 1 _ (by rfl) (by rfl) (World.news_of_block (heap_alloc_new wr _)) (by simp [Value.oneCell']) (by omega) ?_; intro w2 hown2 hgrow2)
      | (refine wpList_append_fits _ rfl (.tmp 20) (.tmp 27) 33 rfl w.heap.size 5 i0 1 Tryz.underlying33 hi hz1 w.heap.size 1 8 (bv (leS n 1)) rfl (hown.alloc _) ⟨wr.heap.size, 0, none⟩ 1 1 _ (by rfl) (by rfl) (World.news_of_block (heap_alloc_new wr _)) (by simp [Value.oneCell']) (by omega) ?_; intro w2 hown2 hgrow2))
    all_goals first
      | (go_ret; exact ⟨_, rfl, hown, hb1⟩)
      | (have hb2 : Below w.heap.size w w2 := (hb1.alloc hsz _).grown hgrow2 (by simp; omega) (by rintro _ ⟨⟩; exact Nat.le_refl _)
         clear hgrow2
         go_roundw
         case rel => first | exact ⟨1, by omega, rfl, rfl, own_snoc n 1 hown2 (by decide) (by omega), hb2⟩ | exact ⟨2, by omega, rfl, rfl, own_snoc n 256 hown2 (by decide) (by omega), hb2⟩
         case measure => decide)
def wid32 (k : Nat) : Int := 4294967296 / 256 ^ k - 1
set_option maxHeartbeats 400000 in
theorem width32 (w : World) : Calls Tryz.prog 109 #[] w fun e w' => e = .returned (.int .i64 4) ∧ w = w' := by
  go_enter Tryz.func109, Tryz.ntmps109
  go_wp2
  go_loop [1, 2] (fun n q => ∃ k : Nat, k ≤ 4 ∧ n = .int .i64 k ∧ q = .int .u32 (wid32 k)) (fun n _ => (8 - intOf n).toNat)
  case atStart => exact ⟨0, by omega, rfl, congrArg (Value.int .u32) (by decide)⟩
  case round =>
    obtain ⟨k, hk, rfl, rfl⟩ := hrel
    have hk8 : k = 0 ∨ k = 1 ∨ k = 2 ∨ k = 3 ∨ k = 4 := by omega
    rcases hk8 with rfl | rfl | rfl | rfl | rfl
    all_goals simp only [wid32]
    all_goals go_wp2
    all_goals first
      | (go_ret; exact ⟨rfl, rfl⟩)
      | (go_round
         case rel => first | exact ⟨1, by omega, rfl, rfl⟩ | exact ⟨2, by omega, rfl, rfl⟩ | exact ⟨3, by omega, rfl, rfl⟩ | exact ⟨4, by omega, rfl, rfl⟩
         case measure => decide)
set_option maxHeartbeats 4000000 in
theorem put32 (n : Nat) (w : World) (hn : n < 4294967296) : Calls Tryz.prog 104 #[.slice none 0 0, .int .u32 n] w fun e w' => ∃ g, e = .returned (.slice (some ⟨g, 0, none⟩) 4 8) ∧ w'.ownsRow w.heap.size 5 1 (.slice (some ⟨g, 0, none⟩) 4 8) 4 (bv (leS n 4)) ∧ Below w.heap.size w w' := by
  obtain ⟨i0, hi, hz0, hz1, hz2⟩ := info_parts info5
  go_enter Tryz.func104, Tryz.ntmps104
  go_wp2_with (first
    | (refine wpList_make_own _ rfl _ _ 33 rfl w.heap.size 5 i0 (.int .u8 0) 1 Tryz.underlying33 hi hz0 hz1 .i64 .i64 8 8 rfl rfl rfl (by rw [hz2]; omega) (by simp [maxLen]) (Nat.le_refl _) ?_; intro w1 hown hgrow)
    | (refine wpList_copy_nothing rfl _ _ 33 33 rfl 5 Tryz.underlying33 (by rw [hi]; simp [hz1]) _ _ 0 8 0 0 rfl rfl rfl ?_)
    | (go_at_call 109; refine (width32 _).mono ?_; rintro e w' ⟨rfl, rfl⟩))
  have hb1 : Below w.heap.size w w1 := (Below.refl w.heap.size w).grown hgrow (Nat.le_refl _) (by rintro _ ⟨⟩)
  clear hgrow
  go_loopw [5, 17] (fun v i wr => ∃ k : Nat, k ≤ 4 ∧ i = .int .i64 k ∧ v = .slice (some ⟨w.heap.size, 0, none⟩) k 8 ∧ wr.ownsRow w.heap.size 5 1 v k (bv (leS n k)) ∧ Below w.heap.size w wr) (fun _ i _ => (8 - intOf i).toNat)
  case atStart => exact ⟨0, by omega, rfl, rfl, hown, hb1⟩
  case round =>
    clear hown hb1
    obtain ⟨k, hk, rfl, rfl, hown, hb1⟩ := hrel
    have hsz := hb1.size
    have hk8 : k = 0 ∨ k = 1 ∨ k = 2 ∨ k = 3 ∨ k = 4 := by omega
    rcases hk8 with rfl | rfl | rfl | rfl | rfl
    all_goals go_wp2_with (first
      | (refine wpList_append_fits _ rfl (.tmp 20) (.tmp 27) 33 rfl w.heap.size 5 i0 1 Tryz.underlying33 hi hz1 w.heap.size 0 8 (bv (leS n 0)) rfl (hown.alloc _) ⟨wr.heap.size, 0, none⟩ 1 1 _ (by rfl) (by rfl) (World.news_of_block (heap_alloc_new wr _)) (by simp [Value.oneCell']) (by omega) ?_; intro w2 hown2 hgrow2)
      | (refine wpList_append_fits _ rfl (.tmp 20) (.tmp 27) 33 rfl w.heap.size 5 i0 1 Tryz.underlying33 hi hz1 w.heap.size 1 8 (bv (leS n 1)) rfl (hown.alloc _) ⟨wr.heap.size, 0, none⟩ 1 1 _ (by rfl) (by rfl) (World.news_of_block (heap_alloc_new wr _)) (by simp [Value.oneCell']) (by omega) ?_; intro w2 hown2 hgrow2)
      | (refine wpList_append_fits _ rfl (.tmp 20) (.tmp 27) 33 rfl w.heap.size 5 i0 1 Tryz.underlying33 hi hz1 w.heap.size 2 8 (bv (leS n 2)) rfl (hown.alloc _) ⟨wr.heap.size, 0, none⟩ 1 1 _ (by rfl) (by rfl) (World.news_of_block (heap_alloc_new wr _)) (by simp [Value.oneCell']) (by omega) ?_; intro w2 hown2 hgrow2)
      | (refine wpList_append_fits _ rfl (.tmp 20) (.tmp 27) 33 rfl w.heap.size 5 i0 1 Tryz.underlying33 hi hz1 w.heap.size 3 8 (bv (leS n 3)) rfl (hown.alloc _) ⟨wr.heap.size, 0, none⟩ 1 1 _ (by rfl) (by rfl) (World.news_of_block (heap_alloc_new wr _)) (by simp [Value.oneCell']) (by omega) ?_; intro w2 hown2 hgrow2))
    all_goals first
      | (go_ret; exact ⟨_, rfl, hown, hb1⟩)
      | (have hb2 : Below w.heap.size w w2 := (hb1.alloc hsz _).grown hgrow2 (by simp; omega) (by rintro _ ⟨⟩; exact Nat.le_refl _)
         clear hgrow2
         go_roundw
         case rel => first | exact ⟨1, by omega, rfl, rfl, own_snoc n 1 hown2 (by decide) (by omega), hb2⟩ | exact ⟨2, by omega, rfl, rfl, own_snoc n 256 hown2 (by decide) (by omega), hb2⟩ | exact ⟨3, by omega, rfl, rfl, own_snoc n 65536 hown2 (by decide) (by omega), hb2⟩ | exact ⟨4, by omega, rfl, rfl, own_snoc n 16777216 hown2 (by decide) (by omega), hb2⟩
         case measure => decide)
def wid64 (k : Nat) : Int := 18446744073709551616 / 256 ^ k - 1
set_option maxHeartbeats 400000 in
theorem tWidth64 (w : World) : Calls Tryz.prog 110 #[] w fun e w' => e = .returned (.int .i64 8) ∧ w = w' := by
  go_enter Tryz.func110, Tryz.ntmps110
  go_wp2
  go_loop [1, 2] (fun n q => ∃ k : Nat, k ≤ 8 ∧ n = .int .i64 k ∧ q = .int .u64 (wid64 k)) (fun n _ => (8 - intOf n).toNat)
  case atStart => exact ⟨0, by omega, rfl, congrArg (Value.int .u64) (by decide)⟩
  case round =>
    obtain ⟨k, hk, rfl, rfl⟩ := hrel
    have hk8 : k = 0 ∨ k = 1 ∨ k = 2 ∨ k = 3 ∨ k = 4 ∨ k = 5 ∨ k = 6 ∨ k = 7 ∨ k = 8 := by omega
    rcases hk8 with rfl | rfl | rfl | rfl | rfl | rfl | rfl | rfl | rfl
    all_goals simp only [wid64]
    all_goals go_wp2
    all_goals first
      | (go_ret; exact ⟨rfl, rfl⟩)
      | (go_round
         case rel => first | exact ⟨1, by omega, rfl, rfl⟩ | exact ⟨2, by omega, rfl, rfl⟩ | exact ⟨3, by omega, rfl, rfl⟩ | exact ⟨4, by omega, rfl, rfl⟩ | exact ⟨5, by omega, rfl, rfl⟩ | exact ⟨6, by omega, rfl, rfl⟩ | exact ⟨7, by omega, rfl, rfl⟩ | exact ⟨8, by omega, rfl, rfl⟩
         case measure => decide)
set_option maxHeartbeats 4000000 in
theorem put64 (n : Nat) (w : World) (hn : n < 18446744073709551616) : Calls Tryz.prog 105 #[.slice none 0 0, .int .u64 n] w fun e w' => ∃ g, e = .returned (.slice (some ⟨g, 0, none⟩) 8 8) ∧ w'.ownsRow w.heap.size 5 1 (.slice (some ⟨g, 0, none⟩) 8 8) 8 (bv (leS n 8)) ∧ Below w.heap.size w w' := by
  obtain ⟨i0, hi, hz0, hz1, hz2⟩ := info_parts info5
  go_enter Tryz.func105, Tryz.ntmps105
  go_wp2_with (first
    | (refine wpList_make_own _ rfl _ _ 33 rfl w.heap.size 5 i0 (.int .u8 0) 1 Tryz.underlying33 hi hz0 hz1 .i64 .i64 8 8 rfl rfl rfl (by rw [hz2]; omega) (by simp [maxLen]) (Nat.le_refl _) ?_; intro w1 hown hgrow)
    | (refine wpList_copy_nothing rfl _ _ 33 33 rfl 5 Tryz.underlying33 (by rw [hi]; simp [hz1]) _ _ 0 8 0 0 rfl rfl rfl ?_)
    | (go_at_call 110; refine (tWidth64 _).mono ?_; rintro e w' ⟨rfl, rfl⟩))
  have hb1 : Below w.heap.size w w1 := (Below.refl w.heap.size w).grown hgrow (Nat.le_refl _) (by rintro _ ⟨⟩)
  clear hgrow
  go_loopw [5, 17] (fun v i wr => ∃ k : Nat, k ≤ 8 ∧ i = .int .i64 k ∧ v = .slice (some ⟨w.heap.size, 0, none⟩) k 8 ∧ wr.ownsRow w.heap.size 5 1 v k (bv (leS n k)) ∧ Below w.heap.size w wr) (fun _ i _ => (8 - intOf i).toNat)
  case atStart => exact ⟨0, by omega, rfl, rfl, hown, hb1⟩
  case round =>
    clear hown hb1
    obtain ⟨k, hk, rfl, rfl, hown, hb1⟩ := hrel
    have hsz := hb1.size
    have hk8 : k = 0 ∨ k = 1 ∨ k = 2 ∨ k = 3 ∨ k = 4 ∨ k = 5 ∨ k = 6 ∨ k = 7 ∨ k = 8 := by omega
    rcases hk8 with rfl | rfl | rfl | rfl | rfl | rfl | rfl | rfl | rfl
    all_goals go_wp2_with (first
      | (refine wpList_append_fits _ rfl (.tmp 20) (.tmp 26) 33 rfl w.heap.size 5 i0 1 Tryz.underlying33 hi hz1 w.heap.size 0 8 (bv (leS n 0)) rfl (hown.alloc _) ⟨wr.heap.size, 0, none⟩ 1 1 _ (by rfl) (by rfl) (World.news_of_block (heap_alloc_new wr _)) (by simp [Value.oneCell']) (by omega) ?_; intro w2 hown2 hgrow2)
      | (refine wpList_append_fits _ rfl (.tmp 20) (.tmp 26) 33 rfl w.heap.size 5 i0 1 Tryz.underlying33 hi hz1 w.heap.size 1 8 (bv (leS n 1)) rfl (hown.alloc _) ⟨wr.heap.size, 0, none⟩ 1 1 _ (by rfl) (by rfl) (World.news_of_block (heap_alloc_new wr _)) (by simp [Value.oneCell']) (by omega) ?_; intro w2 hown2 hgrow2)
      | (refine wpList_append_fits _ rfl (.tmp 20) (.tmp 26) 33 rfl w.heap.size 5 i0 1 Tryz.underlying33 hi hz1 w.heap.size 2 8 (bv (leS n 2)) rfl (hown.alloc _) ⟨wr.heap.size, 0, none⟩ 1 1 _ (by rfl) (by rfl) (World.news_of_block (heap_alloc_new wr _)) (by simp [Value.oneCell']) (by omega) ?_; intro w2 hown2 hgrow2)
      | (refine wpList_append_fits _ rfl (.tmp 20) (.tmp 26) 33 rfl w.heap.size 5 i0 1 Tryz.underlying33 hi hz1 w.heap.size 3 8 (bv (leS n 3)) rfl (hown.alloc _) ⟨wr.heap.size, 0, none⟩ 1 1 _ (by rfl) (by rfl) (World.news_of_block (heap_alloc_new wr _)) (by simp [Value.oneCell']) (by omega) ?_; intro w2 hown2 hgrow2)
      | (refine wpList_append_fits _ rfl (.tmp 20) (.tmp 26) 33 rfl w.heap.size 5 i0 1 Tryz.underlying33 hi hz1 w.heap.size 4 8 (bv (leS n 4)) rfl (hown.alloc _) ⟨wr.heap.size, 0, none⟩ 1 1 _ (by rfl) (by rfl) (World.news_of_block (heap_alloc_new wr _)) (by simp [Value.oneCell']) (by omega) ?_; intro w2 hown2 hgrow2)
      | (refine wpList_append_fits _ rfl (.tmp 20) (.tmp 26) 33 rfl w.heap.size 5 i0 1 Tryz.underlying33 hi hz1 w.heap.size 5 8 (bv (leS n 5)) rfl (hown.alloc _) ⟨wr.heap.size, 0, none⟩ 1 1 _ (by rfl) (by rfl) (World.news_of_block (heap_alloc_new wr _)) (by simp [Value.oneCell']) (by omega) ?_; intro w2 hown2 hgrow2)
      | (refine wpList_append_fits _ rfl (.tmp 20) (.tmp 26) 33 rfl w.heap.size 5 i0 1 Tryz.underlying33 hi hz1 w.heap.size 6 8 (bv (leS n 6)) rfl (hown.alloc _) ⟨wr.heap.size, 0, none⟩ 1 1 _ (by rfl) (by rfl) (World.news_of_block (heap_alloc_new wr _)) (by simp [Value.oneCell']) (by omega) ?_; intro w2 hown2 hgrow2)
      | (refine wpList_append_fits _ rfl (.tmp 20) (.tmp 26) 33 rfl w.heap.size 5 i0 1 Tryz.underlying33 hi hz1 w.heap.size 7 8 (bv (leS n 7)) rfl (hown.alloc _) ⟨wr.heap.size, 0, none⟩ 1 1 _ (by rfl) (by rfl) (World.news_of_block (heap_alloc_new wr _)) (by simp [Value.oneCell']) (by omega) ?_; intro w2 hown2 hgrow2))
    all_goals first
      | (go_ret; exact ⟨_, rfl, hown, hb1⟩)
      | (have hb2 : Below w.heap.size w w2 := (hb1.alloc hsz _).grown hgrow2 (by simp; omega) (by rintro _ ⟨⟩; exact Nat.le_refl _)
         clear hgrow2
         go_roundw
         case rel => first | exact ⟨1, by omega, rfl, rfl, own_snoc n 1 hown2 (by decide) (by omega), hb2⟩ | exact ⟨2, by omega, rfl, rfl, own_snoc n 256 hown2 (by decide) (by omega), hb2⟩ | exact ⟨3, by omega, rfl, rfl, own_snoc n 65536 hown2 (by decide) (by omega), hb2⟩ | exact ⟨4, by omega, rfl, rfl, own_snoc n 16777216 hown2 (by decide) (by omega), hb2⟩ | exact ⟨5, by omega, rfl, rfl, own_snoc n 4294967296 hown2 (by decide) (by omega), hb2⟩ | exact ⟨6, by omega, rfl, rfl, own_snoc n 1099511627776 hown2 (by decide) (by omega), hb2⟩ | exact ⟨7, by omega, rfl, rfl, own_snoc n 281474976710656 hown2 (by decide) (by omega), hb2⟩ | exact ⟨8, by omega, rfl, rfl, own_snoc n 72057594037927936 hown2 (by decide) (by omega), hb2⟩
         case measure => decide)
end Ae
namespace Ae
open Go Go.Proofs Go.RowKit
theorem grown_of_below {w w' : World} (h : Below w.heap.size w w') : w.grownBy w' none := ⟨h.os, h.tape, h.output, h.size, fun k hk _ => h.block k hk⟩
def WB (base a : Nat) (w : World) (l : List Nat) : Prop :=
  ∃ v, w.heap[a]? = some (.cells #[v, .int .i64 0] 146 (0, 0)) ∧ w.ownsRow base 5 1 v l.length (bv l) ∧ v.ownBlock ≠ some a ∧ base ≤ a ∧ base ≤ w.heap.size
theorem bv_length (l : List Nat) : (bv l).length = l.length := by simp [bv]
theorem bv_app (l m : List Nat) : bv (l ++ m) = bv l ++ bv m := by simp [bv]
theorem leS_length (n k : Nat) : (leS n k).length = k := by
  induction k with
  | zero => rfl
  | succ k ih => simp [leS, ih]
theorem row_cells {w : World} {base E : Nat} {g n cap : Nat} {xs : List Value} (h : w.ownsRow base E 1 (.slice (some ⟨g, 0, none⟩) n cap) n xs) : ∀ (j : Nat) (u : Value), xs[j]? = some u → w.cell? ((⟨g, 0, none⟩ : Addr).add j) = some u := by
  obtain ⟨hl, h | ⟨g', cap', cur, e, hb, hg, h1, h2, h3, h4⟩⟩ := h
  · cases h.1
  · cases e
    intro j u hj
    have hadd : (⟨g, 0, none⟩ : Addr).add j = ⟨g, j, none⟩ := by unfold Addr.add; split <;> simp_all
    rw [hadd]
    simp only [World.cell?, hg]
    rw [← h4, List.getElem?_take] at hj
    split at hj
    · simpa using hj
    · cases hj
theorem bv_one (l : List Nat) : ∀ u ∈ bv l, u.oneCell' = true := by
  intro u hu
  simp only [bv, List.mem_map] at hu
  obtain ⟨x, _, rfl⟩ := hu
  rfl
theorem bcell {W w1 : World} (hb : Below W.heap.size W w1) : (∀ b o, b < W.heap.size → w1.cell? ⟨b, o, none⟩ = W.cell? ⟨b, o, none⟩) ∧ (∀ b o, b < W.heap.size → w1.frozen? ⟨b, o, none⟩ = W.frozen? ⟨b, o, none⟩) :=
  ⟨fun b o h => hb.cell (p := ⟨b, o, none⟩) h, fun b o h => hb.frozen (p := ⟨b, o, none⟩) h⟩
theorem own_below {w w1 : World} {base E sz n : Nat} {v : Value} {xs : List Value} (h : w.ownsRow base E sz v n xs) (hb : Below w.heap.size w w1) : w1.ownsRow base E sz v n xs :=
  h.kept (grown_of_below hb) (by cases v.ownBlock <;> simp)
def elemOf : Option Obj → Option Nat
  | some (.cells _ e _) => some e
  | _ => none
def Kept (a : Nat) (w w' : World) : Prop := ∀ k, k < w.heap.size → k ≠ a → elemOf w.heap[k]? ≠ some 5 → w'.heap[k]? = w.heap[k]?
theorem Kept.trans {a : Nat} {w w1 w2 : World} (h : Kept a w w1) (h' : Kept a w1 w2) (hs : w.heap.size ≤ w1.heap.size) : Kept a w w2 := fun k hk hka he => by
  have e := h k hk hka he
  rw [h' k (Nat.lt_of_lt_of_le hk hs) hka (by rw [e]; exact he), e]
theorem Kept.of_below {a : Nat} {w w1 : World} (h : Below w.heap.size w w1) : Kept a w w1 := fun k hk _ _ => h.block k hk
theorem Kept.of_grown {a base sz n : Nat} {w w1 : World} {v : Value} {xs : List Value} (hown : w.ownsRow base 5 sz v n xs) (h : w.grownBy w1 v.ownBlock) : Kept a w w1 := fun k hk _ he => by
  refine h.block k hk ?_
  intro e
  obtain ⟨_, q | ⟨g, cap, cur, rfl, hb, hg, _⟩⟩ := hown
  · rw [q.1] at e; cases e
  · simp only [Value.ownBlock, Option.some.injEq] at e
    subst e
    rw [hg] at he
    exact he rfl
theorem Kept.setCell {a : Nat} {w w1 : World} (h : Kept a w w1) (o : Nat) (v : Value) : Kept a w (w1.setCell ⟨a, o, none⟩ v) := fun k hk hka he => (heap_setCell_other w1 _ k v hka).trans (h k hk hka he)
theorem wb_store {base a gg cap n : Nat} {w : World} {v : Value} {l : List Nat} (ha : w.heap[a]? = some (.cells #[v, .int .i64 0] 146 (0, 0))) (h : w.ownsRow base 5 1 (.slice (some ⟨gg, 0, none⟩) n cap) n (bv l)) (hn : n = l.length) (hne : gg ≠ a) (hba : base ≤ a) (hbs : base ≤ w.heap.size) :
    WB base a (w.setCell ⟨a, 0, none⟩ (.slice (some ⟨gg, 0, none⟩) n cap)) l := by
  subst hn
  refine ⟨_, (heap_setCell_same w a 0 _ _ _ ha).trans (by rfl), ⟨h.1, ?_⟩, by simp [Value.ownBlock, hne], hba, by simpa using hbs⟩
  obtain ⟨_, h | ⟨g', cap', cur, e, hb, hg, h1, h2, h3, h4⟩⟩ := h
  · cases h.1
  · cases e
    exact .inr ⟨gg, cap, cur, rfl, hb, (heap_setCell_other w _ gg _ hne).trans hg, h1, h2, h3, h4⟩
set_option maxHeartbeats 1600000 in
theorem lay16 (base a n : Nat) (l : List Nat) (w : World) (hn : n < 65536) (h : WB base a w l) (hl : l.length ≤ 100000000) :
    Calls Tryz.prog 61 #[.pointer (some ⟨a, 0, none⟩), .int .u16 n] w fun e w' => e = .returned (.tuple #[]) ∧ WB base a w' (l ++ leS n 2) ∧ Below base w w' ∧ Kept a w w' := by
  obtain ⟨v, ha, hown, hva, hba, hbs⟩ := h
  have c0 : w.cell? ⟨a, 0, none⟩ = some v := by simp [World.cell?, ha]
  have c1 : w.cell? ⟨a, 1, none⟩ = some (.int .i64 0) := by simp [World.cell?, ha]
  have f0 : w.frozen? ⟨a, 0, none⟩ = false := by simp [World.frozen?, ha]
  have la := World.block_lt_of_cell? w _ c0
  obtain ⟨i0, hi, hz0, hz1, hz2⟩ := info_parts info5
  have HA := Lib.hid ha
  clear ha
  go_enter Tryz.func61, Tryz.ntmps61
  go_wp2
  go_region_law (first
    | (go_simp; go_at_call 103; refine (put16 n _ hn).mono ?_; rintro e w1 ⟨g, rfl, hput, hb1⟩; have hown1 := own_below hown.drew hb1; have hs1 : w.heap.size ≤ w1.heap.size := hb1.size; have la1 : a < w1.heap.size := Nat.lt_of_lt_of_le la hs1; obtain ⟨hc1, hf1⟩ := bcell hb1; have e0 : w1.cell? ⟨a, 0, none⟩ = some v := (hc1 a 0 la).trans c0)
    | (refine step_append_lies _ (by rfl) (.tmp 13) (.tmp 15) 33 (by rfl) base 5 i0 (.int .u8 0) 1 1 Tryz.underlying33 hi hz0 hz1 hz2 rfl (by omega) v l.length (bv l) (by rfl) hown1
        ⟨g, 0, none⟩ 2 8 (bv (leS n 2)) (by rfl) (by rfl) (row_cells hput) (bv_one _) (by omega) (by simp [maxLen]; omega) (by omega) (by omega) _ rfl ?_; intro gg cap w2 hown2 hgrow2 hat hlt; have d0 : w2.cell? ⟨a, 0, none⟩ = some v := ((hgrow2.cell_far ⟨a, 0, none⟩ la1 (Ne.symm hva)).trans (hc1 a 0 la)).trans c0; have d1 : w2.frozen? ⟨a, 0, none⟩ = false := ((hgrow2.frozen_far ⟨a, 0, none⟩ la1 (Ne.symm hva)).trans (hf1 a 0 la)).trans f0))
  all_goals go_end0
  all_goals
    have ha1 : w1.heap[a]? = some (.cells #[v, .int .i64 0] 146 (0, 0)) := (hb1.block a la).trans HA.out
    have ha2 : w2.heap[a]? = some (.cells #[v, .int .i64 0] 146 (0, 0)) := (hgrow2.block a la1 (Ne.symm hva)).trans ha1
    have hne : gg ≠ a := by
      rcases hat with q | q
      · intro e; subst e; exact hva q
      · omega
    rw [← bv_app] at hown2
    refine ⟨rfl, wb_store ha2 hown2 (by simp [leS_length]) hne hba (Nat.le_trans (Nat.le_trans hbs hs1) hgrow2.size), ?_, ?_⟩
    · exact (((Below.refl base w).drew.trans (hb1.mono hbs)).grown hgrow2 (Nat.le_trans hbs hs1) (fun k hk => (hown.lt k hk).1)).setCell hba _
    · exact (((Kept.of_below hb1).trans (Kept.of_grown hown1 hgrow2) hs1).setCell 0 _)
set_option maxHeartbeats 1600000 in
theorem lay32 (base a n : Nat) (l : List Nat) (w : World) (hn : n < 4294967296) (h : WB base a w l) (hl : l.length ≤ 100000000) :
    Calls Tryz.prog 62 #[.pointer (some ⟨a, 0, none⟩), .int .u32 n] w fun e w' => e = .returned (.tuple #[]) ∧ WB base a w' (l ++ leS n 4) ∧ Below base w w' ∧ Kept a w w' := by
  obtain ⟨v, ha, hown, hva, hba, hbs⟩ := h
  have c0 : w.cell? ⟨a, 0, none⟩ = some v := by simp [World.cell?, ha]
  have c1 : w.cell? ⟨a, 1, none⟩ = some (.int .i64 0) := by simp [World.cell?, ha]
  have f0 : w.frozen? ⟨a, 0, none⟩ = false := by simp [World.frozen?, ha]
  have la := World.block_lt_of_cell? w _ c0
  obtain ⟨i0, hi, hz0, hz1, hz2⟩ := info_parts info5
  have HA := Lib.hid ha
  clear ha
  go_enter Tryz.func62, Tryz.ntmps62
  go_wp2
  go_region_law (first
    | (go_simp; go_at_call 104; refine (put32 n _ hn).mono ?_; rintro e w1 ⟨g, rfl, hput, hb1⟩; have hown1 := own_below hown.drew hb1; have hs1 : w.heap.size ≤ w1.heap.size := hb1.size; have la1 : a < w1.heap.size := Nat.lt_of_lt_of_le la hs1; obtain ⟨hc1, hf1⟩ := bcell hb1; have e0 : w1.cell? ⟨a, 0, none⟩ = some v := (hc1 a 0 la).trans c0)
    | (refine step_append_lies _ (by rfl) (.tmp 13) (.tmp 15) 33 (by rfl) base 5 i0 (.int .u8 0) 1 1 Tryz.underlying33 hi hz0 hz1 hz2 rfl (by omega) v l.length (bv l) (by rfl) hown1
        ⟨g, 0, none⟩ 4 8 (bv (leS n 4)) (by rfl) (by rfl) (row_cells hput) (bv_one _) (by omega) (by simp [maxLen]; omega) (by omega) (by omega) _ rfl ?_; intro gg cap w2 hown2 hgrow2 hat hlt; have d0 : w2.cell? ⟨a, 0, none⟩ = some v := ((hgrow2.cell_far ⟨a, 0, none⟩ la1 (Ne.symm hva)).trans (hc1 a 0 la)).trans c0; have d1 : w2.frozen? ⟨a, 0, none⟩ = false := ((hgrow2.frozen_far ⟨a, 0, none⟩ la1 (Ne.symm hva)).trans (hf1 a 0 la)).trans f0))
  all_goals go_end0
  all_goals
    have ha1 : w1.heap[a]? = some (.cells #[v, .int .i64 0] 146 (0, 0)) := (hb1.block a la).trans HA.out
    have ha2 : w2.heap[a]? = some (.cells #[v, .int .i64 0] 146 (0, 0)) := (hgrow2.block a la1 (Ne.symm hva)).trans ha1
    have hne : gg ≠ a := by
      rcases hat with q | q
      · intro e; subst e; exact hva q
      · omega
    rw [← bv_app] at hown2
    refine ⟨rfl, wb_store ha2 hown2 (by simp [leS_length]) hne hba (Nat.le_trans (Nat.le_trans hbs hs1) hgrow2.size), ?_, ?_⟩
    · exact (((Below.refl base w).drew.trans (hb1.mono hbs)).grown hgrow2 (Nat.le_trans hbs hs1) (fun k hk => (hown.lt k hk).1)).setCell hba _
    · exact (((Kept.of_below hb1).trans (Kept.of_grown hown1 hgrow2) hs1).setCell 0 _)
set_option maxHeartbeats 1600000 in
theorem lay64 (base a n : Nat) (l : List Nat) (w : World) (hn : n < 18446744073709551616) (h : WB base a w l) (hl : l.length ≤ 100000000) :
    Calls Tryz.prog 63 #[.pointer (some ⟨a, 0, none⟩), .int .u64 n] w fun e w' => e = .returned (.tuple #[]) ∧ WB base a w' (l ++ leS n 8) ∧ Below base w w' ∧ Kept a w w' := by
  obtain ⟨v, ha, hown, hva, hba, hbs⟩ := h
  have c0 : w.cell? ⟨a, 0, none⟩ = some v := by simp [World.cell?, ha]
  have c1 : w.cell? ⟨a, 1, none⟩ = some (.int .i64 0) := by simp [World.cell?, ha]
  have f0 : w.frozen? ⟨a, 0, none⟩ = false := by simp [World.frozen?, ha]
  have la := World.block_lt_of_cell? w _ c0
  obtain ⟨i0, hi, hz0, hz1, hz2⟩ := info_parts info5
  have HA := Lib.hid ha
  clear ha
  go_enter Tryz.func63, Tryz.ntmps63
  go_wp2
  go_region_law (first
    | (go_simp; go_at_call 105; refine (put64 n _ hn).mono ?_; rintro e w1 ⟨g, rfl, hput, hb1⟩; have hown1 := own_below hown.drew hb1; have hs1 : w.heap.size ≤ w1.heap.size := hb1.size; have la1 : a < w1.heap.size := Nat.lt_of_lt_of_le la hs1; obtain ⟨hc1, hf1⟩ := bcell hb1; have e0 : w1.cell? ⟨a, 0, none⟩ = some v := (hc1 a 0 la).trans c0)
    | (refine step_append_lies _ (by rfl) (.tmp 13) (.tmp 15) 33 (by rfl) base 5 i0 (.int .u8 0) 1 1 Tryz.underlying33 hi hz0 hz1 hz2 rfl (by omega) v l.length (bv l) (by rfl) hown1
        ⟨g, 0, none⟩ 8 8 (bv (leS n 8)) (by rfl) (by rfl) (row_cells hput) (bv_one _) (by omega) (by simp [maxLen]; omega) (by omega) (by omega) _ rfl ?_; intro gg cap w2 hown2 hgrow2 hat hlt; have d0 : w2.cell? ⟨a, 0, none⟩ = some v := ((hgrow2.cell_far ⟨a, 0, none⟩ la1 (Ne.symm hva)).trans (hc1 a 0 la)).trans c0; have d1 : w2.frozen? ⟨a, 0, none⟩ = false := ((hgrow2.frozen_far ⟨a, 0, none⟩ la1 (Ne.symm hva)).trans (hf1 a 0 la)).trans f0))
  all_goals go_end0
  all_goals
    have ha1 : w1.heap[a]? = some (.cells #[v, .int .i64 0] 146 (0, 0)) := (hb1.block a la).trans HA.out
    have ha2 : w2.heap[a]? = some (.cells #[v, .int .i64 0] 146 (0, 0)) := (hgrow2.block a la1 (Ne.symm hva)).trans ha1
    have hne : gg ≠ a := by
      rcases hat with q | q
      · intro e; subst e; exact hva q
      · omega
    rw [← bv_app] at hown2
    refine ⟨rfl, wb_store ha2 hown2 (by simp [leS_length]) hne hba (Nat.le_trans (Nat.le_trans hbs hs1) hgrow2.size), ?_, ?_⟩
    · exact (((Below.refl base w).drew.trans (hb1.mono hbs)).grown hgrow2 (Nat.le_trans hbs hs1) (fun k hk => (hown.lt k hk).1)).setCell hba _
    · exact (((Kept.of_below hb1).trans (Kept.of_grown hown1 hgrow2) hs1).setCell 0 _)
theorem half_any (base a n : Nat) (l : List Nat) (w : World) (hn : n < 65536) (h : WB base a w l) (hl : l.length ≤ 100000000) :
    Calls Tryz.prog 32 #[.pointer (some ⟨a, 0, none⟩), .int .u16 n] w fun e w' => e = .returned (.tuple #[]) ∧ WB base a w' (l ++ leS n 2) ∧ Below base w w' ∧ Kept a w w' := by
  have H := Lib.hid h
  clear h
  go_enter Tryz.func32, Tryz.ntmps32
  go_wp2_with fail
  refine (lay16 base a n l _ hn H.out hl).mono ?_
  rintro e w1 ⟨rfl, h1, h2, h3⟩
  go_wp2
  go_end0
  exact ⟨rfl, h1, h2, h3⟩
theorem word_any (base a n : Nat) (l : List Nat) (w : World) (hn : n < 4294967296) (h : WB base a w l) (hl : l.length ≤ 100000000) :
    Calls Tryz.prog 33 #[.pointer (some ⟨a, 0, none⟩), .int .u32 n] w fun e w' => e = .returned (.tuple #[]) ∧ WB base a w' (l ++ leS n 4) ∧ Below base w w' ∧ Kept a w w' := by
  have H := Lib.hid h
  clear h
  go_enter Tryz.func33, Tryz.ntmps33
  go_wp2_with fail
  refine (lay32 base a n l _ hn H.out hl).mono ?_
  rintro e w1 ⟨rfl, h1, h2, h3⟩
  go_wp2
  go_end0
  exact ⟨rfl, h1, h2, h3⟩
theorem long_any (base a n : Nat) (l : List Nat) (w : World) (hn : n < 18446744073709551616) (h : WB base a w l) (hl : l.length ≤ 100000000) :
    Calls Tryz.prog 36 #[.pointer (some ⟨a, 0, none⟩), .int .u64 n] w fun e w' => e = .returned (.tuple #[]) ∧ WB base a w' (l ++ leS n 8) ∧ Below base w w' ∧ Kept a w w' := by
  have H := Lib.hid h
  clear h
  go_enter Tryz.func36, Tryz.ntmps36
  go_wp2_with fail
  refine (lay64 base a n l _ hn H.out hl).mono ?_
  rintro e w1 ⟨rfl, h1, h2, h3⟩
  go_wp2
  go_end0
  exact ⟨rfl, h1, h2, h3⟩
end Ae
namespace Ae
open Go Go.Proofs Go.RowKit
theorem ret_bool {a b : Bool} (h : a = b) : Ending.returned (.bool a) = .returned (.bool b) := by rw [h]
def fitsB (z : Int) : Bool := decide (-2147483648 ≤ z ∧ z < 2147483648)
theorem fits_wrap {z : Int} (h : -9223372036854775808 ≤ z ∧ z < 9223372036854775808) : (wrap64 (wrap32 z) != z) = !fitsB z := by
  unfold fitsB wrap64 wrap32
  by_cases q : -2147483648 ≤ z ∧ z < 2147483648
  · simp [q]; omega
  · simp [q]; omega
theorem all_take {zs : List Int} {k : Nat} (hk : k < zs.length) : (zs.take (k + 1)).all fitsB = ((zs.take k).all fitsB && fitsB zs[k]) := by
  rw [List.take_succ_eq_append_getElem hk, List.all_append]; simp
set_option maxHeartbeats 800000 in
theorem fits_any (b off len cap : Nat) (zs : List Int) (w : World) (hlen : zs.length = len) (hbig : len < 9223372036854775807) (hc : ∀ j, j < len → w.cell? ⟨b, off + j, none⟩ = some (.int .i64 (zs[j]?.getD 0))) (hr : ∀ z ∈ zs, -9223372036854775808 ≤ z ∧ z < 9223372036854775808) :
    Calls Tryz.prog 34 #[.slice (some ⟨b, off, none⟩) len cap] w fun e w' => e = .returned (.bool (zs.all fitsB)) ∧ w = w' := by
  have HL := Lib.hid hlen
  clear hlen
  go_enter Tryz.func34, Tryz.ntmps34
  go_wp2
  go_loop [7] (fun i => ∃ k : Nat, k ≤ len ∧ i = .int .i64 k ∧ (zs.take k).all fitsB = true) (fun i => len - (intOf i).toNat)
  case atStart => exact ⟨0, Nat.zero_le _, rfl, rfl⟩
  case round =>
    obtain ⟨k, hk, rfl, hall⟩ := hrel
    have HA := Lib.hid hall
    clear hall
    by_cases hlt : k < len
    · have hcell := hc k hlt
      have hz := hr (zs[k]?.getD 0) (by have := HL.out; rw [List.getElem?_eq_getElem (by omega)]; exact List.getElem_mem _)
      generalize hzk : zs[k]?.getD 0 = z at hcell hz
      have HZ := Lib.hid hzk
      clear hzk hc hr
      have hkz : zs[k]'(by have := HL.out; omega) = z := by have := HZ.out; rw [List.getElem?_eq_getElem (by have := HL.out; omega)] at this; exact this
      have HK := Lib.hid hkz
      clear hkz
      go_wp2
      · rename_i hq _
        go_ret
        refine ⟨ret_bool ?_, rfl⟩
        have hk' : k < zs.length := by have := HL.out; omega
        have h1 : fitsB zs[k] = false := by rw [HK.out]; have := fits_wrap hz; rw [hq] at this; simpa using this.symm
        have : ¬ (zs.all fitsB = true) := fun h => by
          rw [List.all_eq_true] at h
          have := h zs[k] (List.getElem_mem _)
          rw [h1] at this; cases this
        symm; simpa using this
      · go_round
        case rel =>
          rename_i hq
          have hk' : k < zs.length := by have := HL.out; omega
          refine ⟨k + 1, by omega, by go_num, ?_⟩
          rw [all_take hk', HA.out, HK.out]
          have := fits_wrap hz
          rw [hq] at this
          simpa using this.symm
        case measure => simp [intOf]; omega
    · clear hc hr
      have : k = len := by omega
      subst this
      go_wp2
      go_ret
      refine ⟨ret_bool ?_, rfl⟩
      have := HA.out
      rw [List.take_of_length_le (by have := HL.out; omega)] at this
      rw [this]
end Ae
namespace Ae
open Go Go.Proofs Go.RowKit
structure Stp where
  k : Int
  s : Int
  n : Int
  a : Int
  at_ : Nat
  wd : Int
  v : Nat
structure Rsl where
  why : Int
  v : Nat
  at_ : Nat
  cl : Nat
def i64B (z : Int) : Prop := -9223372036854775808 ≤ z ∧ z < 9223372036854775808
def u64B (n : Nat) : Prop := n < 18446744073709551616
def Stp.ok (x : Stp) : Prop := i64B x.k ∧ i64B x.s ∧ i64B x.n ∧ i64B x.a ∧ u64B x.at_ ∧ i64B x.wd ∧ u64B x.v
def Rsl.ok (x : Rsl) : Prop := i64B x.why ∧ u64B x.v ∧ u64B x.at_ ∧ u64B x.cl
def Stp.cells (x : Stp) : List Value := [.int .i64 x.k, .int .i64 x.s, .int .i64 x.n, .int .i64 x.a, .int .u64 x.at_, .int .i64 x.wd, .int .u64 x.v]
def Rsl.cells (x : Rsl) : List Value := [.int .i64 x.why, .int .u64 x.v, .int .u64 x.at_, .int .u64 x.cl]
def Lies (w : World) (b off : Nat) (size : Nat) (l : List (List Value)) : Prop := ∀ j (x : List Value), l[j]? = some x → ∀ q (u : Value), x[q]? = some u → w.cell? ⟨b, off + j * size + q, none⟩ = some u
def lowN (z : Int) : Nat := (z % 4294967296).toNat
theorem low_any (z : Int) (w : World) (h : i64B z) : Calls Tryz.prog 35 #[.int .i64 z] w fun e w' => e = .returned (.int .u32 (lowN z : Nat)) ∧ w = w' := by
  have hn : (lowN z : Int) = z % 4294967296 := by unfold lowN; omega
  unfold i64B at h
  go_enter Tryz.func35, Tryz.ntmps35
  go_wp2
  go_ret
  exact ⟨by rw [hn]; unfold wrap32; congr 1; show Value.int _ _ = Value.int _ _; congr 1; omega, rfl⟩
theorem stp_cells {w : World} {b off : Nat} {ss : List Stp} (h : Lies w b off 7 (ss.map Stp.cells)) {k : Nat} (hk : k < ss.length) :
    w.cell? ⟨b, off + k * 7, none⟩ = some (.int .i64 ss[k].k) ∧ w.cell? ⟨b, off + k * 7 + 1, none⟩ = some (.int .i64 ss[k].s) ∧ w.cell? ⟨b, off + k * 7 + 2, none⟩ = some (.int .i64 ss[k].n) ∧ w.cell? ⟨b, off + k * 7 + 3, none⟩ = some (.int .i64 ss[k].a) ∧
    w.cell? ⟨b, off + k * 7 + 4, none⟩ = some (.int .u64 ss[k].at_) ∧ w.cell? ⟨b, off + k * 7 + 5, none⟩ = some (.int .i64 ss[k].wd) ∧ w.cell? ⟨b, off + k * 7 + 6, none⟩ = some (.int .u64 ss[k].v) := by
  have h := h k (ss[k].cells) (by simp [hk])
  exact ⟨h 0 _ rfl, h 1 _ rfl, h 2 _ rfl, h 3 _ rfl, h 4 _ rfl, h 5 _ rfl, h 6 _ rfl⟩
theorem Lies.below {w w' : World} {B b off sz : Nat} {l : List (List Value)} (h : Lies w b off sz l) (hb : Below B w w') (hB : b < B) : Lies w' b off sz l :=
  fun j x hj q u hq => (hb.cell (p := ⟨b, off + j * sz + q, none⟩) hB).trans (h j x hj q u hq)
def stpFits (x : Stp) : Bool := fitsB x.k && fitsB x.s && fitsB x.n && fitsB x.a && fitsB x.wd
theorem new_cells (w : World) (B : Nat) (hB : w.heap.size = B) (vs : List Int) : ∀ j, j < vs.length → (w.alloc (.cells (vs.map (Value.int .i64)).toArray 3)).cell? ⟨B, 0 + j, none⟩ = some (.int .i64 (vs[j]?.getD 0)) := by
  intro j hj
  subst hB
  rw [World.cell?_alloc_new]
  simp [hj]
theorem fits5 (x : Stp) (w : World) (B : Nat) (hB : w.heap.size = B) (hx : x.ok) {f : Bool} (hf : stpFits x = f) :
    Calls Tryz.prog 34 #[.slice (some ⟨B, 0, none⟩) 5 5] (w.alloc (.cells #[.int .i64 x.k, .int .i64 x.s, .int .i64 x.n, .int .i64 x.a, .int .i64 x.wd] 3)) fun e w' => e = .returned (.bool f) ∧ (w.alloc (.cells #[.int .i64 x.k, .int .i64 x.s, .int .i64 x.n, .int .i64 x.a, .int .i64 x.wd] 3)) = w' := by
  obtain ⟨h1, h2, h3, h4, h5, h6, h7⟩ := hx
  refine (fits_any B 0 5 5 [x.k, x.s, x.n, x.a, x.wd] (w.alloc (.cells #[.int .i64 x.k, .int .i64 x.s, .int .i64 x.n, .int .i64 x.a, .int .i64 x.wd] 3)) rfl (by omega) (new_cells w B hB [x.k, x.s, x.n, x.a, x.wd]) ?_).mono ?_
  · intro z hz
    simp only [List.mem_cons, List.mem_nil_iff, or_false] at hz
    rcases hz with rfl | rfl | rfl | rfl | rfl <;> assumption
  · rintro e w' ⟨rfl, rfl⟩
    refine ⟨ret_bool ?_, rfl⟩
    rw [← hf]; simp [stpFits, Bool.and_assoc]
theorem stp_take {ss : List Stp} {k : Nat} (hk : k < ss.length) : (ss.take (k + 1)).all stpFits = ((ss.take k).all stpFits && stpFits ss[k]) := by
  rw [List.take_succ_eq_append_getElem hk, List.all_append]; simp
theorem not_all {ss : List Stp} {k : Nat} (hk : k < ss.length) (h : stpFits ss[k] = false) : ss.all stpFits = false := by
  cases q : ss.all stpFits with
  | false => rfl
  | true =>
    rw [List.all_eq_true] at q
    have := q ss[k] (List.getElem_mem _)
    rw [h] at this; cases this
def rightN (ss : List Stp) : Int := if 65536 < ss.length then 4 else if ss.all stpFits then 0 else 132
theorem ret_int {k : IntKind} {a b : Int} (h : a = b) : Ending.returned (.int k a) = .returned (.int k b) := by rw [h]
def Arr (w : World) (p : Option Addr) (size : Nat) (l : List (List Value)) : Prop := 0 < l.length → ∃ b off, p = some ⟨b, off, none⟩ ∧ b < w.heap.size ∧ Lies w b off size l
theorem Arr.below {w w' : World} {p : Option Addr} {sz : Nat} {l : List (List Value)} (h : Arr w p sz l) (hb : Below w.heap.size w w') : Arr w' p sz l := fun h0 => by
  obtain ⟨b, off, e, hlt, hl⟩ := h h0
  exact ⟨b, off, e, Nat.lt_of_lt_of_le hlt hb.size, hl.below hb hlt⟩
set_option maxHeartbeats 400000 in
theorem right_any (p : Option Addr) (len cap : Nat) (ss : List Stp) (w : World) (hlen : ss.length = len) (hbig : len < 9223372036854775807) (hc : Arr w p 7 (ss.map Stp.cells)) (hr : ∀ x ∈ ss, x.ok) :
    Calls Tryz.prog 29 #[.slice p len cap] w fun e w' => e = .returned (.int .i64 (rightN ss)) ∧ Below w.heap.size w w' := by
  have HL := Lib.hid hlen
  clear hlen
  have HC := Lib.hid hc
  clear hc
  have HR := Lib.hid hr
  clear hr
  go_enter Tryz.func29, Tryz.ntmps29
  by_cases hm : 65536 < len
  · go_wp2
    go_ret
    exact ⟨ret_int (by unfold rightN; rw [if_pos (by have := HL.out; omega)]), Below.refl _ _⟩
  · go_wp2
    go_loopw [10] (fun i wr => ∃ k : Nat, k ≤ len ∧ i = .int .i64 k ∧ Below w.heap.size w wr ∧ (ss.take k).all stpFits = true) (fun i _ => len - (intOf i).toNat)
    case atStart => exact ⟨0, Nat.zero_le _, rfl, Below.refl _ _, rfl⟩
    case round =>
      obtain ⟨k, hk, rfl, hb, hall⟩ := hrel
      have HA := Lib.hid hall
      clear hall
      by_cases hlt : k < len
      · have hk' : k < ss.length := by have := HL.out; omega
        obtain ⟨b, off, rfl, hb0, hlies⟩ := HC.out (by simp; omega)
        obtain ⟨c0, c1, c2, c3, c4, c5, c6⟩ := stp_cells (hlies.below hb hb0) hk'
        have HLI := Lib.hid hlies
        clear hlies
        have hx := HR.out ss[k] (List.getElem_mem _)
        generalize hxe : ss[k] = x at c0 c1 c2 c3 c4 c5 c6 hx
        have HX := Lib.hid hxe
        clear hxe
        have hbs := hb.size
        cases hf : stpFits x with
        | false =>
          have HF := Lib.hid hf
          clear hf
          go_wp2_with (go_at_call 34; refine (fits5 x _ _ (by simp) hx HF.out).mono ?_; rintro e w' ⟨rfl, rfl⟩)
          go_ret
          refine ⟨ret_int ?_, (hb.alloc (by omega) _).alloc (by simp; omega) _⟩
          unfold rightN
          rw [if_neg (by have := HL.out; omega), not_all hk' (by rw [HX.out]; exact HF.out)]; rfl
        | true =>
          have HF := Lib.hid hf
          clear hf
          go_wp2_with (go_at_call 34; refine (fits5 x _ _ (by simp) hx HF.out).mono ?_; rintro e w' ⟨rfl, rfl⟩)
          go_roundw
          case rel => exact ⟨k + 1, by omega, by go_num, (hb.alloc (by omega) _).alloc (by simp; omega) _, by rw [stp_take hk', HA.out, HX.out, HF.out]; rfl⟩
          case measure => simp [intOf]; omega
      · have : k = len := by omega
        subst this
        go_wp2
        go_ret
        refine ⟨ret_int ?_, hb⟩
        have := HA.out
        rw [List.take_of_length_le (by have := HL.out; omega)] at this
        unfold rightN
        rw [if_neg (by have := HL.out; omega), this]; rfl
end Ae
namespace Ae
open Go Go.Proofs Go.RowKit
theorem own_slice {w : World} {base E sz n : Nat} {v : Value} {xs : List Value} (h : w.ownsRow base E sz v n xs) (hn : 0 < n) : ∃ g cap, v = .slice (some ⟨g, 0, none⟩) n cap := by
  obtain ⟨_, h | ⟨g, cap, cur, e, _⟩⟩ := h
  · omega
  · exact ⟨g, cap, e⟩
theorem own_apart {w : World} {base E sz n cap gg a : Nat} {xs : List Value} {cs : Array Value} {t : Nat} {fr : Nat × Nat} (h : w.ownsRow base E sz (.slice (some ⟨gg, 0, none⟩) n cap) n xs) (ha : w.heap[a]? = some (.cells cs t fr)) (ht : t ≠ E) : gg ≠ a := by
  rintro rfl
  obtain ⟨_, h | ⟨g, cap, cur, e, _, hg, _⟩⟩ := h
  · cases h.1
  · cases e
    rw [ha] at hg
    cases hg
    exact ht rfl
theorem newWriter_any (w : World) : Calls Tryz.prog 30 #[] w fun e w' => e = .returned (.pointer (some ⟨w.heap.size, 0, none⟩)) ∧ WB w.heap.size w.heap.size w' [] ∧ Below w.heap.size w w' := by
  go_enter Tryz.func30, Tryz.ntmps30
  go_wp2
  go_ret
  refine ⟨rfl, ⟨.slice none 0 0, heap_alloc_new _ _, World.ownsRow_nil _ _ _ _, by simp [Value.ownBlock], Nat.le_refl _, by simp⟩, (Below.refl _ _).alloc (Nat.le_refl _) _⟩
set_option maxHeartbeats 1600000 in
set_option maxRecDepth 100000 in
theorem bytes_any (base a g m c : Nat) (l ms : List Nat) (w : World) (hms : ms.length = m) (hm : 0 < m) (h : WB base a w l) (hl : l.length ≤ 100000000) (hml : m ≤ 100000000) (hc : ∀ (j : Nat) (u : Value), (bv ms)[j]? = some u → w.cell? ((⟨g, 0, none⟩ : Addr).add j) = some u) :
    Calls Tryz.prog 31 #[.pointer (some ⟨a, 0, none⟩), .slice (some ⟨g, 0, none⟩) m c] w fun e w' => e = .returned (.tuple #[]) ∧ WB base a w' (l ++ ms) ∧ Below base w w' ∧ Kept a w w' := by
  obtain ⟨v, ha, hown, hva, hba, hbs⟩ := h
  have c0 : w.cell? ⟨a, 0, none⟩ = some v := by simp [World.cell?, ha]
  have c1 : w.cell? ⟨a, 1, none⟩ = some (.int .i64 0) := by simp [World.cell?, ha]
  have f0 : w.frozen? ⟨a, 0, none⟩ = false := by simp [World.frozen?, ha]
  have la := World.block_lt_of_cell? w _ c0
  obtain ⟨i0, hi, hz0, hz1, hz2⟩ := info_parts info5
  have HA := Lib.hid ha
  have HC := Lib.hid hc
  have HM := Lib.hid hms
  clear ha hc hms
  go_enter Tryz.func31, Tryz.ntmps31
  go_wp2_with (first
    | (refine wpList_append_own _ rfl (.tmp 13) (.tmp 14) 33 rfl base 5 i0 (.int .u8 0) 1 1 Tryz.underlying33 hi hz0 hz1 hz2 rfl (by omega) v l.length (bv l) rfl hown
        ⟨g, 0, none⟩ m c (bv ms) rfl (by rw [bv_length, HM.out]; omega) HC.out (bv_one _) (by simp [maxLen]; omega) (by omega) hbs ?_; intro v2 w2 hown2 hgrow2 _; obtain ⟨gg, cap, rfl⟩ := own_slice hown2 (by omega); have d0 : w2.cell? ⟨a, 0, none⟩ = some v := ((hgrow2.cell_far ⟨a, 0, none⟩ la (Ne.symm hva))).trans c0; have d1 : w2.frozen? ⟨a, 0, none⟩ = false := ((hgrow2.frozen_far ⟨a, 0, none⟩ la (Ne.symm hva))).trans f0))
  go_end0
  have ha2 : w2.heap[a]? = some (.cells #[v, .int .i64 0] 146 (0, 0)) := (hgrow2.block a la (Ne.symm hva)).trans HA.out
  rw [← bv_app] at hown2
  exact ⟨rfl, wb_store ha2 hown2 (by simp [HM.out]) (own_apart hown2 ha2 (by decide)) hba (Nat.le_trans hbs hgrow2.size), (((Below.refl base w).grown hgrow2 hbs (fun k hk => (hown.lt k hk).1)).setCell hba _), (Kept.of_grown hown hgrow2).setCell 0 _⟩
def crcOf (l : List Nat) : Nat := 4294967295 ^^^ crcN l 4294967295 l.length
theorem xor_max : bits .xor .u32 IntKind.u32.max ((0 : Nat) : Int) = ((4294967295 : Nat) : Int) := by decide
theorem crc_any (b off len cap : Nat) (zs : List Nat) (w : World) (hlen : zs.length = len) (hbig : len < 9223372036854775808) (hz : ∀ x ∈ zs, x < 256) (hb : b < w.heap.size) (hc : ∀ j, j < len → w.cell? ⟨b, off + j, none⟩ = some (.int .u8 (zs[j]?.getD 0 : Nat))) :
    Calls Tryz.prog 64 #[.slice (some ⟨b, off, none⟩) len cap] w fun e w' => e = .returned (.int .u32 (crcOf zs : Nat)) ∧ Below w.heap.size w w' := by
  have hz' : ∀ j : Nat, zs[j]?.getD 0 < 256 := fun j => by
    rcases Nat.lt_or_ge j zs.length with q | q
    · rw [List.getElem?_eq_getElem q]; exact hz _ (List.getElem_mem _)
    · rw [List.getElem?_eq_none q]; decide
  have hm := more_walk 0 4294967295 b off len cap zs w (Lib.hid xor_max) (by decide) hbig hz' hb hc
  have HM := Lib.hid hm
  have HL := Lib.hid hlen
  clear hm hz' hlen hz hc
  go_enter Tryz.func64, Tryz.ntmps64
  go_wp2_with fail
  refine HM.out.mono ?_
  rintro e w1 ⟨rfl, h1⟩
  go_wp2
  go_ret
  exact ⟨ret_int (by rw [crcOf, HL.out]), h1⟩
theorem row_at {w : World} {base g n cap : Nat} {l : List Nat} (h : w.ownsRow base 5 1 (.slice (some ⟨g, 0, none⟩) n cap) n (bv l)) (hn : n = l.length) : ∀ j, j < n → w.cell? ⟨g, 0 + j, none⟩ = some (.int .u8 (l[j]?.getD 0 : Nat)) := by
  intro j hj
  have hb := row_cells h j (.int .u8 (l[j]?.getD 0 : Nat)) (by simp [bv, List.getElem?_eq_getElem (show j < l.length by omega)])
  have hadd : (⟨g, 0, none⟩ : Addr).add j = ⟨g, j, none⟩ := by unfold Addr.add; split <;> simp_all
  rw [hadd] at hb
  rw [Nat.zero_add]; exact hb
theorem WB.below {base a : Nat} {w w1 : World} {l : List Nat} (h : WB base a w l) (hb : Below w.heap.size w w1) : WB base a w1 l := by
  obtain ⟨v, ha, hown, hva, hba, hbs⟩ := h
  have la : a < w.heap.size := by
    rcases Nat.lt_or_ge a w.heap.size with q | q
    · exact q
    · rw [Array.getElem?_eq_none q] at ha; cases ha
  exact ⟨v, (hb.block a la).trans ha, own_below hown hb, hva, hba, Nat.le_trans hbs hb.size⟩
theorem crcOf_lt {l : List Nat} (h : ∀ x ∈ l, x < 256) : crcOf l < 4294967296 := by
  have hz' : ∀ j : Nat, l[j]?.getD 0 < 256 := fun j => by
    rcases Nat.lt_or_ge j l.length with q | q
    · rw [List.getElem?_eq_getElem q]; exact h _ (List.getElem_mem _)
    · rw [List.getElem?_eq_none q]; decide
  exact Nat.xor_lt_two_pow (n := 32) (by decide) (crcN_lt hz' (by decide) _)
set_option maxHeartbeats 800000 in
theorem seal_any (base a : Nat) (l : List Nat) (w : World) (h : WB base a w l) (hl : l.length ≤ 100000000) (h0 : 0 < l.length) (hz : ∀ x ∈ l, x < 256) :
    Calls Tryz.prog 37 #[.pointer (some ⟨a, 0, none⟩), .int .i64 0] w fun e w' => e = .returned (.tuple #[]) ∧ WB base a w' (l ++ leS (crcOf l) 4) ∧ Below base w w' ∧ Kept a w w' := by
  have HW := Lib.hid h
  obtain ⟨v, ha, hown, hva, hba, hbs⟩ := h
  obtain ⟨g, cap, rfl⟩ := own_slice hown h0
  have c0 : w.cell? ⟨a, 0, none⟩ = some (.slice (some ⟨g, 0, none⟩) l.length cap) := by simp [World.cell?, ha]
  have c1 : w.cell? ⟨a, 1, none⟩ = some (.int .i64 0) := by simp [World.cell?, ha]
  have HA := Lib.hid ha
  have HZ := Lib.hid hz
  clear ha hz
  go_enter Tryz.func37, Tryz.ntmps37
  go_wp2_with fail
  refine (crc_any g 0 l.length cap l w rfl (by omega) HZ.out ((hown.lt g rfl).2) (row_at hown rfl)).mono ?_
  rintro e w1 ⟨rfl, hb1⟩
  have HW1 := Lib.hid (HW.out.below hb1)
  go_wp2_with fail
  refine (lay32 base a (crcOf l) l _ (crcOf_lt HZ.out) HW1.out hl).mono ?_
  rintro e w2 ⟨rfl, h1, h2, h3⟩
  go_wp2
  go_end0
  exact ⟨rfl, h1, (hb1.mono hbs).trans h2, (Kept.of_below hb1).trans h3 hb1.size⟩
set_option maxRecDepth 100000 in
theorem clone_any (base g n cap : Nat) (l : List Nat) (w : World) (hn : n = l.length) (h0 : 0 < n) (hl : l.length ≤ 100000000) (hown : w.ownsRow base 5 1 (.slice (some ⟨g, 0, none⟩) n cap) n (bv l)) :
    Calls Tryz.prog 65 #[.slice (some ⟨g, 0, none⟩) n cap] w fun e w' => ∃ gg c, e = .returned (.slice (some ⟨gg, 0, none⟩) n c) ∧ w'.ownsRow w.heap.size 5 1 (.slice (some ⟨gg, 0, none⟩) n c) n (bv l) ∧ Below w.heap.size w w' := by
  obtain ⟨i0, hi, hz0, hz1, hz2⟩ := info_parts info5
  have hnil : ∀ w, (binOp .eql 33 (.slice (some ⟨g, 0, none⟩) n cap) (.slice none 0 0)).run Tryz.prog w = .ok (.bool false) w := fun w => Lib.run_eql_slice_nil w 33 5 _ _ _ _ _ Tryz.underlying33
  have HO := Lib.hid (World.ownsRow.alloc hown (.cells #[] 5))
  have HN := Lib.hid hn
  have hmade := World.ownsRow_made (base := w.heap.size) (e := 5) (size := 1) w #[] 0 (Nat.le_refl _) (by simp [maxLen]) rfl
  clear hown hn
  go_enter Tryz.func65, Tryz.ntmps65
  go_wp2_with (first
    | (refine wpList_append_own _ rfl (.tmp 5) (.tmp 6) 33 rfl w.heap.size 5 i0 (.int .u8 0) 1 1 Tryz.underlying33 hi hz0 hz1 hz2 rfl (by omega) _ 0 [] rfl hmade
        ⟨g, 0, none⟩ n cap (bv l) rfl (by rw [bv_length, HN.out]; omega) (row_cells HO.out) (bv_one _) (by simp [maxLen]; have := HN.out; omega) (by have := HN.out; omega) (by simp) ?_; intro v2 w2 hown2 hgrow2 _))
  have hb2 : Below w.heap.size w w2 := ((Below.refl w.heap.size w).alloc (Nat.le_refl _) _).grown hgrow2 (by simp) (by rintro _ ⟨⟩; exact Nat.le_refl _)
  rw [Nat.zero_add, List.nil_append] at hown2
  obtain ⟨gg, cap2, rfl⟩ := own_slice hown2 h0
  go_ret
  exact ⟨gg, cap2, rfl, hown2, hb2⟩
theorem all_any (base a : Nat) (l : List Nat) (w : World) (h0 : 0 < l.length) (hl : l.length ≤ 100000000) (h : WB base a w l) :
    Calls Tryz.prog 38 #[.pointer (some ⟨a, 0, none⟩)] w fun e w' => ∃ g c, e = .returned (.slice (some ⟨g, 0, none⟩) l.length c) ∧ w'.ownsRow w.heap.size 5 1 (.slice (some ⟨g, 0, none⟩) l.length c) l.length (bv l) ∧ Below w.heap.size w w' := by
  obtain ⟨v, ha, hown, hva, hba, hbs⟩ := h
  obtain ⟨g, cap, rfl⟩ := own_slice hown h0
  have c0 : w.cell? ⟨a, 0, none⟩ = some (.slice (some ⟨g, 0, none⟩) l.length cap) := by simp [World.cell?, ha]
  have HO := Lib.hid hown
  clear ha hown
  go_enter Tryz.func38, Tryz.ntmps38
  go_wp2_with fail
  refine (clone_any base g l.length cap l w rfl h0 hl HO.out).mono ?_
  rintro e w1 ⟨g2, c2, rfl, h1, h2⟩
  go_wp2
  go_ret
  exact ⟨g2, c2, rfl, h1, h2⟩
end Ae
namespace Ae
open Go Go.Proofs Go.RowKit
def magicL : List Nat := [98, 117, 108, 107, 116, 114, 99, 10]
def hdrL (n : Nat) : List Nat := magicL ++ leS 1 2 ++ leS 0 2 ++ leS n 4
def wordsL (zs : List Int) : List Nat := zs.flatMap fun z => leS (lowN z) 4
def Stp.ints (x : Stp) : List Int := [x.k, x.s, x.n, x.a, x.wd]
def recL (x : Stp) (r : Rsl) : List Nat := wordsL x.ints ++ leS x.at_ 8 ++ leS x.v 8 ++ leS (lowN r.why) 4 ++ leS r.v 8 ++ leS r.at_ 8 ++ leS r.cl 8
def recsL : List Stp → List Rsl → List Nat
  | x :: ss, r :: rs => recL x r ++ recsL ss rs
  | _, _ => []
def rslFits (r : Rsl) : Bool := fitsB r.why
def bodyL (ss : List Stp) (rs : List Rsl) : List Nat := hdrL ss.length ++ recsL ss rs
def encL (ss : List Stp) (rs : List Rsl) : List Nat := bodyL ss rs ++ leS (crcOf (bodyL ss rs)) 4
def encN (ss : List Stp) (rs : List Rsl) : Int := if ss.length ≠ rs.length then 180 else if rightN ss ≠ 0 then rightN ss else if rs.all rslFits then 0 else 132
theorem wordsL_length (zs : List Int) : (wordsL zs).length = 4 * zs.length := by
  induction zs with
  | nil => rfl
  | cons z zs ih => simp only [wordsL, List.flatMap_cons, List.length_append, leS_length, List.length_cons] at ih ⊢; omega
theorem recL_length (x : Stp) (r : Rsl) : (recL x r).length = 64 := by
  simp [recL, leS_length, wordsL_length, Stp.ints]
theorem recsL_length : ∀ (ss : List Stp) (rs : List Rsl), (recsL ss rs).length = 64 * min ss.length rs.length
  | [], _ => by simp [recsL]
  | _ :: _, [] => by simp [recsL]
  | x :: ss, r :: rs => by
    have := recsL_length ss rs
    simp only [recsL, List.length_append, recL_length, this, List.length_cons]; omega
theorem hdrL_length (n : Nat) : (hdrL n).length = 16 := by simp [hdrL, magicL, leS_length]
theorem recsL_snoc : ∀ (ss : List Stp) (rs : List Rsl) (k : Nat) (h : k < ss.length) (h' : k < rs.length), recsL (ss.take (k + 1)) (rs.take (k + 1)) = recsL (ss.take k) (rs.take k) ++ recL ss[k] rs[k]
  | x :: ss, r :: rs, 0, _, _ => by simp [recsL]
  | x :: ss, r :: rs, k + 1, h, h' => by
    have := recsL_snoc ss rs k (by simpa using h) (by simpa using h')
    simp only [List.take_succ_cons, recsL, this, List.append_assoc, List.getElem_cons_succ]
theorem leS_lt (n : Nat) : ∀ k, ∀ x ∈ leS n k, x < 256
  | 0 => fun x h => by cases h
  | k + 1 => fun x h => by
    rw [leS, List.mem_append] at h
    rcases h with h | h
    · exact leS_lt n k x h
    · rw [List.mem_singleton] at h; subst h; exact Nat.mod_lt _ (by decide)
theorem lt_app {l m : List Nat} (h : ∀ x ∈ l, x < 256) (h' : ∀ x ∈ m, x < 256) : ∀ x ∈ l ++ m, x < 256 := fun x hx => by
  rcases List.mem_append.1 hx with q | q
  · exact h x q
  · exact h' x q
theorem wordsL_lt (zs : List Int) : ∀ x ∈ wordsL zs, x < 256 := fun x h => by
  obtain ⟨z, _, h⟩ := List.mem_flatMap.1 h
  exact leS_lt _ _ x h
theorem recL_lt (x : Stp) (r : Rsl) : ∀ y ∈ recL x r, y < 256 :=
  lt_app (lt_app (lt_app (lt_app (lt_app (lt_app (wordsL_lt _) (leS_lt _ _)) (leS_lt _ _)) (leS_lt _ _)) (leS_lt _ _)) (leS_lt _ _)) (leS_lt _ _)
theorem recsL_lt : ∀ (ss : List Stp) (rs : List Rsl), ∀ y ∈ recsL ss rs, y < 256
  | [], _ => fun y h => by simp [recsL] at h
  | _ :: _, [] => fun y h => by simp [recsL] at h
  | x :: ss, r :: rs => lt_app (recL_lt x r) (recsL_lt ss rs)
theorem hdrL_lt (n : Nat) : ∀ y ∈ hdrL n, y < 256 := lt_app (lt_app (lt_app (by decide) (leS_lt _ _)) (leS_lt _ _)) (leS_lt _ _)
theorem bodyL_lt (ss : List Stp) (rs : List Rsl) : ∀ y ∈ bodyL ss rs, y < 256 := lt_app (hdrL_lt _) (recsL_lt ss rs)
theorem lowN_lt (z : Int) : lowN z < 4294967296 := by unfold lowN; omega
theorem rsl_cells {w : World} {b off : Nat} {rs : List Rsl} (h : Lies w b off 4 (rs.map Rsl.cells)) {k : Nat} (hk : k < rs.length) :
    w.cell? ⟨b, off + k * 4, none⟩ = some (.int .i64 rs[k].why) ∧ w.cell? ⟨b, off + k * 4 + 1, none⟩ = some (.int .u64 rs[k].v) ∧ w.cell? ⟨b, off + k * 4 + 2, none⟩ = some (.int .u64 rs[k].at_) ∧ w.cell? ⟨b, off + k * 4 + 3, none⟩ = some (.int .u64 rs[k].cl) := by
  have h := h k (rs[k].cells) (by simp [hk])
  exact ⟨h 0 _ rfl, h 1 _ rfl, h 2 _ rfl, h 3 _ rfl⟩
def EncPost (ss : List Stp) (rs : List Rsl) (B : Nat) (w : World) (e : Ending) (w' : World) : Prop :=
  ∃ v, e = .returned (.tuple #[v, .int .i64 (encN ss rs)]) ∧ Below B w w' ∧ ((encN ss rs ≠ 0 ∧ v = .slice none 0 0) ∨ (encN ss rs = 0 ∧ ∃ g c, v = .slice (some ⟨g, 0, none⟩) (encL ss rs).length c ∧ w'.ownsRow B 5 1 v (encL ss rs).length (bv (encL ss rs))))
theorem encode_A (p p' : Option Addr) (len cap len' cap' : Nat) (ss : List Stp) (rs : List Rsl) (w : World) (h1 : ss.length = len) (h2 : rs.length = len') (hne : len ≠ len') :
    Calls Tryz.prog 9 #[.slice p len cap, .slice p' len' cap'] w (EncPost ss rs w.heap.size w) := by
  have hd : encN ss rs = 180 := by unfold encN; rw [if_pos (by omega)]
  have HD := Lib.hid hd
  have hq : ((len : Int) != (len' : Int)) = true := by simp; omega
  clear hd h1 h2
  go_enter Tryz.func9, Tryz.ntmps9
  go_wp2
  go_ret2
  exact ⟨.slice none 0 0, by rw [HD.out]; rfl, Below.refl _ _, .inl ⟨by rw [HD.out]; decide, rfl⟩⟩
theorem encode_B (p p' : Option Addr) (len cap cap' : Nat) (ss : List Stp) (rs : List Rsl) (w : World) (h1 : ss.length = len) (h2 : rs.length = len) (hbig : len < 9223372036854775807) (hs : Arr w p 7 (ss.map Stp.cells)) (hok : ∀ x ∈ ss, x.ok) (hne : rightN ss ≠ 0) :
    Calls Tryz.prog 9 #[.slice p len cap, .slice p' len cap'] w (EncPost ss rs w.heap.size w) := by
  have hd : encN ss rs = rightN ss := by unfold encN; rw [if_neg (by omega), if_pos hne]
  have HD := Lib.hid hd
  have HR := Lib.hid (right_any p len cap ss w h1 hbig hs hok)
  have HN := Lib.hid hne
  have hq : (rightN ss != 0) = true := by simpa using hne
  have hq2 : ((len : Int) != (len : Int)) = false := by simp
  clear hd h1 h2 hs hok hne
  go_enter Tryz.func9, Tryz.ntmps9
  go_wp2_with fail
  refine HR.out.mono ?_
  rintro e w1 ⟨rfl, hb1⟩
  go_wp2
  go_ret2
  exact ⟨.slice none 0 0, by rw [HD.out]; rfl, hb1, .inl ⟨by rw [HD.out]; exact HN.out, rfl⟩⟩
theorem fits1 (z : Int) (w : World) (B : Nat) (hB : w.heap.size = B) (hx : i64B z) {f : Bool} (hf : fitsB z = f) :
    Calls Tryz.prog 34 #[.slice (some ⟨B, 0, none⟩) 1 1] (w.alloc (.cells #[.int .i64 z] 3)) fun e w' => e = .returned (.bool f) ∧ (w.alloc (.cells #[.int .i64 z] 3)) = w' := by
  refine (fits_any B 0 1 1 [z] (w.alloc (.cells #[.int .i64 z] 3)) rfl (by omega) (new_cells w B hB [z]) ?_).mono ?_
  · intro z' hz
    simp only [List.mem_cons, List.mem_nil_iff, or_false] at hz
    subst hz; exact hx
  · rintro e w' ⟨rfl, rfl⟩
    refine ⟨ret_bool ?_, rfl⟩
    rw [← hf]; simp
theorem rsl_take {rs : List Rsl} {k : Nat} (hk : k < rs.length) : (rs.take (k + 1)).all rslFits = ((rs.take k).all rslFits && rslFits rs[k]) := by
  rw [List.take_succ_eq_append_getElem hk, List.all_append]; simp
theorem rsl_not {rs : List Rsl} {k : Nat} (hk : k < rs.length) (h : rslFits rs[k] = false) : rs.all rslFits = false := by
  cases q : rs.all rslFits with
  | false => rfl
  | true =>
    rw [List.all_eq_true] at q
    have := q rs[k] (List.getElem_mem _)
    rw [h] at this; cases this
theorem four (w : World) (A B C D : Obj) : ((((w.alloc A).alloc B).alloc C).alloc D).heap[w.heap.size]? = some A ∧ ((((w.alloc A).alloc B).alloc C).alloc D).heap[w.heap.size + 1]? = some B ∧ ((((w.alloc A).alloc B).alloc C).alloc D).heap[w.heap.size + 1 + 1 + 1]? = some D ∧
    w.heap.size + 4 = ((((w.alloc A).alloc B).alloc C).alloc D).heap.size ∧ Below w.heap.size w ((((w.alloc A).alloc B).alloc C).alloc D) := by
  have s1 : (w.alloc A).heap.size = w.heap.size + 1 := by simp
  have s2 : ((w.alloc A).alloc B).heap.size = w.heap.size + 1 + 1 := by simp
  have s3 : (((w.alloc A).alloc B).alloc C).heap.size = w.heap.size + 1 + 1 + 1 := by simp
  refine ⟨?_, ?_, ?_, by simp, (((((Below.refl _ _).alloc (Nat.le_refl _) _).alloc (by simp) _).alloc (by simp; omega) _).alloc (by simp; omega) _)⟩
  · rw [Below.heap_alloc _ _ _ (by omega), Below.heap_alloc _ _ _ (by omega), Below.heap_alloc _ _ _ (by omega)]; exact heap_alloc_new _ _
  · rw [Below.heap_alloc _ _ _ (by omega), Below.heap_alloc _ _ _ (by omega), ← s1]; exact heap_alloc_new _ _
  · rw [← s3]; exact heap_alloc_new _ _
theorem Kept.get {a k : Nat} {w w' : World} (h : Kept a w w') {cs : Array Value} {t : Nat} {fr : Nat × Nat} (e : w.heap[k]? = some (.cells cs t fr)) (hk : k ≠ a) (ht : t ≠ 5) : w'.heap[k]? = some (.cells cs t fr) := by
  have lk : k < w.heap.size := by
    rcases Nat.lt_or_ge k w.heap.size with q | q
    · exact q
    · rw [Array.getElem?_eq_none q] at e; cases e
  rw [h k lk hk (by rw [e]; simp [elemOf, ht]), e]
theorem cell_in {w : World} {k : Nat} {cs : Array Value} {t : Nat} {fr : Nat × Nat} (e : w.heap[k]? = some (.cells cs t fr)) {j : Nat} {v : Value} (h : cs[j]? = some v) : w.cell? ⟨k, j, none⟩ = some v := by
  simp [World.cell?, e, h]
theorem WB.lt {base a : Nat} {w : World} {l : List Nat} (h : WB base a w l) : a < w.heap.size := by
  obtain ⟨v, ha, _⟩ := h
  rcases Nat.lt_or_ge a w.heap.size with q | q
  · exact q
  · rw [Array.getElem?_eq_none q] at ha; cases ha
theorem pre_len {ss : List Stp} {rs : List Rsl} {len k : Nat} (h1 : ss.length = len) (h : len ≤ 65536) : (hdrL len ++ recsL (ss.take k) (rs.take k)).length ≤ 5000000 := by
  rw [List.length_append, hdrL_length, recsL_length, List.length_take, List.length_take]; omega
theorem ints_cell (x : Stp) : ∀ j (h : j < 5), (#[.int .i64 x.k, .int .i64 x.s, .int .i64 x.n, .int .i64 x.a, .int .i64 x.wd] : Array Value)[j]? = some (.int .i64 (x.ints[j]'h))
  | 0, _ => rfl
  | 1, _ => rfl
  | 2, _ => rfl
  | 3, _ => rfl
  | 4, _ => rfl
theorem ints_ok {x : Stp} (hx : x.ok) : ∀ j (h : j < 5), i64B (x.ints[j]'h)
  | 0, _ => hx.1
  | 1, _ => hx.2.1
  | 2, _ => hx.2.2.1
  | 3, _ => hx.2.2.2.1
  | 4, _ => hx.2.2.2.2.2.1
theorem words_snoc (zs : List Int) (j : Nat) (h : j < zs.length) : wordsL (zs.take (j + 1)) = wordsL (zs.take j) ++ leS (lowN zs[j]) 4 := by
  unfold wordsL; rw [List.take_succ_eq_append_getElem h, List.flatMap_append]; simp only [List.flatMap_cons, List.flatMap_nil, List.append_nil]
theorem words_le (zs : List Int) (j : Nat) : (wordsL (zs.take j)).length ≤ 4 * zs.length := by
  rw [wordsL_length, List.length_take]; omega
theorem tModify_push (h : Array Obj) (o : Obj) (f : Obj → Obj) : (h.push o).modify h.size f = h.push (f o) := by
  apply Array.ext_getElem?
  intro i
  rw [Array.getElem?_modify, Array.getElem?_push, Array.getElem?_push]
  by_cases hi : h.size = i
  · subst hi; simp
  · rw [if_neg hi]
    by_cases h2 : i = h.size
    · exact absurd h2.symm hi
    · rw [if_neg h2, if_neg h2]
theorem conv_new (w : World) (B : Nat) (hB : w.heap.size = B) (cs : Array Value) (n c : Nat) :
    (convert 33 33 (.slice (some ⟨B, 0, none⟩) n c)).run Tryz.prog (w.alloc (.cells cs 5)) = .ok (.slice (some ⟨B, 0, none⟩) n c) (w.alloc (.cells cs 5 (cs.size, cs.size + 1))) := by
  subst hB
  have e2 : (w.alloc (.cells cs 5)).shape? w.heap.size = some (5, cs.size) := by
    unfold World.shape?; rw [heap_alloc_new]
  have e1 : (w.alloc (.cells cs 5)).freeze { block := w.heap.size, off := cs.size } 1 = w.alloc (.cells cs 5 (cs.size, cs.size + 1)) := by
    unfold World.freeze
    rw [if_neg (by decide)]
    show ({ w with heap := (w.heap.push (.cells cs 5 (0, 0))).modify w.heap.size _ } : World) = { w with heap := w.heap.push _ }
    rw [tModify_push]
    rfl
  have e3 : (markStringish ⟨w.heap.size, 0, none⟩).run Tryz.prog (w.alloc (.cells cs 5)) = .ok () (w.alloc (.cells cs 5 (cs.size, cs.size + 1))) := by
    unfold markStringish
    rw [Sem.run_bind, run_shape]
    simp only [Result.andThen_ok]
    rw [e2, ← e1]
    rfl
  simp [convert, Sem.run_bind, run_underlying Tryz.underlying33, run_underlying Tryz.underlying5, e3]
theorem magic_new (w : World) (B : Nat) (hB : w.heap.size = B) : ∀ (j : Nat) (u : Value), (bv magicL)[j]? = some u → (w.alloc (.cells #[.int .u8 98, .int .u8 117, .int .u8 108, .int .u8 107, .int .u8 116, .int .u8 114, .int .u8 99, .int .u8 10] 5 (8, 9))).cell? ((⟨B, 0, none⟩ : Addr).add j) = some u := by
  subst hB
  exact World.news_of_block (cs := #[.int .u8 98, .int .u8 117, .int .u8 108, .int .u8 107, .int .u8 116, .int .u8 114, .int .u8 99, .int .u8 10]) (t := 5) (fr := (8, 9)) (heap_alloc_new w _)
set_option maxHeartbeats 4000000 in
set_option maxRecDepth 100000 in
theorem encode_C (p p' : Option Addr) (len cap cap' : Nat) (ss : List Stp) (rs : List Rsl) (w : World) (h1 : ss.length = len) (h2 : rs.length = len) (hbig : len ≤ 65536) (hs : Arr w p 7 (ss.map Stp.cells)) (hs' : Arr w p' 4 (rs.map Rsl.cells)) (hok : ∀ x ∈ ss, x.ok) (hok' : ∀ x ∈ rs, x.ok) (hne : rightN ss = 0) :
    Calls Tryz.prog 9 #[.slice p len cap, .slice p' len cap'] w (EncPost ss rs w.heap.size w) := by
  have hr := right_any p len cap ss w h1 (by omega) hs hok
  rw [hne] at hr
  have HR := Lib.hid hr
  have HS := Lib.hid hs
  have HS' := Lib.hid hs'
  have H1 := Lib.hid h1
  have H2 := Lib.hid h2
  have HO := Lib.hid hok
  have HO' := Lib.hid hok'
  have HN := Lib.hid hne
  have hq2 : ((len : Int) != (len : Int)) = false := by simp
  clear hr h1 h2 hs hs' hok hok' hne
  go_enter Tryz.func9, Tryz.ntmps9
  go_wp2_with fail
  refine HR.out.mono ?_
  rintro e w1 ⟨rfl, hb1⟩
  go_wp2_with fail
  refine (newWriter_any w1).mono ?_
  rintro e w2 ⟨rfl, hw, hb2⟩
  have HW := Lib.hid hw
  clear hw
  have hconv := conv_new w2 _ rfl #[.int .u8 98, .int .u8 117, .int .u8 108, .int .u8 107, .int .u8 116, .int .u8 114, .int .u8 99, .int .u8 10] 8 8
  have hb3 : Below w2.heap.size w2 (w2.alloc (.cells #[.int .u8 98, .int .u8 117, .int .u8 108, .int .u8 107, .int .u8 116, .int .u8 114, .int .u8 99, .int .u8 10] 5 (8, 9))) := (Below.refl _ _).alloc (Nat.le_refl _) _
  go_wp2_with fail
  refine (bytes_any w1.heap.size w1.heap.size w2.heap.size 8 8 [] magicL _ rfl (by omega) (HW.out.below hb3) (by simp) (by omega) (magic_new w2 _ rfl)).mono ?_
  rintro e w3 ⟨rfl, hw3, hb4, -⟩
  have HW3 := Lib.hid hw3
  clear hconv hw3
  go_wp2_with fail
  refine (half_any w1.heap.size w1.heap.size 1 _ _ (by omega) HW3.out (by simp [magicL])).mono ?_
  rintro e w4 ⟨rfl, hw4, hb5, -⟩
  have HW4 := Lib.hid hw4
  clear hw4
  go_wp2_with fail
  refine (half_any w1.heap.size w1.heap.size 0 _ _ (by omega) HW4.out (by simp [magicL, leS_length])).mono ?_
  rintro e w5 ⟨rfl, hw5, hb6, -⟩
  have HW5 := Lib.hid hw5
  clear hw5
  go_wp2_with fail
  refine (word_any w1.heap.size w1.heap.size len _ _ (by omega) HW5.out (by simp [magicL, leS_length])).mono ?_
  rintro e w6 ⟨rfl, hw6, hb7, -⟩
  have hsa : w.heap.size ≤ w1.heap.size := hb1.size
  have hB6 : Below w.heap.size w w6 := hb1.trans ((((((hb2.mono hsa).trans (hb3.mono (Nat.le_trans hsa hb2.size))).trans (hb4.mono hsa)).trans (hb5.mono hsa)).trans (hb6.mono hsa)).trans (hb7.mono hsa))
  have hw6' : WB w1.heap.size w1.heap.size w6 (hdrL len) := by
    have := hw6
    simp only [List.nil_append] at this
    exact this
  clear HW HW3 HW4 HW5 hb1 hb2 hb3 hb4 hb5 hb6 hb7 hw6 HR
  generalize w1.heap.size = a at *
  have HW6 := Lib.hid hw6'
  clear hw6'
  go_wp2_with fail
  go_loopw [39] (fun i wr => ∃ k : Nat, k ≤ len ∧ i = .int .i64 k ∧ WB a a wr (hdrL len ++ recsL (ss.take k) (rs.take k)) ∧ Below w.heap.size w wr ∧ (rs.take k).all rslFits = true) (fun i _ => len - (intOf i).toNat)
  case atStart => exact ⟨0, Nat.zero_le _, rfl, by simpa [recsL] using HW6.out, hB6, rfl⟩
  case round =>
    clear HW6 hB6
    obtain ⟨k, hk, rfl, hw, hb, hall⟩ := hrel
    have HW := Lib.hid hw
    have HA := Lib.hid hall
    clear hw hall
    by_cases hlt : k < len
    · have hk1 : k < ss.length := by have := H1.out; omega
      have hk2 : k < rs.length := by have := H2.out; omega
      obtain ⟨b, off, rfl, hb0, hlies⟩ := HS.out (by simp; omega)
      obtain ⟨b', off', rfl, hb0', hlies'⟩ := HS'.out (by simp; omega)
      obtain ⟨c0, c1, c2, c3, c4, c5, c6⟩ := stp_cells (hlies.below hb hb0) hk1
      obtain ⟨d0, d1, d2, d3⟩ := rsl_cells (hlies'.below hb hb0') hk2
      have hx := HO.out ss[k] (List.getElem_mem _)
      have hy := HO'.out rs[k] (List.getElem_mem _)
      have hsz := hb.size
      have hbl' : b' < wr.heap.size := Nat.lt_of_lt_of_le hb0' hsz
      clear hlies hlies'
      generalize hxe : ss[k] = x at c0 c1 c2 c3 c4 c5 c6 hx
      generalize hye : rs[k] = y at d0 d1 d2 d3 hy
      have HX := Lib.hid hxe
      have HY := Lib.hid hye
      clear hxe hye
      cases hf : fitsB y.why with
      | false =>
        have HF := Lib.hid hf
        clear hf
        go_wp2_with (go_at_call 34; refine (fits1 y.why _ _ (by simp) hy.1 HF.out).mono ?_; rintro e w' ⟨rfl, rfl⟩)
        go_ret2
        have hN : encN ss rs = 132 := by
          unfold encN
          rw [if_neg (by have := H1.out; have := H2.out; omega), if_neg (by rw [HN.out]; decide), rsl_not hk2 (by rw [HY.out]; exact HF.out)]; rfl
        refine ⟨.slice none 0 0, by rw [hN]; rfl, ?_, .inl ⟨by rw [hN]; decide, rfl⟩⟩
        exact ((hb.alloc (by omega) _).alloc (by simp; omega) _).alloc (by simp; omega) _
      | true =>
        have HF := Lib.hid hf
        clear hf
        go_wp2_with (go_at_call 34; refine (fits1 y.why _ _ (by simp) hy.1 HF.out).mono ?_; rintro e w' ⟨rfl, rfl⟩)
        obtain ⟨e0, e1, e3, hsz7, hb7⟩ := four wr (.cells #[.int .i64 x.k, .int .i64 x.s, .int .i64 x.n, .int .i64 x.a, .int .u64 x.at_, .int .i64 x.wd, .int .u64 x.v] 28) (.cells #[.int .i64 y.why, .int .u64 y.v, .int .u64 y.at_, .int .u64 y.cl] 32) (.cells #[.int .i64 y.why] 3) (.cells #[.int .i64 x.k, .int .i64 x.s, .int .i64 x.n, .int .i64 x.a, .int .i64 x.wd] 3)
        have HP := Lib.hid (pre_len (rs := rs) (k := k) H1.out hbig)
        have hna : a < wr.heap.size := HW.out.lt
        have HW7 := Lib.hid (HW.out.below hb7)
        have hb8 : Below w.heap.size w ((((wr.alloc (.cells #[.int .i64 x.k, .int .i64 x.s, .int .i64 x.n, .int .i64 x.a, .int .u64 x.at_, .int .i64 x.wd, .int .u64 x.v] 28)).alloc (.cells #[.int .i64 y.why, .int .u64 y.v, .int .u64 y.at_, .int .u64 y.cl] 32)).alloc (.cells #[.int .i64 y.why] 3)).alloc (.cells #[.int .i64 x.k, .int .i64 x.s, .int .i64 x.n, .int .i64 x.a, .int .i64 x.wd] 3)) := hb.trans (hb7.mono hsz)
        generalize wr.heap.size = n0 at *
        generalize hpe : hdrL len ++ recsL (ss.take k) (rs.take k) = P at *
        have HPE := Lib.hid hpe
        clear hpe
        have HE0 := Lib.hid e0
        have HE1 := Lib.hid e1
        have HE3 := Lib.hid e3
        clear e0 e1 e3 hb7 hsz7
        go_loopw [65] (fun i wi => ∃ j : Nat, j ≤ 5 ∧ i = .int .i64 j ∧ WB a a wi (P ++ wordsL (x.ints.take j)) ∧ Below w.heap.size w wi ∧ wi.heap[n0]? = some (.cells #[.int .i64 x.k, .int .i64 x.s, .int .i64 x.n, .int .i64 x.a, .int .u64 x.at_, .int .i64 x.wd, .int .u64 x.v] 28) ∧
          wi.heap[n0 + 1]? = some (.cells #[.int .i64 y.why, .int .u64 y.v, .int .u64 y.at_, .int .u64 y.cl] 32) ∧ wi.heap[n0 + 1 + 1 + 1]? = some (.cells #[.int .i64 x.k, .int .i64 x.s, .int .i64 x.n, .int .i64 x.a, .int .i64 x.wd] 3)) (fun i _ => 5 - (intOf i).toNat)
        case atStart => exact ⟨0, by omega, rfl, by simpa [wordsL] using HW7.out, hb8, HE0.out, HE1.out, HE3.out⟩
        case round =>
          obtain ⟨j, hj, rfl, hwi, hbi, q0, q1, q3⟩ := hrel
          clear HW7 hb8 HE0 HE1 HE3 hb
          by_cases hj5 : j < 5
          · have hz := ints_ok hx j hj5
            have g := cell_in q3 (ints_cell x j hj5)
            have hsn := words_snoc x.ints j hj5
            have HSN := Lib.hid hsn
            clear hsn
            generalize x.ints[j] = z at *
            have HW := Lib.hid hwi
            have Q0 := Lib.hid q0
            have Q1 := Lib.hid q1
            have Q3 := Lib.hid q3
            clear hwi q0 q1 q3
            go_wp2_with fail
            refine (low_any z _ hz).mono ?_
            rintro e w' ⟨rfl, rfl⟩
            go_wp2_with fail
            refine (word_any a a (lowN z) _ _ (lowN_lt z) HW.out (by rw [List.length_append]; have := HP.out; have := words_le x.ints j; simp only [Stp.ints, List.length_cons, List.length_nil] at this; simp only [Stp.ints]; omega)).mono ?_
            rintro e w9 ⟨rfl, hw9, hb9, hk9⟩
            rw [List.append_assoc, ← HSN.out] at hw9
            have r0 := Lib.hid (hk9.get Q0.out (by omega) (by decide))
            have r1 := Lib.hid (hk9.get Q1.out (by omega) (by decide))
            have r3 := Lib.hid (hk9.get Q3.out (by omega) (by decide))
            clear hk9
            go_wp2
            go_roundw
            case rel => exact ⟨j + 1, by omega, by go_num, hw9, hbi.trans (hb9.mono hsa), r0.out, r1.out, r3.out⟩
            case measure => simp [intOf]; omega
          · have : j = 5 := by omega
            subst this
            have hwi' : WB a a wr (P ++ wordsL x.ints) := hwi
            clear hwi q3
            have g0 := cell_in q0 (j := 4) rfl
            have HW0 := Lib.hid hwi'
            have Q00 := Lib.hid q0
            have Q10 := Lib.hid q1
            clear hwi' q0 q1
            go_wp2_with fail
            refine (long_any a a x.at_ _ _ (hx.2.2.2.2.1) HW0.out (by simp only [List.length_append, leS_length, wordsL_length, Stp.ints, List.length_cons, List.length_nil]; have := HP.out; omega)).mono ?_
            rintro e v0 ⟨rfl, hw0, hb0, hk0⟩
            have q00 := hk0.get Q00.out (by omega) (by decide)
            have q10 := hk0.get Q10.out (by omega) (by decide)
            clear hk0 g0
            have g1 := cell_in q00 (j := 6) rfl
            have HW1 := Lib.hid hw0
            have Q01 := Lib.hid q00
            have Q11 := Lib.hid q10
            clear hw0 q00 q10
            go_wp2_with fail
            refine (long_any a a x.v _ _ (hx.2.2.2.2.2.2) HW1.out (by simp only [List.length_append, leS_length, wordsL_length, Stp.ints, List.length_cons, List.length_nil]; have := HP.out; omega)).mono ?_
            rintro e v1 ⟨rfl, hw1, hb1, hk1⟩
            have q01 := hk1.get Q01.out (by omega) (by decide)
            have q11 := hk1.get Q11.out (by omega) (by decide)
            clear hk1 g1
            have g2 := cell_in q11 (j := 0) rfl
            have HW2 := Lib.hid hw1
            have Q02 := Lib.hid q01
            have Q12 := Lib.hid q11
            clear hw1 q01 q11
            go_wp2_with fail
            refine (low_any y.why _ hy.1).mono ?_
            rintro e w' ⟨rfl, rfl⟩
            go_wp2_with fail
            refine (word_any a a (lowN y.why) _ _ (lowN_lt _) HW2.out (by simp only [List.length_append, leS_length, wordsL_length, Stp.ints, List.length_cons, List.length_nil]; have := HP.out; omega)).mono ?_
            rintro e v2 ⟨rfl, hw2, hb2, hk2⟩
            have q02 := hk2.get Q02.out (by omega) (by decide)
            have q12 := hk2.get Q12.out (by omega) (by decide)
            clear hk2 g2
            have g3 := cell_in q12 (j := 1) rfl
            have HW3 := Lib.hid hw2
            have Q03 := Lib.hid q02
            have Q13 := Lib.hid q12
            clear hw2 q02 q12
            go_wp2_with fail
            refine (long_any a a y.v _ _ hy.2.1 HW3.out (by simp only [List.length_append, leS_length, wordsL_length, Stp.ints, List.length_cons, List.length_nil]; have := HP.out; omega)).mono ?_
            rintro e v3 ⟨rfl, hw3, hb3, hk3⟩
            have q03 := hk3.get Q03.out (by omega) (by decide)
            have q13 := hk3.get Q13.out (by omega) (by decide)
            clear hk3 g3
            have g4 := cell_in q13 (j := 2) rfl
            have HW4 := Lib.hid hw3
            have Q04 := Lib.hid q03
            have Q14 := Lib.hid q13
            clear hw3 q03 q13
            go_wp2_with fail
            refine (long_any a a y.at_ _ _ hy.2.2.1 HW4.out (by simp only [List.length_append, leS_length, wordsL_length, Stp.ints, List.length_cons, List.length_nil]; have := HP.out; omega)).mono ?_
            rintro e v4 ⟨rfl, hw4, hb4, hk4⟩
            have q04 := hk4.get Q04.out (by omega) (by decide)
            have q14 := hk4.get Q14.out (by omega) (by decide)
            clear hk4 g4
            have g5 := cell_in q14 (j := 3) rfl
            have HW5 := Lib.hid hw4
            have Q05 := Lib.hid q04
            have Q15 := Lib.hid q14
            clear hw4 q04 q14
            go_wp2_with fail
            refine (long_any a a y.cl _ _ hy.2.2.2 HW5.out (by simp only [List.length_append, leS_length, wordsL_length, Stp.ints, List.length_cons, List.length_nil]; have := HP.out; omega)).mono ?_
            rintro e v5 ⟨rfl, hw5, hb5, hk5⟩
            have q05 := hk5.get Q05.out (by omega) (by decide)
            have q15 := hk5.get Q15.out (by omega) (by decide)
            clear hk5 g5
            have hb10 := Lib.hid (hbi.trans ((((((hb0.trans hb1).trans hb2).trans hb3).trans hb4).trans hb5).mono hsa))
            clear q05 q15
            have HW6 := Lib.hid hw5
            clear hw5
            go_wp2
            go_roundw
            case rel =>
              refine ⟨k + 1, by omega, by go_num, ?_, hb10.out, by rw [rsl_take hk2, HA.out, HY.out]; exact HF.out⟩
              have h1 := recsL_snoc ss rs k hk1 hk2
              rw [HX.out, HY.out] at h1
              rw [h1, ← List.append_assoc, HPE.out]
              have h2 := HW6.out
              simp only [List.append_assoc] at h2
              simp only [recL, List.append_assoc]
              exact h2
            case measure => simp [intOf]; omega
    · have : k = len := by omega
      subst this
      have hl0 : (hdrL k ++ recsL (ss.take k) (rs.take k)) = bodyL ss rs := by
        unfold bodyL
        rw [List.take_of_length_le (by have := H1.out; omega), List.take_of_length_le (by have := H2.out; omega), H1.out]
      have HW6 := HW.out
      rw [hl0] at HW6
      have hlen0 := pre_len (rs := rs) (k := k) H1.out hbig
      have hlen1 : 0 < (bodyL ss rs).length := by unfold bodyL; rw [List.length_append, hdrL_length]; omega
      rw [hl0] at hlen0
      have HL := Lib.hid (show (encL ss rs).length = (bodyL ss rs).length + 4 by unfold encL; rw [List.length_append, leS_length])
      have HWW := Lib.hid HW6
      have hall := HA.out
      rw [List.take_of_length_le (by have := H2.out; omega)] at hall
      have HA2 := Lib.hid hall
      clear HW6 hl0 HW hall
      go_wp2_with fail
      refine (seal_any a a (bodyL ss rs) _ HWW.out (by omega) hlen1 (bodyL_lt _ _)).mono ?_
      rintro e w7 ⟨rfl, hw7, hb7, -⟩
      have HW7 := Lib.hid hw7
      clear hw7
      go_wp2_with fail
      refine (all_any a a _ _ (by have := HL.out; show 0 < (encL ss rs).length; omega) (by have := HL.out; show (encL ss rs).length ≤ _; omega) HW7.out).mono ?_
      rintro e w8 ⟨g, c, rfl, ho, hb8⟩
      generalize hq : (bodyL ss rs ++ leS (crcOf (bodyL ss rs)) 4).length = n at *
      have HQ := Lib.hid (show n = (encL ss rs).length from hq.symm)
      have HO8 := Lib.hid ho
      clear ho hq
      go_wp2
      go_ret2
      have hN : encN ss rs = 0 := by
        unfold encN
        rw [if_neg (by have := H1.out; have := H2.out; omega), if_neg (by rw [HN.out]; decide), HA2.out]; rfl
      have hs7 : w.heap.size ≤ w7.heap.size := Nat.le_trans hb.size hb7.size
      have hb9 : Below w.heap.size w w8 := (hb.trans (hb7.mono hsa)).trans (hb8.mono hs7)
      have hn := HQ.out
      subst hn
      refine ⟨_, by rw [hN]; rfl, hb9, .inr ⟨hN, g, c, rfl, ?_⟩⟩
      have := HO8.out
      obtain ⟨h1, h2 | ⟨g', cap', cur, e, hbb, rest⟩⟩ := this
      · cases h2.1
      · exact ⟨h1, .inr ⟨g', cap', cur, e, Nat.le_trans hs7 hbb, rest⟩⟩
end Ae
namespace Ae
open Go Go.Proofs Go.RowKit
def ArrB (w : World) (p : Option Addr) (l : List Nat) : Prop := 0 < l.length → ∃ b off, p = some ⟨b, off, none⟩ ∧ b < w.heap.size ∧ ∀ j (h : j < l.length), w.cell? ⟨b, off + j, none⟩ = some (.int .u8 (l[j] : Nat))
set_option maxHeartbeats 400000 in
theorem same_u8 (p q : Option Addr) (n c m d : Nat) (xs ys : List Nat) (w : World) (h1 : xs.length = n) (h2 : ys.length = m) (hn : n < 9223372036854775807) (ha : ArrB w p xs) (hb : ArrB w q ys) :
    Calls Tryz.prog 11 #[.slice p n c, .slice q m d] w fun e w' => e = .returned (.bool (decide (xs = ys))) ∧ ∃ k, w' = w.drewN k := by
  have HA := Lib.hid ha
  have HB := Lib.hid hb
  have H1 := Lib.hid h1
  have H2 := Lib.hid h2
  clear ha hb h1 h2
  go_enter Tryz.func11, Tryz.ntmps11
  by_cases hnm : n = m
  · subst hnm
    go_wp2
    go_loopw [5] (fun i wr => ∃ k : Nat, k ≤ n ∧ i = .int .i64 k ∧ xs.take k = ys.take k ∧ ∃ z, wr = w.drewN z) (fun i _ => n - (intOf i).toNat)
    case atStart => exact ⟨0, by omega, rfl, rfl, 0, rfl⟩
    case round =>
      obtain ⟨k, hk, rfl, heq, z, rfl⟩ := hrel
      have HE := Lib.hid heq
      clear heq
      by_cases hlt : k < n
      · obtain ⟨b, off, rfl, hb0, hc⟩ := HA.out (by have := H1.out; omega)
        obtain ⟨b', off', rfl, hb0', hc'⟩ := HB.out (by have := H2.out; omega)
        have g := hc k (by have := H1.out; omega)
        have g' := hc' k (by have := H2.out; omega)
        generalize hx : xs[k]'(by have := H1.out; omega) = x at g
        generalize hy : ys[k]'(by have := H2.out; omega) = y at g'
        have HX := Lib.hid hx
        have HY := Lib.hid hy
        clear hx hy hc hc'
        have hk1 : (k : Int) < (n : Int) := by omega
        have hk0 : (0 : Int) ≤ (k : Int) := by omega
        go_wp2
        go_quiet (fail)
        go_wp2
        · have hq : ((x : Int) != (y : Int)) = true := by assumption
          go_ret
          refine ⟨ret_bool ?_, z + nq, by simp⟩
          have hne : x ≠ y := by intro e; rw [e] at hq; simp at hq
          refine (decide_eq_false ?_).symm
          rintro rfl
          exact hne (HX.out.symm.trans HY.out)
        · have hq : ((x : Int) != (y : Int)) = false := by assumption
          go_roundw
          case rel =>
            have hxy : x = y := by have h0 : (x : Int) = y := by simpa using hq
                                   omega
            refine ⟨k + 1, by omega, by go_num, ?_, _, rfl⟩
            rw [List.take_succ_eq_append_getElem (by have := H1.out; omega), List.take_succ_eq_append_getElem (by have := H2.out; omega), HE.out, HX.out, HY.out, hxy]
          case measure => simp [intOf]; omega
      · have : k = n := by omega
        subst this
        go_wp2
        go_ret
        refine ⟨ret_bool ?_, z, rfl⟩
        have := HE.out
        rw [List.take_of_length_le (by have := H1.out; omega), List.take_of_length_le (by have := H2.out; omega)] at this
        simp [this]
  · go_wp2
    go_ret
    refine ⟨ret_bool ?_, 0, rfl⟩
    have := H1.out
    have := H2.out
    simp; rintro rfl; omega
end Ae
namespace Ae
open Go Go.Proofs Go.RowKit
def Stp.arr (x : Stp) : Array Value := #[.int .i64 x.k, .int .i64 x.s, .int .i64 x.n, .int .i64 x.a, .int .u64 x.at_, .int .i64 x.wd, .int .u64 x.v]
def Rsl.arr (x : Rsl) : Array Value := #[.int .i64 x.why, .int .u64 x.v, .int .u64 x.at_, .int .u64 x.cl]
theorem fields28 : Tryz.prog.underlying 28 = some (.struct (Tryz.prog.fieldsOf 28)) := by kernel_rfl
theorem fields32 : Tryz.prog.underlying 32 = some (.struct (Tryz.prog.fieldsOf 32)) := by kernel_rfl
theorem held28 : Tryz.prog.stoodInHeld 28 = false := by kernel_rfl
theorem held32 : Tryz.prog.stoodInHeld 32 = false := by kernel_rfl
theorem guard28 : Tryz.prog.eqGuardType Tryz.prog.depth 28 = false := by kernel_rfl
theorem guard32 : Tryz.prog.eqGuardType Tryz.prog.depth 32 = false := by kernel_rfl
def stpEq (x y : Stp) : Bool := x.k == y.k && x.s == y.s && x.n == y.n && x.a == y.a && x.at_ == y.at_ && x.wd == y.wd && x.v == y.v
def rslEq (x y : Rsl) : Bool := x.why == y.why && x.v == y.v && x.at_ == y.at_ && x.cl == y.cl
theorem cast_eq (a b : Nat) : ((a : Int) = (b : Int)) = (a = b) := propext ⟨by omega, by omega⟩
theorem if_ok (p : Prop) [Decidable p] (b : Bool) (w : World) : (if p then Result.ok b w else Result.ok false w) = Result.ok (decide p && b) w := by
  by_cases h : p <;> simp [h]
theorem eq_stp (x y : Stp) (w : World) : (Op.equalIn 10000 28 (.agg x.arr) (.agg y.arr)).run Tryz.prog w = .ok (stpEq x y) w := by
  rw [run_equalIn_agg _ _ _ _ _ fields28 held28]
  simp [go_sem, Program.fieldsOf, Tryz.underlying28, Stp.arr]
  simp only [cast_eq, if_ok]
  simp [stpEq, Bool.and_assoc, Bool.beq_eq_decide_eq]
theorem eq_rsl (x y : Rsl) (w : World) : (Op.equalIn 10000 32 (.agg x.arr) (.agg y.arr)).run Tryz.prog w = .ok (rslEq x y) w := by
  rw [run_equalIn_agg _ _ _ _ _ fields32 held32]
  simp [go_sem, Program.fieldsOf, Tryz.underlying32, Rsl.arr]
  simp only [cast_eq, if_ok]
  simp [rslEq, Bool.and_assoc, Bool.beq_eq_decide_eq]
theorem neq_stp (x y : Stp) (w : World) : (binOp .neq 28 (.agg x.arr) (.agg y.arr)).run Tryz.prog w = .ok (.bool (!(stpEq x y))) w := by
  rw [run_neq_struct, eq_stp]; rfl
theorem neq_rsl (x y : Rsl) (w : World) : (binOp .neq 32 (.agg x.arr) (.agg y.arr)).run Tryz.prog w = .ok (.bool (!(rslEq x y))) w := by
  rw [run_neq_struct, eq_rsl]; rfl
theorem stpEq_iff (x y : Stp) : stpEq x y = true ↔ x = y := by
  obtain ⟨a, b, c, d, e, f, g⟩ := x
  obtain ⟨a', b', c', d', e', f', g'⟩ := y
  simp [stpEq]; omega
theorem rslEq_iff (x y : Rsl) : rslEq x y = true ↔ x = y := by
  obtain ⟨a, b, c, d⟩ := x
  obtain ⟨a', b', c', d'⟩ := y
  simp [rslEq]; omega
end Ae
namespace Ae
open Go Go.Proofs Go.RowKit
set_option maxHeartbeats 400000 in
theorem same_stp (p q : Option Addr) (n c m d : Nat) (xs ys : List Stp) (w : World) (h1 : xs.length = n) (h2 : ys.length = m) (hn : n < 9223372036854775807) (ha : Arr w p 7 (xs.map Stp.cells)) (hb : Arr w q 7 (ys.map Stp.cells)) :
    Calls Tryz.prog 15 #[.slice p n c, .slice q m d] w fun e w' => (∃ f, e = .returned (.bool f) ∧ (f = true ↔ xs = ys)) ∧ ∃ k, w' = w.drewN k := by
  have HA := Lib.hid ha
  have HB := Lib.hid hb
  have H1 := Lib.hid h1
  have H2 := Lib.hid h2
  clear ha hb h1 h2
  go_enter Tryz.func15, Tryz.ntmps15
  by_cases hnm : n = m
  · subst hnm
    go_wp2
    go_loopw [5] (fun i wr => ∃ k : Nat, k ≤ n ∧ i = .int .i64 k ∧ xs.take k = ys.take k ∧ ∃ z, wr = w.drewN z) (fun i _ => n - (intOf i).toNat)
    case atStart => exact ⟨0, by omega, rfl, rfl, 0, rfl⟩
    case round =>
      obtain ⟨k, hk, rfl, heq, z, rfl⟩ := hrel
      have HE := Lib.hid heq
      clear heq
      by_cases hlt : k < n
      · obtain ⟨b, off, rfl, hb0, hc⟩ := HA.out (by have := H1.out; simp; omega)
        obtain ⟨b', off', rfl, hb0', hc'⟩ := HB.out (by have := H2.out; simp; omega)
        obtain ⟨c0, c1, c2, c3, c4, c5, c6⟩ := stp_cells hc (k := k) (by have := H1.out; omega)
        obtain ⟨d0, d1, d2, d3, d4, d5, d6⟩ := stp_cells hc' (k := k) (by have := H2.out; omega)
        generalize hx : xs[k]'(by have := H1.out; omega) = x at c0 c1 c2 c3 c4 c5 c6
        generalize hy : ys[k]'(by have := H2.out; omega) = y at d0 d1 d2 d3 d4 d5 d6
        have HX := Lib.hid hx
        have HY := Lib.hid hy
        clear hx hy hc hc'
        have hk1 : (k : Int) < (n : Int) := by omega
        have hk0 : (0 : Int) ≤ (k : Int) := by omega
        have hgd : ∀ (w : World) (a b : Operand) (u v : Array Value), (eqGuard .neq 28 a b (.agg u) (.agg v)).run Tryz.prog w = .ok () w := fun w a b u v => run_eqGuard_agg w _ _ _ _ _ _ guard28
        cases hs : stpEq x y with
        | false =>
          have hr : ∀ w : World, (binOp .neq 28 (.agg #[.int .i64 x.k, .int .i64 x.s, .int .i64 x.n, .int .i64 x.a, .int .u64 x.at_, .int .i64 x.wd, .int .u64 x.v]) (.agg #[.int .i64 y.k, .int .i64 y.s, .int .i64 y.n, .int .i64 y.a, .int .u64 y.at_, .int .i64 y.wd, .int .u64 y.v])).run Tryz.prog w = .ok (.bool true) w := fun w => by
            have := neq_stp x y w
            rw [hs] at this; exact this
          have HS := Lib.hid hs
          clear hs
          go_wp2
          go_quiet (fail)
          go_wp2
          go_ret
          refine ⟨⟨false, rfl, ?_⟩, z + nq, by simp⟩
          constructor
          · intro h; cases h
          · rintro rfl
            have := HS.out
            rw [← HX.out, ← HY.out, (stpEq_iff _ _).2 rfl] at this
            cases this
        | true =>
          have hr : ∀ w : World, (binOp .neq 28 (.agg #[.int .i64 x.k, .int .i64 x.s, .int .i64 x.n, .int .i64 x.a, .int .u64 x.at_, .int .i64 x.wd, .int .u64 x.v]) (.agg #[.int .i64 y.k, .int .i64 y.s, .int .i64 y.n, .int .i64 y.a, .int .u64 y.at_, .int .i64 y.wd, .int .u64 y.v])).run Tryz.prog w = .ok (.bool false) w := fun w => by
            have := neq_stp x y w
            rw [hs] at this; exact this
          have HS := Lib.hid hs
          clear hs
          go_wp2
          go_quiet (fail)
          go_wp2
          go_roundw
          case rel =>
            refine ⟨k + 1, by omega, by go_num, ?_, _, rfl⟩
            rw [List.take_succ_eq_append_getElem (by have := H1.out; omega), List.take_succ_eq_append_getElem (by have := H2.out; omega), HE.out, HX.out, HY.out, (stpEq_iff _ _).1 HS.out]
          case measure => simp [intOf]; omega
      · have : k = n := by omega
        subst this
        go_wp2
        go_ret
        refine ⟨⟨true, rfl, ?_⟩, z, rfl⟩
        have := HE.out
        rw [List.take_of_length_le (by have := H1.out; omega), List.take_of_length_le (by have := H2.out; omega)] at this
        simp [this]
  · go_wp2
    go_ret
    refine ⟨⟨false, rfl, ?_⟩, 0, rfl⟩
    have := H1.out
    have := H2.out
    simp; rintro rfl; omega
set_option maxHeartbeats 400000 in
theorem same_rsl (p q : Option Addr) (n c m d : Nat) (xs ys : List Rsl) (w : World) (h1 : xs.length = n) (h2 : ys.length = m) (hn : n < 9223372036854775807) (ha : Arr w p 4 (xs.map Rsl.cells)) (hb : Arr w q 4 (ys.map Rsl.cells)) :
    Calls Tryz.prog 16 #[.slice p n c, .slice q m d] w fun e w' => (∃ f, e = .returned (.bool f) ∧ (f = true ↔ xs = ys)) ∧ ∃ k, w' = w.drewN k := by
  have HA := Lib.hid ha
  have HB := Lib.hid hb
  have H1 := Lib.hid h1
  have H2 := Lib.hid h2
  clear ha hb h1 h2
  go_enter Tryz.func16, Tryz.ntmps16
  by_cases hnm : n = m
  · subst hnm
    go_wp2
    go_loopw [5] (fun i wr => ∃ k : Nat, k ≤ n ∧ i = .int .i64 k ∧ xs.take k = ys.take k ∧ ∃ z, wr = w.drewN z) (fun i _ => n - (intOf i).toNat)
    case atStart => exact ⟨0, by omega, rfl, rfl, 0, rfl⟩
    case round =>
      obtain ⟨k, hk, rfl, heq, z, rfl⟩ := hrel
      have HE := Lib.hid heq
      clear heq
      by_cases hlt : k < n
      · obtain ⟨b, off, rfl, hb0, hc⟩ := HA.out (by have := H1.out; simp; omega)
        obtain ⟨b', off', rfl, hb0', hc'⟩ := HB.out (by have := H2.out; simp; omega)
        obtain ⟨c0, c1, c2, c3⟩ := rsl_cells hc (k := k) (by have := H1.out; omega)
        obtain ⟨d0, d1, d2, d3⟩ := rsl_cells hc' (k := k) (by have := H2.out; omega)
        generalize hx : xs[k]'(by have := H1.out; omega) = x at c0 c1 c2 c3
        generalize hy : ys[k]'(by have := H2.out; omega) = y at d0 d1 d2 d3
        have HX := Lib.hid hx
        have HY := Lib.hid hy
        clear hx hy hc hc'
        have hk1 : (k : Int) < (n : Int) := by omega
        have hk0 : (0 : Int) ≤ (k : Int) := by omega
        have hgd : ∀ (w : World) (a b : Operand) (u v : Array Value), (eqGuard .neq 32 a b (.agg u) (.agg v)).run Tryz.prog w = .ok () w := fun w a b u v => run_eqGuard_agg w _ _ _ _ _ _ guard32
        cases hs : rslEq x y with
        | false =>
          have hr : ∀ w : World, (binOp .neq 32 (.agg #[.int .i64 x.why, .int .u64 x.v, .int .u64 x.at_, .int .u64 x.cl]) (.agg #[.int .i64 y.why, .int .u64 y.v, .int .u64 y.at_, .int .u64 y.cl])).run Tryz.prog w = .ok (.bool true) w := fun w => by
            have := neq_rsl x y w
            rw [hs] at this; exact this
          have HS := Lib.hid hs
          clear hs
          go_wp2
          go_quiet (fail)
          go_wp2
          go_ret
          refine ⟨⟨false, rfl, ?_⟩, z + nq, by simp⟩
          constructor
          · intro h; cases h
          · rintro rfl
            have := HS.out
            rw [← HX.out, ← HY.out, (rslEq_iff _ _).2 rfl] at this
            cases this
        | true =>
          have hr : ∀ w : World, (binOp .neq 32 (.agg #[.int .i64 x.why, .int .u64 x.v, .int .u64 x.at_, .int .u64 x.cl]) (.agg #[.int .i64 y.why, .int .u64 y.v, .int .u64 y.at_, .int .u64 y.cl])).run Tryz.prog w = .ok (.bool false) w := fun w => by
            have := neq_rsl x y w
            rw [hs] at this; exact this
          have HS := Lib.hid hs
          clear hs
          go_wp2
          go_quiet (fail)
          go_wp2
          go_roundw
          case rel =>
            refine ⟨k + 1, by omega, by go_num, ?_, _, rfl⟩
            rw [List.take_succ_eq_append_getElem (by have := H1.out; omega), List.take_succ_eq_append_getElem (by have := H2.out; omega), HE.out, HX.out, HY.out, (rslEq_iff _ _).1 HS.out]
          case measure => simp [intOf]; omega
      · have : k = n := by omega
        subst this
        go_wp2
        go_ret
        refine ⟨⟨true, rfl, ?_⟩, z, rfl⟩
        have := HE.out
        rw [List.take_of_length_le (by have := H1.out; omega), List.take_of_length_le (by have := H2.out; omega)] at this
        simp [this]
  · go_wp2
    go_ret
    refine ⟨⟨false, rfl, ?_⟩, 0, rfl⟩
    have := H1.out
    have := H2.out
    simp; rintro rfl; omega
end Ae
namespace Ae
open Go Go.Proofs Go.RowKit
theorem flat_get {α : Type} : ∀ (L : List (List α)) (sz : Nat) (hL : ∀ l ∈ L, l.length = sz) (j r : Nat), r < sz → L.flatten[j * sz + r]? = L[j]?.bind (fun l => l[r]?)
  | [], sz, _, j, r, _ => by simp
  | l :: L, sz, h, 0, r, hr => by
    have := h l List.mem_cons_self
    simp [List.getElem?_append_left, this, hr]
  | l :: L, sz, h, j + 1, r, hr => by
    have h0 := h l List.mem_cons_self
    rw [List.flatten_cons, List.getElem?_append_right (by rw [h0, Nat.succ_mul]; omega), h0, show (j + 1) * sz + r - sz = j * sz + r by rw [Nat.succ_mul]; omega, flat_get L sz (fun x hx => h x (List.mem_cons_of_mem _ hx)) j r hr]
    simp
theorem add_plain (b o j : Nat) : (⟨b, o, none⟩ : Addr).add j = ⟨b, o + j, none⟩ := by unfold Addr.add; split <;> simp_all
end Ae
namespace Ae
open Go Go.Proofs Go.RowKit
theorem info28 : (Tryz.prog.info? 28).map (fun i => (i.zero, i.size, i.bytes)) = some (some (.agg #[.int .i64 0, .int .i64 0, .int .i64 0, .int .i64 0, .int .u64 0, .int .i64 0, .int .u64 0]), 7, 56) := by kernel_rfl
theorem info32 : (Tryz.prog.info? 32).map (fun i => (i.zero, i.size, i.bytes)) = some (some (.agg #[.int .i64 0, .int .u64 0, .int .u64 0, .int .u64 0]), 4, 32) := by kernel_rfl
theorem stp_lens (xs : List Stp) : ∀ l ∈ xs.map Stp.cells, l.length = 7 := fun l h => by
  obtain ⟨x, _, rfl⟩ := List.mem_map.1 h; rfl
theorem rsl_lens (xs : List Rsl) : ∀ l ∈ xs.map Rsl.cells, l.length = 4 := fun l h => by
  obtain ⟨x, _, rfl⟩ := List.mem_map.1 h; rfl
end Ae
namespace Ae
open Go Go.Proofs Go.RowKit
end Ae
namespace Ae
open Go Go.Proofs Go.RowKit
theorem xor_rc {a b c : Nat} (h : a ^^^ c = b ^^^ c) : a = b := by
  have : (a ^^^ c) ^^^ c = (b ^^^ c) ^^^ c := by rw [h]
  rwa [Nat.xor_assoc, Nat.xor_assoc, Nat.xor_self, Nat.xor_zero, Nat.xor_zero] at this
theorem xor_lc {a b c : Nat} (h : c ^^^ a = c ^^^ b) : a = b := by
  rw [Nat.xor_comm c a, Nat.xor_comm c b] at h; exact xor_rc h
def bst (r : Nat) : Nat := (r / 2) ^^^ (if r % 2 = 1 then 2197175160 else 0)
theorem bst_lin (a b : Nat) : bst (a ^^^ b) = bst a ^^^ bst b := by
  unfold bst
  have h1 : (a ^^^ b) / 2 = a / 2 ^^^ b / 2 := Nat.xor_div_two
  have h2 : (a ^^^ b) % 2 = 1 ↔ ¬ (a % 2 = 1 ↔ b % 2 = 1) := by
    have := Nat.xor_mod_two_eq_one (a := a) (b := b)
    rw [this]
  rw [h1]
  by_cases ha : a % 2 = 1 <;> by_cases hb : b % 2 = 1
  · rw [if_neg (by rw [h2]; simp [ha, hb]), if_pos ha, if_pos hb]
    rw [show a / 2 ^^^ 2197175160 ^^^ (b / 2 ^^^ 2197175160) = (a/2 ^^^ b/2) ^^^ (2197175160 ^^^ 2197175160) by ac_rfl, Nat.xor_self]
  · rw [if_pos (by rw [h2]; simp [ha, hb]), if_pos ha, if_neg hb]
    simp only [Nat.xor_zero]; ac_rfl
  · rw [if_pos (by rw [h2]; simp [ha, hb]), if_neg ha, if_pos hb]
    simp only [Nat.xor_zero]; ac_rfl
  · rw [if_neg (by rw [h2]; simp [ha, hb]), if_neg ha, if_neg hb]
    simp only [Nat.xor_zero]
theorem bst_even (q : Nat) : bst (2 * q) = q := by
  unfold bst
  rw [if_neg (by omega), Nat.xor_zero]; omega
def b4 (r : Nat) : Nat := bst (bst (bst (bst r)))
theorem b4_lin (a b : Nat) : b4 (a ^^^ b) = b4 a ^^^ b4 b := by
  unfold b4; rw [bst_lin, bst_lin, bst_lin, bst_lin]
theorem b4_16 (q : Nat) : b4 (16 * q) = q := by
  unfold b4
  rw [show 16 * q = 2 * (2 * (2 * (2 * q))) by omega, bst_even, bst_even, bst_even, bst_even]
theorem split16 (r : Nat) : r = (16 * (r / 16)) ^^^ (r % 16) := by
  have : 16 * (r / 16) ^^^ r % 16 = 16 * (r / 16) + r % 16 := by
    have h := Nat.two_pow_add_eq_or_of_lt (i := 4) (b := r % 16) (by simpa using Nat.mod_lt r (by decide : 0 < 16)) (r / 16)
    rw [show (2:Nat) ^ 4 = 16 from rfl] at h
    rw [h]
    apply Nat.eq_of_testBit_eq
    intro i
    rw [Nat.testBit_xor, Nat.testBit_or]
    rcases Nat.lt_or_ge i 4 with hi | hi
    · have : (16 * (r / 16)).testBit i = false := by
        rw [show 16 * (r/16) = 2 ^ 4 * (r / 16) from rfl, Nat.testBit_two_pow_mul]
        simp; omega
      rw [this]; simp
    · have : (r % 16).testBit i = false := by
        rw [show (16:Nat) = 2 ^ 4 from rfl, Nat.testBit_mod_two_pow]; simp; omega
      rw [this]; simp
  rw [this]; omega
theorem b4_small : ∀ m, m < 16 → b4 m = tabN m := by decide
theorem b4_eq (r : Nat) : b4 r = (r / 16) ^^^ tabN (r &&& 15) := by
  rw [show (15 : Nat) = 2 ^ 4 - 1 from rfl, Nat.and_two_pow_sub_one_eq_mod, show (2:Nat)^4 = 16 from rfl]
  conv => lhs; rw [split16 r, b4_lin, b4_16, b4_small _ (Nat.mod_lt _ (by decide))]
theorem crcB_bits (r z : Nat) : crcB r z = b4 (b4 (r ^^^ z)) := by
  unfold crcB
  rw [b4_eq (r ^^^ z), b4_eq]
theorem bst_inj {a b : Nat} (ha : a < 4294967296) (hb : b < 4294967296) (h : bst a = bst b) : a = b := by
  have key : ∀ x y : Nat, x / 2 < 2147483648 → y / 2 < 2147483648 → ¬ (x / 2 ^^^ 2197175160 = y / 2) := by
    intro x y hx hy e
    have e2 : x / 2 ^^^ y / 2 = 2197175160 := by
      rw [← e, ← Nat.xor_assoc, Nat.xor_self, Nat.zero_xor]
    have := Nat.xor_lt_two_pow (n := 31) (x := x / 2) (y := y / 2) (by simpa using hx) (by simpa using hy)
    rw [e2] at this
    exact absurd this (by decide)
  unfold bst at h
  by_cases h1 : a % 2 = 1 <;> by_cases h2 : b % 2 = 1
  · rw [if_pos h1, if_pos h2] at h
    have := xor_rc h
    omega
  · rw [if_pos h1, if_neg h2, Nat.xor_zero] at h
    exact absurd h (key a b (by omega) (by omega))
  · rw [if_neg h1, if_pos h2, Nat.xor_zero] at h
    exact absurd h.symm (key b a (by omega) (by omega))
  · rw [if_neg h1, if_neg h2, Nat.xor_zero, Nat.xor_zero] at h
    omega
theorem bst_lt {a : Nat} (ha : a < 4294967296) : bst a < 4294967296 := by
  unfold bst
  refine Nat.xor_lt_two_pow (n := 32) (by omega) ?_
  split <;> decide
theorem b4_lt {a : Nat} (ha : a < 4294967296) : b4 a < 4294967296 := bst_lt (bst_lt (bst_lt (bst_lt ha)))
theorem b4_inj {a b : Nat} (ha : a < 4294967296) (hb : b < 4294967296) (h : b4 a = b4 b) : a = b :=
  bst_inj ha hb (bst_inj (bst_lt ha) (bst_lt hb) (bst_inj (bst_lt (bst_lt ha)) (bst_lt (bst_lt hb)) (bst_inj (bst_lt (bst_lt (bst_lt ha))) (bst_lt (bst_lt (bst_lt hb))) h)))
theorem crcB_inj {a b x y : Nat} (ha : a < 4294967296) (hb : b < 4294967296) (hx : x < 256) (hy : y < 256) (h : crcB a x = crcB b y) : a ^^^ x = b ^^^ y := by
  rw [crcB_bits, crcB_bits] at h
  have h1 : a ^^^ x < 4294967296 := Nat.xor_lt_two_pow (n := 32) ha (by omega)
  have h2 : b ^^^ y < 4294967296 := Nat.xor_lt_two_pow (n := 32) hb (by omega)
  exact b4_inj h1 h2 (b4_inj (b4_lt h1) (b4_lt h2) h)
def crcL (r : Nat) (l : List Nat) : Nat := l.foldl crcB r
theorem crcL_lt {l : List Nat} (hl : ∀ x ∈ l, x < 256) : ∀ {r : Nat}, r < 4294967296 → crcL r l < 4294967296 := by
  induction l with
  | nil => exact fun h => h
  | cons x l ih => exact fun {r} h => ih (fun y hy => hl y (List.mem_cons_of_mem _ hy)) (crcB_lt h (hl x List.mem_cons_self))
theorem crcL_inj {l : List Nat} (hl : ∀ x ∈ l, x < 256) : ∀ {a b : Nat}, a < 4294967296 → b < 4294967296 → crcL a l = crcL b l → a = b := by
  induction l with
  | nil => exact fun _ _ h => h
  | cons x l ih =>
    intro a b ha hb h
    have hx := hl x List.mem_cons_self
    have := ih (fun y hy => hl y (List.mem_cons_of_mem _ hy)) (crcB_lt ha hx) (crcB_lt hb hx) h
    exact xor_rc (crcB_inj ha hb hx hx this)
theorem crcL_turned {p s : List Nat} {x y : Nat} (hp : ∀ x ∈ p, x < 256) (hs : ∀ x ∈ s, x < 256) (hx : x < 256) (hy : y < 256) (hne : x ≠ y) {r : Nat} (hr : r < 4294967296) :
    crcL r (p ++ x :: s) ≠ crcL r (p ++ y :: s) := by
  intro h
  unfold crcL at h
  rw [List.foldl_append, List.foldl_append, List.foldl_cons, List.foldl_cons] at h
  have h0 := crcL_lt hp hr
  have := crcL_inj hs (crcB_lt h0 hx) (crcB_lt h0 hy) h
  exact hne (xor_lc (crcB_inj h0 h0 hx hy this))
end Ae
namespace Ae
open Go Go.Proofs Go.RowKit
end Ae
namespace Ae
open Go Go.Proofs Go.RowKit
end Ae
namespace Ae
open Go Go.Proofs Go.RowKit
end Ae
namespace Ae
open Go Go.Proofs Go.RowKit
theorem arrb_own {w : World} {base : Nat} {v : Value} {l : List Nat} {n : Nat} (h : w.ownsRow base 5 1 v n (bv l)) (hn : n = l.length) (h0 : 0 < n) : ∃ p c, v = .slice p n c ∧ ArrB w p l := by
  obtain ⟨g, c, rfl⟩ := own_slice h h0
  refine ⟨some ⟨g, 0, none⟩, c, rfl, fun _ => ⟨g, 0, rfl, (h.lt g rfl).2, fun j hj => ?_⟩⟩
  have := row_at h hn j (by omega)
  rwa [List.getElem?_eq_getElem hj] at this
end Ae
namespace Ae
open Go Go.Proofs Go.RowKit
theorem encode_any (p p' : Option Addr) (len cap len' cap' : Nat) (ss : List Stp) (rs : List Rsl) (w : World) (h1 : ss.length = len) (h2 : rs.length = len') (hbig : len < 9223372036854775807) (hs : Arr w p 7 (ss.map Stp.cells)) (hs' : Arr w p' 4 (rs.map Rsl.cells)) (hok : ∀ x ∈ ss, x.ok) (hok' : ∀ x ∈ rs, x.ok) :
    Calls Tryz.prog 9 #[.slice p len cap, .slice p' len' cap'] w (EncPost ss rs w.heap.size w) := by
  by_cases hne : len = len'
  · subst hne
    by_cases hr : rightN ss = 0
    · have hm : len ≤ 65536 := by
        unfold rightN at hr
        split at hr
        · cases hr
        · omega
      exact encode_C p p' len cap cap' ss rs w h1 h2 hm hs hs' hok hok' hr
    · exact encode_B p p' len cap cap' ss rs w h1 h2 hbig hs hok hr
  · exact encode_A p p' len cap len' cap' ss rs w h1 h2 hne
def KP (w w' : World) : Prop := w'.os = w.os ∧ w'.output = w.output ∧ w.heap.size ≤ w'.heap.size ∧ ∀ c, c < w.heap.size → w'.heap[c]? = w.heap[c]?
theorem KP.after {w w1 w2 : World} (h : Below w.heap.size w w1) (h' : KP w1 w2) : KP w w2 := ⟨h'.1.trans h.os, h'.2.1.trans h.output, Nat.le_trans h.size h'.2.2.1, fun c hc => (h'.2.2.2 c (Nat.lt_of_lt_of_le hc h.size)).trans (h.block c hc)⟩
theorem ArrB.below {w w' : World} {p : Option Addr} {l : List Nat} (h : ArrB w p l) (hb : Below w.heap.size w w') : ArrB w' p l := fun h0 => by
  obtain ⟨b, off, e, hlt, hl⟩ := h h0
  exact ⟨b, off, e, Nat.lt_of_lt_of_le hlt hb.size, fun j hj => (hb.cell (p := ⟨b, off + j, none⟩) hlt).trans (hl j hj)⟩
theorem same_u8_refl (p q : Option Addr) (n c d : Nat) (xs : List Nat) (w : World) (h1 : xs.length = n) (hn : n < 9223372036854775807) (ha : ArrB w p xs) (hb : ArrB w q xs) :
    Calls Tryz.prog 11 #[.slice p n c, .slice q n d] w fun e w' => e = .returned (.bool true) ∧ ∃ k, w' = w.drewN k := by
  refine (same_u8 p q n c n d xs xs w h1 h1 hn ha hb).mono ?_
  rintro e w' ⟨rfl, h⟩
  exact ⟨ret_bool (decide_eq_true rfl), h⟩
section
variable {Good : World → Prop} (hg : ∀ w w', Good w → Below w.heap.size w w' → Good w') (known : ∀ w, Good w → Calls Tryz.prog 6 #[] w fun e w' => e = .returned (.bool true) ∧ KP w w')
include hg known
end
end Ae
namespace Ae
open Go Go.Proofs Go.RowKit
def unle (zs : List Nat) : Nat → Nat
  | 0 => 0
  | k + 1 => unle zs k + zs[k]?.getD 0 * 256 ^ k
theorem unle_lt {zs : List Nat} (h : ∀ j : Nat, zs[j]?.getD 0 < 256) : ∀ k, unle zs k < 256 ^ k
  | 0 => by simp [unle]
  | k + 1 => by
    have h1 := unle_lt h k
    have h2 := h k
    rw [unle, Nat.pow_succ]
    have : zs[k]?.getD 0 * 256 ^ k ≤ 255 * 256 ^ k := Nat.mul_le_mul_right _ (by omega)
    omega
theorem wrap_u64n (n : Nat) (h : n < 18446744073709551616) : IntKind.u64.wrap (n : Int) = n := by
  have : IntKind.u64.wrap (n : Int) = (n : Int) % 18446744073709551616 := by simp [IntKind.wrap, IntKind.bits, IntKind.signed]
  rw [this]; omega
theorem or_u64 (a b : Nat) (ha : a < 18446744073709551616) (hb : b < 18446744073709551616) : bits .or .u64 (a : Int) (b : Int) = ((a ||| b : Nat) : Int) := by
  have ha' : a % 2 ^ IntKind.u64.bits = a := Nat.mod_eq_of_lt ha
  have hb' : b % 2 ^ IntKind.u64.bits = b := Nat.mod_eq_of_lt hb
  simp only [bits, BitVec.ofInt_natCast, BitVec.toNat_or, BitVec.toNat_ofNat, ha', hb']
  exact wrap_u64n _ (Nat.or_lt_two_pow (n := 64) ha hb)
theorem or_add (a z k : Nat) (ha : a < 256 ^ k) : a ||| z * 256 ^ k = a + z * 256 ^ k := by
  have e : (256 : Nat) ^ k = 2 ^ (8 * k) := by rw [Nat.pow_mul]
  rw [e] at ha ⊢
  rw [Nat.or_comm, Nat.mul_comm, ← Nat.two_pow_add_eq_or_of_lt ha, Nat.add_comm]
theorem or_stepT {zs : List Nat} (h : ∀ j : Nat, zs[j]?.getD 0 < 256) (k : Nat) (hk : k < 8) (p : Nat) (hp : 256 ^ k = p) : bits .or .u64 ((unle zs k : Nat) : Int) (IntKind.u64.wrap (IntKind.u64.wrap ((zs[k]?.getD 0 : Nat) : Int) * (p : Int))) = ((unle zs (k + 1) : Nat) : Int) := by
  subst hp
  have h1 := h k
  have h2 := unle_lt h k
  have hpk : 256 ^ k ≤ 256 ^ 7 := Nat.pow_le_pow_right (by decide) (by omega)
  have hb : zs[k]?.getD 0 * 256 ^ k < 18446744073709551616 := by
    have : zs[k]?.getD 0 * 256 ^ k ≤ 255 * 256 ^ 7 := Nat.mul_le_mul (by omega) hpk
    have : 255 * 256 ^ 7 < 18446744073709551616 := by decide
    omega
  rw [wrap_u64n _ (by omega), ← Int.natCast_mul, wrap_u64n _ hb, or_u64 _ _ (by have : (256:Nat) ^ 7 < 18446744073709551616 := by decide
                                                                                omega) hb, or_add _ _ _ h2]
  rfl
theorem or_step0 {zs : List Nat} (h : ∀ j : Nat, zs[j]?.getD 0 < 256) : bits .or .u64 ((unle zs 0 : Nat) : Int) (IntKind.u64.wrap (IntKind.u64.wrap ((zs[0]?.getD 0 : Nat) : Int))) = ((unle zs 1 : Nat) : Int) := by
  have := or_stepT h 0 (by omega) 1 rfl
  rwa [Int.natCast_one, Int.mul_one] at this
set_option maxHeartbeats 800000 in
theorem getn16 (b off len cap : Nat) (zs : List Nat) (w : World) (hz : ∀ j : Nat, zs[j]?.getD 0 < 256) (h8 : 2 ≤ len) (h8c : 2 ≤ cap) (hc : ∀ j, j < 2 → w.cell? ⟨b, off + j, none⟩ = some (.int .u8 (zs[j]?.getD 0 : Nat))) :
    Calls Tryz.prog 108 #[.slice (some ⟨b, off, none⟩) len cap] w fun e w' => e = .returned (.tuple #[.int .u16 (unle zs 2 : Nat), .bool true]) ∧ w = w' := by
  have hlt8 : decide ((len : Int) < 2) = false := by simp; omega
  have HZ := Lib.hid hz
  have HU := Lib.hid (unle_lt hz 2)
  clear hz
  go_enter Tryz.func108, Tryz.ntmps108
  go_wp2_with (go_at_call 207; refine (width16 _).mono ?_; rintro e w' ⟨rfl, rfl⟩)
  go_loop [5, 17] (fun v i => ∃ k : Nat, k ≤ 2 ∧ i = .int .i64 k ∧ v = .int .u64 (unle zs k : Nat)) (fun _ i => (8 - intOf i).toNat)
  case atStart => exact ⟨0, by omega, rfl, rfl⟩
  case round =>
    obtain ⟨k, hk, rfl, rfl⟩ := hrel
    have hcell : k < 2 → w.cell? ⟨b, off + k, none⟩ = some (.int .u8 (zs[k]?.getD 0 : Nat)) := fun h => hc k h
    clear hc
    have hcv : IntKind.u16.wrap ((unle zs 2 : Nat) : Int) = ((unle zs 2 : Nat) : Int) := by have := HU.out; simp only [IntKind.wrap, IntKind.bits, IntKind.signed]; simp; omega
    have hk8 : k = 0 ∨ k = 1 ∨ k = 2 := by omega
    rcases hk8 with rfl | rfl | rfl
    all_goals (try replace hcell := hcell (by omega))
    all_goals (try rw [Nat.add_zero] at hcell)
    all_goals go_wp2
    all_goals first
      | (go_ret2; exact ⟨rfl, rfl⟩)
      | (go_round
         case rel =>
           first
             | exact ⟨1, by omega, rfl, by rw [or_step0 HZ.out]⟩ | exact ⟨2, by omega, rfl, by rw [← or_stepT HZ.out 1 (by omega) 256 (by decide)]; rfl⟩
         case measure => decide)
set_option maxHeartbeats 800000 in
theorem getn32 (b off len cap : Nat) (zs : List Nat) (w : World) (hz : ∀ j : Nat, zs[j]?.getD 0 < 256) (h8 : 4 ≤ len) (h8c : 4 ≤ cap) (hc : ∀ j, j < 4 → w.cell? ⟨b, off + j, none⟩ = some (.int .u8 (zs[j]?.getD 0 : Nat))) :
    Calls Tryz.prog 69 #[.slice (some ⟨b, off, none⟩) len cap] w fun e w' => e = .returned (.tuple #[.int .u32 (unle zs 4 : Nat), .bool true]) ∧ w = w' := by
  have hlt8 : decide ((len : Int) < 4) = false := by simp; omega
  have HZ := Lib.hid hz
  have HU := Lib.hid (unle_lt hz 4)
  clear hz
  go_enter Tryz.func69, Tryz.ntmps69
  go_wp2_with (go_at_call 109; refine (width32 _).mono ?_; rintro e w' ⟨rfl, rfl⟩)
  go_loop [5, 17] (fun v i => ∃ k : Nat, k ≤ 4 ∧ i = .int .i64 k ∧ v = .int .u64 (unle zs k : Nat)) (fun _ i => (8 - intOf i).toNat)
  case atStart => exact ⟨0, by omega, rfl, rfl⟩
  case round =>
    obtain ⟨k, hk, rfl, rfl⟩ := hrel
    have hcell : k < 4 → w.cell? ⟨b, off + k, none⟩ = some (.int .u8 (zs[k]?.getD 0 : Nat)) := fun h => hc k h
    clear hc
    have hcv : ((unle zs 4 : Nat) : Int) % 4294967296 = ((unle zs 4 : Nat) : Int) := by have := HU.out; omega
    have hk8 : k = 0 ∨ k = 1 ∨ k = 2 ∨ k = 3 ∨ k = 4 := by omega
    rcases hk8 with rfl | rfl | rfl | rfl | rfl
    all_goals (try replace hcell := hcell (by omega))
    all_goals (try rw [Nat.add_zero] at hcell)
    all_goals go_wp2
    all_goals first
      | (go_ret2; exact ⟨rfl, rfl⟩)
      | (go_round
         case rel =>
           first
             | exact ⟨1, by omega, rfl, by rw [or_step0 HZ.out]⟩ | exact ⟨2, by omega, rfl, by rw [← or_stepT HZ.out 1 (by omega) 256 (by decide)]; rfl⟩ | exact ⟨3, by omega, rfl, by rw [← or_stepT HZ.out 2 (by omega) 65536 (by decide)]; rfl⟩ | exact ⟨4, by omega, rfl, by rw [← or_stepT HZ.out 3 (by omega) 16777216 (by decide)]; rfl⟩
         case measure => decide)
set_option maxHeartbeats 800000 in
theorem getn64 (b off len cap : Nat) (zs : List Nat) (w : World) (hz : ∀ j : Nat, zs[j]?.getD 0 < 256) (h8 : 8 ≤ len) (h8c : 8 ≤ cap) (hc : ∀ j, j < 8 → w.cell? ⟨b, off + j, none⟩ = some (.int .u8 (zs[j]?.getD 0 : Nat))) :
    Calls Tryz.prog 70 #[.slice (some ⟨b, off, none⟩) len cap] w fun e w' => e = .returned (.tuple #[.int .u64 (unle zs 8 : Nat), .bool true]) ∧ w = w' := by
  have hlt8 : decide ((len : Int) < 8) = false := by simp; omega
  have HZ := Lib.hid hz
  have HU := Lib.hid (unle_lt hz 8)
  clear hz
  go_enter Tryz.func70, Tryz.ntmps70
  go_wp2_with (go_at_call 110; refine (tWidth64 _).mono ?_; rintro e w' ⟨rfl, rfl⟩)
  go_loop [5, 17] (fun v i => ∃ k : Nat, k ≤ 8 ∧ i = .int .i64 k ∧ v = .int .u64 (unle zs k : Nat)) (fun _ i => (8 - intOf i).toNat)
  case atStart => exact ⟨0, by omega, rfl, rfl⟩
  case round =>
    obtain ⟨k, hk, rfl, rfl⟩ := hrel
    have hcell : k < 8 → w.cell? ⟨b, off + k, none⟩ = some (.int .u8 (zs[k]?.getD 0 : Nat)) := fun h => hc k h
    clear hc
    have hk8 : k = 0 ∨ k = 1 ∨ k = 2 ∨ k = 3 ∨ k = 4 ∨ k = 5 ∨ k = 6 ∨ k = 7 ∨ k = 8 := by omega
    rcases hk8 with rfl | rfl | rfl | rfl | rfl | rfl | rfl | rfl | rfl
    all_goals (try replace hcell := hcell (by omega))
    all_goals (try rw [Nat.add_zero] at hcell)
    all_goals go_wp2
    all_goals first
      | (go_ret2; exact ⟨rfl, rfl⟩)
      | (go_round
         case rel =>
           first
             | exact ⟨1, by omega, rfl, by rw [or_step0 HZ.out]⟩ | exact ⟨2, by omega, rfl, by rw [← or_stepT HZ.out 1 (by omega) 256 (by decide)]; rfl⟩ | exact ⟨3, by omega, rfl, by rw [← or_stepT HZ.out 2 (by omega) 65536 (by decide)]; rfl⟩ | exact ⟨4, by omega, rfl, by rw [← or_stepT HZ.out 3 (by omega) 16777216 (by decide)]; rfl⟩ | exact ⟨5, by omega, rfl, by rw [← or_stepT HZ.out 4 (by omega) 4294967296 (by decide)]; rfl⟩ | exact ⟨6, by omega, rfl, by rw [← or_stepT HZ.out 5 (by omega) 1099511627776 (by decide)]; rfl⟩ | exact ⟨7, by omega, rfl, by rw [← or_stepT HZ.out 6 (by omega) 281474976710656 (by decide)]; rfl⟩ | exact ⟨8, by omega, rfl, by rw [← or_stepT HZ.out 7 (by omega) 72057594037927936 (by decide)]; rfl⟩
         case measure => decide)
end Ae
namespace Ae
open Go Go.Proofs Go.RowKit
def Byts (w : World) (b off : Nat) (L : List Nat) : Prop := (∀ x ∈ L, x < 256) ∧ ∀ j, j < L.length → w.cell? ⟨b, off + j, none⟩ = some (.int .u8 (L[j]?.getD 0 : Nat))
theorem Byts.get {w : World} {b off : Nat} {L : List Nat} (h : Byts w b off L) (at_ k : Nat) (hk : at_ + k ≤ L.length) : (∀ j : Nat, (L.drop at_)[j]?.getD 0 < 256) ∧ ∀ j, j < k → w.cell? ⟨b, off + at_ + j, none⟩ = some (.int .u8 ((L.drop at_)[j]?.getD 0 : Nat)) := by
  refine ⟨fun j => ?_, fun j hj => ?_⟩
  · rcases Nat.lt_or_ge j (L.drop at_).length with q | q
    · rw [List.getElem?_eq_getElem q]; exact h.1 _ (List.mem_of_mem_drop (List.getElem_mem _))
    · rw [List.getElem?_eq_none q]; decide
  · rw [Nat.add_assoc, List.getElem?_drop]; exact h.2 (at_ + j) (by omega)
def rd (L : List Nat) (at_ k : Nat) : Nat := unle (L.drop at_) k
theorem number_rd (b off len cap at_ : Nat) (L : List Nat) (w : World) (hl : L.length = len) (hcap : len ≤ cap) (hbig : cap < 9223372036854775808) (ha : at_ + 4 ≤ len) (h : Byts w b off L) :
    Calls Tryz.prog 67 #[.slice (some ⟨b, off, none⟩) len cap, .int .i64 at_] w fun e w' => e = .returned (.int .u32 (rd L at_ 4 : Nat)) ∧ w = w' := by
  obtain ⟨h1, h2⟩ := h.get at_ 4 (by omega)
  have HG := Lib.hid (getn32 b (off + at_) (len - at_) (cap - at_) (L.drop at_) w h1 (by omega) (by omega) h2)
  have hne : ¬ cap = at_ := by omega
  have hle : at_ ≤ cap := by omega
  have hle2 : (at_ : Int) ≤ (len : Int) := by omega
  clear h h1 h2 hl
  go_enter Tryz.func67, Tryz.ntmps67
  go_wp2_with fail
  refine HG.out.mono ?_
  rintro e w' ⟨rfl, rfl⟩
  go_wp2
  go_ret
  exact ⟨rfl, rfl⟩
theorem half_rd (b off len cap at_ : Nat) (L : List Nat) (w : World) (hl : L.length = len) (hcap : len ≤ cap) (hbig : cap < 9223372036854775808) (ha : at_ + 2 ≤ len) (h : Byts w b off L) :
    Calls Tryz.prog 68 #[.slice (some ⟨b, off, none⟩) len cap, .int .i64 at_] w fun e w' => e = .returned (  .int .u16 (rd L at_ 2 : Nat)) ∧ w = w' := by
  obtain ⟨h1, h2⟩ := h.get at_ 2 (by omega)
  have HG := Lib.hid (getn16 b (off + at_) (len - at_) (cap - at_) (L.drop at_) w h1 (by omega) (by omega) h2)
  have hne : ¬ cap = at_ := by omega
  have hle : at_ ≤ cap := by omega
  have hle2 : (at_ : Int) ≤ (len : Int) := by omega
  clear h h1 h2 hl
  go_enter Tryz.func68, Tryz.ntmps68
  go_wp2_with fail
  refine HG.out.mono ?_
  rintro e w' ⟨rfl, rfl⟩
  go_wp2
  go_ret
  exact ⟨rfl, rfl⟩
end Ae
namespace Ae
open Go Go.Proofs Go.RowKit
def Raw (w : World) (p : Option Addr) (len cap : Nat) (L : List Nat) : Prop := L.length = len ∧ len ≤ cap ∧ cap < 9223372036854775808 ∧ (∀ x ∈ L, x < 256) ∧ ArrB w p L
theorem Raw.byts {w : World} {p : Option Addr} {len cap : Nat} {L : List Nat} (h : Raw w p len cap L) (h0 : 0 < len) : ∃ b off, p = some ⟨b, off, none⟩ ∧ b < w.heap.size ∧ Byts w b off L := by
  obtain ⟨h1, h2, h3, h4, h5⟩ := h
  obtain ⟨b, off, e, hb, hc⟩ := h5 (by omega)
  exact ⟨b, off, e, hb, h4, fun j hj => by rw [List.getElem?_eq_getElem hj]; exact hc j hj⟩
theorem Byts.below {w w' : World} {B b off : Nat} {L : List Nat} (h : Byts w b off L) (hb : Below B w w') (hB : b < B) : Byts w' b off L := ⟨h.1, fun j hj => (hb.cell (p := ⟨b, off + j, none⟩) hB).trans (h.2 j hj)⟩
def magicOk (L : List Nat) : Bool := decide (L.take 8 = magicL)
def endL (L : List Nat) : Nat := 16 + 64 * rd L 12 4
def formB (L : List Nat) : Bool := decide (20 ≤ L.length) && magicOk L && decide (rd L 8 2 = 1) && decide (rd L 10 2 = 0) && decide (rd L 12 4 ≤ 65536) && decide (L.length = endL L + 4) && decide (rd L (endL L) 4 = crcOf (L.take (endL L)))
def FormPost (L : List Nat) (B : Nat) (w : World) (e : Ending) (w' : World) : Prop := Below B w w' ∧ ((formB L = true ∧ e = .returned (.pointer none)) ∨ (formB L = false ∧ ∃ g, e = .returned (.pointer (some ⟨g, 0, none⟩))))
theorem conv_magic (b off cap : Nat) (L : List Nat) (w : World) (hl : 8 ≤ L.length) (h : Byts w b off L) : ∃ s : ByteArray, (∀ w' : World, (∀ j, j < 8 → w'.cell? ⟨b, off + j, none⟩ = w.cell? ⟨b, off + j, none⟩) → (convert 33 9 (.slice (some ⟨b, off, none⟩) 8 cap)).run Tryz.prog w' = .ok (.string s) w') ∧ (s.toList = [98, 117, 108, 107, 116, 114, 99, 10] ↔ magicOk L = true) := by
  have h8 : (L.take 8).length = 8 := by rw [List.length_take]; omega
  refine ⟨⟨((L.take 8).map UInt8.ofNat).toArray⟩, fun w' hw => ?_, ?_⟩
  · have := run_convert_bytes_back (P := Tryz.prog) w' 33 9 5 ⟨b, off, none⟩ cap ((L.take 8).map UInt8.ofNat) Tryz.underlying33 Tryz.underlying5 Tryz.underlying9 (fun j hj => by
      rw [List.length_map, h8] at hj
      rw [add_plain, hw j hj, h.2 j (by omega), List.getElem_map, List.getElem_take, List.getElem?_eq_getElem (by omega)]
      have hx := h.1 L[j] (List.getElem_mem _)
      simp [UInt8.toNat_ofNat', Nat.mod_eq_of_lt hx])
    rw [List.length_map, h8] at this
    exact this
  · rw [ByteArray.toList_eq]
    unfold magicOk
    rw [decide_eq_true_iff]
    constructor
    · intro e
      have e2 := congrArg (List.map UInt8.toNat) e
      simp only [List.map_map] at e2
      have : List.map (UInt8.toNat ∘ UInt8.ofNat) (L.take 8) = L.take 8 := by
        conv => rhs; rw [← List.map_id (L.take 8)]
        apply List.map_congr_left
        intro x hx
        have := h.1 x (List.mem_of_mem_take hx)
        simp [UInt8.toNat_ofNat', Nat.mod_eq_of_lt this]
      rw [this] at e2
      exact e2
    · intro e
      show List.map UInt8.ofNat (L.take 8) = _
      rw [e]; rfl
end Ae
namespace Ae
open Go Go.Proofs Go.RowKit
theorem form_short (p : Option Addr) (len cap : Nat) (L : List Nat) (w : World) (h : Raw w p len cap L) (hs : len < 20) : Calls Tryz.prog 43 #[.slice p len cap] w (FormPost L w.heap.size w) := by
  have hf : formB L = false := by
    unfold formB
    rw [decide_eq_false (by have := h.1; omega)]; simp
  have HF := Lib.hid hf
  clear hf h
  go_enter Tryz.func43, Tryz.ntmps43
  go_wp2
  go_ret
  exact ⟨(Below.refl _ _).alloc (Nat.le_refl _) _, .inr ⟨HF.out, _, rfl⟩⟩
set_option maxHeartbeats 1600000 in
set_option maxRecDepth 100000 in
theorem form_long (b off len cap : Nat) (L : List Nat) (w : World) (hb0 : b < w.heap.size) (hl : L.length = len) (hcap : len ≤ cap) (hbig : cap < 9223372036854775808) (h : Byts w b off L) (hs : 20 ≤ len) : Calls Tryz.prog 43 #[.slice (some ⟨b, off, none⟩) len cap] w (FormPost L w.heap.size w) := by
  have HN : Hid (∀ w', Below w.heap.size w w' → ∀ k, k + 4 ≤ len → Calls Tryz.prog 67 #[.slice (some ⟨b, off, none⟩) len cap, .int .i64 k] w' fun e w'' => e = .returned (.int .u32 (rd L k 4 : Nat)) ∧ w' = w'') := Lib.hid fun w' hb k hk => number_rd b off len cap k L w' hl hcap hbig hk (h.below hb hb0)
  have HH : Hid (∀ w', Below w.heap.size w w' → ∀ k, k + 2 ≤ len → Calls Tryz.prog 68 #[.slice (some ⟨b, off, none⟩) len cap, .int .i64 k] w' fun e w'' => e = .returned (.int .u16 (rd L k 2 : Nat)) ∧ w' = w'') := Lib.hid fun w' hb k hk => half_rd b off len cap k L w' hl hcap hbig hk (h.below hb hb0)
  obtain ⟨s, hconv, hsm⟩ := conv_magic b off cap L w (by omega) h
  have hconv0 := hconv w (fun _ _ => rfl)
  have H := Lib.hid h
  have HL := Lib.hid hl
  have HSM := Lib.hid hsm
  have h8c : (8 : Int) ≤ (cap : Int) := by omega
  clear h hl hsm hconv
  go_enter Tryz.func43, Tryz.ntmps43
  go_wp2_with fail
  refine (HN.out w (Below.refl _ _) 12 (by omega)).mono ?_
  rintro e w' ⟨rfl, rfl⟩
  go_wp2_with fail
  · have hq : (!s.toList == [98, 117, 108, 107, 116, 114, 99, 10]) = true := by assumption
    go_ret
    have hm : magicOk L = false := by
      cases q : magicOk L with
      | false => rfl
      | true => rw [HSM.out.2 q] at hq; simp at hq
    refine ⟨(Below.refl _ _).alloc (Nat.le_refl _) _, .inr ⟨?_, _, rfl⟩⟩
    unfold formB; rw [hm]; simp
  have hq : (!s.toList == [98, 117, 108, 107, 116, 114, 99, 10]) = false := by assumption
  have hm : magicOk L = true := HSM.out.1 (by simpa using hq)
  have HM := Lib.hid hm
  clear hq hm
  refine (HH.out w (Below.refl _ _) 8 (by omega)).mono ?_
  rintro e w' ⟨rfl, rfl⟩
  go_wp2_with fail
  · have hq : (((rd L 8 2 : Nat) : Int) != 1) = true := by assumption
    go_ret
    refine ⟨(Below.refl _ _).alloc (Nat.le_refl _) _, .inr ⟨?_, _, rfl⟩⟩
    unfold formB; rw [decide_eq_false (p := rd L 8 2 = 1) (by intro e; rw [e] at hq; simp at hq)]; simp
  have hq : (((rd L 8 2 : Nat) : Int) != 1) = false := by assumption
  have H8 : Hid (rd L 8 2 = 1) := Lib.hid (by have h0 : ((rd L 8 2 : Nat) : Int) = 1 := by simpa using hq
                                              omega)
  clear hq
  refine (HH.out w (Below.refl _ _) 10 (by omega)).mono ?_
  rintro e w' ⟨rfl, rfl⟩
  have hend : (16 : Int) + 64 * ((rd L 12 4 : Nat) : Int) = ((endL L : Nat) : Int) := by unfold endL; omega
  have hendn : endL L = 16 + 64 * rd L 12 4 := rfl
  have HEN := Lib.hid hendn
  clear hendn
  go_wp2_with fail
  · have hq : (((rd L 10 2 : Nat) : Int) != 0) = true := by assumption
    go_ret
    refine ⟨(Below.refl _ _).alloc (Nat.le_refl _) _, .inr ⟨?_, _, rfl⟩⟩
    unfold formB; rw [decide_eq_false (p := rd L 10 2 = 0) (by intro e; rw [e] at hq; simp at hq)]; simp
  · have hq : (65536 : Int) < ((rd L 12 4 : Nat) : Int) := by assumption
    go_ret
    refine ⟨(Below.refl _ _).alloc (Nat.le_refl _) _, .inr ⟨?_, _, rfl⟩⟩
    unfold formB; rw [decide_eq_false (p := rd L 12 4 ≤ 65536) (by omega)]; simp
  · have hq : (len : Int) < ((endL L : Nat) : Int) + 4 := by assumption
    go_ret
    refine ⟨(Below.refl _ _).alloc (Nat.le_refl _) _, .inr ⟨?_, _, rfl⟩⟩
    unfold formB; rw [decide_eq_false (p := L.length = endL L + 4) (by have := HL.out; omega)]; simp
  · have hq : ((endL L : Nat) : Int) + 4 < (len : Int) := by assumption
    go_ret
    refine ⟨(Below.refl _ _).alloc (Nat.le_refl _) _, .inr ⟨?_, _, rfl⟩⟩
    unfold formB; rw [decide_eq_false (p := L.length = endL L + 4) (by have := HL.out; omega)]; simp
  have hq : (((rd L 10 2 : Nat) : Int) != 0) = false := by assumption
  have hq1 : ((rd L 12 4 : Nat) : Int) ≤ 65536 := by assumption
  have hq2 : ((endL L : Nat) : Int) + 4 ≤ (len : Int) := by assumption
  have hq3 : (len : Int) ≤ ((endL L : Nat) : Int) + 4 := by assumption
  have H10 : Hid (rd L 10 2 = 0) := Lib.hid (by have h0 : ((rd L 10 2 : Nat) : Int) = 0 := by simpa using hq
                                                omega)
  have HLE : Hid (L.length = endL L + 4) := Lib.hid (by have := HL.out; omega)
  have hec : ((endL L : Nat) : Int) ≤ (cap : Int) := by omega
  have he0 : (0 : Int) ≤ ((endL L : Nat) : Int) := by omega
  clear hq
  have HC : Hid (∀ w', Below w.heap.size w w' → Calls Tryz.prog 64 #[.slice (some ⟨b, off, none⟩) (endL L) cap] w' fun e w'' => e = .returned (.int .u32 (crcOf (L.take (endL L)) : Nat)) ∧ Below w'.heap.size w' w'') := Lib.hid fun w' hb => crc_any b off (endL L) cap (L.take (endL L)) w' (by rw [List.length_take]; have := HLE.out; omega) (by omega) (fun x hx => H.out.1 x (List.mem_of_mem_take hx)) (Nat.lt_of_lt_of_le hb0 hb.size) (fun j hj => by
    have := (H.out.below hb hb0).2 j (by have := HLE.out; omega)
    rw [List.getElem?_take, if_pos hj]; exact this)
  go_region_law (first
    | (go_simp; go_at_call 67; first | (refine (HN.out _ (Below.refl _ _).drew (endL L) (by omega)).mono ?_) | (refine (HN.out _ hbc (endL L) (by omega)).mono ?_); rintro e w1 ⟨rfl, rfl⟩)
    | (go_simp; go_at_call 64; refine (HC.out _ (Below.refl _ _).drew).mono ?_; rintro e w1 ⟨rfl, hb1⟩; have hbc : Below w.heap.size w w1 := ((Below.refl _ _).drew).trans hb1))
  go_wp2
  · have hq : (((rd L (endL L) 4 : Nat) : Int) != ((crcOf (L.take (endL L)) : Nat) : Int)) = true := by assumption
    go_ret
    refine ⟨?_, .inr ⟨?_, _, rfl⟩⟩
    · exact (hbc.alloc hbc.size _)
    · unfold formB; rw [decide_eq_false (p := rd L (endL L) 4 = crcOf (L.take (endL L))) (by intro e; rw [e] at hq; simp at hq)]; simp
  · have hq : (((rd L (endL L) 4 : Nat) : Int) != ((crcOf (L.take (endL L)) : Nat) : Int)) = false := by assumption
    have h0 : ((rd L (endL L) 4 : Nat) : Int) = ((crcOf (L.take (endL L)) : Nat) : Int) := by simpa using hq
    go_ret
    refine ⟨?_, .inl ⟨?_, rfl⟩⟩
    · exact hbc
    · unfold formB
      rw [HM.out, decide_eq_true (p := 20 ≤ L.length) (by have := HL.out; omega), decide_eq_true H8.out, decide_eq_true H10.out, decide_eq_true (p := rd L 12 4 ≤ 65536) (by omega), decide_eq_true HLE.out, decide_eq_true (p := rd L (endL L) 4 = crcOf (L.take (endL L))) (by omega)]; rfl
theorem form_any (p : Option Addr) (len cap : Nat) (L : List Nat) (w : World) (h : Raw w p len cap L) : Calls Tryz.prog 43 #[.slice p len cap] w (FormPost L w.heap.size w) := by
  by_cases hs : len < 20
  · exact form_short p len cap L w h hs
  · obtain ⟨b, off, rfl, hb, hby⟩ := h.byts (by omega)
    exact form_long b off len cap L w hb h.1 h.2.1 h.2.2.1 hby (by omega)
end Ae
namespace Ae
open Go Go.Proofs Go.RowKit
def sgT (n : Nat) : Int := if n < 2147483648 then n else (n : Int) - 4294967296
theorem sg_wrap (n : Nat) (h : n < 4294967296) : wrap32 (n : Int) = sgT n := by unfold wrap32 sgT; split <;> omega
theorem sg_bound (n : Nat) (h : n < 4294967296) : -2147483648 ≤ sgT n ∧ sgT n < 2147483648 := by unfold sgT; split <;> omega
theorem unle4_lt {zs : List Nat} (hz : ∀ j : Nat, zs[j]?.getD 0 < 256) : unle zs 4 < 4294967296 := unle_lt hz 4
theorem unle8_lt {zs : List Nat} (hz : ∀ j : Nat, zs[j]?.getD 0 < 256) : unle zs 8 < 18446744073709551616 := unle_lt hz 8
set_option maxHeartbeats 800000 in
theorem tword (T b o n c : Nat) (zs : List Nat) (w : World) (hT : w.heap[T]? = some (.cells #[.slice (some ⟨b, o, none⟩) n c] 110 (0, 0))) (hz : ∀ j : Nat, zs[j]?.getD 0 < 256) (hn : 4 ≤ n) (hc : n < c) (hbig : c < 9223372036854775808) (hcell : ∀ j, j < 4 → w.cell? ⟨b, o + j, none⟩ = some (.int .u8 (zs[j]?.getD 0 : Nat))) :
    Calls Tryz.prog 44 #[.pointer (some ⟨T, 0, none⟩)] w fun e w' => e = .returned (.int .i64 (sgT (unle zs 4))) ∧ w' = w.setCell ⟨T, 0, none⟩ (.slice (some ⟨b, o + 4, none⟩) (n - 4) (c - 4)) := by
  have c0 : w.cell? ⟨T, 0, none⟩ = some (.slice (some ⟨b, o, none⟩) n c) := cell_in hT rfl
  have f0 : w.frozen? ⟨T, 0, none⟩ = false := by simp [World.frozen?, hT]
  have HG := Lib.hid (getn32 b o n c zs w hz hn (by omega) hcell)
  have hw : wrap32 ((unle zs 4 : Nat) : Int) = sgT (unle zs 4) := sg_wrap _ (unle4_lt hz)
  have hb := sg_bound _ (unle4_lt hz)
  have h4 : ¬ c = 4 := by omega
  have h4n : (4 : Int) ≤ (n : Int) := by omega
  clear hT hz hcell
  go_enter Tryz.func44, Tryz.ntmps44
  go_wp2_with fail
  refine HG.out.mono ?_
  rintro e w' ⟨rfl, rfl⟩
  go_wp2
  go_ret
  exact ⟨ret_int (by simp), rfl⟩
set_option maxHeartbeats 800000 in
theorem tlong (T b o n c : Nat) (zs : List Nat) (w : World) (hT : w.heap[T]? = some (.cells #[.slice (some ⟨b, o, none⟩) n c] 110 (0, 0))) (hz : ∀ j : Nat, zs[j]?.getD 0 < 256) (hn : 8 ≤ n) (hc : n < c) (hbig : c < 9223372036854775808) (hcell : ∀ j, j < 8 → w.cell? ⟨b, o + j, none⟩ = some (.int .u8 (zs[j]?.getD 0 : Nat))) :
    Calls Tryz.prog 45 #[.pointer (some ⟨T, 0, none⟩)] w fun e w' => e = .returned (.int .u64 (unle zs 8 : Nat)) ∧ w' = w.setCell ⟨T, 0, none⟩ (.slice (some ⟨b, o + 8, none⟩) (n - 8) (c - 8)) := by
  have c0 : w.cell? ⟨T, 0, none⟩ = some (.slice (some ⟨b, o, none⟩) n c) := cell_in hT rfl
  have f0 : w.frozen? ⟨T, 0, none⟩ = false := by simp [World.frozen?, hT]
  have HG := Lib.hid (getn64 b o n c zs w hz hn (by omega) hcell)
  have h4 : ¬ c = 8 := by omega
  have h4n : (8 : Int) ≤ (n : Int) := by omega
  clear hT hz hcell
  go_enter Tryz.func45, Tryz.ntmps45
  go_wp2_with fail
  refine HG.out.mono ?_
  rintro e w' ⟨rfl, rfl⟩
  go_wp2
  go_ret
  exact ⟨rfl, rfl⟩
end Ae
namespace Ae
open Go Go.Proofs Go.RowKit
def TK (w : World) (T b off e cap pos : Nat) : Prop := w.heap[T]? = some (.cells #[.slice (some ⟨b, off + pos, none⟩) (e - pos) (cap - pos)] 110 (0, 0))
theorem tk_word (T b off e cap pos : Nat) (L : List Nat) (w : World) (h : TK w T b off e cap pos) (hp : pos + 4 ≤ e) (he : e < cap) (heL : e ≤ L.length) (hbig : cap < 9223372036854775808) (hB : Byts w b off L) (hTb : T ≠ b) :
    Calls Tryz.prog 44 #[.pointer (some ⟨T, 0, none⟩)] w fun x w' => x = .returned (.int .i64 (sgT (rd L pos 4))) ∧ TK w' T b off e cap (pos + 4) ∧ w.grownBy w' (some T) := by
  obtain ⟨h1, h2⟩ := hB.get pos 4 (by omega)
  refine (tword T b (off + pos) (e - pos) (cap - pos) (L.drop pos) w h h1 (by omega) (by omega) (by omega) h2).mono ?_
  rintro x w' ⟨rfl, rfl⟩
  refine ⟨rfl, ?_, ⟨rfl, rfl, rfl, by simp, fun k _ hk => heap_setCell_other w _ k _ (by intro q; apply hk; rw [q])⟩⟩
  unfold TK at h ⊢
  rw [heap_setCell_same w T 0 _ _ _ h]
  rw [show off + (pos + 4) = off + pos + 4 by omega, show e - (pos + 4) = e - pos - 4 by omega, show cap - (pos + 4) = cap - pos - 4 by omega]
  rfl
theorem tk_long (T b off e cap pos : Nat) (L : List Nat) (w : World) (h : TK w T b off e cap pos) (hp : pos + 8 ≤ e) (he : e < cap) (heL : e ≤ L.length) (hbig : cap < 9223372036854775808) (hB : Byts w b off L) (hTb : T ≠ b) :
    Calls Tryz.prog 45 #[.pointer (some ⟨T, 0, none⟩)] w fun x w' => x = .returned (.int .u64 (rd L pos 8 : Nat)) ∧ TK w' T b off e cap (pos + 8) ∧ w.grownBy w' (some T) := by
  obtain ⟨h1, h2⟩ := hB.get pos 8 (by omega)
  refine (tlong T b (off + pos) (e - pos) (cap - pos) (L.drop pos) w h h1 (by omega) (by omega) (by omega) h2).mono ?_
  rintro x w' ⟨rfl, rfl⟩
  refine ⟨rfl, ?_, ⟨rfl, rfl, rfl, by simp, fun k _ hk => heap_setCell_other w _ k _ (by intro q; apply hk; rw [q])⟩⟩
  unfold TK at h ⊢
  rw [heap_setCell_same w T 0 _ _ _ h]
  rw [show off + (pos + 8) = off + pos + 8 by omega, show e - (pos + 8) = e - pos - 8 by omega, show cap - (pos + 8) = cap - pos - 8 by omega]
  rfl
theorem own_tk {w : World} {base E sz n T b off e cap pos k : Nat} {v : Value} {xs : List Value} (h : w.ownsRow base E sz v n xs) (hE : E ≠ 110) (hT : TK w T b off e cap pos) (hk : v.ownBlock = some k) : k ≠ T := by
  rintro rfl
  obtain ⟨_, h2 | ⟨g, cap', cur, rfl, _, hg, _⟩⟩ := h
  · rw [h2.1] at hk; cases hk
  · simp only [Value.ownBlock, Option.some.injEq] at hk
    subst hk
    unfold TK at hT
    rw [hg] at hT
    simp only [Option.some.injEq, Obj.cells.injEq] at hT
    exact hE hT.2.1
theorem own_of {w w' : World} {base E sz n : Nat} {v : Value} {xs : List Value} (h : w.ownsRow base E sz v n xs) (hk : ∀ k, v.ownBlock = some k → w'.heap[k]? = w.heap[k]?) : w'.ownsRow base E sz v n xs := by
  obtain ⟨h1, h2 | ⟨g, cap', cur, rfl, hb, hg, rest⟩⟩ := h
  · exact ⟨h1, .inl h2⟩
  · exact ⟨h1, .inr ⟨g, cap', cur, rfl, hb, (hk g rfl).trans hg, rest⟩⟩
theorem own_ne2 {w : World} {base base' E E' sz sz' n n' : Nat} {v v' : Value} {xs ys : List Value} (h : w.ownsRow base E sz v n xs) (h' : w.ownsRow base' E' sz' v' n' ys) (hE : E ≠ E') : v.ownBlock = none ∨ v.ownBlock ≠ v'.ownBlock := by
  obtain ⟨_, h2 | ⟨g, cap', cur, rfl, hb, hg, rest⟩⟩ := h
  · left; rw [h2.1]; rfl
  · right
    obtain ⟨_, h3 | ⟨g', cap2, cur2, rfl, hb2, hg2, rest2⟩⟩ := h'
    · rw [h3.1]; simp [Value.ownBlock]
    · simp only [Value.ownBlock, ne_eq, Option.some.injEq]
      rintro rfl
      rw [hg] at hg2
      simp only [Option.some.injEq, Obj.cells.injEq] at hg2
      exact hE hg2.2.1
theorem own_apart2 {w : World} {base E sz n k : Nat} {v : Value} {xs : List Value} {cs : Array Value} {t : Nat} {fr : Nat × Nat} (h : w.ownsRow base E sz v n xs) (ha : w.heap[k]? = some (.cells cs t fr)) (ht : t ≠ E) : some k ≠ v.ownBlock := by
  intro e
  obtain ⟨_, q | ⟨g, cap, cur, rfl, _, hg, _⟩⟩ := h
  · rw [q.1] at e; cases e
  · simp only [Value.ownBlock, Option.some.injEq] at e
    subst e
    rw [ha] at hg
    simp only [Option.some.injEq, Obj.cells.injEq] at hg
    exact ht hg.2.1
theorem TK.lt {w : World} {T b off e cap pos : Nat} (h : TK w T b off e cap pos) : T < w.heap.size := by
  unfold TK at h
  rcases Nat.lt_or_ge T w.heap.size with q | q
  · exact q
  · rw [Array.getElem?_eq_none q] at h; cases h
def stpAt (L : List Nat) (i : Nat) : Stp := ⟨sgT (rd L (16 + 64 * i) 4), sgT (rd L (16 + 64 * i + 4) 4), sgT (rd L (16 + 64 * i + 8) 4), sgT (rd L (16 + 64 * i + 12) 4), rd L (16 + 64 * i + 20) 8, sgT (rd L (16 + 64 * i + 16) 4), rd L (16 + 64 * i + 28) 8⟩
def rslAt (L : List Nat) (i : Nat) : Rsl := ⟨sgT (rd L (16 + 64 * i + 36) 4), rd L (16 + 64 * i + 40) 8, rd L (16 + 64 * i + 48) 8, rd L (16 + 64 * i + 56) 8⟩
def stpsL (L : List Nat) (n : Nat) : List Stp := (List.range n).map (stpAt L)
def rslsL (L : List Nat) (n : Nat) : List Rsl := (List.range n).map (rslAt L)
def DecPost (L : List Nat) (B : Nat) (w : World) (x : Ending) (w' : World) : Prop := Below B w w' ∧ ((formB L = false ∧ ∃ g, x = .returned (.tuple #[.slice none 0 0, .slice none 0 0, .iface 106 (.pointer (some ⟨g, 0, none⟩))])) ∨
  (formB L = true ∧ ∃ vs vr, x = .returned (.tuple #[vs, vr, Value.nilIface]) ∧ w'.ownsRow B 28 7 vs (rd L 12 4) ((stpsL L (rd L 12 4)).map Stp.cells).flatten ∧ w'.ownsRow B 32 4 vr (rd L 12 4) ((rslsL L (rd L 12 4)).map Rsl.cells).flatten))
theorem decode_bad (p : Option Addr) (len cap : Nat) (L : List Nat) (w : World) (h : Raw w p len cap L) (hf : formB L = false) : Calls Tryz.prog 14 #[.slice p len cap] w (DecPost L w.heap.size w) := by
  have H := Lib.hid (form_any p len cap L w h)
  have HF := Lib.hid hf
  clear h hf
  go_enter Tryz.func14, Tryz.ntmps14
  go_wp2_with fail
  go_step3
  go_wp2_with fail
  refine H.out.mono ?_
  rintro e w1 ⟨hb, ⟨hq, _⟩ | ⟨_, g, rfl⟩⟩
  · rw [HF.out] at hq; cases hq
  go_wp2
  rw [Exit.noGoto_ret]
  have hff := HF.out
  refine bodyPost_ret (v := .tuple #[.slice none 0 0, .slice none 0 0, .iface 106 (.pointer (some ⟨g, 0, none⟩))]) (by simp [results, Tryz.results14, go_sem]) rfl ⟨hb, .inl ⟨hff, g, rfl⟩⟩
end Ae
namespace Ae
open Go Go.Proofs Go.RowKit
theorem heap_new1 (w : World) (A B : Obj) : ((w.alloc A).alloc B).heap[w.heap.size + 1]? = some B := by
  rw [show w.heap.size + 1 = (w.alloc A).heap.size by simp]; exact heap_alloc_new _ _
theorem own_sym {a b : Value} (h : a.ownBlock = none ∨ a.ownBlock ≠ b.ownBlock) (k : Nat) (hk : a.ownBlock = some k) : some k ≠ b.ownBlock := by
  rcases h with h | h
  · rw [h] at hk; cases hk
  · rw [← hk]; exact h
set_option maxHeartbeats 8000000 in
set_option maxRecDepth 100000 in
theorem dec_region {K : Act → World → Prop} (x0 x1 x2 x3 x4 x5 x8 x11 x12 x13 x14 x15 x16 x17 x18 x19 x20 x21 x22 x23 x24 x25 x26 x27 x28 x29 x30 x31 x32 x33 x34 x35 x36 x37 x38 x39 x40 x41 x42 x43 x44 x45 x46 x47 x48 x49 x50 x51 x52 x53 x54 x55 x56 x57 x58 x59 x60 x61 x62 x63 x64 x65 x66 x67 x68 u6 u7 : Value) (n0 n1 base i : Nat) (sc : Stp) (rc : Rsl) (xs ys : List Value) (w : World)
    (e0 : w.heap[n0]? = some (.cells #[.int .i64 sc.k, .int .i64 sc.s, .int .i64 sc.n, .int .i64 sc.a, .int .u64 sc.at_, .int .i64 sc.wd, .int .u64 sc.v] 28 (0, 0))) (e1 : w.heap[n1]? = some (.cells #[.int .i64 rc.why, .int .u64 rc.v, .int .u64 rc.at_, .int .u64 rc.cl] 32 (0, 0))) (hos : w.ownsRow base 28 7 u6 i xs) (hor : w.ownsRow base 32 4 u7 i ys) (hbase : base ≤ w.heap.size) (hi : i < 65536) (hu60 : some n0 ≠ u6.ownBlock) (hu71 : some n1 ≠ u7.ownBlock)
    (hq : ∀ v6 v7 y61 y65 w', w'.ownsRow base 28 7 v6 (i + 1) (xs ++ [.int .i64 sc.k, .int .i64 sc.s, .int .i64 sc.n, .int .i64 sc.a, .int .u64 sc.at_, .int .i64 sc.wd, .int .u64 sc.v]) → w'.ownsRow base 32 4 v7 (i + 1) (ys ++ [.int .i64 rc.why, .int .u64 rc.v, .int .u64 rc.at_, .int .u64 rc.cl]) → Below base w w' → (∀ k, k < w.heap.size → some k ≠ u6.ownBlock → some k ≠ u7.ownBlock → w'.heap[k]? = w.heap[k]?) → K ⟨#[x0, x1, x2, x3, x4, x5, v6, v7, x8, .pointer (some ⟨n0, 0, none⟩), .pointer (some ⟨n1, 0, none⟩), x11, x12, x13, x14, x15, x16, x17, x18, x19, x20, x21, x22, x23, x24, x25, x26, x27, x28, x29, x30, x31, x32, x33, x34, x35, x36, x37, x38, x39, x40, x41, x42, x43, x44, x45, x46, x47, x48, x49, x50, x51, x52, x53, x54, x55, x56, x57, x58, u6, .agg #[.int .i64 sc.k, .int .i64 sc.s, .int .i64 sc.n, .int .i64 sc.a, .int .u64 sc.at_, .int .i64 sc.wd, .int .u64 sc.v], y61, v6, u7, .agg #[.int .i64 rc.why, .int .u64 rc.v, .int .u64 rc.at_, .int .u64 rc.cl], y65, v7, x67, x68], []⟩ w') :
    Code.wp Tryz.prog (Go.Code.region 12 #[{ dst := Option.some 59, op := Go.Op.move (Go.Operand.tmp 6), type := 22, pos := "trace.go:163", after := #[], guard := Option.none }, { dst := Option.some 60, op := Go.Op.load 28 (Go.Operand.tmp 9), type := 28, pos := "trace.go:163", after := #[], guard := Option.none }, { dst := Option.some 61, op := Go.Op.buildSlice 22 1 #[(0, Go.Operand.tmp 60)], type := 22, pos := "trace.go:163", after := #[{ on := 1, ground := Go.Ground.data }], guard := Option.none }, { dst := Option.some 62, op := Go.Op.call { callee := Go.Callee.builtin Go.Builtin.append, args := #[Go.Operand.tmp 59, Go.Operand.tmp 61], argTypes := #[22, 22] }, type := 22, pos := "trace.go:163", after := #[{ on := 0, ground := Go.Ground.data }, { on := 2, ground := Go.Ground.data }], guard := Option.none }, { dst := Option.some 63, op := Go.Op.move (Go.Operand.tmp 7), type := 23, pos := "trace.go:163", after := #[], guard := Option.none }, { dst := Option.some 64, op := Go.Op.load 32 (Go.Operand.tmp 10), type := 32, pos := "trace.go:163", after := #[], guard := Option.none }, { dst := Option.some 65, op := Go.Op.buildSlice 23 1 #[(0, Go.Operand.tmp 64)], type := 23, pos := "trace.go:163", after := #[{ on := 5, ground := Go.Ground.data }], guard := Option.none }, { dst := Option.some 66, op := Go.Op.call { callee := Go.Callee.builtin Go.Builtin.append, args := #[Go.Operand.tmp 63, Go.Operand.tmp 65], argTypes := #[23, 23] }, type := 23, pos := "trace.go:163", after := #[{ on := 4, ground := Go.Ground.data }, { on := 6, ground := Go.Ground.data }, { on := 3, ground := Go.Ground.chain }], guard := Option.none }, { dst := Option.some 6, op := Go.Op.assign (Go.Operand.tmp 62), type := 22, pos := "trace.go:163", after := #[{ on := 3, ground := Go.Ground.data }, { on := 7, ground := Go.Ground.chain }, { on := 0, ground := Go.Ground.phase }, { on := 1, ground := Go.Ground.phase }, { on := 2, ground := Go.Ground.phase }, { on := 3, ground := Go.Ground.phase }, { on := 4, ground := Go.Ground.textOnly Go.Departure.lateStores }, { on := 5, ground := Go.Ground.textOnly Go.Departure.lateStores }, { on := 6, ground := Go.Ground.textOnly Go.Departure.lateStores }, { on := 7, ground := Go.Ground.textOnly Go.Departure.lateStoresUnsure }], guard := Option.none }, { dst := Option.some 7, op := Go.Op.assign (Go.Operand.tmp 66), type := 23, pos := "trace.go:163", after := #[{ on := 7, ground := Go.Ground.data }, { on := 8, ground := Go.Ground.chain }, { on := 0, ground := Go.Ground.phase }, { on := 1, ground := Go.Ground.phase }, { on := 2, ground := Go.Ground.phase }, { on := 3, ground := Go.Ground.phase }, { on := 4, ground := Go.Ground.phase }, { on := 5, ground := Go.Ground.phase }, { on := 6, ground := Go.Ground.phase }, { on := 7, ground := Go.Ground.phase }, { on := 8, ground := Go.Ground.phase }], guard := Option.none }] true) (fun x a w' => match x with | Exit.normal => K a w' | _ => False) ⟨#[x0, x1, x2, x3, x4, x5, u6, u7, x8, .pointer (some ⟨n0, 0, none⟩), .pointer (some ⟨n1, 0, none⟩), x11, x12, x13, x14, x15, x16, x17, x18, x19, x20, x21, x22, x23, x24, x25, x26, x27, x28, x29, x30, x31, x32, x33, x34, x35, x36, x37, x38, x39, x40, x41, x42, x43, x44, x45, x46, x47, x48, x49, x50, x51, x52, x53, x54, x55, x56, x57, x58, x59, x60, x61, x62, x63, x64, x65, x66, x67, x68], []⟩ w := by
  have l0 : n0 < w.heap.size := by
    rcases Nat.lt_or_ge n0 w.heap.size with q | q
    · exact q
    · rw [Array.getElem?_eq_none q] at e0; cases e0
  have l1 : n1 < w.heap.size := by
    rcases Nat.lt_or_ge n1 w.heap.size with q | q
    · exact q
    · rw [Array.getElem?_eq_none q] at e1; cases e1
  obtain ⟨i28, hi28, hz28, hs28, hb28⟩ := info_parts info28
  obtain ⟨i32, hi32, hz32, hs32, hb32⟩ := info_parts info32
  have h67 := own_ne2 hos hor (by decide)
  have h76 := own_ne2 hor hos (by decide)
  have HU61 : Hid (some n1 ≠ u6.ownBlock) := Lib.hid (own_apart2 hos e1 (by decide))
  have HU70 : Hid (some n0 ≠ u7.ownBlock) := Lib.hid (own_apart2 hor e0 (by decide))
  have hu61 := HU61
  have hu70 := HU70
  have KU6 : Hid (∀ k, u6.ownBlock = some k → k < w.heap.size) := Lib.hid fun k hk => (hos.lt k hk).2
  have KU7 : Hid (∀ k, u7.ownBlock = some k → k < w.heap.size) := Lib.hid fun k hk => (hor.lt k hk).2
  have KB6 : Hid (∀ k, u6.ownBlock = some k → base ≤ k) := Lib.hid fun k hk => (hos.lt k hk).1
  have KB7 : Hid (∀ k, u7.ownBlock = some k → base ≤ k) := Lib.hid fun k hk => (hor.lt k hk).1
  have HOS := Lib.hid hos
  have HOR := Lib.hid hor
  have HB1 : Hid (i + 1 ≤ maxLen) := Lib.hid (by simp [maxLen]; omega)
  have HB2 : Hid ((i + 1) * 56 ≤ 140737488355328) := Lib.hid (by omega)
  have HB3 : Hid ((i + 1) * 32 ≤ 140737488355328) := Lib.hid (by omega)
  have HBS := Lib.hid hbase
  have HL0 := Lib.hid l0
  have HL1 := Lib.hid l1
  have HQ := Lib.hid hq
  have h00 := cell_in e0 (j := 0) rfl
  have h01 := cell_in e0 (j := 1) rfl
  have h02 := cell_in e0 (j := 2) rfl
  have h03 := cell_in e0 (j := 3) rfl
  have h04 := cell_in e0 (j := 4) rfl
  have h05 := cell_in e0 (j := 5) rfl
  have h06 := cell_in e0 (j := 6) rfl
  have h10 := cell_in e1 (j := 0) rfl
  have h11 := cell_in e1 (j := 1) rfl
  have h12 := cell_in e1 (j := 2) rfl
  have h13 := cell_in e1 (j := 3) rfl
  have E0 := Lib.hid e0
  have E1 := Lib.hid e1
  clear e0 e1 hos hor hbase hi hq HU61 HU70 hu60 hu71
  go_region_law? (first
    | (refine step_append_lies _ (by rfl) (.tmp 63) (.tmp 65) 23 (by rfl) base 32 i32 _ 4 32 Tryz.underlying23 hi32 hz32 hs32 hb32 rfl (by decide) u7 i ys (by rfl) (by first | exact own_of HOR.out (fun k hk => Below.heap_alloc w _ k (KU7.out k hk)) | exact own_of HOR.out (fun k hk => (Below.heap_alloc (w.alloc (.cells #[.int .i64 rc.why, .int .u64 rc.v, .int .u64 rc.at_, .int .u64 rc.cl] 32)) _ k (Nat.lt_of_lt_of_le (KU7.out k hk) (by simp))).trans (Below.heap_alloc w _ k (KU7.out k hk))) | exact own_of HOR.out (fun k hk => (Below.heap_alloc (w.alloc (.cells #[.int .i64 sc.k, .int .i64 sc.s, .int .i64 sc.n, .int .i64 sc.a, .int .u64 sc.at_, .int .i64 sc.wd, .int .u64 sc.v] 28)) _ k (Nat.lt_of_lt_of_le (KU7.out k hk) (by simp))).trans (Below.heap_alloc w _ k (KU7.out k hk))) | exact own_of HOR.out (fun k hk => (Below.heap_alloc wA _ k (Nat.lt_of_lt_of_le (KU7.out k hk) (Nat.le_trans (by first | omega | (simp; omega) | simp) hgrowA.size))).trans ((hgrowA.block k (Nat.lt_of_lt_of_le (KU7.out k hk) (by first | omega | (simp; omega) | simp)) (own_sym h76 k hk)).trans (Below.heap_alloc w _ k (KU7.out k hk)))) | exact own_of HOR.out (fun k hk => (Below.heap_alloc wA _ k (Nat.lt_of_lt_of_le (KU7.out k hk) (Nat.le_trans (by first | omega | (simp; omega) | simp) hgrowA.size))).trans ((hgrowA.block k (Nat.lt_of_lt_of_le (KU7.out k hk) (by first | omega | (simp; omega) | simp)) (own_sym h76 k hk)).trans ((Below.heap_alloc (w.alloc (.cells #[.int .i64 sc.k, .int .i64 sc.s, .int .i64 sc.n, .int .i64 sc.a, .int .u64 sc.at_, .int .i64 sc.wd, .int .u64 sc.v] 28)) _ k (Nat.lt_of_lt_of_le (KU7.out k hk) (by simp))).trans (Below.heap_alloc w _ k (KU7.out k hk))))) | exact own_of HOR.out (fun k hk => (Below.heap_alloc wA _ k (Nat.lt_of_lt_of_le (KU7.out k hk) (Nat.le_trans (by first | omega | (simp; omega) | simp) hgrowA.size))).trans ((hgrowA.block k (Nat.lt_of_lt_of_le (KU7.out k hk) (by first | omega | (simp; omega) | simp)) (own_sym h76 k hk)).trans ((Below.heap_alloc (w.alloc (.cells #[.int .i64 rc.why, .int .u64 rc.v, .int .u64 rc.at_, .int .u64 rc.cl] 32)) _ k (Nat.lt_of_lt_of_le (KU7.out k hk) (by simp))).trans (Below.heap_alloc w _ k (KU7.out k hk))))) | exact own_of HOR.out (fun k hk => (hgrowA.block k (Nat.lt_of_lt_of_le (KU7.out k hk) (by first | omega | (simp; omega) | simp)) (own_sym h76 k hk)).trans (Below.heap_alloc w _ k (KU7.out k hk))) | exact own_of HOR.out (fun k hk => (hgrowA.block k (Nat.lt_of_lt_of_le (KU7.out k hk) (by first | omega | (simp; omega) | simp)) (own_sym h76 k hk)).trans ((Below.heap_alloc (w.alloc (.cells #[.int .i64 sc.k, .int .i64 sc.s, .int .i64 sc.n, .int .i64 sc.a, .int .u64 sc.at_, .int .i64 sc.wd, .int .u64 sc.v] 28)) _ k (Nat.lt_of_lt_of_le (KU7.out k hk) (by simp))).trans (Below.heap_alloc w _ k (KU7.out k hk)))) | exact own_of HOR.out (fun k hk => (hgrowA.block k (Nat.lt_of_lt_of_le (KU7.out k hk) (by first | omega | (simp; omega) | simp)) (own_sym h76 k hk)).trans ((Below.heap_alloc (w.alloc (.cells #[.int .i64 rc.why, .int .u64 rc.v, .int .u64 rc.at_, .int .u64 rc.cl] 32)) _ k (Nat.lt_of_lt_of_le (KU7.out k hk) (by simp))).trans (Below.heap_alloc w _ k (KU7.out k hk))))) _ 1 1 [.int .i64 rc.why, .int .u64 rc.v, .int .u64 rc.at_, .int .u64 rc.cl] (by rfl) (by rfl) (by first | exact World.news_of_block (heap_alloc_new w (.cells #[.int .i64 rc.why, .int .u64 rc.v, .int .u64 rc.at_, .int .u64 rc.cl] 32)) | exact World.news_of_block ((Below.heap_alloc (w.alloc (.cells #[.int .i64 rc.why, .int .u64 rc.v, .int .u64 rc.at_, .int .u64 rc.cl] 32)) (.cells #[.int .i64 sc.k, .int .i64 sc.s, .int .i64 sc.n, .int .i64 sc.a, .int .u64 sc.at_, .int .i64 sc.wd, .int .u64 sc.v] 28) w.heap.size (by simp)).trans (heap_alloc_new w (.cells #[.int .i64 rc.why, .int .u64 rc.v, .int .u64 rc.at_, .int .u64 rc.cl] 32))) | exact World.news_of_block (heap_new1 w (.cells #[.int .i64 sc.k, .int .i64 sc.s, .int .i64 sc.n, .int .i64 sc.a, .int .u64 sc.at_, .int .i64 sc.wd, .int .u64 sc.v] 28) (.cells #[.int .i64 rc.why, .int .u64 rc.v, .int .u64 rc.at_, .int .u64 rc.cl] 32)) | exact World.news_of_block (heap_alloc_new wA (.cells #[.int .i64 rc.why, .int .u64 rc.v, .int .u64 rc.at_, .int .u64 rc.cl] 32)) | exact World.news_of_block ((hgrowA.block w.heap.size (by first | omega | (simp; omega) | simp) (fun e => Nat.lt_irrefl _ (KU6.out _ e.symm))).trans ((Below.heap_alloc (w.alloc (.cells #[.int .i64 rc.why, .int .u64 rc.v, .int .u64 rc.at_, .int .u64 rc.cl] 32)) (.cells #[.int .i64 sc.k, .int .i64 sc.s, .int .i64 sc.n, .int .i64 sc.a, .int .u64 sc.at_, .int .i64 sc.wd, .int .u64 sc.v] 28) w.heap.size (by simp)).trans (heap_alloc_new w (.cells #[.int .i64 rc.why, .int .u64 rc.v, .int .u64 rc.at_, .int .u64 rc.cl] 32)))) | exact World.news_of_block ((hgrowA.block (w.heap.size + 1) (by simp) (fun e => Nat.lt_irrefl _ (Nat.lt_trans (KU6.out _ e.symm) (Nat.lt_succ_self _)))).trans (heap_new1 w (.cells #[.int .i64 sc.k, .int .i64 sc.s, .int .i64 sc.n, .int .i64 sc.a, .int .u64 sc.at_, .int .i64 sc.wd, .int .u64 sc.v] 28) (.cells #[.int .i64 rc.why, .int .u64 rc.v, .int .u64 rc.at_, .int .u64 rc.cl] 32)))) (by simp [Value.oneCell']) (by decide) HB1.out HB3.out (by have hbb := HBS.out; first | (have hz := hgrowA.size; simp at hz; simp; omega) | (simp; omega)) _ rfl ?_; intro gB capB wB hownB hgrowB hatB hltB; (first | (have EEB : wB.heap[n0]? = some (.cells #[.int .i64 sc.k, .int .i64 sc.s, .int .i64 sc.n, .int .i64 sc.a, .int .u64 sc.at_, .int .i64 sc.wd, .int .u64 sc.v] 28 (0, 0)) := (hgrowB.block n0 (Nat.lt_of_lt_of_le HL0.out (by first | omega | (simp; omega) | simp)) hu70.out).trans ((Below.heap_alloc w _ n0 HL0.out).trans E0.out); have k00 := cell_in EEB (j := 0) rfl; have k01 := cell_in EEB (j := 1) rfl; have k02 := cell_in EEB (j := 2) rfl; have k03 := cell_in EEB (j := 3) rfl; have k04 := cell_in EEB (j := 4) rfl; have k05 := cell_in EEB (j := 5) rfl; have k06 := cell_in EEB (j := 6) rfl; have EHB := Lib.hid EEB; clear EEB) | (have EEB : wB.heap[n0]? = some (.cells #[.int .i64 sc.k, .int .i64 sc.s, .int .i64 sc.n, .int .i64 sc.a, .int .u64 sc.at_, .int .i64 sc.wd, .int .u64 sc.v] 28 (0, 0)) := (hgrowB.block n0 (Nat.lt_of_lt_of_le HL0.out (by first | omega | (simp; omega) | simp)) hu70.out).trans (((Below.heap_alloc (w.alloc (.cells #[.int .i64 rc.why, .int .u64 rc.v, .int .u64 rc.at_, .int .u64 rc.cl] 32)) _ n0 (Nat.lt_of_lt_of_le HL0.out (by simp))).trans (Below.heap_alloc w _ n0 HL0.out)).trans E0.out); have k00 := cell_in EEB (j := 0) rfl; have k01 := cell_in EEB (j := 1) rfl; have k02 := cell_in EEB (j := 2) rfl; have k03 := cell_in EEB (j := 3) rfl; have k04 := cell_in EEB (j := 4) rfl; have k05 := cell_in EEB (j := 5) rfl; have k06 := cell_in EEB (j := 6) rfl; have EHB := Lib.hid EEB; clear EEB) | (have EEB : wB.heap[n0]? = some (.cells #[.int .i64 sc.k, .int .i64 sc.s, .int .i64 sc.n, .int .i64 sc.a, .int .u64 sc.at_, .int .i64 sc.wd, .int .u64 sc.v] 28 (0, 0)) := (hgrowB.block n0 (Nat.lt_of_lt_of_le HL0.out (by first | omega | (simp; omega) | simp)) hu70.out).trans (((Below.heap_alloc (w.alloc (.cells #[.int .i64 sc.k, .int .i64 sc.s, .int .i64 sc.n, .int .i64 sc.a, .int .u64 sc.at_, .int .i64 sc.wd, .int .u64 sc.v] 28)) _ n0 (Nat.lt_of_lt_of_le HL0.out (by simp))).trans (Below.heap_alloc w _ n0 HL0.out)).trans E0.out); have k00 := cell_in EEB (j := 0) rfl; have k01 := cell_in EEB (j := 1) rfl; have k02 := cell_in EEB (j := 2) rfl; have k03 := cell_in EEB (j := 3) rfl; have k04 := cell_in EEB (j := 4) rfl; have k05 := cell_in EEB (j := 5) rfl; have k06 := cell_in EEB (j := 6) rfl; have EHB := Lib.hid EEB; clear EEB) | skip))
    | (refine step_append_lies _ (by rfl) (.tmp 59) (.tmp 61) 22 (by rfl) base 28 i28 _ 7 56 Tryz.underlying22 hi28 hz28 hs28 hb28 rfl (by decide) u6 i xs (by rfl) (by first | exact own_of HOS.out (fun k hk => Below.heap_alloc w _ k (KU6.out k hk)) | exact own_of HOS.out (fun k hk => (Below.heap_alloc (w.alloc (.cells #[.int .i64 sc.k, .int .i64 sc.s, .int .i64 sc.n, .int .i64 sc.a, .int .u64 sc.at_, .int .i64 sc.wd, .int .u64 sc.v] 28)) _ k (Nat.lt_of_lt_of_le (KU6.out k hk) (by simp))).trans (Below.heap_alloc w _ k (KU6.out k hk))) | exact own_of HOS.out (fun k hk => (Below.heap_alloc (w.alloc (.cells #[.int .i64 rc.why, .int .u64 rc.v, .int .u64 rc.at_, .int .u64 rc.cl] 32)) _ k (Nat.lt_of_lt_of_le (KU6.out k hk) (by simp))).trans (Below.heap_alloc w _ k (KU6.out k hk))) | exact own_of HOS.out (fun k hk => (Below.heap_alloc wB _ k (Nat.lt_of_lt_of_le (KU6.out k hk) (Nat.le_trans (by first | omega | (simp; omega) | simp) hgrowB.size))).trans ((hgrowB.block k (Nat.lt_of_lt_of_le (KU6.out k hk) (by first | omega | (simp; omega) | simp)) (own_sym h67 k hk)).trans (Below.heap_alloc w _ k (KU6.out k hk)))) | exact own_of HOS.out (fun k hk => (Below.heap_alloc wB _ k (Nat.lt_of_lt_of_le (KU6.out k hk) (Nat.le_trans (by first | omega | (simp; omega) | simp) hgrowB.size))).trans ((hgrowB.block k (Nat.lt_of_lt_of_le (KU6.out k hk) (by first | omega | (simp; omega) | simp)) (own_sym h67 k hk)).trans ((Below.heap_alloc (w.alloc (.cells #[.int .i64 rc.why, .int .u64 rc.v, .int .u64 rc.at_, .int .u64 rc.cl] 32)) _ k (Nat.lt_of_lt_of_le (KU6.out k hk) (by simp))).trans (Below.heap_alloc w _ k (KU6.out k hk))))) | exact own_of HOS.out (fun k hk => (Below.heap_alloc wB _ k (Nat.lt_of_lt_of_le (KU6.out k hk) (Nat.le_trans (by first | omega | (simp; omega) | simp) hgrowB.size))).trans ((hgrowB.block k (Nat.lt_of_lt_of_le (KU6.out k hk) (by first | omega | (simp; omega) | simp)) (own_sym h67 k hk)).trans ((Below.heap_alloc (w.alloc (.cells #[.int .i64 sc.k, .int .i64 sc.s, .int .i64 sc.n, .int .i64 sc.a, .int .u64 sc.at_, .int .i64 sc.wd, .int .u64 sc.v] 28)) _ k (Nat.lt_of_lt_of_le (KU6.out k hk) (by simp))).trans (Below.heap_alloc w _ k (KU6.out k hk))))) | exact own_of HOS.out (fun k hk => (hgrowB.block k (Nat.lt_of_lt_of_le (KU6.out k hk) (by first | omega | (simp; omega) | simp)) (own_sym h67 k hk)).trans (Below.heap_alloc w _ k (KU6.out k hk))) | exact own_of HOS.out (fun k hk => (hgrowB.block k (Nat.lt_of_lt_of_le (KU6.out k hk) (by first | omega | (simp; omega) | simp)) (own_sym h67 k hk)).trans ((Below.heap_alloc (w.alloc (.cells #[.int .i64 rc.why, .int .u64 rc.v, .int .u64 rc.at_, .int .u64 rc.cl] 32)) _ k (Nat.lt_of_lt_of_le (KU6.out k hk) (by simp))).trans (Below.heap_alloc w _ k (KU6.out k hk)))) | exact own_of HOS.out (fun k hk => (hgrowB.block k (Nat.lt_of_lt_of_le (KU6.out k hk) (by first | omega | (simp; omega) | simp)) (own_sym h67 k hk)).trans ((Below.heap_alloc (w.alloc (.cells #[.int .i64 sc.k, .int .i64 sc.s, .int .i64 sc.n, .int .i64 sc.a, .int .u64 sc.at_, .int .i64 sc.wd, .int .u64 sc.v] 28)) _ k (Nat.lt_of_lt_of_le (KU6.out k hk) (by simp))).trans (Below.heap_alloc w _ k (KU6.out k hk))))) _ 1 1 [.int .i64 sc.k, .int .i64 sc.s, .int .i64 sc.n, .int .i64 sc.a, .int .u64 sc.at_, .int .i64 sc.wd, .int .u64 sc.v] (by rfl) (by rfl) (by first | exact World.news_of_block (heap_alloc_new w (.cells #[.int .i64 sc.k, .int .i64 sc.s, .int .i64 sc.n, .int .i64 sc.a, .int .u64 sc.at_, .int .i64 sc.wd, .int .u64 sc.v] 28)) | exact World.news_of_block ((Below.heap_alloc (w.alloc (.cells #[.int .i64 sc.k, .int .i64 sc.s, .int .i64 sc.n, .int .i64 sc.a, .int .u64 sc.at_, .int .i64 sc.wd, .int .u64 sc.v] 28)) (.cells #[.int .i64 rc.why, .int .u64 rc.v, .int .u64 rc.at_, .int .u64 rc.cl] 32) w.heap.size (by simp)).trans (heap_alloc_new w (.cells #[.int .i64 sc.k, .int .i64 sc.s, .int .i64 sc.n, .int .i64 sc.a, .int .u64 sc.at_, .int .i64 sc.wd, .int .u64 sc.v] 28))) | exact World.news_of_block (heap_new1 w (.cells #[.int .i64 rc.why, .int .u64 rc.v, .int .u64 rc.at_, .int .u64 rc.cl] 32) (.cells #[.int .i64 sc.k, .int .i64 sc.s, .int .i64 sc.n, .int .i64 sc.a, .int .u64 sc.at_, .int .i64 sc.wd, .int .u64 sc.v] 28)) | exact World.news_of_block (heap_alloc_new wB (.cells #[.int .i64 sc.k, .int .i64 sc.s, .int .i64 sc.n, .int .i64 sc.a, .int .u64 sc.at_, .int .i64 sc.wd, .int .u64 sc.v] 28)) | exact World.news_of_block ((hgrowB.block w.heap.size (by first | omega | (simp; omega) | simp) (fun e => Nat.lt_irrefl _ (KU7.out _ e.symm))).trans ((Below.heap_alloc (w.alloc (.cells #[.int .i64 sc.k, .int .i64 sc.s, .int .i64 sc.n, .int .i64 sc.a, .int .u64 sc.at_, .int .i64 sc.wd, .int .u64 sc.v] 28)) (.cells #[.int .i64 rc.why, .int .u64 rc.v, .int .u64 rc.at_, .int .u64 rc.cl] 32) w.heap.size (by simp)).trans (heap_alloc_new w (.cells #[.int .i64 sc.k, .int .i64 sc.s, .int .i64 sc.n, .int .i64 sc.a, .int .u64 sc.at_, .int .i64 sc.wd, .int .u64 sc.v] 28)))) | exact World.news_of_block ((hgrowB.block (w.heap.size + 1) (by simp) (fun e => Nat.lt_irrefl _ (Nat.lt_trans (KU7.out _ e.symm) (Nat.lt_succ_self _)))).trans (heap_new1 w (.cells #[.int .i64 rc.why, .int .u64 rc.v, .int .u64 rc.at_, .int .u64 rc.cl] 32) (.cells #[.int .i64 sc.k, .int .i64 sc.s, .int .i64 sc.n, .int .i64 sc.a, .int .u64 sc.at_, .int .i64 sc.wd, .int .u64 sc.v] 28)))) (by simp [Value.oneCell']) (by decide) HB1.out HB2.out (by have hbb := HBS.out; first | (have hz := hgrowB.size; simp at hz; simp; omega) | (simp; omega)) _ rfl ?_; intro gA capA wA hownA hgrowA hatA hltA; (first | (have EEA : wA.heap[n1]? = some (.cells #[.int .i64 rc.why, .int .u64 rc.v, .int .u64 rc.at_, .int .u64 rc.cl] 32 (0, 0)) := (hgrowA.block n1 (Nat.lt_of_lt_of_le HL1.out (by first | omega | (simp; omega) | simp)) hu61.out).trans ((Below.heap_alloc w _ n1 HL1.out).trans E1.out); have k10 := cell_in EEA (j := 0) rfl; have k11 := cell_in EEA (j := 1) rfl; have k12 := cell_in EEA (j := 2) rfl; have k13 := cell_in EEA (j := 3) rfl; have EHA := Lib.hid EEA; clear EEA) | (have EEA : wA.heap[n1]? = some (.cells #[.int .i64 rc.why, .int .u64 rc.v, .int .u64 rc.at_, .int .u64 rc.cl] 32 (0, 0)) := (hgrowA.block n1 (Nat.lt_of_lt_of_le HL1.out (by first | omega | (simp; omega) | simp)) hu61.out).trans (((Below.heap_alloc (w.alloc (.cells #[.int .i64 sc.k, .int .i64 sc.s, .int .i64 sc.n, .int .i64 sc.a, .int .u64 sc.at_, .int .i64 sc.wd, .int .u64 sc.v] 28)) _ n1 (Nat.lt_of_lt_of_le HL1.out (by simp))).trans (Below.heap_alloc w _ n1 HL1.out)).trans E1.out); have k10 := cell_in EEA (j := 0) rfl; have k11 := cell_in EEA (j := 1) rfl; have k12 := cell_in EEA (j := 2) rfl; have k13 := cell_in EEA (j := 3) rfl; have EHA := Lib.hid EEA; clear EEA) | (have EEA : wA.heap[n1]? = some (.cells #[.int .i64 rc.why, .int .u64 rc.v, .int .u64 rc.at_, .int .u64 rc.cl] 32 (0, 0)) := (hgrowA.block n1 (Nat.lt_of_lt_of_le HL1.out (by first | omega | (simp; omega) | simp)) hu61.out).trans (((Below.heap_alloc (w.alloc (.cells #[.int .i64 rc.why, .int .u64 rc.v, .int .u64 rc.at_, .int .u64 rc.cl] 32)) _ n1 (Nat.lt_of_lt_of_le HL1.out (by simp))).trans (Below.heap_alloc w _ n1 HL1.out)).trans E1.out); have k10 := cell_in EEA (j := 0) rfl; have k11 := cell_in EEA (j := 1) rfl; have k12 := cell_in EEA (j := 2) rfl; have k13 := cell_in EEA (j := 3) rfl; have EHA := Lib.hid EEA; clear EEA) | skip)))
  all_goals show K _ _
  all_goals first
   | (skip
      have hsY := hgrowB.size
      have hsX := hgrowA.size
      simp at hsY hsX
      have keep : ∀ k, k < w.heap.size → some k ≠ u6.ownBlock → some k ≠ u7.ownBlock → wA.heap[k]? = w.heap[k]? := fun k hk h6 h7 => (by first | exact (hgrowA.block k (Nat.lt_of_lt_of_le hk (by first | omega | (simp; omega) | simp)) h6).trans ((Below.heap_alloc wB _ k (Nat.lt_of_lt_of_le hk (Nat.le_trans (by first | omega | (simp; omega) | simp) hgrowB.size))).trans ((hgrowB.block k (Nat.lt_of_lt_of_le hk (by first | omega | (simp; omega) | simp)) h7).trans (Below.heap_alloc w _ k hk))) | exact (hgrowA.block k (Nat.lt_of_lt_of_le hk (by first | omega | (simp; omega) | simp)) h6).trans ((Below.heap_alloc wB _ k (Nat.lt_of_lt_of_le hk (Nat.le_trans (by first | omega | (simp; omega) | simp) hgrowB.size))).trans ((hgrowB.block k (Nat.lt_of_lt_of_le hk (by first | omega | (simp; omega) | simp)) h7).trans ((Below.heap_alloc (w.alloc (.cells #[.int .i64 rc.why, .int .u64 rc.v, .int .u64 rc.at_, .int .u64 rc.cl] 32)) _ k (Nat.lt_of_lt_of_le hk (by simp))).trans (Below.heap_alloc w _ k hk)))) | exact (hgrowA.block k (Nat.lt_of_lt_of_le hk (by first | omega | (simp; omega) | simp)) h6).trans ((Below.heap_alloc wB _ k (Nat.lt_of_lt_of_le hk (Nat.le_trans (by first | omega | (simp; omega) | simp) hgrowB.size))).trans ((hgrowB.block k (Nat.lt_of_lt_of_le hk (by first | omega | (simp; omega) | simp)) h7).trans ((Below.heap_alloc (w.alloc (.cells #[.int .i64 sc.k, .int .i64 sc.s, .int .i64 sc.n, .int .i64 sc.a, .int .u64 sc.at_, .int .i64 sc.wd, .int .u64 sc.v] 28)) _ k (Nat.lt_of_lt_of_le hk (by simp))).trans (Below.heap_alloc w _ k hk)))) | exact (hgrowA.block k (Nat.lt_of_lt_of_le hk (by first | omega | (simp; omega) | simp)) h6).trans ((hgrowB.block k (Nat.lt_of_lt_of_le hk (by first | omega | (simp; omega) | simp)) h7).trans (Below.heap_alloc w _ k hk)) | exact (hgrowA.block k (Nat.lt_of_lt_of_le hk (by first | omega | (simp; omega) | simp)) h6).trans ((hgrowB.block k (Nat.lt_of_lt_of_le hk (by first | omega | (simp; omega) | simp)) h7).trans ((Below.heap_alloc (w.alloc (.cells #[.int .i64 rc.why, .int .u64 rc.v, .int .u64 rc.at_, .int .u64 rc.cl] 32)) _ k (Nat.lt_of_lt_of_le hk (by simp))).trans (Below.heap_alloc w _ k hk))) | exact (hgrowA.block k (Nat.lt_of_lt_of_le hk (by first | omega | (simp; omega) | simp)) h6).trans ((hgrowB.block k (Nat.lt_of_lt_of_le hk (by first | omega | (simp; omega) | simp)) h7).trans ((Below.heap_alloc (w.alloc (.cells #[.int .i64 sc.k, .int .i64 sc.s, .int .i64 sc.n, .int .i64 sc.a, .int .u64 sc.at_, .int .i64 sc.wd, .int .u64 sc.v] 28)) _ k (Nat.lt_of_lt_of_le hk (by simp))).trans (Below.heap_alloc w _ k hk))))
      have hne : u6.ownBlock ≠ some gB := fun e => by
        rcases hatB with q | q
        · exact own_sym h67 _ e q.symm
        · have := KU6.out _ e; simp at q; omega
      have ownY : wA.ownsRow base _ _ _ _ _ := (by first | exact hownB.kept hgrowA (.inr (by simp [Value.ownBlock]; exact fun e => hne e.symm)) | exact (hownB.alloc _).kept hgrowA (.inr (by simp [Value.ownBlock]; exact fun e => hne e.symm)))
      have hbel : Below base w wA := ⟨hgrowA.os.trans hgrowB.os, hgrowA.tape.trans hgrowB.tape, hgrowA.output.trans hgrowB.output, by omega, fun k hk => keep k (Nat.lt_of_lt_of_le hk HBS.out) (fun e => by have := KB6.out _ e.symm; omega) (fun e => by have := KB7.out _ e.symm; omega)⟩
      exact HQ.out _ _ _ _ _ hownA ownY hbel keep)
   | (skip
      have hsY := hgrowA.size
      have hsX := hgrowB.size
      simp at hsY hsX
      have keep : ∀ k, k < w.heap.size → some k ≠ u6.ownBlock → some k ≠ u7.ownBlock → wB.heap[k]? = w.heap[k]? := fun k hk h6 h7 => (by first | exact (hgrowB.block k (Nat.lt_of_lt_of_le hk (by first | omega | (simp; omega) | simp)) h7).trans ((Below.heap_alloc wA _ k (Nat.lt_of_lt_of_le hk (Nat.le_trans (by first | omega | (simp; omega) | simp) hgrowA.size))).trans ((hgrowA.block k (Nat.lt_of_lt_of_le hk (by first | omega | (simp; omega) | simp)) h6).trans (Below.heap_alloc w _ k hk))) | exact (hgrowB.block k (Nat.lt_of_lt_of_le hk (by first | omega | (simp; omega) | simp)) h7).trans ((Below.heap_alloc wA _ k (Nat.lt_of_lt_of_le hk (Nat.le_trans (by first | omega | (simp; omega) | simp) hgrowA.size))).trans ((hgrowA.block k (Nat.lt_of_lt_of_le hk (by first | omega | (simp; omega) | simp)) h6).trans ((Below.heap_alloc (w.alloc (.cells #[.int .i64 sc.k, .int .i64 sc.s, .int .i64 sc.n, .int .i64 sc.a, .int .u64 sc.at_, .int .i64 sc.wd, .int .u64 sc.v] 28)) _ k (Nat.lt_of_lt_of_le hk (by simp))).trans (Below.heap_alloc w _ k hk)))) | exact (hgrowB.block k (Nat.lt_of_lt_of_le hk (by first | omega | (simp; omega) | simp)) h7).trans ((Below.heap_alloc wA _ k (Nat.lt_of_lt_of_le hk (Nat.le_trans (by first | omega | (simp; omega) | simp) hgrowA.size))).trans ((hgrowA.block k (Nat.lt_of_lt_of_le hk (by first | omega | (simp; omega) | simp)) h6).trans ((Below.heap_alloc (w.alloc (.cells #[.int .i64 rc.why, .int .u64 rc.v, .int .u64 rc.at_, .int .u64 rc.cl] 32)) _ k (Nat.lt_of_lt_of_le hk (by simp))).trans (Below.heap_alloc w _ k hk)))) | exact (hgrowB.block k (Nat.lt_of_lt_of_le hk (by first | omega | (simp; omega) | simp)) h7).trans ((hgrowA.block k (Nat.lt_of_lt_of_le hk (by first | omega | (simp; omega) | simp)) h6).trans (Below.heap_alloc w _ k hk)) | exact (hgrowB.block k (Nat.lt_of_lt_of_le hk (by first | omega | (simp; omega) | simp)) h7).trans ((hgrowA.block k (Nat.lt_of_lt_of_le hk (by first | omega | (simp; omega) | simp)) h6).trans ((Below.heap_alloc (w.alloc (.cells #[.int .i64 sc.k, .int .i64 sc.s, .int .i64 sc.n, .int .i64 sc.a, .int .u64 sc.at_, .int .i64 sc.wd, .int .u64 sc.v] 28)) _ k (Nat.lt_of_lt_of_le hk (by simp))).trans (Below.heap_alloc w _ k hk))) | exact (hgrowB.block k (Nat.lt_of_lt_of_le hk (by first | omega | (simp; omega) | simp)) h7).trans ((hgrowA.block k (Nat.lt_of_lt_of_le hk (by first | omega | (simp; omega) | simp)) h6).trans ((Below.heap_alloc (w.alloc (.cells #[.int .i64 rc.why, .int .u64 rc.v, .int .u64 rc.at_, .int .u64 rc.cl] 32)) _ k (Nat.lt_of_lt_of_le hk (by simp))).trans (Below.heap_alloc w _ k hk))))
      have hne : u7.ownBlock ≠ some gA := fun e => by
        rcases hatA with q | q
        · exact own_sym h76 _ e q.symm
        · have := KU7.out _ e; simp at q; omega
      have ownY : wB.ownsRow base _ _ _ _ _ := (by first | exact hownA.kept hgrowB (.inr (by simp [Value.ownBlock]; exact fun e => hne e.symm)) | exact (hownA.alloc _).kept hgrowB (.inr (by simp [Value.ownBlock]; exact fun e => hne e.symm)))
      have hbel : Below base w wB := ⟨hgrowB.os.trans hgrowA.os, hgrowB.tape.trans hgrowA.tape, hgrowB.output.trans hgrowA.output, by omega, fun k hk => keep k (Nat.lt_of_lt_of_le hk HBS.out) (fun e => by have := KB6.out _ e.symm; omega) (fun e => by have := KB7.out _ e.symm; omega)⟩
      exact HQ.out _ _ _ _ _ ownY hownB hbel keep)
end Ae
namespace Ae
open Go Go.Proofs Go.RowKit
theorem wp_normal {P : Program} {c : Code} {Q : Exit → Act → World → Prop} {a : Act} {w : World} (h : c.wp P (fun x a w' => match x with | Exit.normal => Q Exit.normal a w' | _ => False) a w) : c.wp P Q a w :=
  Code.wp_mono (fun e a w h => by cases e <;> first | exact h | exact h.elim) h
set_option maxHeartbeats 4000000 in
set_option maxRecDepth 100000 in
theorem decode_good (p : Option Addr) (len cap : Nat) (L : List Nat) (w : World) (h : Raw w p len cap L) (hf : formB L = true) : Calls Tryz.prog 14 #[.slice p len cap] w (DecPost L w.heap.size w) := by
  have H := Lib.hid (form_any p len cap L w h)
  have HF := Lib.hid hf
  have hlen : L.length = endL L + 4 := by
    unfold formB at hf
    simp only [Bool.and_eq_true, decide_eq_true_eq] at hf
    exact hf.1.2
  have hcn : rd L 12 4 ≤ 65536 := by
    unfold formB at hf
    simp only [Bool.and_eq_true, decide_eq_true_eq] at hf
    exact hf.1.1.2
  have hend : endL L = 16 + 64 * rd L 12 4 := rfl
  have HE := Lib.hid hend
  have HLL := Lib.hid hlen
  obtain ⟨hl, hcap, hbig, -, -⟩ := id h
  obtain ⟨b, off, rfl, hb0, hB⟩ := h.byts (by omega)
  have HB := Lib.hid hB
  have HL := Lib.hid hl
  have h16 : (16 : Int) ≤ (len : Int) - 4 := by omega
  have h4c : (len : Int) - 4 ≤ (cap : Int) := by omega
  have hc16 : ¬ cap = 16 := by omega
  clear h hf hB hl hend hlen
  go_enter Tryz.func14, Tryz.ntmps14
  go_wp2_with fail
  go_step3
  go_wp2_with fail
  refine H.out.mono ?_
  rintro e w1 ⟨hb, hq⟩
  have hq : e = .returned (.pointer none) := by
    rcases hq with h | ⟨h, _⟩
    · exact h.2
    · rw [HF.out] at h; cases h
  subst hq
  clear H
  go_wp2_with fail
  have hsw : w.heap.size ≤ w1.heap.size := hb.size
  have hTK : TK (w1.alloc (.cells #[.slice (some ⟨b, off + 16, none⟩) (len - 4 - 16) (cap - 16)] 110)) w1.heap.size b off (len - 4) cap 16 := heap_alloc_new _ _
  have HTK := Lib.hid hTK
  have HBW : Hid (Below w.heap.size w (w1.alloc (.cells #[.slice (some ⟨b, off + 16, none⟩) (len - 4 - 16) (cap - 16)] 110))) := Lib.hid (hb.alloc hsw _)
  clear hTK hb
  generalize (w1.alloc (.cells #[.slice (some ⟨b, off + 16, none⟩) (len - 4 - 16) (cap - 16)] 110)) = w2 at *
  generalize w1.heap.size = T at *
  have hTb : T ≠ b := by omega
  have hcnt : len - 4 = 16 + 64 * rd L 12 4 := by have := HE.out; have := HLL.out; have := HL.out; omega
  generalize hcn' : rd L 12 4 = cnt at *
  have HCN := Lib.hid hcn'
  clear hcn'
  go_step3
  go_wp2_with fail
  go_loopg [6, 7] cnt (fun g vs vr wr => ∃ i : Nat, i + g = cnt ∧ TK wr T b off (len - 4) cap (16 + 64 * i) ∧ wr.ownsRow w.heap.size 28 7 vs i ((stpsL L i).map Stp.cells).flatten ∧ wr.ownsRow w.heap.size 32 4 vr i ((rslsL L i).map Rsl.cells).flatten ∧ Below w.heap.size w wr)
  case atStart => exact ⟨0, by omega, HTK.out, World.ownsRow_nil _ _ _ _, World.ownsRow_nil _ _ _ _, HBW.out⟩
  case round =>
    obtain ⟨i, hig, hT, hs, hr, hbw⟩ := hrel
    have HS := Lib.hid hs
    have HR := Lib.hid hr
    have HBR := Lib.hid (HB.out.below hbw hb0)
    have hbs := hbw.size
    have hbr : b < wr.heap.size := by omega
    clear hs hr HTK HBW
    rcases Nat.eq_zero_or_pos gk with hg | hg
    · have hi : i = cnt := by omega
      subst hi
      have hm : len - 4 - (16 + 64 * i) = 0 := by omega
      have c0 : wr.cell? ⟨T, 0, none⟩ = some (.slice (some ⟨b, off + (16 + 64 * i), none⟩) 0 (cap - (16 + 64 * i))) := by have := cell_in hT (j := 0) rfl; rwa [hm] at this
      have HT := Lib.hid hT
      clear hT hm hcnt
      go_wp2_with fail
      rw [Exit.noGoto_ret]
      have e1 := HS.out
      have e2 := HR.out
      have hd : DecPost L w.heap.size w (.returned (.tuple #[u6, u7, Value.nilIface])) wr := ⟨hbw, .inr ⟨HF.out, u6, u7, rfl, by rw [HCN.out]; exact e1, by rw [HCN.out]; exact e2⟩⟩
      exact bodyPost_ret (v := .tuple #[u6, u7, Value.nilIface]) (by simp [results, Tryz.results14, go_sem]) rfl hd
    · have hne : (((len - 4 - (16 + 64 * i) : Nat) : Int) == 0) = false := by
        have : len - 4 - (16 + 64 * i) ≠ 0 := by omega
        simp; omega
      have c0 : wr.cell? ⟨T, 0, none⟩ = some (.slice (some ⟨b, off + (16 + 64 * i), none⟩) (len - 4 - (16 + 64 * i)) (cap - (16 + 64 * i))) := cell_in hT (j := 0) rfl
      have HT := Lib.hid hT
      have HCT := Lib.hid hcnt
      clear hT hcnt
      have HT0 := HT
      have HW0 : Hid (Below w.heap.size w wr) := Lib.hid hbw
      have hs0 : wr.heap.size ≤ wr.heap.size := Nat.le_refl _
      have hsT : w.heap.size ≤ T := hsw
      have HCT2 := Lib.hid (TK.lt HT.out)
      have HTW := HT
      clear HT HBR
      go_wp2_with fail
      refine (tk_word T b off (len - 4) cap (16 + 64 * i) L _ HT0.out (by have := HCT.out; omega) (by omega) (by have := HL.out; omega) hbig (HB.out.below HW0.out hb0) hTb).mono ?_
      rintro x0 a0 ⟨rfl, ht0, hg0⟩
      have HT1 : Hid (TK a0 T b off (len - 4) cap (16 + 64 * i + 4)) := Lib.hid ht0
      have HK1 : Hid (∀ k, k < wr.heap.size → k ≠ T → a0.heap[k]? = wr.heap[k]?) := Lib.hid fun k hk hkT => hg0.block k hk (by simp [hkT])
      have HW1 : Hid (Below w.heap.size w a0) := Lib.hid (HW0.out.grown hg0 HW0.out.size (fun k e => by cases e; exact hsT))
      have hs1 : wr.heap.size ≤ a0.heap.size := Nat.le_trans hs0 hg0.size
      clear ht0 hg0 HT0 HW0 c0 hne
      go_wp2_with fail
      refine (tk_word T b off (len - 4) cap (16 + 64 * i + 4) L _ HT1.out (by have := HCT.out; omega) (by omega) (by have := HL.out; omega) hbig (HB.out.below HW1.out hb0) hTb).mono ?_
      rintro x1 a1 ⟨rfl, ht1, hg1⟩
      have HT2 : Hid (TK a1 T b off (len - 4) cap (16 + 64 * i + 8)) := Lib.hid ht1
      have HK2 : Hid (∀ k, k < wr.heap.size → k ≠ T → a1.heap[k]? = wr.heap[k]?) := Lib.hid fun k hk hkT => (hg1.block k (Nat.lt_of_lt_of_le hk hs1) (by simp [hkT])).trans (HK1.out k hk hkT)
      have HW2 : Hid (Below w.heap.size w a1) := Lib.hid (HW1.out.grown hg1 HW1.out.size (fun k e => by cases e; exact hsT))
      have hs2 : wr.heap.size ≤ a1.heap.size := Nat.le_trans hs1 hg1.size
      clear ht1 hg1 HT1 HW1 HK1
      go_wp2_with fail
      refine (tk_word T b off (len - 4) cap (16 + 64 * i + 8) L _ HT2.out (by have := HCT.out; omega) (by omega) (by have := HL.out; omega) hbig (HB.out.below HW2.out hb0) hTb).mono ?_
      rintro x2 a2 ⟨rfl, ht2, hg2⟩
      have HT3 : Hid (TK a2 T b off (len - 4) cap (16 + 64 * i + 12)) := Lib.hid ht2
      have HK3 : Hid (∀ k, k < wr.heap.size → k ≠ T → a2.heap[k]? = wr.heap[k]?) := Lib.hid fun k hk hkT => (hg2.block k (Nat.lt_of_lt_of_le hk hs2) (by simp [hkT])).trans (HK2.out k hk hkT)
      have HW3 : Hid (Below w.heap.size w a2) := Lib.hid (HW2.out.grown hg2 HW2.out.size (fun k e => by cases e; exact hsT))
      have hs3 : wr.heap.size ≤ a2.heap.size := Nat.le_trans hs2 hg2.size
      clear ht2 hg2 HT2 HW2 HK2
      go_wp2_with fail
      refine (tk_word T b off (len - 4) cap (16 + 64 * i + 12) L _ HT3.out (by have := HCT.out; omega) (by omega) (by have := HL.out; omega) hbig (HB.out.below HW3.out hb0) hTb).mono ?_
      rintro x3 a3 ⟨rfl, ht3, hg3⟩
      have HT4 : Hid (TK a3 T b off (len - 4) cap (16 + 64 * i + 16)) := Lib.hid ht3
      have HK4 : Hid (∀ k, k < wr.heap.size → k ≠ T → a3.heap[k]? = wr.heap[k]?) := Lib.hid fun k hk hkT => (hg3.block k (Nat.lt_of_lt_of_le hk hs3) (by simp [hkT])).trans (HK3.out k hk hkT)
      have HW4 : Hid (Below w.heap.size w a3) := Lib.hid (HW3.out.grown hg3 HW3.out.size (fun k e => by cases e; exact hsT))
      have hs4 : wr.heap.size ≤ a3.heap.size := Nat.le_trans hs3 hg3.size
      clear ht3 hg3 HT3 HW3 HK3
      go_wp2_with fail
      refine (tk_word T b off (len - 4) cap (16 + 64 * i + 16) L _ HT4.out (by have := HCT.out; omega) (by omega) (by have := HL.out; omega) hbig (HB.out.below HW4.out hb0) hTb).mono ?_
      rintro x4 a4 ⟨rfl, ht4, hg4⟩
      have HT5 : Hid (TK a4 T b off (len - 4) cap (16 + 64 * i + 20)) := Lib.hid ht4
      have HK5 : Hid (∀ k, k < wr.heap.size → k ≠ T → a4.heap[k]? = wr.heap[k]?) := Lib.hid fun k hk hkT => (hg4.block k (Nat.lt_of_lt_of_le hk hs4) (by simp [hkT])).trans (HK4.out k hk hkT)
      have HW5 : Hid (Below w.heap.size w a4) := Lib.hid (HW4.out.grown hg4 HW4.out.size (fun k e => by cases e; exact hsT))
      have hs5 : wr.heap.size ≤ a4.heap.size := Nat.le_trans hs4 hg4.size
      clear ht4 hg4 HT4 HW4 HK4
      have hT5 := TK.lt HT5.out
      have HT6 := Lib.hid (show TK (a4.alloc (.cells #[.int .i64 (sgT (rd L (16 + 64 * i) 4)), .int .i64 (sgT (rd L (16 + 64 * i + 4) 4)), .int .i64 (sgT (rd L (16 + 64 * i + 8) 4)), .int .i64 (sgT (rd L (16 + 64 * i + 12) 4)), .int .u64 0, .int .i64 (sgT (rd L (16 + 64 * i + 16) 4)), .int .u64 0] 28)) T b off (len - 4) cap _ from (Below.heap_alloc _ _ _ hT5).trans HT5.out)
      have HK6 : Hid (∀ k, k < wr.heap.size → k ≠ T → (a4.alloc (.cells #[.int .i64 (sgT (rd L (16 + 64 * i) 4)), .int .i64 (sgT (rd L (16 + 64 * i + 4) 4)), .int .i64 (sgT (rd L (16 + 64 * i + 8) 4)), .int .i64 (sgT (rd L (16 + 64 * i + 12) 4)), .int .u64 0, .int .i64 (sgT (rd L (16 + 64 * i + 16) 4)), .int .u64 0] 28)).heap[k]? = wr.heap[k]?) := Lib.hid fun k hk hkT => (Below.heap_alloc _ _ _ (Nat.lt_of_lt_of_le hk hs5)).trans (HK5.out k hk hkT)
      have HW6 : Hid (Below w.heap.size w (a4.alloc (.cells #[.int .i64 (sgT (rd L (16 + 64 * i) 4)), .int .i64 (sgT (rd L (16 + 64 * i + 4) 4)), .int .i64 (sgT (rd L (16 + 64 * i + 8) 4)), .int .i64 (sgT (rd L (16 + 64 * i + 12) 4)), .int .u64 0, .int .i64 (sgT (rd L (16 + 64 * i + 16) 4)), .int .u64 0] 28))) := Lib.hid (HW5.out.alloc HW5.out.size _)
      have hs6 : wr.heap.size ≤ (a4.alloc (.cells #[.int .i64 (sgT (rd L (16 + 64 * i) 4)), .int .i64 (sgT (rd L (16 + 64 * i + 4) 4)), .int .i64 (sgT (rd L (16 + 64 * i + 8) 4)), .int .i64 (sgT (rd L (16 + 64 * i + 12) 4)), .int .u64 0, .int .i64 (sgT (rd L (16 + 64 * i + 16) 4)), .int .u64 0] 28)).heap.size := by simp; omega
      have e06 : (a4.alloc (.cells #[.int .i64 (sgT (rd L (16 + 64 * i) 4)), .int .i64 (sgT (rd L (16 + 64 * i + 4) 4)), .int .i64 (sgT (rd L (16 + 64 * i + 8) 4)), .int .i64 (sgT (rd L (16 + 64 * i + 12) 4)), .int .u64 0, .int .i64 (sgT (rd L (16 + 64 * i + 16) 4)), .int .u64 0] 28)).heap[a4.heap.size]? = some (.cells #[.int .i64 (sgT (rd L (16 + 64 * i) 4)), .int .i64 (sgT (rd L (16 + 64 * i + 4) 4)), .int .i64 (sgT (rd L (16 + 64 * i + 8) 4)), .int .i64 (sgT (rd L (16 + 64 * i + 12) 4)), .int .u64 0, .int .i64 (sgT (rd L (16 + 64 * i + 16) 4)), .int .u64 0] 28) := heap_alloc_new _ _
      have hn06 : a4.heap.size < (a4.alloc (.cells #[.int .i64 (sgT (rd L (16 + 64 * i) 4)), .int .i64 (sgT (rd L (16 + 64 * i + 4) 4)), .int .i64 (sgT (rd L (16 + 64 * i + 8) 4)), .int .i64 (sgT (rd L (16 + 64 * i + 12) 4)), .int .u64 0, .int .i64 (sgT (rd L (16 + 64 * i + 16) 4)), .int .u64 0] 28)).heap.size := by simp
      have hTn0 : T < a4.heap.size := hT5
      have hwn0 : wr.heap.size ≤ a4.heap.size := hs5
      clear HT5 HK5 HW5 hT5
      go_wp2_with fail
      generalize (a4.alloc (.cells #[.int .i64 (sgT (rd L (16 + 64 * i) 4)), .int .i64 (sgT (rd L (16 + 64 * i + 4) 4)), .int .i64 (sgT (rd L (16 + 64 * i + 8) 4)), .int .i64 (sgT (rd L (16 + 64 * i + 12) 4)), .int .u64 0, .int .i64 (sgT (rd L (16 + 64 * i + 16) 4)), .int .u64 0] 28)) = a5 at *
      generalize a4.heap.size = n0 at *
      have E06 := Lib.hid e06
      clear e06
      refine (tk_long T b off (len - 4) cap (16 + 64 * i + 20) L _ HT6.out (by have := HCT.out; omega) (by omega) (by have := HL.out; omega) hbig (HB.out.below HW6.out hb0) hTb).mono ?_
      rintro x6 a6 ⟨rfl, ht6, hg6⟩
      have HT7 : Hid (TK a6 T b off (len - 4) cap (16 + 64 * i + 28)) := Lib.hid ht6
      have HK7 : Hid (∀ k, k < wr.heap.size → k ≠ T → a6.heap[k]? = wr.heap[k]?) := Lib.hid fun k hk hkT => (hg6.block k (Nat.lt_of_lt_of_le hk hs6) (by simp [hkT])).trans (HK6.out k hk hkT)
      have HW7 : Hid (Below w.heap.size w a6) := Lib.hid (HW6.out.grown hg6 HW6.out.size (fun k e => by cases e; exact hsT))
      have hs7 : wr.heap.size ≤ a6.heap.size := Nat.le_trans hs6 hg6.size
      have E07 := Lib.hid ((hg6.block n0 hn06 (by simp; omega)).trans E06.out)
      have hn07 : n0 < a6.heap.size := Nat.lt_of_lt_of_le hn06 hg6.size
      clear ht6 hg6 HT6 HW6 HK6 E06
      go_wp2_with fail
      refine (tk_long T b off (len - 4) cap (16 + 64 * i + 28) L _ HT7.out (by have := HCT.out; omega) (by omega) (by have := HL.out; omega) hbig (HB.out.below HW7.out hb0) hTb).mono ?_
      rintro x7 a7 ⟨rfl, ht7, hg7⟩
      have HT8 : Hid (TK a7 T b off (len - 4) cap (16 + 64 * i + 36)) := Lib.hid ht7
      have HK8 : Hid (∀ k, k < wr.heap.size → k ≠ T → a7.heap[k]? = wr.heap[k]?) := Lib.hid fun k hk hkT => (hg7.block k (Nat.lt_of_lt_of_le hk hs7) (by simp [hkT])).trans (HK7.out k hk hkT)
      have HW8 : Hid (Below w.heap.size w a7) := Lib.hid (HW7.out.grown hg7 HW7.out.size (fun k e => by cases e; exact hsT))
      have hs8 : wr.heap.size ≤ a7.heap.size := Nat.le_trans hs7 hg7.size
      have E08 := Lib.hid ((hg7.block n0 hn07 (by simp; omega)).trans E07.out)
      have hn08 : n0 < a7.heap.size := Nat.lt_of_lt_of_le hn07 hg7.size
      clear ht7 hg7 HT7 HW7 HK7 E07
      have g4 := cell_in E08.out (j := 4) rfl
      have g6 := cell_in E08.out (j := 6) rfl
      have gf : ∀ o, a7.frozen? ⟨n0, o, none⟩ = false := fun o => by simp [World.frozen?, E08.out]
      go_wp2_with fail
      have q0 := heap_setCell_same a7 n0 4 _ _ (.int .u64 (rd L (16 + 64 * i + 20) 8 : Nat)) E08.out
      have q1 := heap_setCell_same _ n0 6 _ _ (.int .u64 (rd L (16 + 64 * i + 28) 8 : Nat)) q0
      have E09 : Hid (((a7.setCell ⟨n0, 4, none⟩ (.int .u64 (rd L (16 + 64 * i + 20) 8 : Nat))).setCell ⟨n0, 6, none⟩ (.int .u64 (rd L (16 + 64 * i + 28) 8 : Nat))).heap[n0]? = some (.cells #[.int .i64 (sgT (rd L (16 + 64 * i) 4)), .int .i64 (sgT (rd L (16 + 64 * i + 4) 4)), .int .i64 (sgT (rd L (16 + 64 * i + 8) 4)), .int .i64 (sgT (rd L (16 + 64 * i + 12) 4)), .int .u64 (rd L (16 + 64 * i + 20) 8 : Nat), .int .i64 (sgT (rd L (16 + 64 * i + 16) 4)), .int .u64 (rd L (16 + 64 * i + 28) 8 : Nat)] 28 (0, 0))) := Lib.hid (q1.trans (by rfl))
      have HT9 := Lib.hid (show TK ((a7.setCell ⟨n0, 4, none⟩ (.int .u64 (rd L (16 + 64 * i + 20) 8 : Nat))).setCell ⟨n0, 6, none⟩ (.int .u64 (rd L (16 + 64 * i + 28) 8 : Nat))) T b off (len - 4) cap _ from (heap_setCell_other _ _ T _ (show T ≠ n0 by omega)).trans ((heap_setCell_other _ _ T _ (show T ≠ n0 by omega)).trans HT8.out))
      have HK9 : Hid (∀ k, k < wr.heap.size → k ≠ T → ((a7.setCell ⟨n0, 4, none⟩ (.int .u64 (rd L (16 + 64 * i + 20) 8 : Nat))).setCell ⟨n0, 6, none⟩ (.int .u64 (rd L (16 + 64 * i + 28) 8 : Nat))).heap[k]? = wr.heap[k]?) := Lib.hid fun k hk hkT => (heap_setCell_other _ _ k _ (show k ≠ n0 by omega)).trans ((heap_setCell_other _ _ k _ (show k ≠ n0 by omega)).trans (HK8.out k hk hkT))
      have HW9 : Hid (Below w.heap.size w ((a7.setCell ⟨n0, 4, none⟩ (.int .u64 (rd L (16 + 64 * i + 20) 8 : Nat))).setCell ⟨n0, 6, none⟩ (.int .u64 (rd L (16 + 64 * i + 28) 8 : Nat)))) := Lib.hid ((HW8.out.setCell (show w.heap.size ≤ n0 by omega) _).setCell (show w.heap.size ≤ n0 by omega) _)
      have hs9 : wr.heap.size ≤ ((a7.setCell ⟨n0, 4, none⟩ (.int .u64 (rd L (16 + 64 * i + 20) 8 : Nat))).setCell ⟨n0, 6, none⟩ (.int .u64 (rd L (16 + 64 * i + 28) 8 : Nat))).heap.size := by simp; omega
      have hn09 : n0 < ((a7.setCell ⟨n0, 4, none⟩ (.int .u64 (rd L (16 + 64 * i + 20) 8 : Nat))).setCell ⟨n0, 6, none⟩ (.int .u64 (rd L (16 + 64 * i + 28) 8 : Nat))).heap.size := by simp; omega
      clear q0 q1 g4 g6 gf HT8 HK8 HW8 E08
      generalize ((a7.setCell ⟨n0, 4, none⟩ (.int .u64 (rd L (16 + 64 * i + 20) 8 : Nat))).setCell ⟨n0, 6, none⟩ (.int .u64 (rd L (16 + 64 * i + 28) 8 : Nat))) = a8 at *
      refine (tk_word T b off (len - 4) cap (16 + 64 * i + 36) L _ HT9.out (by have := HCT.out; omega) (by omega) (by have := HL.out; omega) hbig (HB.out.below HW9.out hb0) hTb).mono ?_
      rintro x9 a9 ⟨rfl, ht9, hg9⟩
      have HT10 : Hid (TK a9 T b off (len - 4) cap (16 + 64 * i + 40)) := Lib.hid ht9
      have HK10 : Hid (∀ k, k < wr.heap.size → k ≠ T → a9.heap[k]? = wr.heap[k]?) := Lib.hid fun k hk hkT => (hg9.block k (Nat.lt_of_lt_of_le hk hs9) (by simp [hkT])).trans (HK9.out k hk hkT)
      have HW10 : Hid (Below w.heap.size w a9) := Lib.hid (HW9.out.grown hg9 HW9.out.size (fun k e => by cases e; exact hsT))
      have hs10 : wr.heap.size ≤ a9.heap.size := Nat.le_trans hs9 hg9.size
      have E010 := Lib.hid ((hg9.block n0 hn09 (by simp; omega)).trans E09.out)
      have hn010 : n0 < a9.heap.size := Nat.lt_of_lt_of_le hn09 hg9.size
      clear ht9 hg9 HT9 HW9 HK9 E09
      have hT10 := TK.lt HT10.out
      have HT11 := Lib.hid (show TK (a9.alloc (.cells #[.int .i64 (sgT (rd L (16 + 64 * i + 36) 4)), .int .u64 0, .int .u64 0, .int .u64 0] 32)) T b off (len - 4) cap _ from (Below.heap_alloc _ _ _ hT10).trans HT10.out)
      have HK11 : Hid (∀ k, k < wr.heap.size → k ≠ T → (a9.alloc (.cells #[.int .i64 (sgT (rd L (16 + 64 * i + 36) 4)), .int .u64 0, .int .u64 0, .int .u64 0] 32)).heap[k]? = wr.heap[k]?) := Lib.hid fun k hk hkT => (Below.heap_alloc _ _ _ (Nat.lt_of_lt_of_le hk hs10)).trans (HK10.out k hk hkT)
      have HW11 : Hid (Below w.heap.size w (a9.alloc (.cells #[.int .i64 (sgT (rd L (16 + 64 * i + 36) 4)), .int .u64 0, .int .u64 0, .int .u64 0] 32))) := Lib.hid (HW10.out.alloc HW10.out.size _)
      have hs11 : wr.heap.size ≤ (a9.alloc (.cells #[.int .i64 (sgT (rd L (16 + 64 * i + 36) 4)), .int .u64 0, .int .u64 0, .int .u64 0] 32)).heap.size := by simp; omega
      have e111 : (a9.alloc (.cells #[.int .i64 (sgT (rd L (16 + 64 * i + 36) 4)), .int .u64 0, .int .u64 0, .int .u64 0] 32)).heap[a9.heap.size]? = some (.cells #[.int .i64 (sgT (rd L (16 + 64 * i + 36) 4)), .int .u64 0, .int .u64 0, .int .u64 0] 32) := heap_alloc_new _ _
      have hn111 : a9.heap.size < (a9.alloc (.cells #[.int .i64 (sgT (rd L (16 + 64 * i + 36) 4)), .int .u64 0, .int .u64 0, .int .u64 0] 32)).heap.size := by simp
      have hTn1 : T < a9.heap.size := hT10
      have hwn1 : wr.heap.size ≤ a9.heap.size := hs10
      have E011 := Lib.hid ((Below.heap_alloc a9 (.cells #[.int .i64 (sgT (rd L (16 + 64 * i + 36) 4)), .int .u64 0, .int .u64 0, .int .u64 0] 32) n0 hn010).trans E010.out)
      have hn011 : n0 < (a9.alloc (.cells #[.int .i64 (sgT (rd L (16 + 64 * i + 36) 4)), .int .u64 0, .int .u64 0, .int .u64 0] 32)).heap.size := by simp; omega
      have hn01 : n0 < a9.heap.size := hn010
      clear HT10 HK10 HW10 hT10 E010
      go_wp2_with fail
      generalize (a9.alloc (.cells #[.int .i64 (sgT (rd L (16 + 64 * i + 36) 4)), .int .u64 0, .int .u64 0, .int .u64 0] 32)) = a10 at *
      generalize a9.heap.size = n1 at *
      have E111 := Lib.hid e111
      clear e111
      refine (tk_long T b off (len - 4) cap (16 + 64 * i + 40) L _ HT11.out (by have := HCT.out; omega) (by omega) (by have := HL.out; omega) hbig (HB.out.below HW11.out hb0) hTb).mono ?_
      rintro x11 a11 ⟨rfl, ht11, hg11⟩
      have HT12 : Hid (TK a11 T b off (len - 4) cap (16 + 64 * i + 48)) := Lib.hid ht11
      have HK12 : Hid (∀ k, k < wr.heap.size → k ≠ T → a11.heap[k]? = wr.heap[k]?) := Lib.hid fun k hk hkT => (hg11.block k (Nat.lt_of_lt_of_le hk hs11) (by simp [hkT])).trans (HK11.out k hk hkT)
      have HW12 : Hid (Below w.heap.size w a11) := Lib.hid (HW11.out.grown hg11 HW11.out.size (fun k e => by cases e; exact hsT))
      have hs12 : wr.heap.size ≤ a11.heap.size := Nat.le_trans hs11 hg11.size
      have E012 := Lib.hid ((hg11.block n0 hn011 (by simp; omega)).trans E011.out)
      have hn012 : n0 < a11.heap.size := Nat.lt_of_lt_of_le hn011 hg11.size
      have E112 := Lib.hid ((hg11.block n1 hn111 (by simp; omega)).trans E111.out)
      have hn112 : n1 < a11.heap.size := Nat.lt_of_lt_of_le hn111 hg11.size
      clear ht11 hg11 HT11 HW11 HK11 E011 E111
      go_wp2_with fail
      refine (tk_long T b off (len - 4) cap (16 + 64 * i + 48) L _ HT12.out (by have := HCT.out; omega) (by omega) (by have := HL.out; omega) hbig (HB.out.below HW12.out hb0) hTb).mono ?_
      rintro x12 a12 ⟨rfl, ht12, hg12⟩
      have HT13 : Hid (TK a12 T b off (len - 4) cap (16 + 64 * i + 56)) := Lib.hid ht12
      have HK13 : Hid (∀ k, k < wr.heap.size → k ≠ T → a12.heap[k]? = wr.heap[k]?) := Lib.hid fun k hk hkT => (hg12.block k (Nat.lt_of_lt_of_le hk hs12) (by simp [hkT])).trans (HK12.out k hk hkT)
      have HW13 : Hid (Below w.heap.size w a12) := Lib.hid (HW12.out.grown hg12 HW12.out.size (fun k e => by cases e; exact hsT))
      have hs13 : wr.heap.size ≤ a12.heap.size := Nat.le_trans hs12 hg12.size
      have E013 := Lib.hid ((hg12.block n0 hn012 (by simp; omega)).trans E012.out)
      have hn013 : n0 < a12.heap.size := Nat.lt_of_lt_of_le hn012 hg12.size
      have E113 := Lib.hid ((hg12.block n1 hn112 (by simp; omega)).trans E112.out)
      have hn113 : n1 < a12.heap.size := Nat.lt_of_lt_of_le hn112 hg12.size
      clear ht12 hg12 HT12 HW12 HK12 E012 E112
      go_wp2_with fail
      refine (tk_long T b off (len - 4) cap (16 + 64 * i + 56) L _ HT13.out (by have := HCT.out; omega) (by omega) (by have := HL.out; omega) hbig (HB.out.below HW13.out hb0) hTb).mono ?_
      rintro x13 a13 ⟨rfl, ht13, hg13⟩
      have HT14 : Hid (TK a13 T b off (len - 4) cap (16 + 64 * i + 64)) := Lib.hid ht13
      have HK14 : Hid (∀ k, k < wr.heap.size → k ≠ T → a13.heap[k]? = wr.heap[k]?) := Lib.hid fun k hk hkT => (hg13.block k (Nat.lt_of_lt_of_le hk hs13) (by simp [hkT])).trans (HK13.out k hk hkT)
      have HW14 : Hid (Below w.heap.size w a13) := Lib.hid (HW13.out.grown hg13 HW13.out.size (fun k e => by cases e; exact hsT))
      have hs14 : wr.heap.size ≤ a13.heap.size := Nat.le_trans hs13 hg13.size
      have E014 := Lib.hid ((hg13.block n0 hn013 (by simp; omega)).trans E013.out)
      have hn014 : n0 < a13.heap.size := Nat.lt_of_lt_of_le hn013 hg13.size
      have E114 := Lib.hid ((hg13.block n1 hn113 (by simp; omega)).trans E113.out)
      have hn114 : n1 < a13.heap.size := Nat.lt_of_lt_of_le hn113 hg13.size
      clear ht13 hg13 HT13 HW13 HK13 E013 E113
      have g1 := cell_in E114.out (j := 1) rfl
      have g2 := cell_in E114.out (j := 2) rfl
      have g3 := cell_in E114.out (j := 3) rfl
      have gf : ∀ o, a13.frozen? ⟨n1, o, none⟩ = false := fun o => by simp [World.frozen?, E114.out]
      have hnn : n0 ≠ n1 := by omega
      have hTn1' : T ≠ n1 := by omega
      have q0 := heap_setCell_same a13 n1 1 _ _ (.int .u64 (rd L (16 + 64 * i + 40) 8 : Nat)) E114.out
      have q1 := heap_setCell_same _ n1 2 _ _ (.int .u64 (rd L (16 + 64 * i + 48) 8 : Nat)) q0
      have q2 := heap_setCell_same _ n1 3 _ _ (.int .u64 (rd L (16 + 64 * i + 56) 8 : Nat)) q1
      have E115 : Hid ((((a13.setCell ⟨n1, 1, none⟩ (.int .u64 (rd L (16 + 64 * i + 40) 8 : Nat))).setCell ⟨n1, 2, none⟩ (.int .u64 (rd L (16 + 64 * i + 48) 8 : Nat))).setCell ⟨n1, 3, none⟩ (.int .u64 (rd L (16 + 64 * i + 56) 8 : Nat))).heap[n1]? = some (.cells #[.int .i64 (sgT (rd L (16 + 64 * i + 36) 4)), .int .u64 (rd L (16 + 64 * i + 40) 8 : Nat), .int .u64 (rd L (16 + 64 * i + 48) 8 : Nat), .int .u64 (rd L (16 + 64 * i + 56) 8 : Nat)] 32 (0, 0))) := Lib.hid (q2.trans (by rfl))
      have hk3 : ∀ k, k ≠ n1 → (((a13.setCell ⟨n1, 1, none⟩ (.int .u64 (rd L (16 + 64 * i + 40) 8 : Nat))).setCell ⟨n1, 2, none⟩ (.int .u64 (rd L (16 + 64 * i + 48) 8 : Nat))).setCell ⟨n1, 3, none⟩ (.int .u64 (rd L (16 + 64 * i + 56) 8 : Nat))).heap[k]? = a13.heap[k]? := fun k hk => (heap_setCell_other _ _ k _ hk).trans ((heap_setCell_other _ _ k _ hk).trans (heap_setCell_other _ _ k _ hk))
      have E015 := Lib.hid ((hk3 n0 hnn).trans E014.out)
      have HT15 := Lib.hid (show TK (((a13.setCell ⟨n1, 1, none⟩ (.int .u64 (rd L (16 + 64 * i + 40) 8 : Nat))).setCell ⟨n1, 2, none⟩ (.int .u64 (rd L (16 + 64 * i + 48) 8 : Nat))).setCell ⟨n1, 3, none⟩ (.int .u64 (rd L (16 + 64 * i + 56) 8 : Nat))) T b off (len - 4) cap _ from (hk3 T hTn1').trans HT14.out)
      have HK15 : Hid (∀ k, k < wr.heap.size → k ≠ T → (((a13.setCell ⟨n1, 1, none⟩ (.int .u64 (rd L (16 + 64 * i + 40) 8 : Nat))).setCell ⟨n1, 2, none⟩ (.int .u64 (rd L (16 + 64 * i + 48) 8 : Nat))).setCell ⟨n1, 3, none⟩ (.int .u64 (rd L (16 + 64 * i + 56) 8 : Nat))).heap[k]? = wr.heap[k]?) := Lib.hid fun k hk hkT => (hk3 k (by omega)).trans (HK14.out k hk hkT)
      have HW15 : Hid (Below w.heap.size w (((a13.setCell ⟨n1, 1, none⟩ (.int .u64 (rd L (16 + 64 * i + 40) 8 : Nat))).setCell ⟨n1, 2, none⟩ (.int .u64 (rd L (16 + 64 * i + 48) 8 : Nat))).setCell ⟨n1, 3, none⟩ (.int .u64 (rd L (16 + 64 * i + 56) 8 : Nat)))) := Lib.hid (((HW14.out.setCell (show w.heap.size ≤ n1 by omega) _).setCell (show w.heap.size ≤ n1 by omega) _).setCell (show w.heap.size ≤ n1 by omega) _)
      have hs15 : wr.heap.size ≤ (((a13.setCell ⟨n1, 1, none⟩ (.int .u64 (rd L (16 + 64 * i + 40) 8 : Nat))).setCell ⟨n1, 2, none⟩ (.int .u64 (rd L (16 + 64 * i + 48) 8 : Nat))).setCell ⟨n1, 3, none⟩ (.int .u64 (rd L (16 + 64 * i + 56) 8 : Nat))).heap.size := by simp; omega
      have hn015 : n0 < (((a13.setCell ⟨n1, 1, none⟩ (.int .u64 (rd L (16 + 64 * i + 40) 8 : Nat))).setCell ⟨n1, 2, none⟩ (.int .u64 (rd L (16 + 64 * i + 48) 8 : Nat))).setCell ⟨n1, 3, none⟩ (.int .u64 (rd L (16 + 64 * i + 56) 8 : Nat))).heap.size := by simp; omega
      have hn115 : n1 < (((a13.setCell ⟨n1, 1, none⟩ (.int .u64 (rd L (16 + 64 * i + 40) 8 : Nat))).setCell ⟨n1, 2, none⟩ (.int .u64 (rd L (16 + 64 * i + 48) 8 : Nat))).setCell ⟨n1, 3, none⟩ (.int .u64 (rd L (16 + 64 * i + 56) 8 : Nat))).heap.size := by simp; omega
      clear q0 q1 q2 hk3
      go_wp2_with fail
      clear g1 g2 g3 gf HT14 HK14 HW14 E014 E114
      generalize (((a13.setCell ⟨n1, 1, none⟩ (.int .u64 (rd L (16 + 64 * i + 40) 8 : Nat))).setCell ⟨n1, 2, none⟩ (.int .u64 (rd L (16 + 64 * i + 48) 8 : Nat))).setCell ⟨n1, 3, none⟩ (.int .u64 (rd L (16 + 64 * i + 56) 8 : Nat))) = a14 at *
      have hTs : T < wr.heap.size := HCT2.out
      have ku6 : ∀ k, u6.ownBlock = some k → k < wr.heap.size ∧ k ≠ T := fun k hk => ⟨(HS.out.lt k hk).2, own_tk HS.out (by decide) HTW.out hk⟩
      have ku7 : ∀ k, u7.ownBlock = some k → k < wr.heap.size ∧ k ≠ T := fun k hk => ⟨(HR.out.lt k hk).2, own_tk HR.out (by decide) HTW.out hk⟩
      have HOS := own_of HS.out (fun k hk => HK15.out k (ku6 k hk).1 (ku6 k hk).2)
      have HOR := own_of HR.out (fun k hk => HK15.out k (ku7 k hk).1 (ku7 k hk).2)
      have hu60 : some n0 ≠ u6.ownBlock := fun e => by have := (ku6 n0 e.symm).1; omega
      have hu71 : some n1 ≠ u7.ownBlock := fun e => by have := (ku7 n1 e.symm).1; omega
      refine wp_normal ?_
      refine dec_region _ _ _ _ _ _ _ _ _ _ _ _ _ _ _ _ _ _ _ _ _ _ _ _ _ _ _ _ _ _ _ _ _ _ _ _ _ _ _ _ _ _ _ _ _ _ _ _ _ _ _ _ _ _ _ _ _ _ _ _ _ _ _ _ _ u6 u7 n0 n1 w.heap.size i (stpAt L i) (rslAt L i) _ _ a14 E015.out E115.out HOS HOR HW15.out.size (by omega) hu60 hu71 ?_
      intro v6 v7 y61 y65 w9 o6 o7 hbel hkeep
      have hT9 : TK w9 T b off (len - 4) cap (16 + 64 * i + 64) := (hkeep T (Nat.lt_of_lt_of_le hTs hs15) (fun e => (ku6 T e.symm).2 rfl) (fun e => (ku7 T e.symm).2 rfl)).trans HT15.out
      have hT10 : TK w9 T b off (len - 4) cap (16 + 64 * (i + 1)) := hT9
      have e6 : ((stpsL L i).map Stp.cells).flatten ++ (stpAt L i).cells = ((stpsL L (i + 1)).map Stp.cells).flatten := by simp [stpsL, List.range_succ]
      have e7 : ((rslsL L i).map Rsl.cells).flatten ++ (rslAt L i).cells = ((rslsL L (i + 1)).map Rsl.cells).flatten := by simp [rslsL, List.range_succ]
      have O6 : Hid (w9.ownsRow w.heap.size 28 7 v6 (i + 1) ((stpsL L (i + 1)).map Stp.cells).flatten) := Lib.hid (by rw [← e6]; exact o6)
      have O7 : Hid (w9.ownsRow w.heap.size 32 4 v7 (i + 1) ((rslsL L (i + 1)).map Rsl.cells).flatten) := Lib.hid (by rw [← e7]; exact o7)
      have HT10 := Lib.hid hT10
      have HW10 := Lib.hid (HW15.out.trans hbel)
      clear hkeep hT9 hT10 o6 o7 hbel e6 e7 HOS HOR ku6 ku7
      go_wp2
      go_roundg (gk - 1)
      case measure => omega
      case rel => exact ⟨i + 1, by omega, HT10.out, O6.out, O7.out, HW10.out⟩
theorem decode_any (p : Option Addr) (len cap : Nat) (L : List Nat) (w : World) (h : Raw w p len cap L) : Calls Tryz.prog 14 #[.slice p len cap] w (DecPost L w.heap.size w) := by
  cases q : formB L with
  | true => exact decode_good p len cap L w h q
  | false => exact decode_bad p len cap L w h q
end Ae
namespace Ae
open Go Go.Proofs Go.RowKit
theorem leS_append_getD (n k : Nat) (B : List Nat) (j : Nat) (hj : j < k) : (leS n k ++ B)[j]?.getD 0 = n / 256 ^ j % 256 := by
  induction k with
  | zero => omega
  | succ k ih =>
    rw [leS, List.append_assoc]
    rcases Nat.lt_or_ge j k with h | h
    · have h1 := ih h
      rw [List.getElem?_append_left (by rw [leS_length]; exact h)] at h1 ⊢
      exact h1
    · have : j = k := by omega
      subst this
      rw [List.getElem?_append_right (by rw [leS_length]; omega), leS_length, Nat.sub_self]
      simp
theorem unle_leS (n : Nat) (K : Nat) (B : List Nat) : ∀ k, k ≤ K → unle (leS n K ++ B) k = n % 256 ^ k
  | 0, _ => by simp [unle, Nat.mod_one]
  | k + 1, h => by
    rw [unle, unle_leS n K B k (by omega), leS_append_getD n K B k (by omega), Nat.pow_succ]
    have h1 : n % (256 ^ k * 256) = n % 256 ^ k + 256 ^ k * (n / 256 ^ k % 256) := Nat.mod_mul
    rw [h1, Nat.mul_comm (n / 256 ^ k % 256)]
theorem unle_congr {zs ys : List Nat} : ∀ k, (∀ j, j < k → zs[j]?.getD 0 = ys[j]?.getD 0) → unle zs k = unle ys k
  | 0, _ => rfl
  | k + 1, h => by rw [unle, unle, unle_congr k (fun j hj => h j (by omega)), h k (by omega)]
theorem rd_at {A B : List Nat} {pos v k : Nat} (hp : A.length = pos) (hv : v < 256 ^ k) : rd (A ++ (leS v k ++ B)) pos k = v := by
  subst hp
  unfold rd
  rw [List.drop_left, unle_leS v k B k (Nat.le_refl _), Nat.mod_eq_of_lt hv]
theorem leS_unle {zs : List Nat} (hz : ∀ x ∈ zs, x < 256) : ∀ k, k ≤ zs.length → leS (unle zs k) k = zs.take k ∧ ∀ m, m ≤ k → unle zs k % 256 ^ m = unle zs m
  | 0, _ => ⟨by simp [leS], fun m hm => by have : m = 0 := by omega
                                           subst this; simp [unle, Nat.mod_one]⟩
  | k + 1, h => by
    obtain ⟨h1, h2⟩ := leS_unle hz k (by omega)
    have hz' : ∀ j : Nat, zs[j]?.getD 0 < 256 := fun j => by
      rcases Nat.lt_or_ge j zs.length with q | q
      · rw [List.getElem?_eq_getElem q]; exact hz _ (List.getElem_mem _)
      · rw [List.getElem?_eq_none q]; decide
    have hlt := unle_lt hz' k
    have hzk := hz' k
    have hpos : 0 < 256 ^ k := Nat.pos_of_ne_zero (by simp)
    have hdiv : unle zs (k + 1) / 256 ^ k = zs[k]?.getD 0 := by
      rw [unle, Nat.add_mul_div_right _ _ hpos, Nat.div_eq_of_lt hlt, Nat.zero_add]
    have hmod : unle zs (k + 1) % 256 ^ k = unle zs k := by
      rw [unle, Nat.add_mul_mod_self_right, Nat.mod_eq_of_lt hlt]
    have hlow : ∀ m, m ≤ k → unle zs (k + 1) % 256 ^ m = unle zs m := fun m hm => by
      rw [← h2 m hm, ← hmod, Nat.mod_mod_of_dvd _ (Nat.pow_dvd_pow 256 hm)]
    refine ⟨?_, fun m hm => ?_⟩
    · have hle : ∀ j, j ≤ k → leS (unle zs (k + 1)) j = leS (unle zs k) j := by
        intro j
        induction j with
        | zero => intro _; rfl
        | succ j ih =>
          intro hj
          rw [leS, leS, ih (by omega)]
          congr 2
          have e1 : unle zs (k + 1) / 256 ^ j % 256 = unle zs (k + 1) % 256 ^ (j + 1) / 256 ^ j := by
            rw [Nat.pow_succ, Nat.mod_mul_right_div_self]
          have e2 : unle zs k / 256 ^ j % 256 = unle zs k % 256 ^ (j + 1) / 256 ^ j := by
            rw [Nat.pow_succ, Nat.mod_mul_right_div_self]
          rw [e1, e2, hlow (j + 1) hj, h2 (j + 1) hj]
      rw [leS, hle k (Nat.le_refl _), h1, hdiv, Nat.mod_eq_of_lt hzk, List.take_succ_eq_append_getElem (by omega), List.getElem?_eq_getElem (by omega)]
      rfl
    · rcases Nat.lt_or_ge m (k + 1) with q | q
      · exact hlow m (by omega)
      · have : m = k + 1 := by omega
        subst this
        exact Nat.mod_eq_of_lt (unle_lt hz' (k + 1))
theorem leS_rd {L : List Nat} (hL : ∀ x ∈ L, x < 256) (pos k : Nat) (h : pos + k ≤ L.length) : leS (rd L pos k) k = (L.drop pos).take k :=
  (leS_unle (fun x hx => hL x (List.mem_of_mem_drop hx)) k (by rw [List.length_drop]; omega)).1
theorem crcN_crcL (zs : List Nat) (r : Nat) : ∀ k, k ≤ zs.length → crcN zs r k = crcL r (zs.take k)
  | 0, _ => rfl
  | k + 1, h => by
    rw [crcN, crcN_crcL zs r k (by omega), List.take_succ_eq_append_getElem (by omega), List.getElem?_eq_getElem (by omega)]
    show crcB (crcL r (zs.take k)) zs[k] = crcL r (zs.take k ++ [zs[k]])
    unfold crcL; rw [List.foldl_append]; rfl
theorem crcOf_eq (zs : List Nat) : crcOf zs = 4294967295 ^^^ crcL 4294967295 zs := by
  rw [crcOf, crcN_crcL zs _ _ (Nat.le_refl _), List.take_length]
theorem lowN_sg (n : Nat) (h : n < 4294967296) : lowN (sgT n) = n := by unfold lowN sgT; split <;> omega
theorem sg_lowN (z : Int) (h : fitsB z = true) : sgT (lowN z) = z := by
  unfold fitsB at h
  rw [decide_eq_true_eq] at h
  unfold sgT lowN
  split <;> omega
theorem fits_sg (n : Nat) (h : n < 4294967296) : fitsB (sgT n) = true := by
  unfold fitsB; rw [decide_eq_true_eq]; exact sg_bound n h
end Ae
namespace Ae
open Go Go.Proofs Go.RowKit
theorem take_two (l : List Nat) (p a b : Nat) : (l.drop p).take a ++ (l.drop (p + a)).take b = (l.drop p).take (a + b) := by
  rw [List.take_add, List.drop_drop]
theorem rec_raw {L : List Nat} (hL : ∀ x ∈ L, x < 256) (i : Nat) (h : 16 + 64 * i + 64 ≤ L.length) : recL (stpAt L i) (rslAt L i) = (L.drop (16 + 64 * i)).take 64 := by
  have hlt4 : ∀ p, rd L p 4 < 4294967296 := fun p => unle4_lt (fun j => by
    rcases Nat.lt_or_ge j (L.drop p).length with q | q
    · rw [List.getElem?_eq_getElem q]; exact hL _ (List.mem_of_mem_drop (List.getElem_mem _))
    · rw [List.getElem?_eq_none q]; decide)
  have e : ∀ d, d + 4 ≤ 64 → leS (lowN (sgT (rd L (16 + 64 * i + d) 4))) 4 = (L.drop (16 + 64 * i + d)).take 4 := fun d hd => by
    rw [lowN_sg _ (hlt4 _), leS_rd hL _ _ (by omega)]
  have e8 : ∀ d, d + 8 ≤ 64 → leS (rd L (16 + 64 * i + d) 8) 8 = (L.drop (16 + 64 * i + d)).take 8 := fun d hd => leS_rd hL _ _ (by omega)
  have e0 := e 0 (by omega)
  rw [Nat.add_zero] at e0
  simp only [recL, stpAt, rslAt, Stp.ints, wordsL, List.flatMap_cons, List.flatMap_nil, List.append_nil]
  rw [e0, e 4 (by omega), e 8 (by omega), e 12 (by omega), e 16 (by omega), e8 20 (by omega), e8 28 (by omega), e 36 (by omega), e8 40 (by omega), e8 48 (by omega), e8 56 (by omega)]
  generalize 16 + 64 * i = p
  simp only [← List.append_assoc]
  rw [take_two, show p + 8 = p + (4 + 4) from rfl, take_two, show p + 12 = p + (4 + 4 + 4) from rfl, take_two, show p + 16 = p + (4 + 4 + 4 + 4) from rfl, take_two, show p + 20 = p + (4 + 4 + 4 + 4 + 4) from rfl, take_two, show p + 28 = p + (4 + 4 + 4 + 4 + 4 + 8) from rfl, take_two, show p + 36 = p + (4 + 4 + 4 + 4 + 4 + 8 + 8) from rfl, take_two, show p + 40 = p + (4 + 4 + 4 + 4 + 4 + 8 + 8 + 4) from rfl, take_two, show p + 48 = p + (4 + 4 + 4 + 4 + 4 + 8 + 8 + 4 + 8) from rfl, take_two, show p + 56 = p + (4 + 4 + 4 + 4 + 4 + 8 + 8 + 4 + 8 + 8) from rfl, take_two]
theorem recs_app : ∀ (a b : List Stp) (c d : List Rsl), a.length = c.length → recsL (a ++ b) (c ++ d) = recsL a c ++ recsL b d
  | [], b, [], d, _ => by simp [recsL]
  | x :: a, b, y :: c, d, h => by simp only [List.cons_append, recsL, recs_app a b c d (by simpa using h), List.append_assoc]
  | [], _, _ :: _, _, h => by simp at h
  | _ :: _, _, [], _, h => by simp at h
theorem recs_raw {L : List Nat} (hL : ∀ x ∈ L, x < 256) : ∀ n, 16 + 64 * n ≤ L.length → recsL (stpsL L n) (rslsL L n) = (L.drop 16).take (64 * n)
  | 0, _ => by simp [stpsL, rslsL, recsL]
  | n + 1, h => by
    have ih := recs_raw hL n (by omega)
    have e1 : stpsL L (n + 1) = stpsL L n ++ [stpAt L n] := by simp [stpsL, List.range_succ]
    have e2 : rslsL L (n + 1) = rslsL L n ++ [rslAt L n] := by simp [rslsL, List.range_succ]
    rw [e1, e2, recs_app _ _ _ _ (by simp [stpsL, rslsL]), ih]
    simp only [recsL, List.append_nil]
    rw [rec_raw hL n (by omega), show 64 * (n + 1) = 64 * n + 64 by omega, ← take_two]
theorem formB_parts {L : List Nat} (h : formB L = true) : 20 ≤ L.length ∧ L.take 8 = magicL ∧ rd L 8 2 = 1 ∧ rd L 10 2 = 0 ∧ rd L 12 4 ≤ 65536 ∧ L.length = endL L + 4 ∧ rd L (endL L) 4 = crcOf (L.take (endL L)) := by
  unfold formB magicOk at h
  simp only [Bool.and_eq_true, decide_eq_true_eq] at h
  obtain ⟨⟨⟨⟨⟨⟨h1, h2⟩, h3⟩, h4⟩, h5⟩, h6⟩, h7⟩ := h
  exact ⟨h1, h2, h3, h4, h5, h6, h7⟩
theorem back_raw {L : List Nat} (hL : ∀ x ∈ L, x < 256) (h : formB L = true) : encN (stpsL L (rd L 12 4)) (rslsL L (rd L 12 4)) = 0 ∧ encL (stpsL L (rd L 12 4)) (rslsL L (rd L 12 4)) = L := by
  obtain ⟨h1, h2, h3, h4, h5, h6, h7⟩ := formB_parts h
  have hl1 : (stpsL L (rd L 12 4)).length = rd L 12 4 := by simp [stpsL]
  have hl2 : (rslsL L (rd L 12 4)).length = rd L 12 4 := by simp [rslsL]
  have hlt4 : ∀ p, rd L p 4 < 4294967296 := fun p => unle4_lt (fun j => by
    rcases Nat.lt_or_ge j (L.drop p).length with q | q
    · rw [List.getElem?_eq_getElem q]; exact hL _ (List.mem_of_mem_drop (List.getElem_mem _))
    · rw [List.getElem?_eq_none q]; decide)
  have hend : endL L = 16 + 64 * rd L 12 4 := rfl
  constructor
  · have hr : rightN (stpsL L (rd L 12 4)) = 0 := by
      unfold rightN
      rw [if_neg (by omega), if_pos]
      rw [List.all_eq_true]
      intro x hx
      simp only [stpsL, List.mem_map] at hx
      obtain ⟨i, _, rfl⟩ := hx
      simp only [stpFits, stpAt, fits_sg _ (hlt4 _), Bool.and_self]
    unfold encN
    rw [if_neg (by omega), if_neg (by rw [hr]; decide), if_pos]
    rw [List.all_eq_true]
    intro x hx
    simp only [rslsL, List.mem_map] at hx
    obtain ⟨i, _, rfl⟩ := hx
    exact fits_sg _ (hlt4 _)
  · have hb : bodyL (stpsL L (rd L 12 4)) (rslsL L (rd L 12 4)) = L.take (endL L) := by
      unfold bodyL hdrL
      rw [hl1, recs_raw hL _ (by omega)]
      have e1 : leS 1 2 = (L.drop 8).take 2 := by rw [← h3, leS_rd hL _ _ (by omega)]
      have e2 : leS 0 2 = (L.drop 10).take 2 := by rw [← h4, leS_rd hL _ _ (by omega)]
      have e3 : leS (rd L 12 4) 4 = (L.drop 12).take 4 := leS_rd hL _ _ (by omega)
      rw [e1, e2, e3, ← h2, show L.take 8 = (L.drop 0).take 8 by rw [List.drop_zero]]
      rw [show (8 : Nat) = 0 + 8 from rfl, take_two, show (10 : Nat) = 0 + (8 + 2) from rfl]
      rw [take_two, show (12 : Nat) = 0 + (8 + 2 + 2) from rfl, take_two, show (16 : Nat) = 0 + (8 + 2 + 2 + 4) from rfl, take_two, List.drop_zero, hend]
    unfold encL
    rw [hb, ← h7, leS_rd hL _ _ (by omega)]
    have : L.take (endL L) ++ (L.drop (endL L)).take 4 = L := by
      rw [List.take_of_length_le (show (L.drop (endL L)).length ≤ 4 by rw [List.length_drop]; omega), List.take_append_drop]
    exact this
end Ae
namespace Ae
open Go Go.Proofs Go.RowKit
theorem rightN_zero {ss : List Stp} (h : rightN ss = 0) : ss.length ≤ 65536 ∧ ss.all stpFits = true := by
  unfold rightN at h
  split at h
  · cases h
  · split at h
    · exact ⟨by omega, by assumption⟩
    · cases h
theorem encN_zero {ss : List Stp} {rs : List Rsl} (h : encN ss rs = 0) : ss.length = rs.length ∧ ss.length ≤ 65536 ∧ ss.all stpFits = true ∧ rs.all rslFits = true := by
  unfold encN at h
  split at h
  · cases h
  · split at h
    · exact absurd h (by assumption)
    · split at h
      · have hr : rightN ss = 0 := by
          apply Classical.byContradiction; assumption
        exact ⟨by omega, (rightN_zero hr).1, (rightN_zero hr).2, by assumption⟩
      · cases h
theorem recs_split (ss : List Stp) (rs : List Rsl) (i : Nat) (h1 : i < ss.length) (h2 : i < rs.length) (hl : ss.length = rs.length) : recsL ss rs = recsL (ss.take i) (rs.take i) ++ (recL ss[i] rs[i] ++ recsL (ss.drop (i + 1)) (rs.drop (i + 1))) := by
  conv => lhs; rw [← List.take_append_drop i ss, ← List.take_append_drop i rs]
  rw [recs_app _ _ _ _ (by rw [List.length_take, List.length_take]; omega), List.drop_eq_getElem_cons h1, List.drop_eq_getElem_cons h2]
  rfl
theorem fits_all {x : Stp} (h : stpFits x = true) : fitsB x.k = true ∧ fitsB x.s = true ∧ fitsB x.n = true ∧ fitsB x.a = true ∧ fitsB x.wd = true := by
  unfold stpFits at h
  simp only [Bool.and_eq_true] at h
  exact ⟨h.1.1.1.1, h.1.1.1.2, h.1.1.2, h.1.2, h.2⟩
theorem rec_at {A B : List Nat} {x : Stp} {y : Rsl} {p : Nat} (hp : A.length = p) (hx : x.ok) (hy : y.ok) (fx : stpFits x = true) (fy : rslFits y = true) :
    let L := A ++ (recL x y ++ B)
    (⟨sgT (rd L p 4), sgT (rd L (p + 4) 4), sgT (rd L (p + 8) 4), sgT (rd L (p + 12) 4), rd L (p + 20) 8, sgT (rd L (p + 16) 4), rd L (p + 28) 8⟩ : Stp) = x ∧ (⟨sgT (rd L (p + 36) 4), rd L (p + 40) 8, rd L (p + 48) 8, rd L (p + 56) 8⟩ : Rsl) = y := by
  intro L
  obtain ⟨f1, f2, f3, f4, f5⟩ := fits_all fx
  obtain ⟨_, _, _, _, o5, _, o7⟩ := hx
  obtain ⟨_, p2, p3, p4⟩ := hy
  have hlw : ∀ z, lowN z < 256 ^ 4 := lowN_lt
  have key : ∀ (C D : List Nat) (v k d : Nat), recL x y = C ++ (leS v k ++ D) → C.length = d → v < 256 ^ k → rd L (p + d) k = v := by
    intro C D v k d e hd hv
    have : L = (A ++ C) ++ (leS v k ++ (D ++ B)) := by
      show A ++ (recL x y ++ B) = _
      rw [e]; simp only [List.append_assoc]
    rw [this]
    exact rd_at (by rw [List.length_append, hp, hd]) hv
  have hw : wordsL x.ints = leS (lowN x.k) 4 ++ (leS (lowN x.s) 4 ++ (leS (lowN x.n) 4 ++ (leS (lowN x.a) 4 ++ leS (lowN x.wd) 4))) := by
    simp [wordsL, Stp.ints]
  have hrec : recL x y = leS (lowN x.k) 4 ++ (leS (lowN x.s) 4 ++ (leS (lowN x.n) 4 ++ (leS (lowN x.a) 4 ++ (leS (lowN x.wd) 4 ++ (leS x.at_ 8 ++ (leS x.v 8 ++ (leS (lowN y.why) 4 ++ (leS y.v 8 ++ (leS y.at_ 8 ++ leS y.cl 8))))))))) := by
    unfold recL; rw [hw]; simp only [List.append_assoc]
  have k0 := key [] _ (lowN x.k) 4 0 (by rw [hrec]; rfl) rfl (hlw _)
  rw [Nat.add_zero] at k0
  have k1 := key (leS (lowN x.k) 4) _ (lowN x.s) 4 4 hrec (by simp [leS_length]) (hlw _)
  have k2 := key (leS (lowN x.k) 4 ++ leS (lowN x.s) 4) _ (lowN x.n) 4 8 (by rw [hrec]; simp only [List.append_assoc]; rfl) (by simp [leS_length]) (hlw _)
  have k3 := key (leS (lowN x.k) 4 ++ (leS (lowN x.s) 4 ++ leS (lowN x.n) 4)) _ (lowN x.a) 4 12 (by rw [hrec]; simp only [List.append_assoc]; rfl) (by simp [leS_length]) (hlw _)
  have k4 := key (leS (lowN x.k) 4 ++ (leS (lowN x.s) 4 ++ (leS (lowN x.n) 4 ++ leS (lowN x.a) 4))) _ (lowN x.wd) 4 16 (by rw [hrec]; simp only [List.append_assoc]; rfl) (by simp [leS_length]) (hlw _)
  have k5 := key (leS (lowN x.k) 4 ++ (leS (lowN x.s) 4 ++ (leS (lowN x.n) 4 ++ (leS (lowN x.a) 4 ++ leS (lowN x.wd) 4)))) _ x.at_ 8 20 (by rw [hrec]; simp only [List.append_assoc]; rfl) (by simp [leS_length]) o5
  have k6 := key (leS (lowN x.k) 4 ++ (leS (lowN x.s) 4 ++ (leS (lowN x.n) 4 ++ (leS (lowN x.a) 4 ++ (leS (lowN x.wd) 4 ++ leS x.at_ 8))))) _ x.v 8 28 (by rw [hrec]; simp only [List.append_assoc]; rfl) (by simp [leS_length]) o7
  have k7 := key (leS (lowN x.k) 4 ++ (leS (lowN x.s) 4 ++ (leS (lowN x.n) 4 ++ (leS (lowN x.a) 4 ++ (leS (lowN x.wd) 4 ++ (leS x.at_ 8 ++ leS x.v 8)))))) _ (lowN y.why) 4 36 (by rw [hrec]; simp only [List.append_assoc]; rfl) (by simp [leS_length]) (hlw _)
  have k8 := key (leS (lowN x.k) 4 ++ (leS (lowN x.s) 4 ++ (leS (lowN x.n) 4 ++ (leS (lowN x.a) 4 ++ (leS (lowN x.wd) 4 ++ (leS x.at_ 8 ++ (leS x.v 8 ++ leS (lowN y.why) 4))))))) _ y.v 8 40 (by rw [hrec]; simp only [List.append_assoc]; rfl) (by simp [leS_length]) p2
  have k9 := key (leS (lowN x.k) 4 ++ (leS (lowN x.s) 4 ++ (leS (lowN x.n) 4 ++ (leS (lowN x.a) 4 ++ (leS (lowN x.wd) 4 ++ (leS x.at_ 8 ++ (leS x.v 8 ++ (leS (lowN y.why) 4 ++ leS y.v 8)))))))) _ y.at_ 8 48 (by rw [hrec]; simp only [List.append_assoc]; rfl) (by simp [leS_length]) p3
  have k10 := key (leS (lowN x.k) 4 ++ (leS (lowN x.s) 4 ++ (leS (lowN x.n) 4 ++ (leS (lowN x.a) 4 ++ (leS (lowN x.wd) 4 ++ (leS x.at_ 8 ++ (leS x.v 8 ++ (leS (lowN y.why) 4 ++ (leS y.v 8 ++ leS y.at_ 8))))))))) [] y.cl 8 56 (by rw [hrec]; simp only [List.append_assoc, List.append_nil]) (by simp [leS_length]) p4
  have fy' : fitsB y.why = true := fy
  rw [k0, k1, k2, k3, k4, k5, k6, k7, k8, k9, k10, sg_lowN _ f1, sg_lowN _ f2, sg_lowN _ f3, sg_lowN _ f4, sg_lowN _ f5, sg_lowN _ fy']
  exact ⟨rfl, rfl⟩
theorem enc_len (ss : List Stp) (rs : List Rsl) (h : ss.length = rs.length) : (bodyL ss rs).length = 16 + 64 * ss.length ∧ (encL ss rs).length = 16 + 64 * ss.length + 4 := by
  have : (bodyL ss rs).length = 16 + 64 * ss.length := by unfold bodyL; rw [List.length_append, hdrL_length, recsL_length]; omega
  exact ⟨this, by unfold encL; rw [List.length_append, leS_length, this]⟩
theorem enc_back {ss : List Stp} {rs : List Rsl} (h : encN ss rs = 0) (hok : ∀ x ∈ ss, x.ok) (hok' : ∀ x ∈ rs, x.ok) : formB (encL ss rs) = true ∧ rd (encL ss rs) 12 4 = ss.length ∧ stpsL (encL ss rs) ss.length = ss ∧ rslsL (encL ss rs) ss.length = rs := by
  obtain ⟨h1, h2, h3, h4⟩ := encN_zero h
  obtain ⟨l1, l2⟩ := enc_len ss rs h1
  have hform : encL ss rs = magicL ++ (leS 1 2 ++ (leS 0 2 ++ (leS ss.length 4 ++ (recsL ss rs ++ leS (crcOf (bodyL ss rs)) 4)))) := by
    unfold encL bodyL hdrL; simp only [List.append_assoc]
  have r8 : rd (encL ss rs) 8 2 = 1 := by rw [hform]; exact rd_at (A := magicL) rfl (by decide)
  have r10 : rd (encL ss rs) 10 2 = 0 := by
    rw [hform, ← List.append_assoc]; exact rd_at (A := magicL ++ leS 1 2) (by simp [magicL, leS_length]) (by decide)
  have r12 : rd (encL ss rs) 12 4 = ss.length := by
    rw [hform, ← List.append_assoc, ← List.append_assoc]
    have hv : ss.length < 256 ^ 4 := Nat.lt_of_le_of_lt h2 (by decide)
    exact rd_at (A := magicL ++ leS 1 2 ++ leS 0 2) (by simp [magicL, leS_length]) hv
  have hend : endL (encL ss rs) = 16 + 64 * ss.length := by unfold endL; rw [r12]
  have htake : (encL ss rs).take (endL (encL ss rs)) = bodyL ss rs := by
    rw [hend, ← l1]; unfold encL; rw [List.take_left]
  have rend : rd (encL ss rs) (endL (encL ss rs)) 4 = crcOf (bodyL ss rs) := by
    rw [hend, ← l1]
    have := rd_at (A := bodyL ss rs) (B := []) (k := 4) rfl (show crcOf (bodyL ss rs) < 256 ^ 4 from crcOf_lt (bodyL_lt ss rs))
    rw [List.append_nil] at this
    exact this
  have hrec : ∀ i (hi : i < ss.length), stpAt (encL ss rs) i = ss[i] ∧ rslAt (encL ss rs) i = rs[i]'(by omega) := by
    intro i hi
    have e : encL ss rs = (hdrL ss.length ++ recsL (ss.take i) (rs.take i)) ++ (recL ss[i] (rs[i]'(by omega)) ++ (recsL (ss.drop (i + 1)) (rs.drop (i + 1)) ++ leS (crcOf (bodyL ss rs)) 4)) := by
      rw [encL]
      conv => lhs; rw [bodyL, recs_split ss rs i hi (by omega) h1]
      simp only [List.append_assoc, bodyL]
      rw [recs_split ss rs i hi (by omega) h1]
    have hp : (hdrL ss.length ++ recsL (ss.take i) (rs.take i)).length = 16 + 64 * i := by
      rw [List.length_append, hdrL_length, recsL_length, List.length_take, List.length_take]; omega
    have := rec_at (B := recsL (ss.drop (i + 1)) (rs.drop (i + 1)) ++ leS (crcOf (bodyL ss rs)) 4) hp (hok _ (List.getElem_mem hi)) (hok' _ (List.getElem_mem (show i < rs.length by omega))) ((List.all_eq_true.1 h3) _ (List.getElem_mem hi)) ((List.all_eq_true.1 h4) _ (List.getElem_mem (show i < rs.length by omega)))
    rw [← e] at this
    exact this
  refine ⟨?_, r12, ?_, ?_⟩
  · unfold formB magicOk
    rw [r8, r10, rend, htake, r12, hend, l2]
    rw [show (encL ss rs).take 8 = magicL by rw [hform]; rfl]
    simp; omega
  · apply List.ext_getElem
    · simp [stpsL]
    · intro i a b
      simp only [stpsL, List.getElem_map, List.getElem_range]
      exact (hrec i b).1
  · apply List.ext_getElem
    · simp [rslsL]; exact h1
    · intro i a b
      simp only [rslsL, List.getElem_map, List.getElem_range]
      exact (hrec i (by omega)).2
end Ae
namespace Ae
open Go Go.Proofs Go.RowKit
theorem rd_congr {L M : List Nat} {p k : Nat} (h : ∀ j, j < k → L[p + j]?.getD 0 = M[p + j]?.getD 0) : rd L p k = rd M p k := by
  unfold rd
  exact unle_congr k (fun j hj => by rw [List.getElem?_drop, List.getElem?_drop]; exact h j hj)
theorem form_len_ne {L M : List Nat} (h : formB L = true) (hr : rd M 12 4 = rd L 12 4) (hl : M.length ≠ L.length) : formB M = false := by
  obtain ⟨_, _, _, _, _, h6, _⟩ := formB_parts h
  cases q : formB M with
  | false => rfl
  | true =>
    obtain ⟨_, _, _, _, _, g6, _⟩ := formB_parts q
    have : endL M = endL L := by unfold endL; rw [hr]
    omega
theorem form_more {L : List Nat} (h : formB L = true) (x : Nat) : formB (L ++ [x]) = false := by
  have h1 := (formB_parts h).1
  refine form_len_ne h (rd_congr fun j hj => ?_) (by simp)
  rw [List.getElem?_append_left (by omega)]
theorem form_less {L : List Nat} (h : formB L = true) : formB (L.take (L.length - 1)) = false := by
  have h1 := (formB_parts h).1
  refine form_len_ne h (rd_congr fun j hj => ?_) (by rw [List.length_take]; omega)
  rw [List.getElem?_take, if_pos (by omega)]
theorem rd_inj {L M : List Nat} (hL : ∀ x ∈ L, x < 256) (hM : ∀ x ∈ M, x < 256) {p k : Nat} (h : rd L p k = rd M p k) (h1 : p + k ≤ L.length) (h2 : p + k ≤ M.length) : ∀ j, j < k → L[p + j]? = M[p + j]? := by
  intro j hj
  have e1 := leS_rd hL p k h1
  have e2 := leS_rd hM p k h2
  rw [h, e2] at e1
  have := congrArg (fun l => l[j]?) e1
  simp only [List.getElem?_take, List.getElem?_drop, if_pos hj] at this
  exact this.symm
theorem form_turned {L : List Nat} (hL : ∀ x ∈ L, x < 256) (h : formB L = true) (p v : Nat) (hp : p < L.length) (hv : v < 256) (hne : v ≠ L[p]) : formB (L.set p v) = false := by
  obtain ⟨h1, h2, h3, h4, h5, h6, h7⟩ := formB_parts h
  have hM : ∀ x ∈ L.set p v, x < 256 := fun x hx => by
    rcases List.mem_or_eq_of_mem_set hx with q | q
    · exact hL x q
    · rw [q]; exact hv
  have hlen : (L.set p v).length = L.length := List.length_set
  have hat : (L.set p v)[p]? ≠ L[p]? := by
    rw [List.getElem?_set_self hp, List.getElem?_eq_getElem hp]
    intro e; exact hne (Option.some.inj e)
  have hoth : ∀ j, j ≠ p → (L.set p v)[j]? = L[j]? := fun j hj => List.getElem?_set_ne (Ne.symm hj)
  cases q : formB (L.set p v) with
  | false => rfl
  | true =>
    exfalso
    obtain ⟨g1, g2, g3, g4, g5, g6, g7⟩ := formB_parts q
    rw [hlen] at g6
    have hn : rd (L.set p v) 12 4 = rd L 12 4 := by
      have a : endL (L.set p v) = 16 + 64 * rd (L.set p v) 12 4 := rfl
      have b : endL L = 16 + 64 * rd L 12 4 := rfl
      omega
    have hend : endL (L.set p v) = endL L := by unfold endL; rw [hn]
    have hE : endL L = 16 + 64 * rd L 12 4 := rfl
    have inj := fun (a k : Nat) (e : rd (L.set p v) a k = rd L a k) (hb : a + k ≤ L.length) (ha : a ≤ p) (hk : p < a + k) => by
      have := rd_inj hM hL e (by rw [hlen]; exact hb) hb (p - a) (by omega)
      rw [show a + (p - a) = p by omega] at this
      exact hat this
    rcases Nat.lt_or_ge p 8 with q8 | q8
    · have := congrArg (fun l => l[p]?) (g2.trans h2.symm)
      simp only [List.getElem?_take, if_pos q8] at this
      exact hat this
    · rcases Nat.lt_or_ge p 10 with q10 | q10
      · exact inj 8 2 (g3.trans h3.symm) (by omega) q8 q10
      · rcases Nat.lt_or_ge p 12 with q12 | q12
        · exact inj 10 2 (g4.trans h4.symm) (by omega) q10 q12
        · rcases Nat.lt_or_ge p 16 with q16 | q16
          · exact inj 12 4 hn (by omega) q12 q16
          · rw [hend] at g7
            rcases Nat.lt_or_ge p (endL L) with qe | qe
            · have hr : rd (L.set p v) (endL L) 4 = rd L (endL L) 4 := rd_congr fun j hj => by rw [hoth _ (by omega)]
              rw [hr, h7] at g7
              rw [crcOf_eq, crcOf_eq] at g7
              have g8 := xor_lc g7
              have hsplit : ∀ (M : List Nat) (x : Nat), M[p]? = some x → M.take (endL L) = M.take p ++ x :: (M.take (endL L)).drop (p + 1) := by
                intro M x hx
                have hpl : p < M.length := by
                  rcases Nat.lt_or_ge p M.length with a | a
                  · exact a
                  · rw [List.getElem?_eq_none a] at hx; cases hx
                have hpt : p < (M.take (endL L)).length := by rw [List.length_take]; exact Nat.lt_min.2 ⟨qe, hpl⟩
                have e1 : (M.take (endL L)).take p = M.take p := by rw [List.take_take, Nat.min_eq_left (Nat.le_of_lt qe)]
                have e2 : (M.take (endL L))[p] = x := by
                  rw [List.getElem_take]
                  rw [List.getElem?_eq_getElem hpl] at hx
                  exact Option.some.inj hx
                conv => lhs; rw [← List.take_append_drop p (M.take (endL L)), e1, List.drop_eq_getElem_cons hpt, e2]
              have a1 := hsplit L L[p] (List.getElem?_eq_getElem hp)
              have a2 := hsplit (L.set p v) v (List.getElem?_set_self hp)
              have e1 : (L.set p v).take p = L.take p := by rw [List.take_set_of_le (Nat.le_refl _)]
              have e2 : ((L.set p v).take (endL L)).drop (p + 1) = (L.take (endL L)).drop (p + 1) := by
                apply List.ext_getElem?
                intro j
                rw [List.getElem?_drop, List.getElem?_drop, List.getElem?_take, List.getElem?_take, hoth _ (by omega)]
              rw [e1, e2] at a2
              rw [a1, a2] at g8
              exact crcL_turned (fun x hx => hL x (List.mem_of_mem_take hx)) (fun x hx => hL x (List.mem_of_mem_take (List.mem_of_mem_drop hx))) (hL _ (List.getElem_mem _)) hv (fun e => hne e.symm) (by decide) g8
            · have ht : (L.set p v).take (endL L) = L.take (endL L) := by rw [List.take_set_of_le qe]
              rw [ht] at g7
              exact inj (endL L) 4 (g7.trans h7.symm) (by omega) qe (by omega)
theorem turn_ne (x b : Nat) : x ^^^ 2 ^ b ≠ x := by
  intro e
  have : x ^^^ 2 ^ b = x ^^^ 0 := by rw [e, Nat.xor_zero]
  have := xor_lc this
  have : 0 < 2 ^ b := Nat.two_pow_pos b
  omega
end Ae
namespace Ae
open Go Go.Proofs Go.RowKit
theorem within_any (n h : Int) (w : World) (hn : i64B n) (h0 : 0 ≤ h) (hb : h < 1000000000000) : Calls Tryz.prog 17 #[.int .i64 n, .int .i64 0, .int .i64 h] w fun e w' => (∃ m : Nat, (m : Int) ≤ h ∧ e = .returned (.int .i64 m)) ∧ w = w' := by
  unfold i64B at hn
  have h1 : (h + 1 == 0) = false := by simp; omega
  have hm1 : n.tmod (h + 1) < h + 1 := Int.tmod_lt_of_pos n (by omega)
  have hm2 : -(h + 1) < n.tmod (h + 1) := by
    have := Int.tmod_lt_of_pos (-n) (show 0 < h + 1 by omega)
    rw [Int.neg_tmod] at this; omega
  go_enter Tryz.func17, Tryz.ntmps17
  go_wp2
  · have hq : n.tmod (h + 1) < 0 := by assumption
    go_ret
    refine ⟨⟨(n.tmod (h + 1) + h + 1).toNat, by omega, ret_int (by omega)⟩, rfl⟩
  · have hq : 0 ≤ n.tmod (h + 1) := by assumption
    go_ret
    refine ⟨⟨(n.tmod (h + 1)).toNat, by omega, ret_int (by omega)⟩, rfl⟩
def ArrI (w : World) (p : Option Addr) (zs : List Int) : Prop := 0 < zs.length → ∃ b off, p = some ⟨b, off, none⟩ ∧ b < w.heap.size ∧ ∀ j (h : j < zs.length), w.cell? ⟨b, off + j, none⟩ = some (.int .i64 zs[j])
theorem Raw.below {w w' : World} {p : Option Addr} {n c : Nat} {L : List Nat} (h : Raw w p n c L) (hb : Below w.heap.size w w') : Raw w' p n c L := ⟨h.1, h.2.1, h.2.2.1, h.2.2.2.1, h.2.2.2.2.below hb⟩
theorem own_raw {w : World} {base n : Nat} {v : Value} {l : List Nat} (h : w.ownsRow base 5 1 v n (bv l)) (hl : ∀ x ∈ l, x < 256) (hn : n = l.length) : ∃ p c, v = .slice p n c ∧ Raw w p n c l := by
  obtain ⟨h1, ⟨rfl, h0⟩ | ⟨g, cap, cur, rfl, hb, hg, hnc, hcm, hcs, ht⟩⟩ := h
  · refine ⟨none, 0, by rw [h0], hn.symm, by omega, by decide, hl, fun q => by omega⟩
  · refine ⟨some ⟨g, 0, none⟩, cap, rfl, hn.symm, hnc, by simp only [maxLen] at hcm; omega, hl, fun q => ?_⟩
    have ho : w.ownsRow base 5 1 (.slice (some ⟨g, 0, none⟩) n cap) n (bv l) := ⟨h1, .inr ⟨g, cap, cur, rfl, hb, hg, hnc, hcm, hcs, ht⟩⟩
    obtain ⟨p, c, e, ha⟩ := arrb_own ho hn (by omega)
    cases e
    exact ha q
theorem own_lies {w : World} {base E sz n : Nat} {v : Value} {Ls : List (List Value)} (h : w.ownsRow base E sz v n Ls.flatten) (hn : Ls.length = n) (hL : ∀ l ∈ Ls, l.length = sz) (h1 : 0 < sz) : ∃ p c, v = .slice p n c ∧ Arr w p sz Ls := by
  obtain ⟨hl, ⟨rfl, h0⟩ | ⟨g, cap, cur, rfl, hb, hg, hnc, hcm, hcs, ht⟩⟩ := h
  · exact ⟨none, 0, by rw [h0], fun q => by omega⟩
  · refine ⟨some ⟨g, 0, none⟩, cap, rfl, fun _ => ⟨g, 0, rfl, ?_, fun j x hj q u hq => ?_⟩⟩
    · rcases Nat.lt_or_ge g w.heap.size with a | a
      · exact a
      · rw [Array.getElem?_eq_none a] at hg; cases hg
    · have hx := hL x (List.mem_of_getElem? hj)
      have hq' : q < sz := by
        rcases Nat.lt_or_ge q sz with a | a
        · exact a
        · rw [List.getElem?_eq_none (by omega)] at hq; cases hq
      have hf := flat_get Ls sz hL j q hq'
      rw [hj] at hf
      simp only [Option.bind_some, hq] at hf
      rw [← ht, List.getElem?_take] at hf
      split at hf
      · refine cell_in hg ?_
        rw [Nat.zero_add]
        simpa using hf
      · cases hf
theorem sg_ok (n : Nat) (h : n < 4294967296) : i64B (sgT n) := by have := sg_bound n h; unfold i64B; omega
theorem rd_lt {L : List Nat} (hL : ∀ x ∈ L, x < 256) (p : Nat) : rd L p 4 < 4294967296 ∧ rd L p 8 < 18446744073709551616 := by
  have hz : ∀ j : Nat, (L.drop p)[j]?.getD 0 < 256 := fun j => by
    rcases Nat.lt_or_ge j (L.drop p).length with q | q
    · rw [List.getElem?_eq_getElem q]; exact hL _ (List.mem_of_mem_drop (List.getElem_mem _))
    · rw [List.getElem?_eq_none q]; decide
  exact ⟨unle4_lt hz, unle8_lt hz⟩
theorem stpAt_ok {L : List Nat} (hL : ∀ x ∈ L, x < 256) (i : Nat) : (stpAt L i).ok :=
  ⟨sg_ok _ (rd_lt hL _).1, sg_ok _ (rd_lt hL _).1, sg_ok _ (rd_lt hL _).1, sg_ok _ (rd_lt hL _).1, (rd_lt hL _).2, sg_ok _ (rd_lt hL _).1, (rd_lt hL _).2⟩
theorem rslAt_ok {L : List Nat} (hL : ∀ x ∈ L, x < 256) (i : Nat) : (rslAt L i).ok :=
  ⟨sg_ok _ (rd_lt hL _).1, (rd_lt hL _).2, (rd_lt hL _).2, (rd_lt hL _).2⟩
theorem dec_good {L : List Nat} {B : Nat} {w w' : World} {x : Ending} (h : DecPost L B w x w') (hf : formB L = true) : ∃ p c p' c', x = .returned (.tuple #[.slice p (rd L 12 4) c, .slice p' (rd L 12 4) c', Value.nilIface]) ∧ Below B w w' ∧ Arr w' p 7 ((stpsL L (rd L 12 4)).map Stp.cells) ∧ Arr w' p' 4 ((rslsL L (rd L 12 4)).map Rsl.cells) := by
  obtain ⟨hb, ⟨h0, _⟩ | ⟨_, vs, vr, he, ho, ho'⟩⟩ := h
  · rw [hf] at h0; cases h0
  · obtain ⟨p, c, rfl, ha⟩ := own_lies ho (by simp [stpsL]) (stp_lens _) (by decide)
    obtain ⟨p', c', rfl, ha'⟩ := own_lies ho' (by simp [rslsL]) (rsl_lens _) (by decide)
    exact ⟨p, c, p', c', he, hb, ha, ha'⟩
theorem dec_bad {L : List Nat} {B : Nat} {w w' : World} {x : Ending} (h : DecPost L B w x w') (hf : formB L = false) : Below B w w' ∧ ∃ g, x = .returned (.tuple #[.slice none 0 0, .slice none 0 0, .iface 106 (.pointer (some ⟨g, 0, none⟩))]) := by
  obtain ⟨hb, ⟨_, h0⟩ | ⟨h0, _⟩⟩ := h
  · exact ⟨hb, h0⟩
  · rw [hf] at h0; cases h0
end Ae
namespace Ae
open Go Go.Proofs Go.RowKit
theorem own_frozen {w : World} {base E sz n c g : Nat} {xs : List Value} (h : w.ownsRow base E sz (.slice (some ⟨g, 0, none⟩) n c) n xs) (o : Nat) : w.frozen? ⟨g, o, none⟩ = false := by
  obtain ⟨_, h | ⟨g1, cap, cur, e, _, hg, _⟩⟩ := h
  · cases h.1
  · cases e
    simp [World.frozen?, hg]
theorem arrb_news {w : World} {g : Nat} {X : List Nat} (h : ArrB w (some ⟨g, 0, none⟩) X) : ∀ (j : Nat) (u : Value), (bv X)[j]? = some u → w.cell? ((⟨g, 0, none⟩ : Addr).add j) = some u := fun j u hu => by
  have hj : j < X.length := by
    rcases Nat.lt_or_ge j X.length with q | q
    · exact q
    · rw [List.getElem?_eq_none (by rw [bv_length]; exact q)] at hu; cases hu
  obtain ⟨b, off, e, _, hc⟩ := h (by omega)
  cases e
  rw [add_plain, hc j hj]
  simp [bv, List.getElem?_eq_getElem hj] at hu
  rw [← hu]
theorem encL_lt (ss : List Stp) (rs : List Rsl) : ∀ x ∈ encL ss rs, x < 256 := lt_app (bodyL_lt ss rs) (leS_lt _ _)
theorem bv_set (l : List Nat) (i y : Nat) : bv (l.set i y) = (bv l).set i (.int .u8 (y : Nat)) := by simp [bv, List.map_set]
theorem xor_turn (x b : Nat) (hx : x < 256) (hb : b < 8) : ∃ y : Nat, y < 256 ∧ y ≠ x ∧ bits .xor .u8 (x : Int) (2 ^ b % 256) = (y : Int) := by
  have hp : 2 ^ b < 256 := by have : 2 ^ b < 2 ^ 8 := Nat.pow_lt_pow_right (by decide) hb; exact this
  refine ⟨x ^^^ 2 ^ b, Nat.xor_lt_two_pow (n := 8) hx hp, turn_ne x b, ?_⟩
  have e : ((2 : Int) ^ b % 256) = ((2 ^ b : Nat) : Int) := by
    have h2 : ((2 : Int) ^ b) = ((2 ^ b : Nat) : Int) := by rw [Int.natCast_pow]; rfl
    rw [h2]; exact Int.emod_eq_of_lt (Int.natCast_nonneg _) (Int.ofNat_lt.2 hp)
  rw [e]
  have ha' : x % 2 ^ IntKind.u8.bits = x := Nat.mod_eq_of_lt hx
  have hb' : 2 ^ b % 2 ^ IntKind.u8.bits = 2 ^ b := Nat.mod_eq_of_lt hp
  simp only [bits, BitVec.ofInt_natCast, BitVec.toNat_xor, BitVec.toNat_ofNat, ha', hb']
  have hw : ∀ n : Nat, n < 256 → IntKind.u8.wrap (n : Int) = n := fun n h => by
    have : IntKind.u8.wrap (n : Int) = (n : Int) % 256 := by simp [IntKind.wrap, IntKind.bits, IntKind.signed]
    rw [this]; omega
  exact hw _ (Nat.xor_lt_two_pow (n := 8) hx hp)
theorem raw_less {w : World} {p : Option Addr} {n c : Nat} {X : List Nat} (h : Raw w p n c X) : Raw w p (n - 1) c (X.take (n - 1)) := by
  obtain ⟨h1, h2, h3, h4, h5⟩ := h
  refine ⟨by rw [List.length_take]; omega, by omega, h3, fun x hx => h4 x (List.mem_of_mem_take hx), fun q => ?_⟩
  rw [List.length_take] at q
  obtain ⟨b, off, e, hl, hc⟩ := h5 (by omega)
  refine ⟨b, off, e, hl, fun j hj => ?_⟩
  rw [List.length_take] at hj
  rw [hc j (by omega), List.getElem_take]
section
variable {Good : World → Prop} (hg : ∀ w w', Good w → Below w.heap.size w w' → Good w') (known : ∀ w, Good w → Calls Tryz.prog 6 #[] w fun e w' => e = .returned (.bool true) ∧ KP w w')
include hg known
set_option maxHeartbeats 8000000 in
set_option maxRecDepth 100000 in
theorem traceBack_any (p p' pr pb : Option Addr) (len cap len' cap' nr cr nb cb : Nat) (ss : List Stp) (rs : List Rsl) (L : List Nat) (zs : List Int) (w : World) (h1 : ss.length = len) (h2 : rs.length = len') (hgood : Good w) (hs : Arr w p 7 (ss.map Stp.cells)) (hs' : Arr w p' 4 (rs.map Rsl.cells)) (hok : ∀ x ∈ ss, x.ok) (hok' : ∀ x ∈ rs, x.ok) (hb1 : len < 9223372036854775807) (hb2 : len' < 9223372036854775807) (hraw : Raw w pr nr cr L) (hzl : zs.length = nb) (hz : ArrI w pb zs) (hzo : ∀ z ∈ zs, i64B z) (hb3 : nb < 9223372036854775807) :
    Calls Tryz.prog 4 #[.slice p len cap, .slice p' len' cap', .slice pr nr cr, .slice pb nb cb] w fun e w' => e = .returned (.bool true) ∧ KP w w' := by
  have HK := Lib.hid known
  have HG := Lib.hid hg
  have HGD := Lib.hid hgood
  have HS := Lib.hid hs
  have HS' := Lib.hid hs'
  have H1 := Lib.hid h1
  have H2 := Lib.hid h2
  have HO := Lib.hid hok
  have HO' := Lib.hid hok'
  have HR := Lib.hid hraw
  have HZ := Lib.hid hz
  have HZL := Lib.hid hzl
  have HZO := Lib.hid hzo
  have hnr : nr < 9223372036854775808 := by have := hraw.2.1; have := hraw.2.2.1; omega
  clear known hg hgood hs hs' h1 h2 hok hok' hraw hz hzl hzo
  go_enter Tryz.func4, Tryz.ntmps4
  by_cases q1 : 2000 < len
  · go_wp2_with fail
    refine (HK.out w HGD.out).mono ?_
    rintro e w1 ⟨rfl, hk⟩
    go_wp2
    go_ret
    exact ⟨rfl, hk⟩
  by_cases q2 : 2000 < len'
  · go_wp2_with fail
    refine (HK.out w HGD.out).mono ?_
    rintro e w1 ⟨rfl, hk⟩
    go_wp2
    go_ret
    exact ⟨rfl, hk⟩
  by_cases q3 : 200000 < nr
  · go_wp2_with fail
    refine (HK.out w HGD.out).mono ?_
    rintro e w1 ⟨rfl, hk⟩
    go_wp2
    go_ret
    exact ⟨rfl, hk⟩
  go_wp2_with fail
  refine (encode_any p p' len cap len' cap' ss rs w H1.out H2.out hb1 HS.out HS'.out HO.out HO'.out).mono ?_
  rintro e w1 ⟨v, rfl, hbw, ⟨hne, rfl⟩ | ⟨he0, g, c, rfl, ho⟩⟩
  · have hq : (encN ss rs != 0) = true := by simpa using hne
    have HB := Lib.hid hbw
    clear hbw hne
    go_wp2_with fail
    refine wp_loop_rounds 1 ?_
    rw [rounds_succ]
    go_wp2_with fail
    all_goals
      refine (decode_any pr nr cr L _ (HR.out.below HB.out)).mono ?_
      intro e wd hdec
      cases hf : formB L with
      | false =>
        obtain ⟨hbd, gd, rfl⟩ := dec_bad hdec hf
        have HBD : Hid (Below w.heap.size w wd) := Lib.hid (HB.out.trans (hbd.mono HB.out.size))
        clear hdec hbd hf
        go_wp2_with fail
        refine (HK.out wd (HG.out w wd HGD.out HBD.out)).mono ?_
        rintro e w1 ⟨rfl, hk⟩
        go_wp2
        go_ret
        exact ⟨rfl, KP.after HBD.out hk⟩
      | true =>
        obtain ⟨pp, cc, pp', cc', rfl, hbd, ha, ha'⟩ := dec_good hdec hf
        obtain ⟨b0, b1⟩ := back_raw HR.out.2.2.2.1 hf
        have HBD : Hid (Below w.heap.size w wd) := Lib.hid (HB.out.trans (hbd.mono HB.out.size))
        have HE2 := Lib.hid (encode_any pp pp' (rd L 12 4) cc (rd L 12 4) cc' (stpsL L (rd L 12 4)) (rslsL L (rd L 12 4)) wd (by simp [stpsL]) (by simp [rslsL]) (by have := (formB_parts hf).2.2.2.2.1; omega) ha ha' (fun x hx => by simp only [stpsL, List.mem_map] at hx; obtain ⟨k, _, rfl⟩ := hx; exact stpAt_ok HR.out.2.2.2.1 k) (fun x hx => by simp only [rslsL, List.mem_map] at hx; obtain ⟨k, _, rfl⟩ := hx; exact rslAt_ok HR.out.2.2.2.1 k))
        have HB0 := Lib.hid b0
        have HB1 := Lib.hid b1
        clear hdec hbd hf ha ha' b0 b1
        generalize rd L 12 4 = cn at *
        go_wp2_with fail
        refine HE2.out.mono ?_
        rintro e we ⟨v9, rfl, hbe, ⟨hne, _⟩ | ⟨hz0, g9, c9, rfl, ho9⟩⟩
        · exact absurd HB0.out hne
        rw [hz0]
        have HBE : Hid (Below w.heap.size w we) := Lib.hid (HBD.out.trans (hbe.mono HBD.out.size))
        rw [HB1.out] at ho9
        have hln : (encL (stpsL L cn) (rslsL L cn)).length = nr := by rw [HB1.out]; exact HR.out.1
        rw [hln]
        rw [HR.out.1] at ho9
        have hRE := HR.out.below HBE.out
        obtain ⟨p9, cq, hpe, harr9⟩ := own_raw ho9 HR.out.2.2.2.1 HR.out.1.symm
        cases hpe
        have HSM := Lib.hid (same_u8_refl _ pr nr c9 cr L we HR.out.1 (by omega) harr9.2.2.2.2 hRE.2.2.2.2)
        clear ho9 hln hbe hz0 hRE harr9 HE2 HB0 HB1
        go_wp2_with fail
        refine HSM.out.mono ?_
        rintro e w5 ⟨rfl, z, rfl⟩
        have HB5 : Hid (Below w.heap.size w (we.drewN z)) := Lib.hid (below_drewN HBE.out z)
        go_wp2_with fail
        refine (HK.out _ (HG.out w _ HGD.out HB5.out)).mono ?_
        rintro e w1 ⟨rfl, hk⟩
        go_wp2
        go_ret
        exact ⟨rfl, KP.after HB5.out hk⟩
  · rw [he0]
    have HE := Lib.hid he0
    have hlt := encL_lt ss rs
    obtain ⟨f1, f2, f3, f4⟩ := enc_back he0 HO.out HO'.out
    obtain ⟨hl1, hl2⟩ := enc_len ss rs (encN_zero he0).1
    generalize hX : encL ss rs = X at *
    generalize hn : X.length = n at *
    obtain ⟨pX, cX, hpe, hraw⟩ := own_raw ho hlt hn.symm
    cases hpe
    have hn0 : 0 < n := by omega
    have hnb : n ≤ 200000 := by have := H1.out; omega
    have HB := Lib.hid hbw
    have HRB := Lib.hid hraw
    have HXL := Lib.hid hlt
    have HF := Lib.hid f1
    have hdg : Calls Tryz.prog 14 #[.slice (some ⟨g, 0, none⟩) n c] w1 fun x w' => ∃ p c p' c', x = .returned (.tuple #[.slice p len c, .slice p' len' c', Value.nilIface]) ∧ Below w1.heap.size w1 w' ∧ Arr w' p 7 (ss.map Stp.cells) ∧ Arr w' p' 4 (rs.map Rsl.cells) := by
      refine (decode_any (some ⟨g, 0, none⟩) n c X w1 hraw).mono ?_
      intro x w' hd
      obtain ⟨p1, c1, p2, c2, hx, hb, ha, ha'⟩ := dec_good hd f1
      rw [f2, f3] at ha
      rw [f2, f4] at ha'
      rw [f2, H1.out] at hx
      have hll : len' = len := by have := (encN_zero he0).1; have := H1.out; have := H2.out; omega
      exact ⟨p1, c1, p2, c2, by rw [hll]; exact hx, hb, ha, ha'⟩
    have HDG := Lib.hid hdg
    clear he0 ho hbw hraw hlt f1 f2 f3 f4 hl1 hl2 hX hn hdg
    go_wp2_with fail
    refine HDG.out.mono ?_
    rintro e w2 ⟨p1, c1, p2, c2, rfl, hb2, ha, ha'⟩
    have HB2 : Hid (Below w.heap.size w w2) := Lib.hid (HB.out.trans (hb2.mono HB.out.size))
    have HRB2 := Lib.hid (HRB.out.below hb2)
    have HA := Lib.hid ha
    have HA' := Lib.hid ha'
    clear hb2 ha ha' HDG
    have HS1 := Lib.hid (same_stp p1 p len c1 len cap ss ss w2 H1.out H1.out (by omega) HA.out (HS.out.below HB2.out))
    go_wp2_with fail
    refine HS1.out.mono ?_
    rintro e w3 ⟨⟨f, rfl, hf⟩, z, rfl⟩
    obtain rfl : f = true := (by first | exact hf.2 rfl | exact hf.2 trivial)
    have hbz : Below w2.heap.size w2 (w2.drewN z) := below_drewN (Below.refl _ _) z
    have HS2 := Lib.hid (same_rsl p2 p' len' c2 len' cap' rs rs (w2.drewN z) H2.out H2.out (by omega) (HA'.out.below hbz) (HS'.out.below (HB2.out.trans (hbz.mono HB2.out.size))))
    clear hf hbz
    go_wp2_with fail
    refine HS2.out.mono ?_
    rintro e w4 ⟨⟨f, rfl, hf⟩, z2, rfl⟩
    obtain rfl : f = true := (by first | exact hf.2 rfl | exact hf.2 trivial)
    have hbz : Below w2.heap.size w2 ((w2.drewN z).drewN z2) := below_drewN (below_drewN (Below.refl _ _) z) z2
    have HB4 : Hid (Below w.heap.size w ((w2.drewN z).drewN z2)) := Lib.hid (HB2.out.trans (hbz.mono HB2.out.size))
    have HRB4 := Lib.hid (HRB2.out.below hbz)
    clear hf hbz HS1 HS2 HA HA' HRB HRB2 HB2
    generalize (w2.drewN z).drewN z2 = w5 at *
    go_wp2_with fail
    go_loopw [14] (fun v wr => ∃ k : Nat, k ≤ 20 ∧ v = .int .i64 k ∧ Below w.heap.size w wr ∧ Raw wr (some ⟨g, 0, none⟩) n c X) (fun v _ => 20 - (intOf v).toNat)
    case atStart => exact ⟨0, by omega, rfl, HB4.out, HRB4.out⟩
    case round =>
      clear HB4 HRB4
      obtain ⟨k, hk, rfl, hbw, hrb⟩ := hrel
      have HBW := Lib.hid hbw
      have HRB := Lib.hid hrb
      clear hbw hrb
      have hnI : (0 : Int) < (n : Int) := by omega
      by_cases hk2 : k < 20 ∧ k < nb
      · obtain ⟨hk20, hknb⟩ := hk2
        obtain ⟨bz, oz, rfl, hbz0, hcz⟩ := HZ.out (by have := HZL.out; omega)
        have g0 := hcz k (by have := HZL.out; omega)
        have hzok := HZO.out _ (List.getElem_mem (show k < zs.length by have := HZL.out; omega))
        generalize zs[k]'(by have := HZL.out; omega) = zk at g0 hzok
        have g1 : wr.cell? ⟨bz, oz + k, none⟩ = some (.int .i64 zk) := (HBW.out.cell (p := ⟨bz, oz + k, none⟩) hbz0).trans g0
        clear hcz g0
        have hk1 : (k : Int) < (nb : Int) := by omega
        have hk0 : (0 : Int) ≤ (k : Int) := by omega
        go_wp2_with fail
        refine (within_any zk _ _ hzok (by omega) (by omega)).mono ?_
        rintro e w6 ⟨⟨m, hm, rfl⟩, rfl⟩
        clear g1
        obtain ⟨i0, hi, hz0, hz1, hz2⟩ := info_parts info5
        have hm8 : m / 8 < n := by omega
        have HM8 := Lib.hid hm8
        have hmi : ((m : Nat) : Int) / 8 < (n : Int) := by omega
        have hmi0 : (0 : Int) ≤ ((m : Nat) : Int) / 8 := by omega
        have hmade := World.ownsRow_made (base := wr.heap.size) (e := 5) (size := 1) wr #[] 0 (Nat.le_refl _) (by simp [maxLen]) rfl
        have NEWS := Lib.hid (arrb_news ((HRB.out.below ((Below.refl _ _).alloc (Nat.le_refl _) (.cells #[] 5))).2.2.2.2))
        go_wp2_with (first
          | (refine wpList_append_own _ rfl (.tmp 96) (.tmp 97) 33 rfl wr.heap.size 5 i0 (.int .u8 0) 1 1 Tryz.underlying33 hi hz0 hz1 hz2 rfl (by omega) _ 0 [] rfl hmade
              ⟨g, 0, none⟩ n c (bv X) rfl (by rw [bv_length, HRB.out.1]; omega) NEWS.out (bv_one _) (by simp [maxLen]; omega) (by omega) (by simp) ?_; intro v2 w2 hown2 hgrow2 _; rw [Nat.zero_add, List.nil_append] at hown2; obtain ⟨g2, c2, rfl⟩ := own_slice hown2 hn0; have HG2 := Lib.hid hgrow2; have HO2 := Lib.hid hown2; have hcm : w2.cell? ⟨g2, m / 8, none⟩ = some (.int .u8 (X[m / 8]?.getD 0 : Nat)) := (by have hc := row_at hown2 HRB.out.1.symm (m / 8) HM8.out; rwa [Nat.zero_add] at hc); have hfm : w2.frozen? ⟨g2, m / 8, none⟩ = false := (own_frozen hown2 _); clear hown2 hgrow2 hmade)
          | fail)
        have hxl : m / 8 < X.length := by rw [HRB.out.1]; exact hm8
        have hxq : X[m / 8]?.getD 0 = X[m / 8] := by rw [List.getElem?_eq_getElem hxl]; rfl
        obtain ⟨y, hy, hyne, hbits⟩ := xor_turn (X[m / 8]?.getD 0) (m % 8) (by rw [hxq]; exact HXL.out _ (List.getElem_mem hxl)) (by omega)
        rw [hbits]
        obtain ⟨ho3, hg3⟩ := HO2.out.stored (m / 8) (.int .u8 y)
        rw [← bv_set] at ho3
        obtain ⟨p3, c3, hpe, hraw3⟩ := own_raw ho3 (fun x hx => by
          rcases List.mem_or_eq_of_mem_set hx with q | q
          · exact HXL.out x q
          · rw [q]; exact hy) (by rw [List.length_set, HRB.out.1])
        cases hpe
        have HDB := Lib.hid (decode_any _ _ _ _ _ hraw3)
        have HG3 := Lib.hid hg3
        clear hraw3 ho3 hg3
        refine HDB.out.mono ?_
        rintro e w7 hd
        obtain ⟨hb7, gq, rfl⟩ := dec_bad hd (form_turned HXL.out HF.out (m / 8) y hxl hy (by rw [hxq] at hyne; exact hyne))
        have HB7 := Lib.hid hb7
        clear hd hb7 HDB
        go_wp2_with fail
        have hbb : Below wr.heap.size wr w7 := by
          have a1 := (Below.refl wr.heap.size wr).alloc (Nat.le_refl _) (.cells #[] 5)
          have a2 := a1.grown HG2.out a1.size (by rintro _ ⟨⟩; exact Nat.le_refl _)
          have a3 := a2.grown HG3.out a2.size (by
            rintro _ ⟨⟩
            rcases HO2.out.2 with ⟨h', _⟩ | ⟨g', cap', cur, h', hb, _⟩
            · cases h'
            · cases h'; exact hb)
          exact a3.trans (HB7.out.mono a3.size)
        refine ⟨⟨k + 1, by omega, by go_num, HBW.out.trans (hbb.mono HBW.out.size), HRB.out.below hbb⟩, by simp [intOf]; omega⟩
      · have hmade := World.ownsRow_made (base := wr.heap.size) (e := 5) (size := 1) wr #[] 0 (Nat.le_refl _) (by simp [maxLen]) rfl
        obtain ⟨i0, hi, hz0, hz1, hz2⟩ := info_parts info5
        have NEWS := Lib.hid (arrb_news ((HRB.out.below ((Below.refl _ _).alloc (Nat.le_refl _) (.cells #[] 5))).2.2.2.2))
        have hkc : ¬ ((k : Int) < 20) ∨ ¬ ((k : Int) < (nb : Int)) := by omega
        rcases hkc with hkc | hkc
        all_goals go_wp2_with (first
          | (refine wpList_append_own _ rfl (.tmp 135) (.tmp 136) 33 rfl wr.heap.size 5 i0 (.int .u8 0) 1 1 Tryz.underlying33 hi hz0 hz1 hz2 rfl (by omega) _ 0 [] rfl hmade
              ⟨g, 0, none⟩ n c (bv X) rfl (by rw [bv_length, HRB.out.1]; omega) NEWS.out (bv_one _) (by simp [maxLen]; omega) (by omega) (by simp) ?_; intro v2 w2 hown2 hgrow2 _; rw [Nat.zero_add, List.nil_append] at hown2; obtain ⟨g2, c2, rfl⟩ := own_slice hown2 hn0; have HG2 := Lib.hid hgrow2; have HO2 := Lib.hid hown2; clear hown2 hgrow2 hmade)
          | (refine wpList_append_own _ rfl (.tmp 137) (.tmp 138) 33 rfl wr.heap.size 5 i0 (.int .u8 0) 1 1 Tryz.underlying33 hi hz0 hz1 hz2 rfl (by omega) _ n (bv X) rfl (HO2.out.alloc _)
              ⟨_, 0, none⟩ 1 1 (bv [0]) rfl (by simp [bv]) (World.news_of_block (heap_alloc_new _ _)) (bv_one _) (by simp [maxLen]; omega) (by omega) (by have := HG2.out.size; simp at this ⊢; omega) ?_; intro v3 w3 hown3 hgrow3 _; rw [← bv_app] at hown3; obtain ⟨g3, c3, rfl⟩ := own_slice hown3 (by omega); have HG3 := Lib.hid hgrow3; have HO3 := Lib.hid hown3; clear hown3 hgrow3)
          | fail)
        all_goals
          have hb3 : Below wr.heap.size wr w3 := by
            have a1 := (Below.refl wr.heap.size wr).alloc (Nat.le_refl _) (.cells #[] 5)
            have a2 := a1.grown HG2.out a1.size (by rintro _ ⟨⟩; exact Nat.le_refl _)
            have a3 := a2.alloc a2.size (.cells #[.int .u8 0] 5)
            exact a3.grown HG3.out a3.size (by
              rintro _ ⟨⟩
              rcases HO2.out.2 with ⟨h', _⟩ | ⟨g', cap', cur, h', hb, _⟩
              · cases h'
              · cases h'; exact hb)
          obtain ⟨p3, cc3, hpe, hraw3⟩ := own_raw HO3.out (fun x hx => by
            rcases List.mem_append.1 hx with q | q
            · exact HXL.out x q
            · simp at q; omega) (by simp [HRB.out.1])
          cases hpe
          refine (decode_any _ _ _ _ _ hraw3).mono ?_
          rintro e w7 hd
          obtain ⟨hb7, gq, rfl⟩ := dec_bad hd (form_more HF.out 0)
          have HB7 : Hid (Below wr.heap.size wr w7) := Lib.hid (hb3.trans (hb7.mono hb3.size))
          have HRB7 := Lib.hid (HRB.out.below HB7.out)
          have HDD := Lib.hid (decode_any _ _ _ _ _ (raw_less HRB7.out))
          clear hd hb7 hraw3 hb3
          have hs1 : (1 : Int) ≤ (n : Int) := by omega
          have hs2 : (n : Int) - 1 ≤ (c : Int) := by have := HRB.out.2.1; omega
          go_wp2_with fail
          refine HDD.out.mono ?_
          rintro e w8 hd
          obtain ⟨hb8, gr, rfl⟩ := dec_bad hd (by have h9 := form_less HF.out; rwa [HRB.out.1] at h9)
          have HB8 : Hid (Below w.heap.size w w8) := Lib.hid (HBW.out.trans ((HB7.out.trans (hb8.mono HB7.out.size)).mono HBW.out.size))
          clear hd hb8 HDD HB7 HRB7 HRB HBW HO2 HO3 HG2 HG3 NEWS HF HXL
          go_wp2_with fail
          refine (decode_any pr nr cr L _ (HR.out.below HB8.out)).mono ?_
          intro e wd hdec
          cases hf : formB L with
          | false =>
            obtain ⟨hbd, gd, rfl⟩ := dec_bad hdec hf
            have HBD : Hid (Below w.heap.size w wd) := Lib.hid (HB8.out.trans (hbd.mono HB8.out.size))
            clear hdec hbd hf
            go_wp2_with fail
            refine (HK.out wd (HG.out w wd HGD.out HBD.out)).mono ?_
            rintro e w1 ⟨rfl, hk⟩
            go_wp2
            go_ret
            exact ⟨rfl, KP.after HBD.out hk⟩
          | true =>
            obtain ⟨pp, cc, pp', cc', rfl, hbd, ha, ha'⟩ := dec_good hdec hf
            obtain ⟨b0, b1⟩ := back_raw HR.out.2.2.2.1 hf
            have HBD : Hid (Below w.heap.size w wd) := Lib.hid (HB8.out.trans (hbd.mono HB8.out.size))
            have HE2 := Lib.hid (encode_any pp pp' (rd L 12 4) cc (rd L 12 4) cc' (stpsL L (rd L 12 4)) (rslsL L (rd L 12 4)) wd (by simp [stpsL]) (by simp [rslsL]) (by have := (formB_parts hf).2.2.2.2.1; omega) ha ha' (fun x hx => by simp only [stpsL, List.mem_map] at hx; obtain ⟨k, _, rfl⟩ := hx; exact stpAt_ok HR.out.2.2.2.1 k) (fun x hx => by simp only [rslsL, List.mem_map] at hx; obtain ⟨k, _, rfl⟩ := hx; exact rslAt_ok HR.out.2.2.2.1 k))
            have HB0 := Lib.hid b0
            have HB1 := Lib.hid b1
            clear hdec hbd hf ha ha' b0 b1
            generalize rd L 12 4 = cn at *
            go_wp2_with fail
            refine HE2.out.mono ?_
            rintro e we ⟨v9, rfl, hbe, ⟨hne, _⟩ | ⟨hz0, g9, c9, rfl, ho9⟩⟩
            · exact absurd HB0.out hne
            rw [hz0]
            have HBE : Hid (Below w.heap.size w we) := Lib.hid (HBD.out.trans (hbe.mono HBD.out.size))
            rw [HB1.out] at ho9
            have hln : (encL (stpsL L cn) (rslsL L cn)).length = nr := by rw [HB1.out]; exact HR.out.1
            rw [hln]
            rw [HR.out.1] at ho9
            have hRE := HR.out.below HBE.out
            obtain ⟨p9, cq, hpe, harr9⟩ := own_raw ho9 HR.out.2.2.2.1 HR.out.1.symm
            cases hpe
            have HSM := Lib.hid (same_u8_refl _ pr nr c9 cr L we HR.out.1 (by omega) harr9.2.2.2.2 hRE.2.2.2.2)
            clear ho9 hln hbe hz0 hRE harr9 HE2 HB0 HB1
            go_wp2_with fail
            refine HSM.out.mono ?_
            rintro e w5 ⟨rfl, z, rfl⟩
            have HB5 : Hid (Below w.heap.size w (we.drewN z)) := Lib.hid (below_drewN HBE.out z)
            go_wp2_with fail
            refine (HK.out _ (HG.out w _ HGD.out HB5.out)).mono ?_
            rintro e w1 ⟨rfl, hk⟩
            go_wp2
            go_ret
            exact ⟨rfl, KP.after HB5.out hk⟩
end
end Ae
