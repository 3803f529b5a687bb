/- The walk of word.More, part 1. -/
import Derived.Test.YtafpilamlkhgkaaGreatDoorProg
import Derived.WalkKit
import Derived.WalkSpells
import Derived.WalkLawsBesides
import Derived.Lib.Hide
set_option linter.all false
namespace Ae
open Go Go.Proofs Go.RowKit
def tabA (k : Nat) : Array Value := match k with
  | 0 => #[.int .u32 0, .int .u32 0, .int .u32 0, .int .u32 0, .int .u32 0, .int .u32 0, .int .u32 0, .int .u32 0, .int .u32 0, .int .u32 0, .int .u32 0, .int .u32 0, .int .u32 0, .int .u32 0, .int .u32 0, .int .u32 0]
  | 1 => #[.int .u32 0, .int .u32 0, .int .u32 0, .int .u32 0, .int .u32 0, .int .u32 0, .int .u32 0, .int .u32 0, .int .u32 0, .int .u32 0, .int .u32 0, .int .u32 0, .int .u32 0, .int .u32 0, .int .u32 0, .int .u32 0]
  | 2 => #[.int .u32 0, .int .u32 274646895, .int .u32 0, .int .u32 0, .int .u32 0, .int .u32 0, .int .u32 0, .int .u32 0, .int .u32 0, .int .u32 0, .int .u32 0, .int .u32 0, .int .u32 0, .int .u32 0, .int .u32 0, .int .u32 0]
  | 3 => #[.int .u32 0, .int .u32 274646895, .int .u32 549293790, .int .u32 0, .int .u32 0, .int .u32 0, .int .u32 0, .int .u32 0, .int .u32 0, .int .u32 0, .int .u32 0, .int .u32 0, .int .u32 0, .int .u32 0, .int .u32 0, .int .u32 0]
  | 4 => #[.int .u32 0, .int .u32 274646895, .int .u32 549293790, .int .u32 820201905, .int .u32 0, .int .u32 0, .int .u32 0, .int .u32 0, .int .u32 0, .int .u32 0, .int .u32 0, .int .u32 0, .int .u32 0, .int .u32 0, .int .u32 0, .int .u32 0]
  | 5 => #[.int .u32 0, .int .u32 274646895, .int .u32 549293790, .int .u32 820201905, .int .u32 1098587580, .int .u32 0, .int .u32 0, .int .u32 0, .int .u32 0, .int .u32 0, .int .u32 0, .int .u32 0, .int .u32 0, .int .u32 0, .int .u32 0, .int .u32 0]
  | 6 => #[.int .u32 0, .int .u32 274646895, .int .u32 549293790, .int .u32 820201905, .int .u32 1098587580, .int .u32 1361435347, .int .u32 0, .int .u32 0, .int .u32 0, .int .u32 0, .int .u32 0, .int .u32 0, .int .u32 0, .int .u32 0, .int .u32 0, .int .u32 0]
  | 7 => #[.int .u32 0, .int .u32 274646895, .int .u32 549293790, .int .u32 820201905, .int .u32 1098587580, .int .u32 1361435347, .int .u32 1640403810, .int .u32 0, .int .u32 0, .int .u32 0, .int .u32 0, .int .u32 0, .int .u32 0, .int .u32 0, .int .u32 0, .int .u32 0]
  | 8 => #[.int .u32 0, .int .u32 274646895, .int .u32 549293790, .int .u32 820201905, .int .u32 1098587580, .int .u32 1361435347, .int .u32 1640403810, .int .u32 1905808397, .int .u32 0, .int .u32 0, .int .u32 0, .int .u32 0, .int .u32 0, .int .u32 0, .int .u32 0, .int .u32 0]
  | 9 => #[.int .u32 0, .int .u32 274646895, .int .u32 549293790, .int .u32 820201905, .int .u32 1098587580, .int .u32 1361435347, .int .u32 1640403810, .int .u32 1905808397, .int .u32 2197175160, .int .u32 0, .int .u32 0, .int .u32 0, .int .u32 0, .int .u32 0, .int .u32 0, .int .u32 0]
  | 10 => #[.int .u32 0, .int .u32 274646895, .int .u32 549293790, .int .u32 820201905, .int .u32 1098587580, .int .u32 1361435347, .int .u32 1640403810, .int .u32 1905808397, .int .u32 2197175160, .int .u32 2460548119, .int .u32 0, .int .u32 0, .int .u32 0, .int .u32 0, .int .u32 0, .int .u32 0]
  | 11 => #[.int .u32 0, .int .u32 274646895, .int .u32 549293790, .int .u32 820201905, .int .u32 1098587580, .int .u32 1361435347, .int .u32 1640403810, .int .u32 1905808397, .int .u32 2197175160, .int .u32 2460548119, .int .u32 2722870694, .int .u32 0, .int .u32 0, .int .u32 0, .int .u32 0, .int .u32 0]
  | 12 => #[.int .u32 0, .int .u32 274646895, .int .u32 549293790, .int .u32 820201905, .int .u32 1098587580, .int .u32 1361435347, .int .u32 1640403810, .int .u32 1905808397, .int .u32 2197175160, .int .u32 2460548119, .int .u32 2722870694, .int .u32 2987750089, .int .u32 0, .int .u32 0, .int .u32 0, .int .u32 0]
  | 13 => #[.int .u32 0, .int .u32 274646895, .int .u32 549293790, .int .u32 820201905, .int .u32 1098587580, .int .u32 1361435347, .int .u32 1640403810, .int .u32 1905808397, .int .u32 2197175160, .int .u32 2460548119, .int .u32 2722870694, .int .u32 2987750089, .int .u32 3280807620, .int .u32 0, .int .u32 0, .int .u32 0]
  | 14 => #[.int .u32 0, .int .u32 274646895, .int .u32 549293790, .int .u32 820201905, .int .u32 1098587580, .int .u32 1361435347, .int .u32 1640403810, .int .u32 1905808397, .int .u32 2197175160, .int .u32 2460548119, .int .u32 2722870694, .int .u32 2987750089, .int .u32 3280807620, .int .u32 3553878443, .int .u32 0, .int .u32 0]
  | 15 => #[.int .u32 0, .int .u32 274646895, .int .u32 549293790, .int .u32 820201905, .int .u32 1098587580, .int .u32 1361435347, .int .u32 1640403810, .int .u32 1905808397, .int .u32 2197175160, .int .u32 2460548119, .int .u32 2722870694, .int .u32 2987750089, .int .u32 3280807620, .int .u32 3553878443, .int .u32 3811616794, .int .u32 0]
  | _ => #[.int .u32 0, .int .u32 274646895, .int .u32 549293790, .int .u32 820201905, .int .u32 1098587580, .int .u32 1361435347, .int .u32 1640403810, .int .u32 1905808397, .int .u32 2197175160, .int .u32 2460548119, .int .u32 2722870694, .int .u32 2987750089, .int .u32 3280807620, .int .u32 3553878443, .int .u32 3811616794, .int .u32 4084100981]
def itN (x : Int) : Nat → Int
  | 0 => x
  | q + 1 => bits .xor .u32 (itN x q / 2) (bits .and .u32 2197175160 (-bits .and .u32 (itN x q) 1 % 4294967296))
theorem it_0 : itN 0 4 = 0 := by decide
theorem it_1 : itN 1 4 = 274646895 := by decide
theorem it_2 : itN 2 4 = 549293790 := by decide
theorem it_3 : itN 3 4 = 820201905 := by decide
theorem it_4 : itN 4 4 = 1098587580 := by decide
theorem it_5 : itN 5 4 = 1361435347 := by decide
theorem it_6 : itN 6 4 = 1640403810 := by decide
theorem it_7 : itN 7 4 = 1905808397 := by decide
theorem it_8 : itN 8 4 = 2197175160 := by decide
theorem it_9 : itN 9 4 = 2460548119 := by decide
theorem it_10 : itN 10 4 = 2722870694 := by decide
theorem it_11 : itN 11 4 = 2987750089 := by decide
theorem it_12 : itN 12 4 = 3280807620 := by decide
theorem it_13 : itN 13 4 = 3553878443 := by decide
theorem it_14 : itN 14 4 = 3811616794 := by decide
theorem it_15 : itN 15 4 = 4084100981 := by decide
def tabN (i : Nat) : Nat := match i with
  | 0 => 0
  | 1 => 274646895
  | 2 => 549293790
  | 3 => 820201905
  | 4 => 1098587580
  | 5 => 1361435347
  | 6 => 1640403810
  | 7 => 1905808397
  | 8 => 2197175160
  | 9 => 2460548119
  | 10 => 2722870694
  | 11 => 2987750089
  | 12 => 3280807620
  | 13 => 3553878443
  | 14 => 3811616794
  | 15 => 4084100981
  | _ => 0
theorem cell_new (w : World) (cs : Array Value) (E : Nat) {j : Nat} {v : Value} (h : cs[j]? = some v) : (w.alloc (.cells cs E)).cell? ⟨w.heap.size, j, none⟩ = some v := by
  rw [World.cell?_alloc_new]; exact h
def crcB (r z : Nat) : Nat := ((((r ^^^ z) / 16) ^^^ tabN ((r ^^^ z) &&& 15)) / 16) ^^^ tabN ((((r ^^^ z) / 16) ^^^ tabN ((r ^^^ z) &&& 15)) &&& 15)
def crcN (zs : List Nat) (r : Nat) : Nat → Nat
  | 0 => r
  | k + 1 => crcB (crcN zs r k) (zs[k]?.getD 0)
theorem tabN_lt (i : Nat) : tabN i < 4294967296 := by
  unfold tabN
  split <;> decide
theorem wrap_u32' (n : Nat) (h : n < 4294967296) : IntKind.u32.wrap (n : Int) = n := by
  have : IntKind.u32.wrap (n : Int) = (n : Int) % 4294967296 := by simp [IntKind.wrap, IntKind.bits, IntKind.signed]
  rw [this]; omega
theorem xor_u32 (a b : Nat) (ha : a < 4294967296) (hb : b < 4294967296) : bits .xor .u32 (a : Int) (b : Int) = ((a ^^^ b : Nat) : Int) := by
  have ha' : a % 2 ^ IntKind.u32.bits = a := Nat.mod_eq_of_lt ha
  have hb' : b % 2 ^ IntKind.u32.bits = b := Nat.mod_eq_of_lt hb
  simp only [bits, BitVec.ofInt_natCast, BitVec.toNat_xor, BitVec.toNat_ofNat, ha', hb']
  exact wrap_u32' _ (Nat.xor_lt_two_pow (n := 32) ha hb)
theorem and_u32 (a b : Nat) (ha : a < 4294967296) (hb : b < 4294967296) : bits .and .u32 (a : Int) (b : Int) = ((a &&& b : Nat) : Int) := by
  have ha' : a % 2 ^ IntKind.u32.bits = a := Nat.mod_eq_of_lt ha
  have hb' : b % 2 ^ IntKind.u32.bits = b := Nat.mod_eq_of_lt hb
  simp only [bits, BitVec.ofInt_natCast, BitVec.toNat_and, BitVec.toNat_ofNat, ha', hb']
  exact wrap_u32' _ (Nat.and_lt_two_pow (n := 32) _ hb)
theorem crcB_lt {r z : Nat} (hr : r < 4294967296) (hz : z < 256) : crcB r z < 4294967296 := by
  unfold crcB
  have h1 : r ^^^ z < 4294967296 := Nat.xor_lt_two_pow (n := 32) hr (by omega)
  have h2 : ((r ^^^ z) / 16) ^^^ tabN ((r ^^^ z) &&& 15) < 4294967296 := Nat.xor_lt_two_pow (n := 32) (by omega) (tabN_lt _)
  exact Nat.xor_lt_two_pow (n := 32) (by omega) (tabN_lt _)
theorem crcN_lt {zs : List Nat} (hz : ∀ j : Nat, zs[j]?.getD 0 < 256) {r : Nat} (hr : r < 4294967296) : ∀ k, crcN zs r k < 4294967296
  | 0 => hr
  | k + 1 => crcB_lt (crcN_lt hz hr k) (hz k)
theorem round_nums {r z : Nat} (hr : r < 4294967296) (hz : z < 256) : ∃ y1 i1 q1 y2 i2 q2 : Nat, ((z : Nat) : Int) % 4294967296 = z ∧ bits .xor .u32 (r : Int) (z : Int) = (y1 : Int) ∧ bits .and .u32 (y1 : Int) 15 = (i1 : Int) ∧ i1 < 16 ∧ (y1 : Int) / 16 = (q1 : Int) ∧ bits .xor .u32 (q1 : Int) (tabN i1 : Nat) = (y2 : Int) ∧
    bits .and .u32 (y2 : Int) 15 = (i2 : Int) ∧ i2 < 16 ∧ (y2 : Int) / 16 = (q2 : Int) ∧ bits .xor .u32 (q2 : Int) (tabN i2 : Nat) = ((crcB r z : Nat) : Int) := by
  have h1 : r ^^^ z < 4294967296 := Nat.xor_lt_two_pow (n := 32) hr (by omega)
  have h2 : ((r ^^^ z) / 16) ^^^ tabN ((r ^^^ z) &&& 15) < 4294967296 := Nat.xor_lt_two_pow (n := 32) (by omega) (tabN_lt _)
  have m : ∀ x : Nat, x &&& 15 < 16 := fun x => by rw [show (15 : Nat) = 2 ^ 4 - 1 from rfl, Nat.and_two_pow_sub_one_eq_mod]; exact Nat.mod_lt _ (by decide)
  exact ⟨r ^^^ z, (r ^^^ z) &&& 15, (r ^^^ z) / 16, _, _, _, by omega, xor_u32 r z hr (by omega), and_u32 _ 15 h1 (by decide), m _, by omega, xor_u32 _ _ (by omega) (tabN_lt _), and_u32 _ 15 h2 (by decide), m _, by omega, xor_u32 _ _ (by omega) (tabN_lt _)⟩
set_option maxRecDepth 100000 in
set_option maxHeartbeats 4000000 in
theorem more_walk (s s0 : Nat) (b off len cap : Nat) (zs : List Nat) (w : World) (hx : Go.RowKit.Hid (bits .xor .u32 IntKind.u32.max (s : Int) = (s0 : Int))) (hs0 : s0 < 4294967296) (hbig : len < 9223372036854775808) (hz : ∀ j : Nat, zs[j]?.getD 0 < 256) (hb : b < w.heap.size) (hc : ∀ j, j < len → w.cell? ⟨b, off + j, none⟩ = some (.int .u8 (zs[j]?.getD 0 : Nat))) :
    Calls Tryz.prog 106 #[.int .u32 (s : Nat), .slice (some ⟨b, off, none⟩) len cap] w fun e w' => e = .returned (.int .u32 (4294967295 ^^^ crcN zs s0 len : Nat)) ∧ Below w.heap.size w w' := by
  go_enter Tryz.func106, Tryz.ntmps106
  go_wp2
  go_loopw [11] (fun i wr => ∃ k : Nat, k ≤ 16 ∧ i = .int .i64 k ∧ wr = w.alloc (.cells (tabA k) 416)) (fun i _ => (16 - intOf i).toNat)
  case atStart => exact ⟨0, by omega, rfl, rfl⟩
  case round =>
    obtain ⟨k, hk, rfl, rfl⟩ := hrel
    have hk8 : k = 0 ∨ k = 1 ∨ k = 2 ∨ k = 3 ∨ k = 4 ∨ k = 5 ∨ k = 6 ∨ k = 7 ∨ k = 8 ∨ k = 9 ∨ k = 10 ∨ k = 11 ∨ k = 12 ∨ k = 13 ∨ k = 14 ∨ k = 15 ∨ k = 16 := by omega
    rcases hk8 with rfl | rfl | rfl | rfl | rfl | rfl | rfl | rfl | rfl | rfl | rfl | rfl | rfl | rfl | rfl | rfl | rfl
    all_goals simp only [tabA]
    all_goals (try simp only [Nat.cast_ofNat_Int, Int.natCast_zero, Int.natCast_one])
    · go_wp2
      go_loop [7, 16] (fun t j => ∃ q : Nat, q ≤ 4 ∧ j = .int .i64 q ∧ t = .int .u32 (itN 0 q)) (fun _ j => (4 - intOf j).toNat)
      case atStart => exact ⟨0, by omega, rfl, by simp only [itN]⟩
      case round =>
        obtain ⟨q, hq, rfl, rfl⟩ := hrel
        by_cases hq4 : q < 4
        · go_wp2
          go_round
          case rel => exact ⟨q + 1, by omega, by go_num, rfl⟩
          case measure => simp [intOf]; omega
        · have : q = 4 := by omega
          subst this
          rw [it_0]
          go_wp2
          go_round
          case rel => exact ⟨1, by omega, rfl, rfl⟩
          case measure => decide
    · go_wp2
      go_loop [7, 16] (fun t j => ∃ q : Nat, q ≤ 4 ∧ j = .int .i64 q ∧ t = .int .u32 (itN 1 q)) (fun _ j => (4 - intOf j).toNat)
      case atStart => exact ⟨0, by omega, rfl, by simp only [itN]⟩
      case round =>
        obtain ⟨q, hq, rfl, rfl⟩ := hrel
        by_cases hq4 : q < 4
        · go_wp2
          go_round
          case rel => exact ⟨q + 1, by omega, by go_num, rfl⟩
          case measure => simp [intOf]; omega
        · have : q = 4 := by omega
          subst this
          rw [it_1]
          go_wp2
          go_round
          case rel => exact ⟨2, by omega, rfl, rfl⟩
          case measure => decide
    · go_wp2
      go_loop [7, 16] (fun t j => ∃ q : Nat, q ≤ 4 ∧ j = .int .i64 q ∧ t = .int .u32 (itN 2 q)) (fun _ j => (4 - intOf j).toNat)
      case atStart => exact ⟨0, by omega, rfl, by simp only [itN]⟩
      case round =>
        obtain ⟨q, hq, rfl, rfl⟩ := hrel
        by_cases hq4 : q < 4
        · go_wp2
          go_round
          case rel => exact ⟨q + 1, by omega, by go_num, rfl⟩
          case measure => simp [intOf]; omega
        · have : q = 4 := by omega
          subst this
          rw [it_2]
          go_wp2
          go_round
          case rel => exact ⟨3, by omega, rfl, rfl⟩
          case measure => decide
    · go_wp2
      go_loop [7, 16] (fun t j => ∃ q : Nat, q ≤ 4 ∧ j = .int .i64 q ∧ t = .int .u32 (itN 3 q)) (fun _ j => (4 - intOf j).toNat)
      case atStart => exact ⟨0, by omega, rfl, by simp only [itN]⟩
      case round =>
        obtain ⟨q, hq, rfl, rfl⟩ := hrel
        by_cases hq4 : q < 4
        · go_wp2
          go_round
          case rel => exact ⟨q + 1, by omega, by go_num, rfl⟩
          case measure => simp [intOf]; omega
        · have : q = 4 := by omega
          subst this
          rw [it_3]
          go_wp2
          go_round
          case rel => exact ⟨4, by omega, rfl, rfl⟩
          case measure => decide
    · go_wp2
      go_loop [7, 16] (fun t j => ∃ q : Nat, q ≤ 4 ∧ j = .int .i64 q ∧ t = .int .u32 (itN 4 q)) (fun _ j => (4 - intOf j).toNat)
      case atStart => exact ⟨0, by omega, rfl, by simp only [itN]⟩
      case round =>
        obtain ⟨q, hq, rfl, rfl⟩ := hrel
        by_cases hq4 : q < 4
        · go_wp2
          go_round
          case rel => exact ⟨q + 1, by omega, by go_num, rfl⟩
          case measure => simp [intOf]; omega
        · have : q = 4 := by omega
          subst this
          rw [it_4]
          go_wp2
          go_round
          case rel => exact ⟨5, by omega, rfl, rfl⟩
          case measure => decide
    · go_wp2
      go_loop [7, 16] (fun t j => ∃ q : Nat, q ≤ 4 ∧ j = .int .i64 q ∧ t = .int .u32 (itN 5 q)) (fun _ j => (4 - intOf j).toNat)
      case atStart => exact ⟨0, by omega, rfl, by simp only [itN]⟩
      case round =>
        obtain ⟨q, hq, rfl, rfl⟩ := hrel
        by_cases hq4 : q < 4
        · go_wp2
          go_round
          case rel => exact ⟨q + 1, by omega, by go_num, rfl⟩
          case measure => simp [intOf]; omega
        · have : q = 4 := by omega
          subst this
          rw [it_5]
          go_wp2
          go_round
          case rel => exact ⟨6, by omega, rfl, rfl⟩
          case measure => decide
    · go_wp2
      go_loop [7, 16] (fun t j => ∃ q : Nat, q ≤ 4 ∧ j = .int .i64 q ∧ t = .int .u32 (itN 6 q)) (fun _ j => (4 - intOf j).toNat)
      case atStart => exact ⟨0, by omega, rfl, by simp only [itN]⟩
      case round =>
        obtain ⟨q, hq, rfl, rfl⟩ := hrel
        by_cases hq4 : q < 4
        · go_wp2
          go_round
          case rel => exact ⟨q + 1, by omega, by go_num, rfl⟩
          case measure => simp [intOf]; omega
        · have : q = 4 := by omega
          subst this
          rw [it_6]
          go_wp2
          go_round
          case rel => exact ⟨7, by omega, rfl, rfl⟩
          case measure => decide
    · go_wp2
      go_loop [7, 16] (fun t j => ∃ q : Nat, q ≤ 4 ∧ j = .int .i64 q ∧ t = .int .u32 (itN 7 q)) (fun _ j => (4 - intOf j).toNat)
      case atStart => exact ⟨0, by omega, rfl, by simp only [itN]⟩
      case round =>
        obtain ⟨q, hq, rfl, rfl⟩ := hrel
        by_cases hq4 : q < 4
        · go_wp2
          go_round
          case rel => exact ⟨q + 1, by omega, by go_num, rfl⟩
          case measure => simp [intOf]; omega
        · have : q = 4 := by omega
          subst this
          rw [it_7]
          go_wp2
          go_round
          case rel => exact ⟨8, by omega, rfl, rfl⟩
          case measure => decide
    · go_wp2
      go_loop [7, 16] (fun t j => ∃ q : Nat, q ≤ 4 ∧ j = .int .i64 q ∧ t = .int .u32 (itN 8 q)) (fun _ j => (4 - intOf j).toNat)
      case atStart => exact ⟨0, by omega, rfl, by simp only [itN]⟩
      case round =>
        obtain ⟨q, hq, rfl, rfl⟩ := hrel
        by_cases hq4 : q < 4
        · go_wp2
          go_round
          case rel => exact ⟨q + 1, by omega, by go_num, rfl⟩
          case measure => simp [intOf]; omega
        · have : q = 4 := by omega
          subst this
          rw [it_8]
          go_wp2
          go_round
          case rel => exact ⟨9, by omega, rfl, rfl⟩
          case measure => decide
    · go_wp2
      go_loop [7, 16] (fun t j => ∃ q : Nat, q ≤ 4 ∧ j = .int .i64 q ∧ t = .int .u32 (itN 9 q)) (fun _ j => (4 - intOf j).toNat)
      case atStart => exact ⟨0, by omega, rfl, by simp only [itN]⟩
      case round =>
        obtain ⟨q, hq, rfl, rfl⟩ := hrel
        by_cases hq4 : q < 4
        · go_wp2
          go_round
          case rel => exact ⟨q + 1, by omega, by go_num, rfl⟩
          case measure => simp [intOf]; omega
        · have : q = 4 := by omega
          subst this
          rw [it_9]
          go_wp2
          go_round
          case rel => exact ⟨10, by omega, rfl, rfl⟩
          case measure => decide
    · go_wp2
      go_loop [7, 16] (fun t j => ∃ q : Nat, q ≤ 4 ∧ j = .int .i64 q ∧ t = .int .u32 (itN 10 q)) (fun _ j => (4 - intOf j).toNat)
      case atStart => exact ⟨0, by omega, rfl, by simp only [itN]⟩
      case round =>
        obtain ⟨q, hq, rfl, rfl⟩ := hrel
        by_cases hq4 : q < 4
        · go_wp2
          go_round
          case rel => exact ⟨q + 1, by omega, by go_num, rfl⟩
          case measure => simp [intOf]; omega
        · have : q = 4 := by omega
          subst this
          rw [it_10]
          go_wp2
          go_round
          case rel => exact ⟨11, by omega, rfl, rfl⟩
          case measure => decide
    · go_wp2
      go_loop [7, 16] (fun t j => ∃ q : Nat, q ≤ 4 ∧ j = .int .i64 q ∧ t = .int .u32 (itN 11 q)) (fun _ j => (4 - intOf j).toNat)
      case atStart => exact ⟨0, by omega, rfl, by simp only [itN]⟩
      case round =>
        obtain ⟨q, hq, rfl, rfl⟩ := hrel
        by_cases hq4 : q < 4
        · go_wp2
          go_round
          case rel => exact ⟨q + 1, by omega, by go_num, rfl⟩
          case measure => simp [intOf]; omega
        · have : q = 4 := by omega
          subst this
          rw [it_11]
          go_wp2
          go_round
          case rel => exact ⟨12, by omega, rfl, rfl⟩
          case measure => decide
    · go_wp2
      go_loop [7, 16] (fun t j => ∃ q : Nat, q ≤ 4 ∧ j = .int .i64 q ∧ t = .int .u32 (itN 12 q)) (fun _ j => (4 - intOf j).toNat)
      case atStart => exact ⟨0, by omega, rfl, by simp only [itN]⟩
      case round =>
        obtain ⟨q, hq, rfl, rfl⟩ := hrel
        by_cases hq4 : q < 4
        · go_wp2
          go_round
          case rel => exact ⟨q + 1, by omega, by go_num, rfl⟩
          case measure => simp [intOf]; omega
        · have : q = 4 := by omega
          subst this
          rw [it_12]
          go_wp2
          go_round
          case rel => exact ⟨13, by omega, rfl, rfl⟩
          case measure => decide
    · go_wp2
      go_loop [7, 16] (fun t j => ∃ q : Nat, q ≤ 4 ∧ j = .int .i64 q ∧ t = .int .u32 (itN 13 q)) (fun _ j => (4 - intOf j).toNat)
      case atStart => exact ⟨0, by omega, rfl, by simp only [itN]⟩
      case round =>
        obtain ⟨q, hq, rfl, rfl⟩ := hrel
        by_cases hq4 : q < 4
        · go_wp2
          go_round
          case rel => exact ⟨q + 1, by omega, by go_num, rfl⟩
          case measure => simp [intOf]; omega
        · have : q = 4 := by omega
          subst this
          rw [it_13]
          go_wp2
          go_round
          case rel => exact ⟨14, by omega, rfl, rfl⟩
          case measure => decide
    · go_wp2
      go_loop [7, 16] (fun t j => ∃ q : Nat, q ≤ 4 ∧ j = .int .i64 q ∧ t = .int .u32 (itN 14 q)) (fun _ j => (4 - intOf j).toNat)
      case atStart => exact ⟨0, by omega, rfl, by simp only [itN]⟩
      case round =>
        obtain ⟨q, hq, rfl, rfl⟩ := hrel
        by_cases hq4 : q < 4
        · go_wp2
          go_round
          case rel => exact ⟨q + 1, by omega, by go_num, rfl⟩
          case measure => simp [intOf]; omega
        · have : q = 4 := by omega
          subst this
          rw [it_14]
          go_wp2
          go_round
          case rel => exact ⟨15, by omega, rfl, rfl⟩
          case measure => decide
    · go_wp2
      go_loop [7, 16] (fun t j => ∃ q : Nat, q ≤ 4 ∧ j = .int .i64 q ∧ t = .int .u32 (itN 15 q)) (fun _ j => (4 - intOf j).toNat)
      case atStart => exact ⟨0, by omega, rfl, by simp only [itN]⟩
      case round =>
        obtain ⟨q, hq, rfl, rfl⟩ := hrel
        by_cases hq4 : q < 4
        · go_wp2
          go_round
          case rel => exact ⟨q + 1, by omega, by go_num, rfl⟩
          case measure => simp [intOf]; omega
        · have : q = 4 := by omega
          subst this
          rw [it_15]
          go_wp2
          go_round
          case rel => exact ⟨16, by omega, rfl, rfl⟩
          case measure => decide
    · go_wp2
      have hB : Below w.heap.size w (w.alloc (.cells (tabA 16) 416)) := (Below.refl _ _).alloc (Nat.le_refl _) _
      have hT : ∀ i : Nat, i < 16 → (w.alloc (.cells (tabA 16) 416)).cell? ⟨w.heap.size, i, none⟩ = some (.int .u32 (tabN i : Nat)) := by
        intro i hi
        have hi8 : i = 0 ∨ i = 1 ∨ i = 2 ∨ i = 3 ∨ i = 4 ∨ i = 5 ∨ i = 6 ∨ i = 7 ∨ i = 8 ∨ i = 9 ∨ i = 10 ∨ i = 11 ∨ i = 12 ∨ i = 13 ∨ i = 14 ∨ i = 15 := by omega
        rcases hi8 with rfl | rfl | rfl | rfl | rfl | rfl | rfl | rfl | rfl | rfl | rfl | rfl | rfl | rfl | rfl | rfl <;> exact cell_new w _ 416 rfl
      have hc2 : ∀ j, j < len → (w.alloc (.cells (tabA 16) 416)).cell? ⟨b, off + j, none⟩ = some (.int .u8 (zs[j]?.getD 0 : Nat)) := fun j hj => (hB.cell (p := ⟨b, off + j, none⟩) hb).trans (hc j hj)
      simp only [tabA] at hB hT hc2
      generalize w.alloc _ = W at hB hT hc2
      clear hc
      rw [hx.out]
      go_loop [8, 34] (fun r i => ∃ k : Nat, k ≤ len ∧ i = .int .i64 k ∧ r = .int .u32 (crcN zs s0 k : Nat)) (fun _ i => (len - intOf i).toNat)
      case atStart => exact ⟨0, by omega, rfl, rfl⟩
      case round =>
        obtain ⟨k, hk, rfl, rfl⟩ := hrel
        have hlt32 := crcN_lt hz hs0 k
        by_cases hlt : k < len
        · have hcell := hc2 k hlt
          have hzk := hz k
          have hstep : Value.int .u32 (crcN zs s0 (k + 1) : Nat) = .int .u32 (crcB (crcN zs s0 k) (zs[k]?.getD 0) : Nat) := rfl
          have hstep := Lib.hid hstep
          rename_i hstep0
          clear hstep0 hc2 hz
          generalize crcN zs s0 k = r at hlt32 hstep
          generalize zs[k]?.getD 0 = z at hcell hzk hstep
          obtain ⟨y1, i1, q1, y2, i2, q2, e0, e1, e2, b1, e3, e4, e5, b2, e6, e7⟩ := round_nums hlt32 hzk
          have t1 := hT i1 b1
          have t2 := hT i2 b2
          clear hT
          go_wp2
          go_round
          case rel => exact ⟨k + 1, by omega, by go_num, hstep.out.symm⟩
          case measure => simp [intOf]; omega
        · have : k = len := by omega
          subst this
          have hx1 : bits .xor .u32 IntKind.u32.max (crcN zs s0 k : Nat) = ((4294967295 ^^^ crcN zs s0 k : Nat) : Int) := xor_u32 4294967295 _ (by decide) hlt32
          have hx1 := Lib.hid hx1
          rename_i hx10
          clear hx10
          clear hT hc2
          go_wp2
          go_ret
          exact ⟨congrArg (fun x => Ending.returned (.int .u32 x)) hx1.out, hB⟩
end Ae
