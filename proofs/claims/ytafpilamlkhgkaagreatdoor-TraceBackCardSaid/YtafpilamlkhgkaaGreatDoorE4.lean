/- The evaluator and why it may be leaned on, part 4. -/
import Derived.Test.YtafpilamlkhgkaaGreatDoorE3
import Derived.Lib.Bytealg
import Derived.Test.YtafpilamlkhgkaaGreatDoorProg
import Derived.WalkKit
import Derived.WalkSpells
import Derived.WalkLawsBesides
import Derived.Lib.Hide
import Derived.KernelRfl
import Derived.StillTailTactics
import Derived.RecoverIn
import Derived.LaidEql
import Derived.Stop.Asserts
import Derived.RowKitTokens
import Derived.Lib.IfaceEq
import Derived.Laws.Externs
import Derived.JoinedOf
import Derived.OpenShut
import Derived.MakeChecks
import Derived.ProofKit
import Derived.LaidMore
import Derived.LaidLaws
import Derived.Handed
import Derived.Stop.Joined
set_option linter.all false
namespace Ae
open Go Go.Proofs Go.RowKit
theorem wrap_u64' (n : Nat) (h : n < 18446744073709551616) : IntKind.u64.wrap (n : Int) = n := by
  have : IntKind.u64.wrap (n : Int) = (n : Int) % 18446744073709551616 := by simp [IntKind.wrap, IntKind.bits, IntKind.signed]
  rw [this]; omega
theorem or_step (a z F : Nat) (FI : Int) (hFI : FI = (F : Int)) (ha : a < 18446744073709551616) (hz : z < 256) (hF : F ≤ 72057594037927936) :
    bits .or .u64 (a : Int) (IntKind.u64.wrap (IntKind.u64.wrap (z : Int) * FI)) = ((Nat.lor a (Nat.mul z F) : Nat) : Int) ∧ Nat.lor a (Nat.mul z F) < 18446744073709551616 := by
  have h1 : z * F < 18446744073709551616 := Nat.lt_of_le_of_lt (Nat.mul_le_mul (Nat.le_of_lt_succ hz) hF) (by decide)
  subst hFI
  rw [wrap_u64' z (by omega), ← Int.natCast_mul, wrap_u64' _ h1]
  exact ⟨bits_or_u64_nat a _ ha h1, Nat.or_lt_two_pow (n := 64) ha h1⟩
noncomputable def orK (l : List Nat) : Nat → Nat → (Nat → Out) → Out := List.rec (motive := fun _ => Nat → Nat → (Nat → Out) → Out) (fun _ a K => K a) (fun z _ ih m a K => force (Nat.lor a (Nat.mul z m)) fun a => force (Nat.mul m 256) fun m => ih m a K) l
theorem le8_eq (zs : List Nat) (h : ∀ j : Nat, zs[j]?.getD 0 < 256) : ∃ r : Nat, le8 zs 8 = (r : Int) ∧ r < 18446744073709551616 ∧ r = Nat.lor (Nat.lor (Nat.lor (Nat.lor (Nat.lor (Nat.lor (Nat.lor (Nat.lor (0) (Nat.mul (zs[0]?.getD 0) 1)) (Nat.mul (zs[1]?.getD 0) 256)) (Nat.mul (zs[2]?.getD 0) 65536)) (Nat.mul (zs[3]?.getD 0) 16777216)) (Nat.mul (zs[4]?.getD 0) 4294967296)) (Nat.mul (zs[5]?.getD 0) 1099511627776)) (Nat.mul (zs[6]?.getD 0) 281474976710656)) (Nat.mul (zs[7]?.getD 0) 72057594037927936) := by
  obtain ⟨e1, b1⟩ := or_step 0 (zs[0]?.getD 0) 1 1 rfl (by decide) (h 0) (by decide)
  obtain ⟨e2, b2⟩ := or_step _ (zs[1]?.getD 0) 256 256 rfl b1 (h 1) (by decide)
  obtain ⟨e3, b3⟩ := or_step _ (zs[2]?.getD 0) 65536 65536 rfl b2 (h 2) (by decide)
  obtain ⟨e4, b4⟩ := or_step _ (zs[3]?.getD 0) 16777216 16777216 rfl b3 (h 3) (by decide)
  obtain ⟨e5, b5⟩ := or_step _ (zs[4]?.getD 0) 4294967296 4294967296 rfl b4 (h 4) (by decide)
  obtain ⟨e6, b6⟩ := or_step _ (zs[5]?.getD 0) 1099511627776 1099511627776 rfl b5 (h 5) (by decide)
  obtain ⟨e7, b7⟩ := or_step _ (zs[6]?.getD 0) 281474976710656 281474976710656 rfl b6 (h 6) (by decide)
  obtain ⟨e8, b8⟩ := or_step _ (zs[7]?.getD 0) 72057594037927936 72057594037927936 rfl b7 (h 7) (by decide)
  rw [Int.mul_one] at e1
  have f0 : le8 zs 0 = ((0 : Nat) : Int) := by simp only [le8]; rfl
  have f1 := (le8_1 zs).trans ((congrArg (fun q => bits .or .u64 q _) f0).trans e1)
  have f2 := (le8_2 zs).trans ((congrArg (fun q => bits .or .u64 q _) f1).trans e2)
  have f3 := (le8_3 zs).trans ((congrArg (fun q => bits .or .u64 q _) f2).trans e3)
  have f4 := (le8_4 zs).trans ((congrArg (fun q => bits .or .u64 q _) f3).trans e4)
  have f5 := (le8_5 zs).trans ((congrArg (fun q => bits .or .u64 q _) f4).trans e5)
  have f6 := (le8_6 zs).trans ((congrArg (fun q => bits .or .u64 q _) f5).trans e6)
  have f7 := (le8_7 zs).trans ((congrArg (fun q => bits .or .u64 q _) f6).trans e7)
  have f8 := (le8_8 zs).trans ((congrArg (fun q => bits .or .u64 q _) f7).trans e8)
  exact ⟨_, f8, b8, rfl⟩
theorem le8_ok (z0 z1 z2 z3 z4 z5 z6 z7 : Nat) (h : ∀ j : Nat, [z0, z1, z2, z3, z4, z5, z6, z7][j]?.getD 0 < 256) : ∃ r : Nat, le8 [z0, z1, z2, z3, z4, z5, z6, z7] 8 = (r : Int) ∧ r < 18446744073709551616 ∧ ∀ K, orK [z0, z1, z2, z3, z4, z5, z6, z7] 1 0 K = K r := by
  obtain ⟨r, h1, h2, h3⟩ := le8_eq _ h
  refine ⟨r, h1, h2, fun K => ?_⟩
  rw [h3]
  unfold orK
  simp only [force_eq]
  rfl
noncomputable def pGet (args : List V) (σ : St) (K : V → St → Out) : Out := match args with
  | [.sl b o n _] => ifb (Nat.blt n 8) (K (.t [.n .u64 0, .b false]) σ) (loadN σ b o 8 (.fail 304) fun l => bytesK l fun l => orK l 1 0 fun r => K (.t [.n .u64 r, .b true]) σ)
  | [.sl0] => K (.t [.n .u64 0, .b false]) σ
  | _ => .fail 305
theorem u64_val (μ : Mu) (r : Nat) (h : r < 18446744073709551616) : RelV μ (.n .u64 r) (.int .u64 (r : Nat)) := by
  have := RelV.n (μ := μ) .u64 r h
  rwa [wrap_nn .u64 r h rfl] at this
theorem eight {l : List Nat} (h : l.length = 8) : ∃ a b c d e f g i, l = [a, b, c, d, e, f, g, i] := by
  match l, h with
  | [a, b, c, d, e, f, g, i], _ => exact ⟨a, b, c, d, e, f, g, i, rfl⟩
theorem pGet_ok {cx : Cx} (hP : cx.P = Tryz.prog) : FnOk cx pGet 70 := by
  intro args σ K x fr σ' hk μ w args' hm hG hl
  have hf : Tryz.prog.funcs[70]? = some Tryz.f70 := Tryz.func70
  obtain ⟨c, hb⟩ : ∃ c, Tryz.f70.body = some c := ⟨_, rfl⟩
  have short : ∀ a n cap', n < 8 → args' = #[.slice a n cap'] → K (.t [.n .u64 0, .b false]) σ = .done x fr σ' → Comes1 cx.P (callFunc 70 args') μ σ w fun v σ1 => K v σ1 = .done x fr σ' := by
    intro a n cap' hn ha hk
    rw [hP] at hm ⊢
    rw [ha]
    exact comes_calls hf (by decide +kernel) hb hm (v := .t [.n .u64 0, .b false]) (.t (vs' := #[.int .u64 0, .bool false]) (.cons (u64_val μ 0 (by decide)) (.cons (.b false) .nil))) ((get64_short a n cap' w hn).mono fun e w1 he => ⟨he.1, he.2 ▸ Below.refl _ _⟩) hk
  unfold pGet at hk
  split at hk
  · rename_i b o n cap
    cases hl' : args'.toList with
    | nil => rw [hl'] at hl; cases hl
    | cons a1 l =>
      rw [hl'] at hl
      cases hl with | cons h2 hl =>
      cases hl
      obtain ⟨L, cap', off', hL, hn, hcap, hoff, rfl⟩ := slice_inv h2
      rw [ifb_eq] at hk
      split at hk
      · rename_i hlt
        exact short _ n cap' (by simpa using hlt) (arr1 hl') hk
      · rename_i hlt
        have hn8 : 8 ≤ n := by
          rcases Nat.lt_or_ge n 8 with q | q
          · exact absurd (by simpa using q) hlt
          · exact q
        obtain ⟨zs, hk2, hlen, hz, hc⟩ := bytes_cells hm hL hk
        obtain ⟨z0, z1, z2, z3, z4, z5, z6, z7, rfl⟩ := eight hlen
        obtain ⟨r, e1, e2, e3⟩ := le8_ok z0 z1 z2 z3 z4 z5 z6 z7 hz
        rw [e3] at hk2
        have hw := get64 L.c off' n cap' [z0, z1, z2, z3, z4, z5, z6, z7] w hn8 (by omega) (fun j hj => by rw [hoff (by omega)]; exact hc j hj)
        rw [e1] at hw
        rw [hP] at hm ⊢
        rw [arr1 hl']
        exact comes_calls hf (by decide +kernel) hb hm (v := .t [.n .u64 r, .b true]) (.t (vs' := #[.int .u64 (r : Nat), .bool true]) (.cons (u64_val μ r e2) (.cons (.b true) .nil))) (hw.mono fun e w1 he => ⟨he.1, he.2 ▸ Below.refl _ _⟩) hk2
  · cases hl' : args'.toList with
    | nil => rw [hl'] at hl; cases hl
    | cons a1 l =>
      rw [hl'] at hl
      cases hl with | cons h2 hl =>
      cases hl
      cases h2
      exact short none 0 0 (by decide) (arr1 hl') hk
  · cases hk
end Ae
namespace Ae
open Go
noncomputable def konstK (args : List V) (n0 : Nat) (val : V) (news : List Blk) (fb : List V → St → (V → St → Out) → Out) (ags : List V) (σ : St) (K : V → St → Out) : Out :=
  ifb (sameL (same 12) args ags) (ifb (Nat.ble n0 σ.next) (St.rec (fun h next => newsK (gOf (fun b => b) n0 next) news next h fun h n => cpV (ren (gOf (fun b => b) n0 next) val) fun v => K v ⟨h, n⟩) σ) (.fail 344)) (fb ags σ K)
theorem konstK_ok {cx : Cx} {f : Nat} {m : Memo} {fb : List V → St → (V → St → Out) → Out} (hM : MemoOk cx.P cx.globs f (unM m)) (hfb : FnOk cx fb f) {args : List V} {n0 : Nat} {val : V} {news : List Blk}
    (h1 : (unM m).args = args) (h2 : (unM m).pre.length = n0) (h3 : deadL (unM m).pre = true) (h4 : (unM m).chg = []) (h5 : (unM m).val = val) (h6 : (unM m).news = news) : FnOk cx (konstK args n0 val news fb) f := by
  intro ags σ K x fr σ' hk μ w args' hm hG hl
  unfold konstK at hk
  rw [ifb_eq] at hk
  split at hk
  · rename_i ha
    obtain ⟨b2, hk⟩ := ifb_inv hk
    have b2 : n0 ≤ σ.next := Nat.le_of_ble_eq_true b2
    have hd := deadL_ok _ h3
    have hk2 : applyK (unM m) (fun b => b) σ K = .done x fr σ' := by
      rw [← hk]
      unfold applyK
      rw [force_eq, lenL_eq, h2, h4, h5, h6]
      rfl
    refine memo_apply hM (fun k x hk => ⟨?_, fun hx => absurd hx (hd k x hk)⟩) (fun k k' x x' h1 h2 h3 h4 h5 => absurd h3 (hd k x h1)) ?_ (fun _ _ => rfl) hk2 hm hG hl
    · rcases Nat.lt_or_ge k (unM m).pre.length with q | q
      · omega
      · rw [List.getElem?_eq_none q] at hk; cases hk
    · rw [renL_id fun v hv => ren_id (dom := fun c => Nat.blt c (unM m).pre.length) (fun _ _ => rfl) v (okL_mem hM.1.args v hv), h1]
      exact sameL_eq (same_eq 12) _ _ ha
  · exact hfb hk hm hG hl
end Ae
namespace Ae
open Go
noncomputable def cntL (c : Nat) (l : List Nat) : Nat := List.rec 0 (fun x _ ih => ifb (Nat.beq x c) (Nat.succ ih) ih) l
noncomputable def pCount : List V → St → (V → St → Out) → Out := fun args σ K => match args with
  | [.s l, .n .u8 c] => force (cntL c l) fun n => K (.n .i64 n) σ
  | _ => .fail 326
theorem cntL_eq (c : Nat) (hc : c < 256) : ∀ l : List UInt8, cntL c (l.map UInt8.toNat) = Go.Lib.countByte l c.toUInt8 := by
  intro l
  induction l with
  | nil => rfl
  | cons x l ih =>
    show ifb (Nat.beq x.toNat c) (Nat.succ (cntL c (l.map UInt8.toNat))) (cntL c (l.map UInt8.toNat)) = _
    unfold Go.Lib.countByte at ih ⊢
    rw [List.count_cons, ih, ifb_eq]
    have he : (x == c.toUInt8) = Nat.beq x.toNat c := by
      rw [Bool.eq_iff_iff, beq_iff_eq, Nat.beq_eq]
      constructor
      · intro h; rw [h]; show (UInt8.ofNat c).toNat = c; simp; omega
      · intro h; rw [← UInt8.toNat_inj, h]; show c = (UInt8.ofNat c).toNat; simp; omega
    rw [he]
    cases Nat.beq x.toNat c <;> simp
theorem pCount_ok {cx : Cx} {f : Nat} {fn : Func} (hf : cx.P.funcs[f]? = some fn) (hname : (fn.name == "runtime.NumGoroutine") = false) (hb : fn.body.isNone = true) (hn : Extern.findNext fn = none) (he : Extern.find fn = some Extern.BytealgCount.count) : FnOk cx pCount f := by
  refine extern_ok hf hname hb hn he fun {args σ K x fr σ'} hk {μ args'} w hl => ?_
  unfold pCount at hk
  split at hk
  · rename_i l c
    cases hl' : args'.toList with
    | nil => rw [hl'] at hl; cases hl
    | cons a l2 =>
      rw [hl'] at hl
      cases hl with | cons h1 hl =>
      cases hl with | cons h2 hl =>
      cases hl
      rw [force_eq] at hk
      generalize hv : V.s l = v at h1
      cases h1 with
      | s bs hbs =>
        injection hv with hv
        subst hv
        cases h2 with
        | n _ _ hc =>
          have hc : c < 256 := hc
          have hw : IntKind.u8.wrap (c : Int) = c := wrap_nn .u8 c hc rfl
          have hrun := Go.Lib.run_countString (P := cx.P) bs (c : Int) w
          rw [cntL_eq c hc] at hk
          refine ⟨_, _, hk, ?_, by rw [arr2 hl', hw, hrun, Int.toNat_natCast]⟩
          refine rel_len μ ?_
          unfold Go.Lib.countByte
          have h1 := List.count_le_length (a := c.toUInt8) (l := bs.data.toList)
          have h2 : bs.data.toList.length = bs.size := by rw [Array.length_toList]; rfl
          omega
      | _ => cases hv
  · cases hk
end Ae
namespace Ae
open Go Go.Proofs Go.RowKit
def hdC (c : Code) : Code := match c with | .seq a _ => a | c => c
def tlC (c : Code) : Code := match c with | .seq _ b => b | c => c
noncomputable def b198 : Code := match Tryz.f530.body with | some c => c | none => .skip
noncomputable def loop198 : Code := tlC (hdC (tlC (tlC (tlC b198))))
theorem b198_eq : b198 = .seq (hdC b198) (.seq (hdC (tlC b198)) (.seq (hdC (tlC (tlC b198))) (.seq (.seq (hdC (hdC (tlC (tlC (tlC b198))))) loop198) (tlC (tlC (tlC (tlC b198))))))) := by kernel_rfl
theorem write1 (i : Nat) (b sb off len cap so : Nat) (z : Nat) (w : World) (hz : z < 256) (hi : i < len) (hs : w.cell? ⟨sb, so, none⟩ = some (.slice (some ⟨b, off, none⟩) len cap)) (hc : w.cell? ⟨b, off + i, none⟩ = some (.int .u8 (z : Nat))) :
    Calls Tryz.prog 427 #[.int .i64 i, .pointer (some ⟨sb, so, none⟩)] w fun e w' => e = .returned (.int .u8 (z : Nat)) ∧ w = w' := by
  go_enter Tryz.func427, Tryz.ntmps427
  go_wp2
  go_ret
  exact ⟨rfl, rfl⟩
theorem fill1 (i : Int) (sb so : Nat) (z : Nat) (w : World) (hs : w.cell? ⟨sb, so, none⟩ = some (.int .u8 (z : Nat))) :
    Calls Tryz.prog 428 #[.int .i64 i, .pointer (some ⟨sb, so, none⟩)] w fun e w' => e = .returned (.int .u8 (z : Nat)) ∧ w = w' := by
  go_enter Tryz.func428, Tryz.ntmps428
  go_wp2
  go_ret
  exact ⟨rfl, rfl⟩
structure Pg (w W : World) (pg a k : Nat) (cs : Array Value) (e : Nat) (fr : Nat × Nat) (zs : List Nat) : Prop where
  os : W.os = w.os
  tape : W.tape = w.tape
  output : W.output = w.output
  size : W.heap.size = w.heap.size
  other : ∀ c, c ≠ pg → W.heap[c]? = w.heap[c]?
  page : ∃ cs' : Array Value, W.heap[pg]? = some (.cells cs' e fr) ∧ cs'.size = cs.size ∧ ∀ j, cs'[j]? = if a ≤ j ∧ j < a + k then some (.int .u8 (zs[j - a]?.getD 0 : Nat)) else cs[j]?
theorem Pg.cell {w W : World} {pg a k : Nat} {cs : Array Value} {e : Nat} {fr : Nat × Nat} {zs : List Nat} (h : Pg w W pg a k cs e fr zs) {p : Addr} (hp : p.block ≠ pg) : W.cell? p = w.cell? p := by
  unfold World.cell?
  rw [h.other _ hp]
theorem Pg.step {w W : World} {pg a k : Nat} {cs : Array Value} {e : Nat} {fr : Nat × Nat} {zs : List Nat} (h : Pg w W pg a k cs e fr zs) (hk : a + k < cs.size) :
    Pg w (W.setCell ⟨pg, a + k, none⟩ (.int .u8 (zs[k]?.getD 0 : Nat))) pg a (k + 1) cs e fr zs := by
  obtain ⟨cs', h1, h2, h3⟩ := h.page
  have hlt : pg < W.heap.size := by
    rcases Nat.lt_or_ge pg W.heap.size with q | q
    · exact q
    · rw [Array.getElem?_eq_none q] at h1; cases h1
  refine ⟨h.os, h.tape, h.output, ?_, fun c hc => ?_, cs'.setIfInBounds (a + k) (.int .u8 (zs[k]?.getD 0 : Nat)), ?_, by simpa using h2, fun j => ?_⟩
  · rw [← h.size]; simp [World.setCell]
  · rw [← h.other c hc]
    simp only [World.setCell, Array.getElem?_modify]
    rw [if_neg (fun e => hc e.symm)]
  · simp only [World.setCell, Array.getElem?_modify, if_true, h1]
    rfl
  · rw [Array.getElem?_setIfInBounds, h3 j]
    by_cases hj : a + k = j
    · subst hj
      rw [if_pos rfl, if_pos (by omega), if_pos (by omega), show a + k - a = k by omega]
    · rw [if_neg hj]
      by_cases hj2 : a ≤ j ∧ j < a + k
      · rw [if_pos hj2, if_pos (by omega)]
      · rw [if_neg hj2, if_neg (by omega)]
theorem zbeq (z : Nat) : (((z : Nat) : Int) == 0) = (z == 0) := by
  rw [Bool.eq_iff_iff, beq_iff_eq, beq_iff_eq]; omega
def anyN (zs : List Nat) : Nat → Bool
  | 0 => false
  | k + 1 => (anyN zs k || (zs[k]?.getD 0 == 0))
set_option maxRecDepth 100000 in
set_option maxHeartbeats 1000000 in
theorem lay_write (a at_ n cf of_ pg po sb so bb off len cap : Nat) (v0 v2 v4 v6 v7 v8 v9 v11 v13 v14 v15 v16 v17 v18 v19 v20 v21 v22 v23 v24 v25 v26 v29 v30 v31 v32 v33 v34 v35 v36 v37 v38 v39 v40 v41 v42 v43 v44 v45 v46 v47 v48 v49 v50 v51 v52 v53 v54 v55 v56 v57 v58 v59 v60 v61 v62 v63 v64 v65 v66 v67 v68 v69 v70 v71 v72 v73 v74 v75 v76 : Value) (dd : List Deferred) (zs : List Nat) (w : World) (cs : Array Value) (e : Nat) (fr : Nat × Nat) (Q : Exit → Act → World → Prop)
    (hpage : w.heap[pg]? = some (.cells cs e fr)) (hsz : po + 4096 ≤ cs.size) (h4 : a + n ≤ 4096) (hfz : ∀ j, j < cs.size → ¬ (fr.1 ≤ j ∧ j < fr.2))
    (hn : n < 9223372036854775808) (hat : at_ + n ≤ len) (hlen : len < 9223372036854775808) (n1 : cf ≠ pg) (n2 : sb ≠ pg) (n3 : bb ≠ pg)
    (hcf : w.cell? ⟨cf, of_, none⟩ = some (.func (.func 427) #[] #[.pointer (some ⟨sb, so, none⟩)])) (hsb : w.cell? ⟨sb, so, none⟩ = some (.slice (some ⟨bb, off, none⟩) len cap))
    (hz : ∀ j : Nat, zs[j]?.getD 0 < 256) (hb : ∀ j : Nat, j < n → w.cell? ⟨bb, off + (at_ + j), none⟩ = some (.int .u8 (zs[j]?.getD 0 : Nat)))
    (hQ : ∀ (u13 u30 u31 u32 u33 u34 u35 u36 u37 u38 u39 u40 u41 u42 u43 u44 u45 u46 u47 u48 u49 u50 u51 u52 u53 : Value) (wr : World), Pg w wr pg (po + a) n cs e fr zs → Q .normal { tmps := #[v0, .int .i64 (a : Nat), v2, .int .i64 (at_ : Nat), v4, .pointer (some ⟨cf, of_, none⟩), v6, v7, v8, v9, .pointer (some ⟨pg, po, none⟩), v11, .bool (anyN zs n), u13, v14, v15, v16, v17, v18, v19, v20, v21, v22, v23, v24, v25, v26, .int .i64 (n : Nat), .int .i64 (n : Nat), .bool false, u30, u31, u32, u33, u34, u35, u36, u37, u38, u39, u40, u41, u42, u43, u44, u45, u46, u47, u48, u49, u50, u51, u52, u53, v54, v55, v56, v57, v58, v59, v60, v61, v62, v63, v64, v65, v66, v67, v68, v69, v70, v71, v72, v73, v74, v75, v76], defers := dd } wr) :
    loop198.wp Tryz.prog Q { tmps := #[v0, .int .i64 (a : Nat), v2, .int .i64 (at_ : Nat), v4, .pointer (some ⟨cf, of_, none⟩), v6, v7, v8, v9, .pointer (some ⟨pg, po, none⟩), v11, .bool false, v13, v14, v15, v16, v17, v18, v19, v20, v21, v22, v23, v24, v25, v26, .int .i64 (n : Nat), .int .i64 0, v29, v30, v31, v32, v33, v34, v35, v36, v37, v38, v39, v40, v41, v42, v43, v44, v45, v46, v47, v48, v49, v50, v51, v52, v53, v54, v55, v56, v57, v58, v59, v60, v61, v62, v63, v64, v65, v66, v67, v68, v69, v70, v71, v72, v73, v74, v75, v76], defers := dd } w := by
  have hQ' := Lib.hid hQ
  clear hQ
  unfold loop198 b198
  simp only [Tryz.f530, hdC, tlC]
  go_wp2
  go_loopw [12, 28] (fun fl i wr => ∃ k : Nat, k ≤ n ∧ i = .int .i64 k ∧ fl = .bool (anyN zs k) ∧ Pg w wr pg (po + a) k cs e fr zs) (fun _ i _ => (n - intOf i).toNat)
  case atStart => exact ⟨0, by omega, rfl, rfl, ⟨rfl, rfl, rfl, rfl, fun _ _ => rfl, cs, hpage, rfl, fun j => by rw [if_neg (by omega)]⟩⟩
  case round =>
    obtain ⟨k, hk, rfl, rfl, hP⟩ := hrel
    by_cases hlt : k < n
    · have hcell := hP.cell (p := ⟨cf, of_, none⟩) n1
      rw [hcf] at hcell
      have hs1 : IntKind.i64.wrap ((at_ : Int) + (k : Int)) = (at_ : Int) + (k : Int) := IntWalk.i64_in _ (by omega)
      have hs2 : IntKind.i64.wrap ((a : Int) + (k : Int)) = (a : Int) + (k : Int) := IntWalk.i64_in _ (by omega)
      have h00 : 0 ≤ (a : Int) + (k : Int) := by omega
      have h40 : (a : Int) + (k : Int) < 4096 := by omega
      have htn : ((a : Int) + (k : Int)).toNat = a + k := by omega
      have hw1 : Calls Tryz.prog 427 #[.int .i64 ((at_ : Int) + (k : Int)), .pointer (some ⟨sb, so, none⟩)] wr.drew fun e w'' => e = .returned (.int .u8 (zs[k]?.getD 0 : Nat)) ∧ w'' = wr.drew := by
        have h := write1 (at_ + k) bb sb off len cap so (zs[k]?.getD 0) wr.drew (hz k) (by omega) ((hP.cell (p := ⟨sb, so, none⟩) n2).trans hsb) ((hP.cell (p := ⟨bb, off + (at_ + k), none⟩) n3).trans (hb k hlt))
        rw [Int.natCast_add] at h
        exact h.mono fun e w' he => ⟨he.1, he.2.symm⟩
      go_wp2
      go_still_tail 11, (by kernel_rfl)
      still_call hw1
      repeat still_step
      try refine wpStill_nil ?_
      change wpList _ _ _ _ _ wr.drew
      have hP2 : Pg w wr.drew pg (po + a) k cs e fr zs := ⟨hP.os, hP.tape, hP.output, hP.size, hP.other, hP.page⟩
      clear hw1 hcell hP
      generalize wr.drew = w2 at hP2
      obtain ⟨old, hold⟩ : ∃ old, w2.cell? ⟨pg, po + (a + k), none⟩ = some old := by
        obtain ⟨cs', h1, h2, h3⟩ := hP2.page
        refine ⟨cs'[po + (a + k)]'(by omega), ?_⟩
        unfold World.cell?
        simp only [h1]
        exact Array.getElem?_eq_getElem _
      have hfz2 : w2.frozen? ⟨pg, po + (a + k), none⟩ = false := by
        obtain ⟨cs', h1, h2, h3⟩ := hP2.page
        unfold World.frozen?
        simp only [h1]
        have := hfz (po + (a + k)) (by omega)
        simpa using this
      have hP3 := Lib.hid hP2
      clear hP2 hfz hpage hcf hsb hb
      by_cases hany : anyN zs k = true
      · go_wp2
        go_round
        case rel => exact ⟨k + 1, by omega, by go_num, by simp only [anyN, hany, Bool.true_or], by rw [← Nat.add_assoc]; exact hP3.out.step (by omega)⟩
        case measure => simp [intOf]; omega
      · have hany : anyN zs k = false := by simpa using hany
        go_wp2
        go_round
        case rel => exact ⟨k + 1, by omega, by go_num, by simp only [anyN, hany, Bool.false_or, zbeq], by rw [← Nat.add_assoc]; exact hP3.out.step (by omega)⟩
        case measure => simp [intOf]; omega
    · have : k = n := by omega
      subst this
      go_wp2
      exact hQ'.out _ _ _ _ _ _ _ _ _ _ _ _ _ _ _ _ _ _ _ _ _ _ _ _ _ _ hP
end Ae
namespace Ae
open Go Go.Proofs Go.RowKit
set_option maxRecDepth 100000 in
set_option maxHeartbeats 1000000 in
theorem lay_fill (a at_ n cf of_ pg po sb so z0 : Nat) (v0 v2 v4 v6 v7 v8 v9 v11 v13 v14 v15 v16 v17 v18 v19 v20 v21 v22 v23 v24 v25 v26 v29 v30 v31 v32 v33 v34 v35 v36 v37 v38 v39 v40 v41 v42 v43 v44 v45 v46 v47 v48 v49 v50 v51 v52 v53 v54 v55 v56 v57 v58 v59 v60 v61 v62 v63 v64 v65 v66 v67 v68 v69 v70 v71 v72 v73 v74 v75 v76 : Value) (dd : List Deferred) (zs : List Nat) (w : World) (cs : Array Value) (e : Nat) (fr : Nat × Nat) (Q : Exit → Act → World → Prop)
    (hpage : w.heap[pg]? = some (.cells cs e fr)) (hsz : po + 4096 ≤ cs.size) (h4 : a + n ≤ 4096) (hfz : ∀ j, j < cs.size → ¬ (fr.1 ≤ j ∧ j < fr.2))
    (hn : n < 9223372036854775808) (hat : at_ + n < 9223372036854775808) (n1 : cf ≠ pg) (n2 : sb ≠ pg)
    (hcf : w.cell? ⟨cf, of_, none⟩ = some (.func (.func 428) #[] #[.pointer (some ⟨sb, so, none⟩)])) (hsb : w.cell? ⟨sb, so, none⟩ = some (.int .u8 (z0 : Nat)))
    (hb : ∀ j : Nat, j < n → zs[j]?.getD 0 = z0)
    (hQ : ∀ (u13 u30 u31 u32 u33 u34 u35 u36 u37 u38 u39 u40 u41 u42 u43 u44 u45 u46 u47 u48 u49 u50 u51 u52 u53 : Value) (wr : World), Pg w wr pg (po + a) n cs e fr zs → Q .normal { tmps := #[v0, .int .i64 (a : Nat), v2, .int .i64 (at_ : Nat), v4, .pointer (some ⟨cf, of_, none⟩), v6, v7, v8, v9, .pointer (some ⟨pg, po, none⟩), v11, .bool (anyN zs n), u13, v14, v15, v16, v17, v18, v19, v20, v21, v22, v23, v24, v25, v26, .int .i64 (n : Nat), .int .i64 (n : Nat), .bool false, u30, u31, u32, u33, u34, u35, u36, u37, u38, u39, u40, u41, u42, u43, u44, u45, u46, u47, u48, u49, u50, u51, u52, u53, v54, v55, v56, v57, v58, v59, v60, v61, v62, v63, v64, v65, v66, v67, v68, v69, v70, v71, v72, v73, v74, v75, v76], defers := dd } wr) :
    loop198.wp Tryz.prog Q { tmps := #[v0, .int .i64 (a : Nat), v2, .int .i64 (at_ : Nat), v4, .pointer (some ⟨cf, of_, none⟩), v6, v7, v8, v9, .pointer (some ⟨pg, po, none⟩), v11, .bool false, v13, v14, v15, v16, v17, v18, v19, v20, v21, v22, v23, v24, v25, v26, .int .i64 (n : Nat), .int .i64 0, v29, v30, v31, v32, v33, v34, v35, v36, v37, v38, v39, v40, v41, v42, v43, v44, v45, v46, v47, v48, v49, v50, v51, v52, v53, v54, v55, v56, v57, v58, v59, v60, v61, v62, v63, v64, v65, v66, v67, v68, v69, v70, v71, v72, v73, v74, v75, v76], defers := dd } w := by
  have hQ' := Lib.hid hQ
  have hb' := Lib.hid hb
  clear hQ hb
  unfold loop198 b198
  simp only [Tryz.f530, hdC, tlC]
  go_wp2
  go_loopw [12, 28] (fun fl i wr => ∃ k : Nat, k ≤ n ∧ i = .int .i64 k ∧ fl = .bool (anyN zs k) ∧ Pg w wr pg (po + a) k cs e fr zs) (fun _ i _ => (n - intOf i).toNat)
  case atStart => exact ⟨0, by omega, rfl, rfl, ⟨rfl, rfl, rfl, rfl, fun _ _ => rfl, cs, hpage, rfl, fun j => by rw [if_neg (by omega)]⟩⟩
  case round =>
    obtain ⟨k, hk, rfl, rfl, hP⟩ := hrel
    by_cases hlt : k < n
    · have hcell := hP.cell (p := ⟨cf, of_, none⟩) n1
      rw [hcf] at hcell
      have hs1 : IntKind.i64.wrap ((at_ : Int) + (k : Int)) = (at_ : Int) + (k : Int) := IntWalk.i64_in _ (by omega)
      have hs2 : IntKind.i64.wrap ((a : Int) + (k : Int)) = (a : Int) + (k : Int) := IntWalk.i64_in _ (by omega)
      have h00 : 0 ≤ (a : Int) + (k : Int) := by omega
      have h40 : (a : Int) + (k : Int) < 4096 := by omega
      have htn : ((a : Int) + (k : Int)).toNat = a + k := by omega
      have hw1 : Calls Tryz.prog 428 #[.int .i64 ((at_ : Int) + (k : Int)), .pointer (some ⟨sb, so, none⟩)] wr.drew fun e w'' => e = .returned (.int .u8 (zs[k]?.getD 0 : Nat)) ∧ w'' = wr.drew := by
        have h := fill1 ((at_ : Int) + (k : Int)) sb so z0 wr.drew ((hP.cell (p := ⟨sb, so, none⟩) n2).trans hsb)
        rw [hb'.out k hlt]
        exact h.mono fun e w' he => ⟨he.1, he.2.symm⟩
      go_wp2
      go_still_tail 11, (by kernel_rfl)
      still_call hw1
      repeat still_step
      try refine wpStill_nil ?_
      change wpList _ _ _ _ _ wr.drew
      have hP2 : Pg w wr.drew pg (po + a) k cs e fr zs := ⟨hP.os, hP.tape, hP.output, hP.size, hP.other, hP.page⟩
      clear hw1 hcell hP
      generalize wr.drew = w2 at hP2
      obtain ⟨old, hold⟩ : ∃ old, w2.cell? ⟨pg, po + (a + k), none⟩ = some old := by
        obtain ⟨cs', h1, h2, h3⟩ := hP2.page
        refine ⟨cs'[po + (a + k)]'(by omega), ?_⟩
        unfold World.cell?
        simp only [h1]
        exact Array.getElem?_eq_getElem _
      have hfz2 : w2.frozen? ⟨pg, po + (a + k), none⟩ = false := by
        obtain ⟨cs', h1, h2, h3⟩ := hP2.page
        unfold World.frozen?
        simp only [h1]
        have := hfz (po + (a + k)) (by omega)
        simpa using this
      have hP3 := Lib.hid hP2
      clear hP2 hfz hpage hcf hsb
      by_cases hany : anyN zs k = true
      · go_wp2
        go_round
        case rel => exact ⟨k + 1, by omega, by go_num, by simp only [anyN, hany, Bool.true_or], by rw [← Nat.add_assoc]; exact hP3.out.step (by omega)⟩
        case measure => simp [intOf]; omega
      · have hany : anyN zs k = false := by simpa using hany
        go_wp2
        go_round
        case rel => exact ⟨k + 1, by omega, by go_num, by simp only [anyN, hany, Bool.false_or, zbeq], by rw [← Nat.add_assoc]; exact hP3.out.step (by omega)⟩
        case measure => simp [intOf]; omega
    · have : k = n := by omega
      subst this
      go_wp2
      exact hQ'.out _ _ _ _ _ _ _ _ _ _ _ _ _ _ _ _ _ _ _ _ _ _ _ _ _ _ hP
end Ae
namespace Ae
open Go Go.Proofs Go.RowKit
theorem list_eta (d : Value) (n : Nat) (l : List Value) (h : l.length = n) : l = (List.range n).map fun i => l.getD i d := by
  apply List.ext_getElem (by simpa using h)
  intro i h1 h2
  simp [List.getD, List.getElem?_eq_getElem h1]
set_option maxRecDepth 10000 in
theorem arr77 (t : Array Value) (h : t.size = 77) : ∃ f : Nat → Value, t = #[f 0, f 1, f 2, f 3, f 4, f 5, f 6, f 7, f 8, f 9, f 10, f 11, f 12, f 13, f 14, f 15, f 16, f 17, f 18, f 19, f 20, f 21, f 22, f 23, f 24, f 25, f 26, f 27, f 28, f 29, f 30, f 31, f 32, f 33, f 34, f 35, f 36, f 37, f 38, f 39, f 40, f 41, f 42, f 43, f 44, f 45, f 46, f 47, f 48, f 49, f 50, f 51, f 52, f 53, f 54, f 55, f 56, f 57, f 58, f 59, f 60, f 61, f 62, f 63, f 64, f 65, f 66, f 67, f 68, f 69, f 70, f 71, f 72, f 73, f 74, f 75, f 76] := by
  refine ⟨fun i => t.toList.getD i Go.undef, ?_⟩
  apply Array.ext'
  exact list_eta Go.undef 77 t.toList (by simpa using h)
theorem pg_world {w W : World} {pg a k : Nat} {cs : Array Value} {e : Nat} {fr : Nat × Nat} {zs : List Nat} (h : Pg w W pg a k cs e fr zs) : ∃ cs' : Array Value, W = { w with heap := w.heap.setIfInBounds pg (.cells cs' e fr), drawn := W.drawn } ∧ cs'.size = cs.size ∧
    ∀ j, cs'[j]? = if a ≤ j ∧ j < a + k then some (.int .u8 (zs[j - a]?.getD 0 : Nat)) else cs[j]? := by
  obtain ⟨cs', h1, h2, h3⟩ := h.page
  refine ⟨cs', ?_, h2, h3⟩
  have hlt : pg < W.heap.size := by
    rcases Nat.lt_or_ge pg W.heap.size with q | q
    · exact q
    · rw [Array.getElem?_eq_none q] at h1; cases h1
  have hh : W.heap = w.heap.setIfInBounds pg (.cells cs' e fr) := by
    apply Array.ext_getElem?
    intro c
    rw [Array.getElem?_setIfInBounds]
    by_cases hc : pg = c
    · subst hc
      rw [if_pos rfl, if_pos (by rw [← h.size]; exact hlt), h1]
    · rw [if_neg hc, h.other c (fun e => hc e.symm)]
  obtain ⟨hp, tp, dr, os, out⟩ := W
  have e1 := h.os
  have e2 := h.tape
  have e3 := h.output
  simp only at hh e1 e2 e3
  rw [hh, e1, e2, e3]
noncomputable def any0 (l : List Nat) : Bool := List.rec false (fun z _ ih => ifb (Nat.beq z 0) true ih) l
theorem anyN_any0 (zs : List Nat) : anyN zs zs.length = any0 zs := by
  have key : ∀ k, k ≤ zs.length → anyN zs k = any0 (zs.take k) := by
    intro k
    induction k with
    | zero => intro _; rfl
    | succ k ih =>
      intro hk
      have hz : zs[k]? = some zs[k] := List.getElem?_eq_getElem (by omega)
      rw [List.take_add_one, hz]
      show (anyN zs k || (zs[k]?.getD 0 == 0)) = any0 (zs.take k ++ [zs[k]])
      rw [ih (by omega), hz]
      have app : ∀ (l : List Nat) (z : Nat), any0 (l ++ [z]) = (any0 l || (z == 0)) := by
        intro l z
        induction l with
        | nil =>
          show ifb (Nat.beq z 0) true false = _
          cases z <;> rfl
        | cons y l ih =>
          show ifb (Nat.beq y 0) true (any0 (l ++ [z])) = (ifb (Nat.beq y 0) true (any0 l) || (z == 0))
          cases Nat.beq y 0
          · exact ih
          · rfl
      rw [app]; rfl
  have := key zs.length (Nat.le_refl _)
  rwa [List.take_length] at this
noncomputable def bytesV (l : List Nat) : List V := l.map fun u => V.n .u8 u
noncomputable def repN (z n : Nat) : List Nat := Nat.rec [] (fun _ ih => z :: ih) n
theorem repN_eq (z n : Nat) : repN z n = List.replicate n z := by
  induction n with
  | zero => rfl
  | succ n ih => show z :: repN z n = _; rw [ih]; rfl
noncomputable def layPg (pg a n : Nat) (zs : List Nat) (sl : T V) (ds : DS) (σ : St) : Out :=
  Option.rec (.fail 371) (fun x => match x with
    | .row e c z m g => ifb (andB [Nat.beq m 4096, Nat.ble (Nat.add a n) 4096, Nat.beq (lenL zs) n]) (cpL (bytesV zs) fun l => stK l c a fun c => σ.setK pg (.row e c z m g) fun σ => T.setP (.b (any0 zs)) (pth 12) (reS 3089 sl 13) fun sl => .done .norm ⟨sl, ds⟩ σ) (.fail 372)
    | _ => .fail 373) (σ.get pg)
noncomputable def cellOf (σ : St) (b o : Nat) : Option V := Option.rec none (fun x => match x with | .row _ c z m _ => cellAt c z m o | _ => none) (σ.get b)
noncomputable def clo198 (fb : Out) (pg a at_ n cf : Nat) (sl : T V) (ds : DS) (σ : St) (v : V) : Out := match v with
  | .f (.func 427) [] [.p sb so] => Option.rec (.fail 374) (fun s => match s with
    | .sl bb o len _ => ifb (andB [Nat.ble (Nat.add at_ n) len, Bool.not (Nat.beq cf pg), Bool.not (Nat.beq sb pg), Bool.not (Nat.beq bb pg), Nat.ble 1 n]) (loadN σ bb (Nat.add o at_) n (.fail 375) fun l => bytesK l fun zs => layPg pg a n zs sl ds σ) (.fail 376)
    | _ => .fail 377) (cellOf σ sb so)
  | .f (.func 428) [] [.p sb so] => Option.rec (.fail 374) (fun s => match s with
    | .n .u8 z => ifb (andB [Nat.ble (Nat.add at_ n) 1152921504606846976, Bool.not (Nat.beq cf pg), Bool.not (Nat.beq sb pg)]) (layPg pg a n (repN z n) sl ds σ) (.fail 378)
    | _ => .fail 379) (cellOf σ sb so)
  | _ => fb
noncomputable def fast198 (self : Self) (fr : Fr) (σ : St) : Out := Fr.rec (fun sl ds => noPz ds (match sl.get 10, sl.get 1, sl.get 3, sl.get 5, sl.get 27 with
  | some (.p pg 0), some (.n .i64 a), some (.n .i64 at_), some (.p cf of_), some (.n .i64 n) => (match sl.get 28, sl.get 12 with
    | some (.n .i64 0), some (.b false) => Option.rec (.fail 381) (clo198 (self 530 loop198 ⟨sl, ds⟩ σ) pg a at_ n cf sl ds σ) (cellOf σ cf of_)
    | _, _ => .fail 382)
  | _, _, _, _, _ => .fail 383)) fr
theorem cellOf_ok {P : Program} {μ : Mu} {σ : St} {w : World} (hm : RelM P μ σ w) {b o : Nat} {L : Loc} (hL : μ b = some L) {v : V} (h : cellOf σ b o = some v) : ∃ v', w.cell? ⟨L.c, L.sh + o, none⟩ = some v' ∧ RelV μ v v' := by
  unfold cellOf at h
  rw [St.get_eq] at h
  cases hb : σ.heap.get b with
  | none => rw [hb] at h; cases h
  | some x =>
    rw [hb] at h
    cases x with
    | row e c z m g =>
      obtain ⟨cs, fr, h1, h2, h3, h4, h5, h6⟩ := hm.blk b _ L hb hL
      obtain ⟨v', a, r⟩ := h6 o v h
      refine ⟨v', ?_, r⟩
      unfold World.cell?
      simp only [h1]
      exact a
    | _ => cases h
theorem cellOf_live {σ : St} {b o : Nat} {v : V} (h : cellOf σ b o = some v) : ∃ x, σ.heap.get b = some x ∧ x.live := by
  unfold cellOf at h
  rw [St.get_eq] at h
  cases hb : σ.heap.get b with
  | none => rw [hb] at h; cases h
  | some x =>
    rw [hb] at h
    cases x with
    | row e c z m g => exact ⟨_, rfl, trivial⟩
    | _ => cases h
theorem ne_of_not {a b : Nat} (h : Bool.not (Nat.beq a b) = true) : a ≠ b := by
  intro e
  subst e
  rw [Nat.beq_refl] at h
  cases h
theorem layPg_inv {pg a n : Nat} {zs : List Nat} {sl : T V} {ds : DS} {σ : St} {x : Ex} {fr' : Fr} {σ' : St} (hk : layPg pg a n zs sl ds σ = .done x fr' σ') :
    ∃ e c z g, σ.heap.get pg = some (.row e c z 4096 g) ∧ a + n ≤ 4096 ∧ zs.length = n ∧ x = .norm ∧ fr' = ⟨(reS 3089 sl 13).set (.b (any0 zs)) 12, ds⟩ ∧ σ' = ⟨σ.heap.set (.row e (stT (bytesV zs) c a) z 4096 g) pg, σ.next⟩ := by
  unfold layPg at hk
  rw [St.get_eq] at hk
  cases hb : σ.heap.get pg with
  | none => rw [hb] at hk; cases hk
  | some y =>
    rw [hb] at hk
    cases y with
    | row e c z m g =>
      obtain ⟨h1, hk1⟩ := ifb_inv hk
      obtain ⟨a1, h1⟩ := andB_cons h1
      obtain ⟨a2, h1⟩ := andB_cons h1
      obtain ⟨a3, _⟩ := andB_cons h1
      have a1 := Nat.eq_of_beq_eq_true a1
      have a3 := Nat.eq_of_beq_eq_true a3
      rw [lenL_eq] at a3
      subst a1
      have hk2 : cpL (bytesV zs) (fun l => stK l c a fun c => σ.setK pg (.row e c z 4096 g) fun σ => T.setK (.b (any0 zs)) (reS 3089 sl 13) 12 fun sl => Out.done .norm ⟨sl, ds⟩ σ) = Out.done x fr' σ' := hk1
      rw [cpL_eq, stK_eq, St.setK_eq, T.setK_eq] at hk2
      injection hk2 with q1 q2 q3
      exact ⟨e, c, z, g, rfl, Nat.le_of_ble_eq_true a2, a3, q1.symm, q2.symm, q3.symm⟩
    | _ => cases hk
theorem slot3089 {i : Nat} (h : slotB 3089 i = true) : i = 0 ∨ i = 4 ∨ i = 10 ∨ i = 11 := by
  rcases Nat.lt_or_ge i 12 with q | q
  · have : i = 0 ∨ i = 1 ∨ i = 2 ∨ i = 3 ∨ i = 4 ∨ i = 5 ∨ i = 6 ∨ i = 7 ∨ i = 8 ∨ i = 9 ∨ i = 10 ∨ i = 11 := by omega
    rcases this with rfl | rfl | rfl | rfl | rfl | rfl | rfl | rfl | rfl | rfl | rfl | rfl <;> first | (left; rfl) | (right; left; rfl) | (right; right; left; rfl) | (right; right; right; rfl) | cases h
  · have h0 : Nat.shiftRight 3089 i = 0 := by
      show 3089 >>> i = 0
      rw [Nat.shiftRight_eq_div_pow]
      have : 2 ^ 12 ≤ 2 ^ i := Nat.pow_le_pow_right (by decide) q
      exact Nat.div_eq_of_lt (by omega)
    unfold slotB at h
    rw [h0] at h
    cases h
theorem pg_done {cx : Cx} {μ : Mu} {σ : St} {w W : World} (hm : RelM cx.P μ σ w) {pg a n : Nat} {Lp : Loc} (hLp : μ pg = some Lp) {e : Nat} {c : T V} {z : List V} {g : Bool} (hb : σ.heap.get pg = some (.row e c z 4096 g)) {zs : List Nat} (hlen : zs.length = n) (hz : ∀ j : Nat, zs[j]?.getD 0 < 256) (ha : a + n ≤ 4096)
    {cs : Array Value} {fr : Nat × Nat} (h1 : w.heap[Lp.c]? = some (.cells cs e fr)) (hP : Pg w W Lp.c (Lp.sh + 0 + a) n cs e fr zs) : Step cx.P μ σ w μ ⟨σ.heap.set (.row e (stT (bytesV zs) c a) z 4096 g) pg, σ.next⟩ W := by
  obtain ⟨cs', hW, hsz, hcell⟩ := pg_world hP
  obtain ⟨cs2, fr2, k1, k2, k3, k4, k5, k6⟩ := hm.blk pg _ Lp hb hLp
  rw [h1] at k1
  cases k1
  have hin := hm.inb pg Lp hLp
  have st := step_set hm pg _ (.row e (stT (bytesV zs) c a) z 4096 g) (.cells cs' e fr) Lp hb trivial hLp (by
    refine ⟨cs', fr, ?_, by rw [hsz]; exact k2, k3, ?_, k5, fun j v hj => ?_⟩
    · show (w.heap.setIfInBounds Lp.c _)[Lp.c]? = _
      rw [Array.getElem?_setIfInBounds_self_of_lt hin]
    · unfold Free at k4 ⊢
      rw [hsz]; exact k4
    · have hjl : j < 4096 := by
        rcases Nat.lt_or_ge j 4096 with q | q
        · exact q
        · rw [cellAt_ge q] at hj; cases hj
      rw [cellAt_eq, if_neg (by omega), get_stT] at hj
      rw [hcell]
      have hbl : (bytesV zs).length = n := by unfold bytesV; rw [List.length_map]; exact hlen
      by_cases hr : a ≤ j ∧ j < a + n
      · rw [if_pos (by rw [hbl]; exact hr)] at hj
        rw [if_pos (by omega)]
        have hzj : zs[j - a]? = some zs[j - a] := List.getElem?_eq_getElem (by omega)
        have he : (bytesV zs)[j - a]? = some (.n .u8 zs[j - a]) := by unfold bytesV; rw [List.getElem?_map, hzj]; rfl
        rw [he] at hj
        cases hj
        refine ⟨_, rfl, ?_⟩
        rw [show Lp.sh + j - (Lp.sh + 0 + a) = j - a by omega, hzj]
        have hz1 : zs[j - a] < 256 := by have := hz (j - a); rw [hzj] at this; exact this
        have := RelV.n (μ := μ) .u8 zs[j - a] hz1
        rwa [wrap_nn .u8 _ hz1 rfl] at this
      · rw [if_neg (by rw [hbl]; exact hr)] at hj
        rw [if_neg (by omega)]
        refine k6 j v ?_
        rw [cellAt_eq, if_neg (by omega)]
        exact hj) (fun _ _ _ _ hq => by rw [h1] at hq; cases hq; exact ⟨_, rfl⟩)
  rw [hW]
  exact st.trans (Step.draw st.rel W.drawn)
set_option maxRecDepth 20000 in
set_option maxHeartbeats 1000000 in
theorem fast198_ok {cx : Cx} {self : Self} (H : CallsOk cx self) (hP : cx.P = Tryz.prog) (hmk : ∀ i, i = 0 ∨ i = 4 ∨ i = 10 ∨ i = 11 ∨ i = 12 → slotB (cx.mask 530) i = true) : CodeOk cx none 530 loop198 (fast198 self) := by
  intro sl ds σ x fr' σ' hk μ w act hm hG hf Q hQ
  obtain ⟨_, hd0, hk1⟩ := noPz_inv hf.d hk
  clear hk
  split at hk1
  · rename_i pg a at_ cf of_ n h10 h1 h3 h5 h27
    split at hk1
    · rename_i h28 h12
      have hnt : act.tmps.size = 77 := by
        rw [hf.n]
        unfold ntmps
        rw [hP, Tryz.func530]; rfl
      obtain ⟨f, hfe⟩ := arr77 act.tmps hnt
      have at' : ∀ i v, i < 77 → sl.get i = some v → ∃ v', act.tmps[i]? = some v' ∧ RelV μ v v' := fun i v _ h => hf.s i v h
      obtain ⟨x10, g10, r10⟩ := at' 10 _ (by decide) h10
      obtain ⟨x1, g1, r1⟩ := at' 1 _ (by decide) h1
      obtain ⟨x3, g3, r3⟩ := at' 3 _ (by decide) h3
      obtain ⟨x5, g5, r5⟩ := at' 5 _ (by decide) h5
      obtain ⟨x27, g27, r27⟩ := at' 27 _ (by decide) h27
      obtain ⟨x28, g28, r28⟩ := at' 28 _ (by decide) h28
      obtain ⟨x12, g12, r12⟩ := at' 12 _ (by decide) h12
      cases r10 with | @p _ Lp _ hLp =>
      cases r5 with | @p _ Lc _ hLc =>
      cases r12
      cases r1 with | n _ _ ha0 =>
      cases r3 with | n _ _ hat0 =>
      cases r27 with | n _ _ hn0 =>
      cases r28 with | n _ _ hz0 =>
      cases hcl : cellOf σ cf of_ with
      | none => rw [hcl] at hk1; cases hk1
      | some vc =>
        rw [hcl] at hk1
        have hk2 : clo198 (self 530 loop198 ⟨sl, ds⟩ σ) pg a at_ n cf sl ds σ vc = .done x fr' σ' := hk1
        clear hk1
        obtain ⟨vc', gc, rc⟩ := cellOf_ok hm hLc hcl
        have e10 : f 10 = .pointer (some ⟨Lp.c, Lp.sh + 0, none⟩) := by rw [hfe] at g10; exact Option.some.inj g10
        have e5 : f 5 = .pointer (some ⟨Lc.c, Lc.sh + of_, none⟩) := by rw [hfe] at g5; exact Option.some.inj g5
        have e12 : f 12 = .bool false := by rw [hfe] at g12; exact Option.some.inj g12
        have e1' : f 1 = .int .i64 (IntKind.i64.wrap (a : Int)) := by rw [hfe] at g1; exact Option.some.inj g1
        have e3' : f 3 = .int .i64 (IntKind.i64.wrap (at_ : Int)) := by rw [hfe] at g3; exact Option.some.inj g3
        have e27' : f 27 = .int .i64 (IntKind.i64.wrap (n : Int)) := by rw [hfe] at g27; exact Option.some.inj g27
        have e28' : f 28 = .int .i64 (IntKind.i64.wrap ((0 : Nat) : Int)) := by rw [hfe] at g28; exact Option.some.inj g28
        have fin : ∀ (zs : List Nat), layPg pg a n zs sl ds σ = .done x fr' σ' → (∀ j : Nat, zs[j]?.getD 0 < 256) → a < 9223372036854775808 → n < 9223372036854775808 → at_ < 9223372036854775808 → ∃ (cs : Array Value) (e : Nat) (fr : Nat × Nat), w.heap[Lp.c]? = some (.cells cs e fr) ∧ Lp.sh + 0 + 4096 ≤ cs.size ∧ a + n ≤ 4096 ∧ (∀ j, j < cs.size → ¬ (fr.1 ≤ j ∧ j < fr.2)) ∧ zs.length = n ∧
            act = { tmps := #[f 0, .int .i64 (a : Nat), f 2, .int .i64 (at_ : Nat), f 4, .pointer (some ⟨Lc.c, Lc.sh + of_, none⟩), f 6, f 7, f 8, f 9, .pointer (some ⟨Lp.c, Lp.sh + 0, none⟩), f 11, .bool false, f 13, f 14, f 15, f 16, f 17, f 18, f 19, f 20, f 21, f 22, f 23, f 24, f 25, f 26, .int .i64 (n : Nat), .int .i64 0, f 29, f 30, f 31, f 32, f 33, f 34, f 35, f 36, f 37, f 38, f 39, f 40, f 41, f 42, f 43, f 44, f 45, f 46, f 47, f 48, f 49, f 50, f 51, f 52, f 53, f 54, f 55, f 56, f 57, f 58, f 59, f 60, f 61, f 62, f 63, f 64, f 65, f 66, f 67, f 68, f 69, f 70, f 71, f 72, f 73, f 74, f 75, f 76], defers := act.defers } ∧ (∀ (u13 u30 u31 u32 u33 u34 u35 u36 u37 u38 u39 u40 u41 u42 u43 u44 u45 u46 u47 u48 u49 u50 u51 u52 u53 : Value) (wr : World), Pg w wr Lp.c (Lp.sh + 0 + a) n cs e fr zs → Q .normal { tmps := #[f 0, .int .i64 (a : Nat), f 2, .int .i64 (at_ : Nat), f 4, .pointer (some ⟨Lc.c, Lc.sh + of_, none⟩), f 6, f 7, f 8, f 9, .pointer (some ⟨Lp.c, Lp.sh + 0, none⟩), f 11, .bool (anyN zs n), u13, f 14, f 15, f 16, f 17, f 18, f 19, f 20, f 21, f 22, f 23, f 24, f 25, f 26, .int .i64 (n : Nat), .int .i64 (n : Nat), .bool false, u30, u31, u32, u33, u34, u35, u36, u37, u38, u39, u40, u41, u42, u43, u44, u45, u46, u47, u48, u49, u50, u51, u52, u53, f 54, f 55, f 56, f 57, f 58, f 59, f 60, f 61, f 62, f 63, f 64, f 65, f 66, f 67, f 68, f 69, f 70, f 71, f 72, f 73, f 74, f 75, f 76], defers := act.defers } wr) := by
          intro zs hlay hz ha hn hat
          obtain ⟨e, c, z, g, hb, h4, hlen, rfl, rfl, rfl⟩ := layPg_inv hlay
          have e1 : f 1 = .int .i64 (a : Nat) := by rw [e1', wrap_small .i64 a ha]
          have e3 : f 3 = .int .i64 (at_ : Nat) := by rw [e3', wrap_small .i64 at_ hat]
          have e27 : f 27 = .int .i64 (n : Nat) := by rw [e27', wrap_small .i64 n hn]
          have e28 : f 28 = .int .i64 0 := by rw [e28']; rfl
          obtain ⟨cs, fr, k1, k2, k3, k4, k5, k6⟩ := hm.blk pg _ Lp hb hLp
          refine ⟨cs, e, fr, k1, by omega, h4, fun j hj => k4.out j hj, hlen, ?_, fun u13 u30 u31 u32 u33 u34 u35 u36 u37 u38 u39 u40 u41 u42 u43 u44 u45 u46 u47 u48 u49 u50 u51 u52 u53 wr hPg => ?_⟩
          · exact congrArg (fun t => ({ tmps := t, defers := act.defers } : Act)) (hfe.trans (by rw [e1, e3, e5, e10, e12, e27, e28]))
          · have st := pg_done hm hLp hb hlen hz h4 k1 hPg
            refine hQ μ _ wr st ⟨fun i v hv => ?_, fun i v hv => ?_, hd0, ?_⟩
            · change ((reS 3089 sl 13).set (.b (any0 zs)) 12).get i = some v at hv
              rw [T.get_set] at hv
              split at hv
              · rename_i hi
                subst hi
                cases hv
                refine ⟨.bool (anyN zs n), rfl, ?_⟩
                rw [← hlen, anyN_any0]
                exact .b _
              · obtain ⟨q1, q2⟩ := reS_ok (m := 3089) hf.s 13
                obtain ⟨v', b1, b2⟩ := q1 i v hv
                rw [hfe] at b1
                rcases slot3089 (q2 i v hv) with rfl | rfl | rfl | rfl
                · exact ⟨f 0, rfl, by cases Option.some.inj b1; exact b2⟩
                · exact ⟨f 4, rfl, by cases Option.some.inj b1; exact b2⟩
                · exact ⟨_, rfl, by rw [← e10]; cases Option.some.inj b1; exact b2⟩
                · exact ⟨f 11, rfl, by cases Option.some.inj b1; exact b2⟩
            · change ((reS 3089 sl 13).set (.b (any0 zs)) 12).get i = some v at hv
              rw [T.get_set] at hv
              split at hv
              · rename_i hi; exact hmk i (by omega)
              · obtain ⟨q1, q2⟩ := reS_ok (m := 3089) hf.s 13
                exact hmk i (by have := slot3089 (q2 i v hv); omega)
            · rw [← hf.n, hnt]; rfl
        have hwp : ∀ (K : Code.wp Tryz.prog loop198 Q act w), loop198.wpIn (fe none) 0 cx.P Q act w := fun K => by
          rw [hP]
          exact (wpIn_wide (n := 0)).2 K
        obtain ⟨xc, hxc, lxc⟩ := cellOf_live hcl
        unfold clo198 at hk2
        split at hk2
        · rename_i sb so
          cases rc with | @f _ fn' _ _ fs cap' hfn hx hy =>
          cases hfn
          have hx0 : fs = #[] := by apply Array.ext'; generalize fs.toList = q at hx; cases hx; rfl
          subst hx0
          obtain ⟨Ls, hLs, hyc⟩ : ∃ Ls, μ sb = some Ls ∧ cap' = #[.pointer (some ⟨Ls.c, Ls.sh + so, none⟩)] := by
            cases hy' : cap'.toList with
            | nil => rw [hy'] at hy; cases hy
            | cons y1 l =>
              rw [hy'] at hy
              cases hy with | cons h1 h2 =>
              cases h2
              cases h1 with | @p _ Ls _ e => exact ⟨Ls, e, arr1 hy'⟩
          subst hyc
          cases hs : cellOf σ sb so with
          | none => rw [hs] at hk2; cases hk2
          | some vs =>
            rw [hs] at hk2
            obtain ⟨vs', gs, rs⟩ := cellOf_ok hm hLs hs
            obtain ⟨xs, hxs, lxs⟩ := cellOf_live hs
            cases vs with
            | sl bb o len cap =>
              have hk3 : ifb (andB [Nat.ble (Nat.add at_ n) len, Bool.not (Nat.beq cf pg), Bool.not (Nat.beq sb pg), Bool.not (Nat.beq bb pg), Nat.ble 1 n]) (loadN σ bb (Nat.add o at_) n (.fail 375) fun l => bytesK l fun zs => layPg pg a n zs sl ds σ) (.fail 376) = .done x fr' σ' := hk2
              obtain ⟨hc, hk4⟩ := ifb_inv hk3
              obtain ⟨c1, hc⟩ := andB_cons hc
              obtain ⟨c2, hc⟩ := andB_cons hc
              obtain ⟨c3, hc⟩ := andB_cons hc
              obtain ⟨c4, hc⟩ := andB_cons hc
              obtain ⟨c5, _⟩ := andB_cons hc
              have hn0 : n ≠ 0 := by have : 1 ≤ n := Nat.le_of_ble_eq_true c5; omega
              have c1 : at_ + n ≤ len := Nat.le_of_ble_eq_true c1
              obtain ⟨Lb, cap2, off', hLb, hlen, hlc, hoff, rfl⟩ := slice_inv rs
              obtain ⟨zs, hk5, hzl, hz, hcells⟩ := bytes_cells hm hLb hk4
              have hn4 : a + n ≤ 4096 := (layPg_inv hk5).choose_spec.choose_spec.choose_spec.choose_spec.2.1
              obtain ⟨cs, e, fr, m1, m2, m3, m4, m5, m6, m7⟩ := fin zs hk5 hz (by omega) (by omega) (by omega)
              obtain ⟨e0, c0, z0, g0, hb0, _⟩ := layPg_inv hk5
              have hxb : n ≠ 0 → ∃ xb, σ.heap.get bb = some xb ∧ xb.live := fun _ => by
                rcases loadN_inv σ bb (Nat.add o at_) n (.fail 375) (fun l => bytesK l fun zs => layPg pg a n zs sl ds σ) with ⟨e, c, z, len, g, l, hb, _⟩ | hbad
                · exact ⟨_, hb, trivial⟩
                · rw [hbad] at hk4; cases hk4
              refine hwp ?_
              rw [m6]
              · obtain ⟨xb, hxb1, hxb2⟩ := hxb hn0
                exact lay_write a at_ n Lc.c (Lc.sh + of_) Lp.c (Lp.sh + 0) Ls.c (Ls.sh + so) Lb.c off' len cap2 (f 0) (f 2) (f 4) (f 6) (f 7) (f 8) (f 9) (f 11) (f 13) (f 14) (f 15) (f 16) (f 17) (f 18) (f 19) (f 20) (f 21) (f 22) (f 23) (f 24) (f 25) (f 26) (f 29) (f 30) (f 31) (f 32) (f 33) (f 34) (f 35) (f 36) (f 37) (f 38) (f 39) (f 40) (f 41) (f 42) (f 43) (f 44) (f 45) (f 46) (f 47) (f 48) (f 49) (f 50) (f 51) (f 52) (f 53) (f 54) (f 55) (f 56) (f 57) (f 58) (f 59) (f 60) (f 61) (f 62) (f 63) (f 64) (f 65) (f 66) (f 67) (f 68) (f 69) (f 70) (f 71) (f 72) (f 73) (f 74) (f 75) (f 76) act.defers zs w cs e fr Q m1 m2 m3 m4 (by omega) c1 hlen
                  (hm.inj cf pg _ _ Lc Lp (ne_of_not c2) hxc hb0 lxc trivial hLc hLp) (hm.inj sb pg _ _ Ls Lp (ne_of_not c3) hxs hb0 lxs trivial hLs hLp) (hm.inj bb pg _ _ Lb Lp (ne_of_not c4) hxb1 hb0 hxb2 trivial hLb hLp)
                  gc gs hz (fun j hj => by
                    rw [hoff (by omega), ← hcells j hj]
                    congr 2
                    show Lb.sh + o + (at_ + j) = Lb.sh + (o + at_) + j
                    omega) m7
            | _ => cases hk2
        · rename_i sb so
          cases rc with | @f _ fn' _ _ fs cap' hfn hx hy =>
          cases hfn
          have hx0 : fs = #[] := by apply Array.ext'; generalize fs.toList = q at hx; cases hx; rfl
          subst hx0
          obtain ⟨Ls, hLs, hyc⟩ : ∃ Ls, μ sb = some Ls ∧ cap' = #[.pointer (some ⟨Ls.c, Ls.sh + so, none⟩)] := by
            cases hy' : cap'.toList with
            | nil => rw [hy'] at hy; cases hy
            | cons y1 l =>
              rw [hy'] at hy
              cases hy with | cons h1 h2 =>
              cases h2
              cases h1 with | @p _ Ls _ e => exact ⟨Ls, e, arr1 hy'⟩
          subst hyc
          cases hs : cellOf σ sb so with
          | none => rw [hs] at hk2; cases hk2
          | some vs =>
            rw [hs] at hk2
            obtain ⟨vs', gs, rs⟩ := cellOf_ok hm hLs hs
            obtain ⟨xs, hxs, lxs⟩ := cellOf_live hs
            have hk3 : (match vs with
              | .n .u8 z => ifb (andB [Nat.ble (Nat.add at_ n) 1152921504606846976, Bool.not (Nat.beq cf pg), Bool.not (Nat.beq sb pg)]) (layPg pg a n (repN z n) sl ds σ) (.fail 378)
              | _ => .fail 379) = .done x fr' σ' := hk2
            split at hk3
            · rename_i z
              obtain ⟨hc, hk4⟩ := ifb_inv hk3
              obtain ⟨c1, hc⟩ := andB_cons hc
              obtain ⟨c2, hc⟩ := andB_cons hc
              obtain ⟨c3, _⟩ := andB_cons hc
              have c1 : at_ + n ≤ 1152921504606846976 := Nat.le_of_ble_eq_true c1
              cases rs with | n _ _ hz0' =>
              have hzb : z < 256 := hz0'
              rw [wrap_nn .u8 z hzb rfl] at gs
              have hzs : ∀ j : Nat, j < n → (repN z n)[j]?.getD 0 = z := fun j hj => by rw [repN_eq, List.getElem?_replicate, if_pos hj]; rfl
              have hz : ∀ j : Nat, (repN z n)[j]?.getD 0 < 256 := fun j => by
                rcases Nat.lt_or_ge j n with q | q
                · rw [hzs j q]; exact hzb
                · rw [repN_eq, List.getElem?_replicate, if_neg (by omega)]; decide
              have hn4 : a + n ≤ 4096 := (layPg_inv hk4).choose_spec.choose_spec.choose_spec.choose_spec.2.1
              obtain ⟨cs, e, fr, m1, m2, m3, m4, m5, m6, m7⟩ := fin (repN z n) hk4 hz (by omega) (by omega) (by omega)
              obtain ⟨e0, c0, z0, g0, hb0, _⟩ := layPg_inv hk4
              refine hwp ?_
              rw [m6]
              exact lay_fill a at_ n Lc.c (Lc.sh + of_) Lp.c (Lp.sh + 0) Ls.c (Ls.sh + so) z (f 0) (f 2) (f 4) (f 6) (f 7) (f 8) (f 9) (f 11) (f 13) (f 14) (f 15) (f 16) (f 17) (f 18) (f 19) (f 20) (f 21) (f 22) (f 23) (f 24) (f 25) (f 26) (f 29) (f 30) (f 31) (f 32) (f 33) (f 34) (f 35) (f 36) (f 37) (f 38) (f 39) (f 40) (f 41) (f 42) (f 43) (f 44) (f 45) (f 46) (f 47) (f 48) (f 49) (f 50) (f 51) (f 52) (f 53) (f 54) (f 55) (f 56) (f 57) (f 58) (f 59) (f 60) (f 61) (f 62) (f 63) (f 64) (f 65) (f 66) (f 67) (f 68) (f 69) (f 70) (f 71) (f 72) (f 73) (f 74) (f 75) (f 76) act.defers (repN z n) w cs e fr Q m1 m2 m3 m4 (by omega) (by omega)
                (hm.inj cf pg _ _ Lc Lp (ne_of_not c2) hxc hb0 lxc trivial hLc hLp) (hm.inj sb pg _ _ Ls Lp (ne_of_not c3) hxs hb0 lxs trivial hLs hLp) gc gs hzs m7
            · cases hk3
        · exact H.self none 530 loop198 hk2 hm hG hf hQ
    · cases hk1
  · cases hk1
theorem bodyC_calls {cx : Cx} {self : Self} (H : CallsOk cx self) {dcall : DCall} (hD : DT cx dcall) {f : Nat} {fn : Func} {c : Code} (hf : cx.P.funcs[f]? = some fn) (hb : fn.body = some c) {runc : Fr → St → Out} (hc : CodeOk cx none f c runc) {args : List V} (hn : args.length ≤ fn.ntmps)
    (hmask : ∀ k, k < args.length → slotB (cx.mask f) k = true) {σ : St} {K : V → St → Out} {x : Ex} {fr : Fr} {σ' : St} (hk : leave cx dcall fn.results.toList K (runc ⟨stT args .e 0, []⟩ σ) = .done x fr σ') {μ : Mu} {w : World} {args' : Array Value}
    (hm : RelM cx.P μ σ w) (hG : Glob cx.globs μ) (hl : RelL μ args args'.toList) : Comes1 cx.P (callFunc f args') μ σ w fun v σ1 => K v σ1 = .done x fr σ' := by
  obtain ⟨x1, sl, ds, σ1, h1, hx, h2⟩ := leave_inv hk
  refine .inr ⟨f, args', run_enter hf (H.names f fn c hf hb) hb args' w, (callsIn_wide (n := 0)).1 (callsIn_of_wp_marks hf hb trivial ?_)⟩
  refine hc h1 hm hG (enter_frame hf hl hn hmask) fun μ1 a1 w1 st hf1 => ?_
  have fin : LeavesInM Fence.wide 0 cx.P fn a1.tmps (fun e w1 => ∃ v' μ1 v σ1, e = .returned v' ∧ RelV μ1 v v' ∧ Step cx.P μ σ w μ1 σ1 w1 ∧ K v σ1 = .done x fr σ') a1.defers .returning w1 := by
    refine leaves_ok hD ds hf1.d st.rel (hG.mono st.le) h2 fun μ2 σ2 w2 st2 h3 => ?_
    obtain ⟨v, v', h4, h5, h6⟩ := resultsK_ok st2.rel (hf1.s.mono st2.le) h3
    exact ⟨v', h6, v', μ2, v, σ2, rfl, h5, st.trans st2, h4⟩
  rcases hx with rfl | rfl <;> exact fin
noncomputable def run198 (self : Self) (fr : Fr) (σ : St) : Out :=
  again (fun fr σ => again (fun fr σ => again (fun fr σ => again (self 530 (tlC (tlC (tlC (tlC b198))))) (again (fast198 self) (self 530 (hdC (hdC (tlC (tlC (tlC b198))))) fr σ))) (self 530 (hdC (tlC (tlC b198))) fr σ)) (self 530 (hdC (tlC b198)) fr σ)) (self 530 (hdC b198) fr σ)
noncomputable def p198 (cx : Cx) (self : Self) (args : List V) (σ : St) (K : V → St → Out) : Out :=
  ifb (Nat.beq (lenL args) 6) (stK args .e 0 fun s => leave cx (fun _ _ _ _ => .fail 384) [] K (run198 self ⟨s, []⟩ σ)) (.fail 385)
theorem p198_ok {cx : Cx} {self : Self} (H : CallsOk cx self) (hP : cx.P = Tryz.prog) (hmk : ∀ i, i ≤ 5 ∨ i = 10 ∨ i = 11 ∨ i = 12 → slotB (cx.mask 530) i = true) : FnOk cx (p198 cx self) 530 := by
  intro args σ K x fr σ' hk μ w args' hm hG hl
  obtain ⟨h6, hk⟩ := ifb_inv hk
  have h6 := Nat.eq_of_beq_eq_true h6
  rw [lenL_eq] at h6
  rw [stK_eq] at hk
  have hf : cx.P.funcs[530]? = some Tryz.f530 := by rw [hP]; exact Tryz.func530
  have hb : Tryz.f530.body = some b198 := by kernel_rfl
  have hres : Tryz.f530.results.toList = [] := by kernel_rfl
  have hnt : Tryz.f530.ntmps = 77 := by kernel_rfl
  have hc : CodeOk cx none 530 b198 (run198 self) := by
    rw [b198_eq]
    exact seq_ok (H.self none 530 _) (seq_ok (H.self none 530 _) (seq_ok (H.self none 530 _) (seq_ok (seq_ok (H.self none 530 _) (fast198_ok H hP (fun i hi => hmk i (by omega)))) (H.self none 530 _))))
  exact bodyC_calls H (DT.none cx 384) hf hb hc (by rw [h6, hnt]; decide) (fun k hk => hmk k (by omega)) (by rw [hres]; exact hk) hm hG hl
end Ae
namespace Ae
open Go
structure RI where
  o1 : Oper
  o2 : Oper
  x : Operand
  rest : Code
noncomputable def asgOf (o : Op) : Option Operand := match o with | .assign x => some x | .move x => some x | _ => none
noncomputable def isRec (o : Op) : Bool := match o with | .call c => (match c.callee with | .builtin .recover => true | _ => false) | _ => false
noncomputable def recTwo (l : List Oper) (rest : Code) : Option RI := match l with
  | [o1, o2] => (match isRec o1.op, o1.guard, o2.guard, asgOf o2.op with | true, none, none, some x => some ⟨o1, o2, x, rest⟩ | _, _, _, _ => none)
  | _ => none
noncomputable def recOf (c : Code) : Option RI := match c with
  | .seq (.region _ ops false) rest => recTwo ops.toList rest
  | _ => none
theorem asgOf_ok {o : Oper} {x : Operand} (h : asgOf o.op = some x) {P : Program} (ρ : Operand → Value) (w : World) : (execOp ρ o).run P w = .ok (.value (ρ x)) w := by
  unfold asgOf at h
  split at h
  · rename_i q; cases h; simp [execOp, q]
  · rename_i q; cases h; simp [execOp, q]
  · cases h
theorem isRec_ok {o : Oper} (h : isRec o.op = true) {P : Program} (ρ : Operand → Value) (w : World) : (execOp ρ o).run P w = .ok .recover w := by
  unfold isRec at h
  split at h
  · rename_i c q
    split at h
    · rename_i q2; simp [execOp, q, resolve, q2, invoke, builtin]
    · cases h
  · cases h
theorem recOf_ok {c : Code} {r : RI} (h : recOf c = some r) : ∃ id ops, c = .seq (.region id ops false) r.rest ∧ ops.toList = [r.o1, r.o2] ∧ isRec r.o1.op = true ∧ r.o1.guard = none ∧ r.o2.guard = none ∧ asgOf r.o2.op = some r.x := by
  unfold recOf at h
  split at h
  · rename_i id ops rest
    unfold recTwo at h
    split at h
    · rename_i o1 o2 hl
      split at h
      · rename_i x h1 h2 h3 h4
        cases h
        exact ⟨id, ops, rfl, hl, h1, h2, h3, h4⟩
      · cases h
    · cases h
  · cases h
section
variable (cx : Cx) (self : Self)
noncomputable def recRun (f : Nat) (r : RI) (sl : T V) (σ : St) : Out :=
  ifb (Bool.and (okDst (ntmps cx f) r.o1.dst) (okDst (ntmps cx f) r.o2.dst))
   (putD (dstOf (cx.mask f) r.o1.dst) .i0 [] sl fun env sl => accK (res cx.globs (cx.mask f) (namesOf (cx.mask f) r.o1.dst []) r.x) env sl fun v =>
     putD (dstOf (cx.mask f) r.o2.dst) v env sl fun _ sl => self f r.rest ⟨sl, []⟩ σ) (.fail 333)
noncomputable def recF (f : Nat) (args : List V) (σ : St) (K : V → St → Out) : Out :=
  Option.rec (.fail 330) (fun i => FnInfo.rec (fun c rs => Option.rec (.fail 331) (fun r => stK args .e 0 fun s => leave cx (fun _ _ _ _ => .fail 332) rs K (recRun cx self f r s σ)) (recOf c)) i) (fnInfo cx f (lenL args))
end
section
variable {cx : Cx} {self : Self}
theorem recF_ok (H : CallsOk cx self) (f : Nat) : DefOk cx (recF cx self f) f := by
  intro args σ K x fr σ' hk μ w args' hm hG hl
  unfold recF at hk
  rw [lenL_eq] at hk
  cases hi : fnInfo cx f args.length with
  | none => rw [hi] at hk; cases hk
  | some i =>
    rw [hi] at hk
    obtain ⟨fn, c, hf, hb, rfl, hn, hmask⟩ := fnInfo_ok hi
    change Option.rec (motive := fun _ => Out) (.fail 331) (fun r => stK args .e 0 fun s => leave cx (fun _ _ _ _ => .fail 332) fn.results.toList K (recRun cx self f r s σ)) (recOf c) = _ at hk
    cases hr : recOf c with
    | none => rw [hr] at hk; cases hk
    | some r =>
      rw [hr] at hk
      change stK args .e 0 (fun s => leave cx (fun _ _ _ _ => .fail 332) fn.results.toList K (recRun cx self f r s σ)) = _ at hk
      rw [stK_eq] at hk
      obtain ⟨x1, sl, ds, σ1, h1, hx, h2⟩ := leave_inv hk
      obtain ⟨id, ops, rfl, hops, ho1, hg1, hg2, ho2⟩ := recOf_ok hr
      refine ⟨run_enter hf (H.names f fn _ hf hb) hb args' w, ?_⟩
      have hds : ds = [] := by cases ds with | nil => rfl | cons d ds => cases h2
      subst hds
      have h3 : resultsK cx sl fn.results.toList σ1 K = .done x fr σ' := h2
      have hF := enter_frame hf hl hn hmask
      obtain ⟨hd, h4⟩ := ifb_inv h1
      rw [Bool.and_eq_true] at hd
      generalize hact : ({ tmps := args' ++ Array.replicate (fn.ntmps - args'.size) Go.undef, defers := [] } : Act) = a0 at hF
      obtain ⟨env1, sl1, e1, q1, q2, q3, q4⟩ := putD_ok hd.1 (names := []) (env := []) hF.n hF.s hF.m (RelE'.nil _ _ _) (fun t k h => by cases h) (RelV.i0) (fun env sl => accK (res cx.globs (cx.mask f) (namesOf (cx.mask f) r.o1.dst []) r.x) env sl fun v =>
        putD (dstOf (cx.mask f) r.o2.dst) v env sl fun _ sl => self f r.rest ⟨sl, []⟩ σ)
      rw [e1] at h4
      obtain ⟨v, hv, h5⟩ := hacc (hG) q1 q3 r.x _ _ _ _ h4
      have hn1 : (a0.put r.o1.dst .nilIface).tmps.size = ntmps cx f := by rw [put_size]; exact hF.n
      obtain ⟨env2, sl2, e2, p1, p2, p3, p4⟩ := putD_ok hd.2 hn1 q1 q2 q3 q4 hv (fun _ sl => self f r.rest ⟨sl, []⟩ σ)
      rw [e2] at h5
      refine callsDIn_of_wpSIn hf hb trivial fun c₀ cs hu => ?_
      rw [hact]
      refine wpSIn_seq (wpSIn_region ?_)
      have hsz : ops.size = 2 := by rw [← Array.length_toList, hops]; rfl
      have g1 : ops[0]? = some r.o1 := by rw [← Array.getElem?_toList, hops]; rfl
      have g2 : ops[1]? = some r.o2 := by rw [← Array.getElem?_toList, hops]; rfl
      rw [hsz]
      show wpOpsSIn Fence.wide 0 cx.P ops _ [0, 1] a0 (c₀ :: cs) w
      have hrun1 : (execOp a0.eval r.o1).run cx.P w = .ok .recover w := isRec_ok ho1 _ _
      have hrec : recoverD (c₀ :: cs) = none := by simp [recoverD, hu]
      unfold wpOpsSIn
      simp only [g1]
      refine ⟨fun _ _ => trivial, ?_⟩
      rw [if_pos (wanted_none hg1 _), hrun1]
      simp only [hrec]
      unfold wpOpsSIn
      simp only [g2]
      refine ⟨fun _ _ => trivial, ?_⟩
      rw [if_pos (wanted_none hg2 _), asgOf_ok ho2]
      simp only
      unfold wpOpsSIn
      refine wpSIn_of_wpIn rfl (H.self none f r.rest h5 hm hG ⟨p1, p2, ?_, by rw [put_size]; exact hn1⟩ fun μ1 a1 w1 st hf1 => ?_)
      · show RelD0 μ [] _
        rw [put_defers', put_defers']
        exact hF.d
      · have hd1 : a1.defers = [] := by have : RelD0 μ1 [] a1.defers := hf1.d; generalize a1.defers = q at this; cases this; rfl
        obtain ⟨v, v', h6, h7, h8⟩ := resultsK_ok st.rel hf1.s h3
        have fin : a1.defers = [] ∧ ∃ u', c₀ :: cs = { c₀ with mode := u' } :: cs ∧ ∃ v, (results fn a1.tmps).run cx.P w1 = .ok v w1 ∧ ∃ v' μ1 v0 σ1, Ending.returned v = .returned v' ∧ u' = .returning ∧ Step cx.P μ σ w μ1 σ1 w1 ∧ K v0 σ1 = .done x fr σ' :=
          ⟨hd1, .returning, by rw [← hu], v', h8, v', μ1, v, σ1, rfl, rfl, st, h6⟩
        rcases hx with rfl | rfl <;> exact fin
end
end Ae
namespace Ae
open Go
noncomputable def pfL (q : Nat → Option V) (l : List V) : Nat → Bool := List.rec (motive := fun _ => Nat → Bool) (fun _ => true) (fun v _ ih j => match v with
  | .n _ u => ifb (Option.rec false (fun x => match x with | .n _ u' => Nat.beq u u' | _ => false) (q j)) (ih (Nat.succ j)) false
  | _ => ih (Nat.succ j)) l
noncomputable def pfN (u : Nat) (x : Option V) : Bool := Option.rec true (fun x => match x with | .n _ u' => Nat.beq u u' | _ => true) x
noncomputable def pfR (q : Nat → Option V) (l : List Nat) : Nat → Bool := List.rec (motive := fun _ => Nat → Bool) (fun _ => true) (fun u _ ih j => ifb (pfN u (q j)) (ih (Nat.succ j)) false) l
noncomputable def pfO (q : Nat → Option V) (l : List (Nat × List Nat)) : Bool := List.rec true (fun r _ ih => ifb (pfR q r.2 r.1) ih false) l
noncomputable def pfS (l : List V) (r : List (Nat × V)) : Bool := List.rec true (fun r _ ih => ifb (match r.2 with | .n _ u => pfN u (nth l r.1) | _ => true) ih false) r
noncomputable def pfB (x : Option LB) (b : Nat) (σ : St) : Bool := match x with
  | some (.ro _ [(0, l)] _ _ _) => (match σ.get b with | some (.row _ c z n _) => pfL (cellAt c z n) l 0 | _ => true)
  | some (.oc _ r _ _ _) => (match σ.get b with | some (.row _ c z n _) => pfO (cellAt c z n) r | _ => true)
  | _ => true
noncomputable def pf1 (pre : List LB) (σ : St) (a : LA) (v : V) : Bool := match a with
  | .v (.n _ u) => (match v with | .n _ u' => Nat.beq u u' | _ => false)
  | .v (.p k _) => (match v with | .p b _ => pfB (nthB pre k) b σ | _ => false)
  | .v (.sl k o _ _) => (match v with | .sl b o' _ _ => ifb (Nat.beq o o') (pfB (nthB pre k) b σ) false | _ => false)
  | .sp _ _ r => (match v with | .a l => pfS l r | _ => false)
  | _ => true
noncomputable def pfZ (pre : List LB) (σ : St) (ags : List LA) : List V → Bool := List.rec (motive := fun _ => List V → Bool) (fun _ => true) (fun a _ ih vs => List.rec true (fun v vs _ => ifb (pf1 pre σ a v) (ih vs) false) vs) ags
noncomputable def pf (m : Memo) (args : List V) (σ : St) : Bool := pfZ m.pre σ m.args args
noncomputable def memoF (G : Nat) (m : Memo) (fb : List V → St → (V → St → Out) → Out) (args : List V) (σ : St) (K : V → St → Out) : Out := ifb (pf m args σ) (memoK G m fb args σ K) (fb args σ K)
theorem memoF_ok {cx : Cx} {f : Nat} {m : Memo} {fb : List V → St → (V → St → Out) → Out} (hM : MemoOk cx.P cx.globs f (unM m)) (hfb : FnOk cx fb f) : FnOk cx (memoF cx.globs m fb) f := by
  intro args σ K x fr σ' hk
  unfold memoF at hk
  rw [ifb_eq] at hk
  split at hk
  · exact memoK_ok hM hfb hk
  · exact hfb hk
noncomputable def memosF (G : Nat) (l : List Memo) (fb : List V → St → (V → St → Out) → Out) : List V → St → (V → St → Out) → Out := List.rec fb (fun m _ ih => memoF G m ih) l
theorem memosF_ok {cx : Cx} {f : Nat} {fb : List V → St → (V → St → Out) → Out} (hfb : FnOk cx fb f) : ∀ (l : List Memo), (∀ m ∈ l, MemoOk cx.P cx.globs f (unM m)) → FnOk cx (memosF cx.globs l fb) f := by
  intro l
  induction l with
  | nil => exact fun _ => hfb
  | cons m l ih => exact fun h => memoF_ok (h m List.mem_cons_self) (ih fun q hq => h q (List.mem_cons_of_mem _ hq))
abbrev Pf := List V → St → (V → St → Out) → Out
noncomputable def memTab (G : Nat) (base : Prim) (l : List (Nat × List Memo)) (fb : Nat → Pf) (f : Nat) : Option Pf := List.rec (base f) (fun e _ ih => ifb (Nat.beq e.1 f) (some (memosF G e.2 (fb f))) ih) l
noncomputable def cxN (P : Program) (mask : Nat → Nat) (base dprim : Prim) (d : Nat) (l : List (Nat × List Memo)) (n : Nat) : Cx :=
  Nat.rec ⟨P, mask, memTab 14 base l (fun _ _ _ _ => .fail 360), dprim, 24, 14⟩ (fun _ cx => ⟨P, mask, memTab 14 base l (fun f => bodyF cx (exec cx d) (callD cx (exec cx d)) f), dprim, 24, 14⟩) n
theorem cxN_P {P : Program} {mask : Nat → Nat} {base dprim : Prim} {d : Nat} {l : List (Nat × List Memo)} : ∀ n, (cxN P mask base dprim d l n).P = P ∧ (cxN P mask base dprim d l n).globs = 14 ∧ (cxN P mask base dprim d l n).dprim = dprim
  | 0 => ⟨rfl, rfl, rfl⟩
  | _ + 1 => ⟨rfl, rfl, rfl⟩
def PfOk (P : Program) (f : Nat) (g : Pf) : Prop := ∀ cx : Cx, cx.P = P → cx.globs = 14 → FnOk cx g f
def PdOk (P : Program) (f : Nat) (g : Pf) : Prop := ∀ cx : Cx, cx.P = P → cx.globs = 14 → DefOk cx g f
theorem memTab_ok {P : Program} {cx : Cx} (hP : cx.P = P) (hG : cx.globs = 14) {base : Prim} (hbase : ∀ f g, base f = some g → PfOk P f g) {fb : Nat → Pf} (hfb : ∀ f, FnOk cx (fb f) f) : ∀ (l : List (Nat × List Memo)), (∀ e ∈ l, ∀ m ∈ e.2, MemoOk P 14 e.1 (unM m)) →
    ∀ f g, memTab 14 base l fb f = some g → FnOk cx g f := by
  intro l
  induction l with
  | nil => exact fun _ f g h => hbase f g h cx hP hG
  | cons e l ih =>
    intro h f g hg
    change ifb (Nat.beq e.1 f) (some (memosF 14 e.2 (fb f))) (memTab 14 base l fb f) = some g at hg
    rw [ifb_eq] at hg
    split at hg
    · rename_i he
      have he := Nat.eq_of_beq_eq_true he
      cases hg
      have h1 : ∀ m ∈ e.2, MemoOk cx.P cx.globs f (unM m) := fun m hm => by rw [hP, hG, ← he]; exact h e List.mem_cons_self m hm
      have h2 := memosF_ok (hfb f) e.2 h1
      rw [hG] at h2
      exact h2
    · exact ih (fun q hq => h q (List.mem_cons_of_mem _ hq)) f g hg
structure ProgOk (P : Program) : Prop where
  mix : P.follows .mixedOrders = true
  names : ∀ (f : Nat) (fn : Func) (c : Code), P.funcs[f]? = some fn → fn.body = some c → (fn.name == "runtime.NumGoroutine") = false
theorem cxN_ok {P : Program} (hp : ProgOk P) {mask : Nat → Nat} {base dprim : Prim} {d : Nat} {l : List (Nat × List Memo)} (hbase : ∀ f g, base f = some g → PfOk P f g) (hdp : ∀ f g, dprim f = some g → PdOk P f g) (hl : ∀ e ∈ l, ∀ m ∈ e.2, MemoOk P 14 e.1 (unM m)) :
    ∀ (n d2 : Nat), CallsOk (cxN P mask base dprim d l n) (exec (cxN P mask base dprim d l n) d2) := by
  intro n
  induction n with
  | zero =>
    intro d2
    exact exec_ok hp.mix (memTab_ok (P := P) rfl rfl hbase (fun _ => fail_ok) l hl) (fun f g h => hdp f g h _ rfl rfl) hp.names d2
  | succ n ih =>
    intro d2
    refine exec_ok hp.mix (memTab_ok (P := P) rfl rfl hbase (fun f => ?_) l hl) (fun f g h => hdp f g h _ rfl rfl) hp.names d2
    have H := ih d
    have hb := bodyF_ok H (callD_ok H) f
    obtain ⟨e1, e2, _⟩ := cxN_P (P := P) (mask := mask) (base := base) (dprim := dprim) (d := d) (l := l) n
    intro args σ K x fr σ' hk μ w args' hm hG hl'
    have := @hb args σ K x fr σ' hk μ w args' (by rw [e1]; exact hm) (by rw [e2]; exact hG) hl'
    rw [e1] at this
    exact this
theorem memo_known {P : Program} (hp : ProgOk P) {mask : Nat → Nat} {base dprim : Prim} {d : Nat} {l : List (Nat × List Memo)} (hbase : ∀ f g, base f = some g → PfOk P f g) (hdp : ∀ f g, dprim f = some g → PdOk P f g) (hl : ∀ e ∈ l, ∀ m ∈ e.2, MemoOk P 14 e.1 (unM m)) (n f : Nat) {m : Memo}
    (h : chunk 14 (bodyF (cxN P mask base dprim d l n) (exec (cxN P mask base dprim d l n) d) (callD (cxN P mask base dprim d l n) (exec (cxN P mask base dprim d l n) d)) f) m = .done .norm ⟨.e, []⟩ st0) : MemoOk P 14 f (unM m) := by
  have H := cxN_ok (mask := mask) (d := d) hp hbase hdp hl n d
  obtain ⟨e1, e2, _⟩ := cxN_P (P := P) (mask := mask) (base := base) (dprim := dprim) (d := d) (l := l) n
  have := memo_of (cx := cxN P mask base dprim d l n) (bodyF_ok H (callD_ok H) f) (by rw [e2]; exact h)
  rw [e1, e2] at this
  exact this
theorem hl_nil {P : Program} : ∀ e ∈ ([] : List (Nat × List Memo)), ∀ m ∈ e.2, MemoOk P 14 e.1 (unM m) := fun e he => by cases he
theorem hl_cons {P : Program} {f : Nat} {ms : List Memo} {l : List (Nat × List Memo)} (h1 : ∀ m ∈ ms, MemoOk P 14 f (unM m)) (h2 : ∀ e ∈ l, ∀ m ∈ e.2, MemoOk P 14 e.1 (unM m)) : ∀ e ∈ (f, ms) :: l, ∀ m ∈ e.2, MemoOk P 14 e.1 (unM m) := fun e he => by
  rcases List.mem_cons.1 he with rfl | he
  · exact h1
  · exact h2 e he
theorem hm_nil {P : Program} {f : Nat} : ∀ m ∈ ([] : List Memo), MemoOk P 14 f (unM m) := fun m hm => by cases hm
theorem hm_cons {P : Program} {f : Nat} {m0 : Memo} {ms : List Memo} (h1 : MemoOk P 14 f (unM m0)) (h2 : ∀ m ∈ ms, MemoOk P 14 f (unM m)) : ∀ m ∈ m0 :: ms, MemoOk P 14 f (unM m) := fun m hm => by
  rcases List.mem_cons.1 hm with rfl | hm
  · exact h1
  · exact h2 m hm
end Ae
namespace Ae
open Go Go.Proofs Go.RowKit Go.Extern.Stop Go.Stop Go.Extern Go.Extern.ReflectliteType Go.Extern.Rtype
theorem isTypeOf (v : Value) (w : World) : (Extern.ReflectliteType.typeOf #[.iface 30 v]).run Tryz.prog w = .ok (.iface 399 (.agg #[.pointer (some ⟨14, 30, none⟩)])) w := by kernel_rfl
theorem isComparable (w : World) : ((Extern.ReflectliteType.method fun t => do noPackHeld "Comparable" t; pure (.bool (← typeInfo t).comparable)) #[.agg #[.pointer (some ⟨14, 30, none⟩)]]).run Tryz.prog w = .ok (.bool true) w := by kernel_rfl
theorem isMethodComparable (v : Value) (w : World) : (Go.method 1022 399 v "Comparable").run Tryz.prog w = .ok (760, v) w := by kernel_rfl
theorem isComp : (Tryz.prog.info? 30).map (·.comparable) = some true := by kernel_rfl
theorem noIsE (v : Value) (xT : TypeId) (w : World) : (Instr.typeAssert (.iface 30 v) xT 401 true).run Tryz.prog w = .ok (.tuple #[.nilIface, .bool false]) w := run_typeAssert_lacksB Tryz.underlying401 (by kernel_rfl) (by kernel_rfl) v xT w
theorem noUnwrapE (v : Value) (xT : TypeId) (w : World) : (Instr.typeAssert (.iface 30 v) xT 404 true).run Tryz.prog w = .ok (.tuple #[.nilIface, .bool false]) w := run_typeAssert_lacksB Tryz.underlying404 (by kernel_rfl) (by kernel_rfl) v xT w
theorem noUnwrapsE (v : Value) (xT : TypeId) (w : World) : (Instr.typeAssert (.iface 30 v) xT 405 true).run Tryz.prog w = .ok (.tuple #[.nilIface, .bool false]) w := run_typeAssert_lacksB Tryz.underlying405 (by kernel_rfl) (by kernel_rfl) v xT w
theorem callTypeOf (v : Value) (w : World) : (callFunc 92 #[.iface 30 v]).run Tryz.prog w = .ok (.value (.iface 399 (.agg #[.pointer (some ⟨14, 30, none⟩)]))) w := by
  rw [@run_callFunc_extern Tryz.prog 92 _ Extern.ReflectliteType.typeOf Tryz.func92 (by kernel_rfl) (by kernel_rfl) (by kernel_rfl) (by kernel_rfl), isTypeOf]; rfl
theorem callComparable (w : World) : (callFunc 760 #[.agg #[.pointer (some ⟨14, 30, none⟩)]]).run Tryz.prog w = .ok (.value (.bool true)) w := by
  rw [@run_callFunc_extern Tryz.prog 760 _ (Extern.ReflectliteType.method fun t => do noPackHeld "Comparable" t; pure (.bool (← typeInfo t).comparable)) Tryz.func760 (by kernel_rfl) (by kernel_rfl) (by kernel_rfl) (by kernel_rfl), isComparable]; rfl
set_option maxRecDepth 100000 in
theorem is_errno (a b : Int) (w : World) :
    Calls Tryz.prog 54 #[.iface 30 (.int .i64 a), .iface 30 (.int .i64 b)] w fun e w' => e = .returned (.bool (a == b)) ∧ w' = w := by
  have h8 := callTypeOf
  have h32 := callComparable
  have mR := isMethodComparable
  have nE := noIsE
  have uE := noUnwrapE
  have vE := noUnwrapsE
  have heq := fun w => Lib.run_eql_iface_int (P := Tryz.prog) w (k := .i64) a b Tryz.underlying44 isComp Tryz.underlying30
  cases hab : (a == b)
  · rw [hab] at heq
    go_enter Tryz.func54, Tryz.ntmps54
    go_wp2
    refine wp_loop_rounds 1 ?_
    rw [rounds_succ]
    go_wp2
    go_ret
    exact ⟨rfl, rfl⟩
  · rw [hab] at heq
    go_enter Tryz.func54, Tryz.ntmps54
    go_wp2
    refine wp_loop_rounds 1 ?_
    rw [rounds_succ]
    go_wp2
    go_ret
    exact ⟨rfl, rfl⟩
end Ae
namespace Ae
open Go Go.Proofs
noncomputable def pIs (args : List V) (σ : St) (K : V → St → Out) : Out := match args with
  | [.i t (.n .i64 a), .i u (.n .i64 b)] => ifb (andB [Nat.beq t 30, Nat.beq u 30]) (ifb (Nat.beq a b) (K (.b true) σ) (K (.b false) σ)) (.fail 361)
  | _ => .fail 361
theorem pIs_ok {cx : Cx} (hP : cx.P = Tryz.prog) : FnOk cx pIs 54 := by
  intro args σ K x fr σ' hk μ w args' hm hG hl
  unfold pIs at hk
  split at hk
  · rename_i t a u b
    obtain ⟨h0, hk2⟩ := ifb_inv hk
    clear hk
    obtain ⟨h1, h0⟩ := andB_cons h0
    obtain ⟨h2, _⟩ := andB_cons h0
    obtain rfl := Nat.eq_of_beq_eq_true h1
    obtain rfl := Nat.eq_of_beq_eq_true h2
    cases hl' : args'.toList with
    | nil => rw [hl'] at hl; cases hl
    | cons a1 l =>
      rw [hl'] at hl
      cases hl with | cons r1 hl =>
      cases hl with | @cons _ a2 _ _ r2 hl =>
      cases hl
      cases r1 with | i _ r1 =>
      cases r2 with | i _ r2 =>
      cases r1 with | n _ _ ha =>
      cases r2 with | n _ _ hb =>
      have hargs := arr2 hl'
      subst hargs
      have hc := is_errno (IntKind.i64.wrap a) (IntKind.i64.wrap b) w
      have hf : cx.P.funcs[54]? = some Tryz.f54 := by rw [hP]; exact Tryz.func54
      have hname : (Tryz.f54.name == "runtime.NumGoroutine") = false := by kernel_rfl
      have hbody : Tryz.f54.body = some (Tryz.f54.body.getD .skip) := by kernel_rfl
      have hbeq : (IntKind.i64.wrap a == IntKind.i64.wrap b) = Nat.beq a b := by
        rw [Bool.eq_iff_iff, beq_iff_eq, wrap_inj .i64 a b ha hb]
        exact ⟨fun h => by rw [h]; exact Nat.beq_refl b, Nat.eq_of_beq_eq_true⟩
      rw [hbeq] at hc
      rw [← hP] at hc
      rw [ifb_eq] at hk2
      split at hk2
      · rename_i h3
        rw [h3] at hc
        exact comes_calls hf hname hbody hm (.b true) (hc.mono fun e w1 ⟨he, hw⟩ => ⟨he, by rw [hw]; exact Go.RowKit.Below.refl _ _⟩) hk2
      · rename_i h3
        rw [Bool.not_eq_true] at h3
        rw [h3] at hc
        exact comes_calls hf hname hbody hm (.b false) (hc.mono fun e w1 ⟨he, hw⟩ => ⟨he, by rw [hw]; exact Go.RowKit.Below.refl _ _⟩) hk2
  · cases hk
end Ae
namespace Ae
noncomputable def maskT : T Nat :=
  (.n none (.n none (.n (some 264179) (.n (some 524411) (.n (some 33571891) (.n (some 259) (.n (some 259) (.n (some 72746131631) (.n (some 16515) (.n (some 549755814855) .e
  .e)
  (.n (some 1) .e
  .e))
  (.n (some 5) (.n (some 129) .e
  .e)
  .e))
  (.n (some 618970019643261883730887163) (.n (some 7) (.n (some 536932539) .e
  .e)
  .e)
  (.n (some 1031) (.n (some 1037) .e
  .e)
  .e)))
  (.n (some 5) (.n (some 66023) (.n (some 19) (.n (some 34897658371) .e
  .e)
  .e)
  (.n (some 17179886351) (.n (some 131075) .e
  .e)
  .e))
  (.n (some 3) (.n (some 3) (.n (some 288231475663604767) .e
  .e)
  .e)
  (.n (some 16908503) (.n (some 1) .e
  .e)
  .e))))
  (.n (some 281539401247431) (.n (some 16806963) (.n (some 21) (.n (some 359) (.n (some 271) .e
  .e)
  .e)
  (.n (some 3) (.n (some 33551) .e
  .e)
  .e))
  (.n (some 71) (.n (some 983049) (.n (some 5) .e
  .e)
  .e)
  (.n (some 15) (.n (some 1) .e
  .e)
  .e)))
  (.n (some 35467840061935) (.n (some 21) (.n (some 2063) (.n (some 51) .e
  .e)
  .e)
  (.n (some 137992699923) (.n (some 5) .e
  .e)
  .e))
  (.n (some 19) (.n (some 42535296023574879666274036850519702559) (.n (some 5) .e
  .e)
  .e)
  (.n (some 11) (.n (some 1) .e
  .e)
  .e)))))
  (.n (some 63) (.n (some 35184372091037) (.n (some 18519857216345873855) (.n (some 128865798899) (.n (some 137438969359) (.n (some 68987912391) .e
  .e)
  (.n (some 1) .e
  .e))
  (.n (some 11) (.n (some 1053) .e
  .e)
  .e))
  (.n (some 315) (.n (some 7) (.n (some 262411) .e
  .e)
  .e)
  (.n (some 33562871) (.n (some 3) .e
  .e)
  .e)))
  (.n (some 458867) (.n (some 5) (.n (some 2079) (.n (some 5) .e
  .e)
  .e)
  (.n (some 277) (.n (some 1) .e
  .e)
  .e))
  (.n (some 259) (.n (some 5) (.n (some 66111) .e
  .e)
  .e)
  (.n (some 3) (.n (some 2100287) .e
  .e)
  .e))))
  (.n (some 1295) (.n (some 4402073043423) (.n (some 4427218577690292387849) (.n (some 19) (.n (some 10889035749816223784615850998949191090419) .e
  .e)
  .e)
  (.n (some 7) (.n (some 2101007) .e
  .e)
  .e))
  (.n (some 72059793078091743) (.n (some 179) (.n (some 3) .e
  .e)
  .e)
  (.n (some 3) (.n (some 1) .e
  .e)
  .e)))
  (.n (some 131941395333291) (.n (some 21) (.n (some 2063) (.n (some 159815) .e
  .e)
  .e)
  (.n (some 524549) (.n (some 4159) .e
  .e)
  .e))
  (.n (some 5) (.n (some 262599) (.n (some 131575) .e
  .e)
  .e)
  (.n (some 35218731966223) (.n (some 3) .e
  .e)
  .e))))))
  (.n (some 33571891) (.n (some 2101023) (.n (some 5) (.n (some 51) (.n (some 19) (.n (some 276365789) (.n (some 5) .e
  .e)
  (.n (some 71) .e
  .e))
  (.n (some 262599) (.n (some 2267743825679) .e
  .e)
  .e))
  (.n (some 67109371) (.n (some 13) (.n (some 19) .e
  .e)
  .e)
  (.n (some 35418036852173368725463) (.n (some 5) .e
  .e)
  .e)))
  (.n (some 1193287703199244111) (.n (some 71500501862111) (.n (some 1415574729477994959075929798309317428907975) (.n (some 3) .e
  .e)
  .e)
  (.n (some 33551) (.n (some 928459751974774139896493183) .e
  .e)
  .e))
  (.n (some 31) (.n (some 13) (.n (some 16445) .e
  .e)
  .e)
  (.n (some 37) (.n (some 1) .e
  .e)
  .e))))
  (.n (some 1) (.n (some 281474976710975) (.n (some 31) (.n (some 7) (.n (some 19) .e
  .e)
  .e)
  (.n (some 262599) (.n (some 455) .e
  .e)
  .e))
  (.n (some 7) (.n (some 983049) (.n (some 3) .e
  .e)
  .e)
  (.n (some 3) (.n (some 1) .e
  .e)
  .e)))
  (.n (some 7) (.n (some 21) (.n (some 2063) (.n (some 7) .e
  .e)
  .e)
  (.n (some 5) (.n (some 71) .e
  .e)
  .e))
  (.n (some 5) (.n (some 5) (.n (some 19) .e
  .e)
  .e)
  (.n (some 19626159714509907661164535) (.n (some 271) .e
  .e)
  .e)))))
  (.n (some 137506136015) (.n (some 4616194024827535517) (.n (some 75557864007389333700863) (.n (some 178405961754398494508920699068695387186397245) (.n (some 551) (.n (some 16781071) .e
  .e)
  (.n (some 1) .e
  .e))
  (.n (some 3) (.n (some 17179886351) .e
  .e)
  .e))
  (.n (some 302531214494889433628923) (.n (some 2227) (.n (some 199) .e
  .e)
  .e)
  (.n (some 15) (.n (some 151115727469970589747187) .e
  .e)
  .e)))
  (.n (some 8623505907) (.n (some 81667787532138450736951871798028309539257) (.n (some 2063) (.n (some 19) .e
  .e)
  .e)
  (.n (some 11) (.n (some 71) .e
  .e)
  .e))
  (.n (some 19) (.n (some 2151812127) (.n (some 27) .e
  .e)
  .e)
  (.n (some 13) (.n (some 1) .e
  .e)
  .e))))
  (.n (some 34368129779) (.n (some 4763954272708076821886843132807621902463) (.n (some 85634943230125653893370682233069978663805266601) (.n (some 19) (.n (some 3) .e
  .e)
  .e)
  (.n (some 4115) (.n (some 19) .e
  .e)
  .e))
  (.n (some 51) (.n (some 8307) (.n (some 16106912799) .e
  .e)
  .e)
  (.n (some 31) (.n (some 1) .e
  .e)
  .e)))
  (.n (some 1966093) (.n (some 19) (.n (some 2063) (.n (some 7) .e
  .e)
  .e)
  (.n (some 5192297013579600887630569674900287) (.n (some 5) .e
  .e)
  .e))
  (.n (some 1051535) (.n (some 5) (.n (some 15) .e
  .e)
  .e)
  (.n (some 1217485249602318769183) (.n (some 1) .e
  .e)
  .e)))))))
  (.n (some 268692143) (.n (some 138355086214035544051) (.n (some 16455) (.n (some 3) (.n (some 21) (.n (some 135) (.n (some 3) (.n (some 549755814855) .e
  .e)
  (.n (some 1) .e
  .e))
  (.n (some 262599) (.n (some 15) .e
  .e)
  .e))
  (.n (some 1048635) (.n (some 8621457095) (.n (some 59) .e
  .e)
  .e)
  (.n (some 13) (.n (some 702342826256273603086707106465568295829491) .e
  .e)
  .e)))
  (.n (some 1) (.n (some 31) (.n (some 19) (.n (some 3) .e
  .e)
  .e)
  (.n (some 35218731966223) (.n (some 18014402804449523) .e
  .e)
  .e))
  (.n (some 3) (.n (some 263219) (.n (some 4159) .e
  .e)
  .e)
  (.n (some 5708990770824488640568623245516165934690107379) (.n (some 5) .e
  .e)
  .e))))
  (.n (some 21) (.n (some 19) (.n (some 35184372088863) (.n (some 7) (.n (some 2503) .e
  .e)
  .e)
  (.n (some 262599) (.n (some 1217485249602318769183) .e
  .e)
  .e))
  (.n (some 127) (.n (some 983049) (.n (some 23) .e
  .e)
  .e)
  (.n (some 3) (.n (some 1) .e
  .e)
  .e)))
  (.n (some 7) (.n (some 21) (.n (some 2063) (.n (some 5) .e
  .e)
  .e)
  (.n (some 103) (.n (some 19) .e
  .e)
  .e))
  (.n (some 7) (.n (some 51) (.n (some 3) .e
  .e)
  .e)
  (.n (some 125860895) (.n (some 199) .e
  .e)
  .e)))))
  (.n (some 5) (.n (some 5) (.n (some 4212903067990049357742947073013958594459131661752215102178780168189) (.n (some 66483) (.n (some 103) (.n (some 19342824643614261840706687) .e
  .e)
  (.n (some 5) .e
  .e))
  (.n (some 262599) (.n (some 1053) .e
  .e)
  .e))
  (.n (some 134221851) (.n (some 1967) (.n (some 199) .e
  .e)
  .e)
  (.n (some 7) (.n (some 316912838952437276284744179709) .e
  .e)
  .e)))
  (.n (some 458867) (.n (some 4323455710995183705) (.n (some 2147483919) (.n (some 66483) .e
  .e)
  .e)
  (.n (some 1073742279) (.n (some 35184642918205) .e
  .e)
  .e))
  (.n (some 527) (.n (some 1208944266921662535174119) (.n (some 1099512677389) .e
  .e)
  .e)
  (.n (some 19342813113979202331215859) (.n (some 5) .e
  .e)
  .e))))
  (.n (some 66551) (.n (some 9066943647373601601495039) (.n (some 70368744300653) (.n (some 19) (.n (some 73786993887091378163) .e
  .e)
  .e)
  (.n (some 274877976691) (.n (some 71) .e
  .e)
  .e))
  (.n (some 9368758278695158333) (.n (some 147573953697241169843) (.n (some 21) .e
  .e)
  .e)
  (.n (some 943) (.n (some 1) .e
  .e)
  .e)))
  (.n (some 3853) (.n (some 21) (.n (some 2063) (.n (some 3) .e
  .e)
  .e)
  (.n (some 983083) (.n (some 19) .e
  .e)
  .e))
  (.n (some 5) (.n (some 13) (.n (some 524353) .e
  .e)
  .e)
  (.n (some 33551) (.n (some 1) .e
  .e)
  .e))))))
  (.n (some 68992106727) (.n (some 143082809195583) (.n (some 532483) (.n (some 495869) (.n (some 17389) (.n (some 3) (.n (some 16445) .e
  .e)
  (.n (some 3) .e
  .e))
  (.n (some 549755814855) (.n (some 17247509535) .e
  .e)
  .e))
  (.n (some 635) (.n (some 20981935) (.n (some 19) .e
  .e)
  .e)
  (.n (some 7) (.n (some 3) .e
  .e)
  .e)))
  (.n (some 5) (.n (some 1238562506217667412799657343) (.n (some 32214231795) (.n (some 3) .e
  .e)
  .e)
  (.n (some 1217485249602318769183) (.n (some 2103) .e
  .e)
  .e))
  (.n (some 5) (.n (some 20426010943356750102455122975) (.n (some 4039) .e
  .e)
  .e)
  (.n (some 19) (.n (some 8406983) .e
  .e)
  .e))))
  (.n (some 9127071743) (.n (some 519423137503) (.n (some 5) (.n (some 16371) (.n (some 5987315600389491610691635045420053813205420944130547) .e
  .e)
  .e)
  (.n (some 262599) (.n (some 131091) .e
  .e)
  .e))
  (.n (some 16927) (.n (some 19033328104151072307126856614229) (.n (some 515) .e
  .e)
  .e)
  (.n (some 1048579) (.n (some 1) .e
  .e)
  .e)))
  (.n (some 16543) (.n (some 21) (.n (some 2063) (.n (some 15) .e
  .e)
  .e)
  (.n (some 269) (.n (some 288231475663604767) .e
  .e)
  .e))
  (.n (some 27) (.n (some 7) (.n (some 229) .e
  .e)
  .e)
  (.n (some 17179886351) (.n (some 5) .e
  .e)
  .e)))))
  (.n (some 67112853) (.n (some 13) (.n (some 537399539) (.n (some 4109) (.n (some 66023) (.n (some 5) .e
  .e)
  .e)
  (.n (some 3) (.n (some 35218731966223) .e
  .e)
  .e))
  (.n (some 134225979) (.n (some 2448399481192318572175199) (.n (some 19) .e
  .e)
  .e)
  (.n (some 33747) (.n (some 1) .e
  .e)
  .e)))
  (.n (some 71) (.n (some 21) (.n (some 2063) (.n (some 1011) .e
  .e)
  .e)
  (.n (some 5) (.n (some 16810611) .e
  .e)
  .e))
  (.n (some 19) (.n (some 16503) (.n (some 141) .e
  .e)
  .e)
  (.n (some 5) (.n (some 1) .e
  .e)
  .e))))
  (.n (some 259) (.n (some 4639143427053511) (.n (some 1) (.n (some 19) (.n (some 42949689347) .e
  .e)
  .e)
  (.n (some 66483) (.n (some 3) .e
  .e)
  .e))
  (.n (some 3) (.n (some 4986823331758559347109883) (.n (some 9223497381180405687) .e
  .e)
  .e)
  (.n (some 4503601790600947) (.n (some 1) .e
  .e)
  .e)))
  (.n (some 3932189) (.n (some 1) (.n (some 4026593453) (.n (some 63) .e
  .e)
  .e)
  (.n (some 16357786299) (.n (some 39614383488875302838941755379) .e
  .e)
  .e))
  (.n (some 8422653) (.n (some 141) (.n (some 8652801) .e
  .e)
  .e)
  (.n (some 549755814855) (.n (some 1) .e
  .e)
  .e))))))))
  (.n none (.n (some 187802960409271190198327305033898153225031510916879) (.n (some 524411) (.n (some 33571891) (.n (some 3) (.n (some 5) (.n (some 8590000509) (.n (some 2067) (.n (some 5) .e
  .e)
  (.n (some 1) .e
  .e))
  (.n (some 11) (.n (some 7) .e
  .e)
  .e))
  (.n (some 4503599661973563) (.n (some 71) (.n (some 17729624997975) .e
  .e)
  .e)
  (.n (some 37778931865156478568435) (.n (some 3) .e
  .e)
  .e)))
  (.n (some 1) (.n (some 274877962239) (.n (some 19) (.n (some 3) .e
  .e)
  .e)
  (.n (some 8592039695) (.n (some 531911) .e
  .e)
  .e))
  (.n (some 3) (.n (some 101218289428364493977104185500852357152742950873023135088627) (.n (some 271) .e
  .e)
  .e)
  (.n (some 215) (.n (some 1) .e
  .e)
  .e))))
  (.n (some 70368752582463) (.n (some 33781) (.n (some 4835703278458670311014421) (.n (some 243) (.n (some 4159) .e
  .e)
  .e)
  (.n (some 5) (.n (some 21268317252094917911888073248812900111) .e
  .e)
  .e))
  (.n (some 4211) (.n (some 8246337208329) (.n (some 78403170312013250029) .e
  .e)
  .e)
  (.n (some 3) (.n (some 1) .e
  .e)
  .e)))
  (.n (some 31) (.n (some 21) (.n (some 7) (.n (some 5) .e
  .e)
  .e)
  (.n (some 19) (.n (some 3259264009699125022261772349) .e
  .e)
  .e))
  (.n (some 36267843763729151777922079) (.n (some 1101663305779) (.n (some 5) .e
  .e)
  .e)
  (.n (some 783) (.n (some 5) .e
  .e)
  .e)))))
  (.n (some 134251005) (.n (some 1223) (.n (some 540431955285512183) (.n (some 5) (.n (some 7) (.n (some 73855) .e
  .e)
  (.n (some 1) .e
  .e))
  (.n (some 2155905139) (.n (some 1053) .e
  .e)
  .e))
  (.n (some 91) (.n (some 4462506678183) (.n (some 66483) .e
  .e)
  .e)
  (.n (some 7) (.n (some 3) .e
  .e)
  .e)))
  (.n (some 458867) (.n (some 701520785923937636241602893838591751214894915893983) (.n (some 19) (.n (some 5) .e
  .e)
  .e)
  (.n (some 16661) (.n (some 1) .e
  .e)
  .e))
  (.n (some 5) (.n (some 2102159) (.n (some 349533) .e
  .e)
  .e)
  (.n (some 5) (.n (some 1) .e
  .e)
  .e))))
  (.n (some 5) (.n (some 9444741977368808194015) (.n (some 35417750732584664679085) (.n (some 19) (.n (some 5333568847123803275519) .e
  .e)
  .e)
  (.n (some 3389) (.n (some 4197407) .e
  .e)
  .e))
  (.n (some 19) (.n (some 239) (.n (some 2214597117) .e
  .e)
  .e)
  (.n (some 34078723) (.n (some 1) .e
  .e)
  .e)))
  (.n (some 3932189) (.n (some 21) (.n (some 7) (.n (some 7) .e
  .e)
  .e)
  (.n (some 3) (.n (some 1189835258970071138063) .e
  .e)
  .e))
  (.n (some 5) (.n (some 262599) (.n (some 115) .e
  .e)
  .e)
  (.n (some 1333065575601045263) (.n (some 1) .e
  .e)
  .e))))))
  (.n (some 68992106727) (.n (some 16792639) (.n (some 3) (.n (some 51) (.n (some 31) (.n (some 18989427897531368147) (.n (some 5) .e
  .e)
  (.n (some 29) .e
  .e))
  (.n (some 268435463) (.n (some 749019592093908130998168547243562859198691857383367) .e
  .e)
  .e))
  (.n (some 17179869243) (.n (some 191) (.n (some 263111) .e
  .e)
  .e)
  (.n (some 2404944301298205795995608671609117409532530230387297364930076198850559986959171280842211662609370182400574881787) (.n (some 4197407) .e
  .e)
  .e)))
  (.n (some 1) (.n (some 23) (.n (some 171270376469351985928356652762270137642217810605) (.n (some 3) .e
  .e)
  .e)
  (.n (some 21268317252094917911888073248812900111) (.n (some 7) .e
  .e)
  .e))
  (.n (some 3) (.n (some 2923003971560093291123168138537876760321514930163) (.n (some 4197407) .e
  .e)
  .e)
  (.n (some 85) (.n (some 525255) .e
  .e)
  .e))))
  (.n (some 16511) (.n (some 127) (.n (some 3975) (.n (some 243) (.n (some 21) .e
  .e)
  .e)
  (.n (some 7) (.n (some 1125918428956663) .e
  .e)
  .e))
  (.n (some 19) (.n (some 983049) (.n (some 5) .e
  .e)
  .e)
  (.n (some 19) (.n (some 1) .e
  .e)
  .e)))
  (.n (some 31) (.n (some 21) (.n (some 7) (.n (some 268435459) .e
  .e)
  .e)
  (.n (some 2097157) (.n (some 71) .e
  .e)
  .e))
  (.n (some 13194139542003) (.n (some 15) (.n (some 2111139645345779) .e
  .e)
  .e)
  (.n (some 549819789303) (.n (some 1) .e
  .e)
  .e)))))
  (.n (some 563473947852751) (.n (some 13) (.n (some 111) (.n (some 131) (.n (some 7) (.n (some 288231475663604767) .e
  .e)
  .e)
  (.n (some 262599) (.n (some 8592039695) .e
  .e)
  .e))
  (.n (some 144150381037879355) (.n (some 36965565532666580851) (.n (some 259) .e
  .e)
  .e)
  (.n (some 262411) (.n (some 1107300861) .e
  .e)
  .e)))
  (.n (some 495869) (.n (some 21) (.n (some 7) (.n (some 35184908959859) .e
  .e)
  .e)
  (.n (some 11) (.n (some 8796126839539) .e
  .e)
  .e))
  (.n (some 79) (.n (some 115) (.n (some 7) .e
  .e)
  .e)
  (.n (some 5) (.n (some 1) .e
  .e)
  .e))))
  (.n (some 137707422075) (.n (some 1) (.n (some 19015920783349880113919829214549) (.n (some 19) (.n (some 131075) .e
  .e)
  .e)
  (.n (some 127) (.n (some 1105731015) .e
  .e)
  .e))
  (.n (some 31) (.n (some 4303880947) (.n (some 18898117346603431623711) .e
  .e)
  .e)
  (.n (some 604275) (.n (some 1) .e
  .e)
  .e)))
  (.n (some 1966093) (.n (some 17188391667) (.n (some 7) (.n (some 8389363) .e
  .e)
  .e)
  (.n (some 2055) (.n (some 1298074253319337746486915690530803) .e
  .e)
  .e))
  (.n (some 2606289655829909590687318202646717) (.n (some 5) (.n (some 7) .e
  .e)
  .e)
  (.n (some 22997644815212700899627017342834150232570911) (.n (some 1) .e
  .e)
  .e)))))))
  (.n (some 151115727451897366381567) (.n (some 18448996010964426739) (.n (some 31) (.n (some 33269) (.n (some 5) (.n (some 73823040278140002269) (.n (some 275146342429) (.n (some 5) .e
  .e)
  (.n (some 1) .e
  .e))
  (.n (some 3) (.n (some 5) .e
  .e)
  .e))
  (.n (some 134348827) (.n (some 15405) (.n (some 374144508365136459053375850493849644411114100629463) .e
  .e)
  .e)
  (.n (some 755873789668953275102615) (.n (some 77) .e
  .e)
  .e)))
  (.n (some 1) (.n (some 33558643) (.n (some 19) (.n (some 3) .e
  .e)
  .e)
  (.n (some 1333065575601045263) (.n (some 65591) .e
  .e)
  .e))
  (.n (some 3) (.n (some 21) (.n (some 16445) .e
  .e)
  .e)
  (.n (some 16777415) (.n (some 1) .e
  .e)
  .e))))
  (.n (some 19) (.n (some 63) (.n (some 33087) (.n (some 243) (.n (some 295165919578818624575) .e
  .e)
  .e)
  (.n (some 15) (.n (some 22997644815212700899627017342834150232570911) .e
  .e)
  .e))
  (.n (some 31) (.n (some 983049) (.n (some 9671406556925829499060623) .e
  .e)
  .e)
  (.n (some 3) (.n (some 1) .e
  .e)
  .e)))
  (.n (some 288230377158623085) (.n (some 21) (.n (some 7) (.n (some 71009601651) .e
  .e)
  .e)
  (.n (some 2596149048237433459207189722825203) (.n (some 19) .e
  .e)
  .e))
  (.n (some 9671407710010061818445255) (.n (some 4597) (.n (some 5) .e
  .e)
  .e)
  (.n (some 783) (.n (some 4427223081289919760327) .e
  .e)
  .e)))))
  (.n (some 2013273775) (.n (some 5) (.n (some 1133367955888714851551219) (.n (some 66175) (.n (some 15) (.n (some 5) .e
  .e)
  (.n (some 1) .e
  .e))
  (.n (some 3) (.n (some 458867) .e
  .e)
  .e))
  (.n (some 281483566645307) (.n (some 7) (.n (some 199) .e
  .e)
  .e)
  (.n (some 19) (.n (some 3) .e
  .e)
  .e)))
  (.n (some 64424713715) (.n (some 3849) (.n (some 32985380354791) (.n (some 319388530210577016060112871421) .e
  .e)
  .e)
  (.n (some 159) (.n (some 35192962023443) .e
  .e)
  .e))
  (.n (some 16806963) (.n (some 19) (.n (some 33629533) .e
  .e)
  .e)
  (.n (some 5) (.n (some 1) .e
  .e)
  .e))))
  (.n (some 4019) (.n (some 67555025218441215) (.n (some 64426477309) (.n (some 19) (.n (some 34361835523) .e
  .e)
  .e)
  (.n (some 8796093268295) (.n (some 495869) .e
  .e)
  .e))
  (.n (some 2305843009213710333) (.n (some 61) (.n (some 21) .e
  .e)
  .e)
  (.n (some 19) (.n (some 1) .e
  .e)
  .e)))
  (.n (some 1966093) (.n (some 33587827) (.n (some 7) (.n (some 6212098462653308778664145217356018093774124482675) .e
  .e)
  .e)
  (.n (some 10404955393597153145976807980556275) (.n (some 5) .e
  .e)
  .e))
  (.n (some 32999) (.n (some 3) (.n (some 19) .e
  .e)
  .e)
  (.n (some 21268317252094917911888073248812900111) (.n (some 3) .e
  .e)
  .e))))))
  (.n (some 536889341) (.n (some 115) (.n (some 5) (.n (some 495869) (.n (some 604275) (.n (some 11) (.n (some 16445) .e
  .e)
  (.n (some 7) .e
  .e))
  (.n (some 5) (.n (some 5491) .e
  .e)
  .e))
  (.n (some 59) (.n (some 2430359657628573764283) (.n (some 262411) .e
  .e)
  .e)
  (.n (some 549787795693) (.n (some 3) .e
  .e)
  .e)))
  (.n (some 2473918005299) (.n (some 4093) (.n (some 7880391) (.n (some 19) .e
  .e)
  .e)
  (.n (some 22997644815212700899627017342834150232570911) (.n (some 1037) .e
  .e)
  .e))
  (.n (some 5) (.n (some 7) (.n (some 65565) .e
  .e)
  .e)
  (.n (some 19) (.n (some 207) .e
  .e)
  .e))))
  (.n (some 2099) (.n (some 31) (.n (some 20795022860841104132052621760559513139440971240620291725491180608312081507682017235906279765084625194682511346547801930376282985813) (.n (some 51) (.n (some 2251799822139507) .e
  .e)
  .e)
  (.n (some 262599) (.n (some 558347847623) .e
  .e)
  .e))
  (.n (some 21) (.n (some 3849) (.n (some 13) .e
  .e)
  .e)
  (.n (some 3) (.n (some 1) .e
  .e)
  .e)))
  (.n (some 5847433797016629170507309715937316859735827415037) (.n (some 21) (.n (some 7) (.n (some 16455) .e
  .e)
  .e)
  (.n (some 19) (.n (some 271) .e
  .e)
  .e))
  (.n (some 42535296023574879666274036850519702559) (.n (some 5) (.n (some 1153449278778114083) .e
  .e)
  .e)
  (.n (some 8592039695) (.n (some 1) .e
  .e)
  .e)))))
  (.n (some 1) (.n (some 9024860227693343) (.n (some 31) (.n (some 1075) (.n (some 7) (.n (some 5) .e
  .e)
  .e)
  (.n (some 11) (.n (some 1333065575601045263) .e
  .e)
  .e))
  (.n (some 524339) (.n (some 261724569685) (.n (some 42535296023574879666274036850519702559) .e
  .e)
  .e)
  (.n (some 66483) (.n (some 1) .e
  .e)
  .e)))
  (.n (some 71) (.n (some 21) (.n (some 7) (.n (some 2097283) .e
  .e)
  .e)
  (.n (some 8589935877) (.n (some 19) .e
  .e)
  .e))
  (.n (some 5) (.n (some 19) (.n (some 4367) .e
  .e)
  .e)
  (.n (some 5) (.n (some 3) .e
  .e)
  .e))))
  (.n (some 259) (.n (some 51) (.n (some 73263) (.n (some 19) (.n (some 3) .e
  .e)
  .e)
  (.n (some 15) (.n (some 8519683) .e
  .e)
  .e))
  (.n (some 7) (.n (some 263229) (.n (some 17215522431) .e
  .e)
  .e)
  (.n (some 524487) (.n (some 1) .e
  .e)
  .e)))
  (.n (some 270215981668761661) (.n (some 3) (.n (some 2063) (.n (some 259) .e
  .e)
  .e)
  (.n (some 65579) (.n (some 5575) .e
  .e)
  .e))
  (.n (some 275) (.n (some 549755814855) (.n (some 158610994757637) .e
  .e)
  .e)
  (.n (some 7) (.n (some 1) .e
  .e)
  .e)))))))))
noncomputable def maskOf (f : Nat) : Nat := Option.rec 0 (fun m => m) (maskT.get f)
end Ae
namespace Ae
open Go Go.Proofs
theorem prog_mix : Tryz.prog.follows .mixedOrders = true := by kernel_rfl
noncomputable def namesB (P : Program) : Bool := P.funcs.toList.all fun f => Bool.not (f.name == "runtime.NumGoroutine")
theorem prog_namesB : namesB Tryz.prog = true := by kernel_rfl
theorem prog_ok : ProgOk Tryz.prog where
  mix := prog_mix
  names := fun f fn _ hf _ => by
    have h := prog_namesB
    unfold namesB at h
    rw [List.all_eq_true] at h
    have := h fn (by rw [Array.mem_toList_iff]; exact Array.mem_of_getElem? hf)
    simpa using this
noncomputable def cxA : Cx := ⟨Tryz.prog, maskOf, fun _ => none, fun _ => none, 24, 14⟩
theorem cxA_ok (d : Nat) : CallsOk cxA (exec cxA d) := exec_ok (cx := cxA) prog_mix (fun _ _ h => by cases h) (fun _ _ h => by cases h) prog_ok.names d
noncomputable def dprims (f : Nat) : Option (List V → St → (V → St → Out) → Out) := match f with
  | 117 => some (recF cxA (exec cxA 20) 117) | 138 => some (recF cxA (exec cxA 20) 138) | 146 => some (recF cxA (exec cxA 20) 146)
  | _ => none
noncomputable def wMemo (v : Nat) : Memo := ⟨[], [.bx .dead, .bx .dead, .bx .dead, .bx .dead, .bx .dead, .bx .dead, .bx .dead, .bx .dead, .bx .dead, .bx .dead, .bx .dead, .bx .dead, .bx .dead, .bx .dead], [], .v (.n .i64 v), [], []⟩
noncomputable def wK (v : Nat) : Pf := konstK [] 14 (.n .i64 v) [] (fun _ _ _ => .fail 342)
noncomputable def prims0 (f : Nat) : Option (List V → St → (V → St → Out) → Out) := match f with
  | 106 => some pMore | 70 => some pGet | 530 => some (p198 cxA (exec cxA 40)) | 704 => some pCount
  | 54 => some pIs | 709 => some pIndexByteString | 273 => some pAdd64 | 275 => some pSub64 | 679 => some pSame
  | 110 => some (wK 8) | 109 => some (wK 4) | 207 => some (wK 2) | 665 => some (wK 1)
  | _ => none
theorem none_ok (f : Nat) (g : Pf) (h : (fun _ => none : Prim) f = some g) : PfOk Tryz.prog f g := by cases h
theorem noned_ok (f : Nat) (g : Pf) (h : (fun _ => none : Prim) f = some g) : PdOk Tryz.prog f g := by cases h
theorem FnOk.cast {cx cx' : Cx} {f : Nat} {g : Pf} (h : FnOk cx g f) (h1 : cx'.P = cx.P) (h2 : cx'.globs = cx.globs) : FnOk cx' g f := by
  intro args σ K x fr σ' hk μ w args' hm hG hl
  have := @h args σ K x fr σ' hk μ w args' (by rw [← h1]; exact hm) (by rw [← h2]; exact hG) hl
  rw [← h1] at this
  exact this
theorem DefOk.cast {cx cx' : Cx} {f : Nat} {g : Pf} (h : DefOk cx g f) (h1 : cx'.P = cx.P) (h2 : cx'.globs = cx.globs) : DefOk cx' g f := by
  intro args σ K x fr σ' hk μ w args' hm hG hl
  have := @h args σ K x fr σ' hk μ w args' (by rw [← h1]; exact hm) (by rw [← h2]; exact hG) hl
  rw [← h1] at this
  exact this
theorem rec_ok (f : Nat) : PdOk Tryz.prog f (recF cxA (exec cxA 20) f) := fun _ h1 h2 => DefOk.cast (recF_ok (cxA_ok 20) f) h1 h2
theorem dprims_ok (f : Nat) (g : Pf) (h : dprims f = some g) : PdOk Tryz.prog f g := by
  unfold dprims at h
  split at h <;> first | (injection h with h; subst h; exact rec_ok _) | cases h
theorem w327 : MemoOk Tryz.prog 14 110 (unM (wMemo 8)) := memo_known prog_ok (mask := maskOf) (d := 10) none_ok noned_ok hl_nil 0 110 (by kernel_rfl)
theorem w455 : MemoOk Tryz.prog 14 109 (unM (wMemo 4)) := memo_known prog_ok (mask := maskOf) (d := 10) none_ok noned_ok hl_nil 0 109 (by kernel_rfl)
theorem w532 : MemoOk Tryz.prog 14 207 (unM (wMemo 2)) := memo_known prog_ok (mask := maskOf) (d := 10) none_ok noned_ok hl_nil 0 207 (by kernel_rfl)
theorem w605 : MemoOk Tryz.prog 14 665 (unM (wMemo 1)) := memo_known prog_ok (mask := maskOf) (d := 10) none_ok noned_ok hl_nil 0 665 (by kernel_rfl)
theorem wK_ok {f v : Nat} (h : MemoOk Tryz.prog 14 f (unM (wMemo v))) : PfOk Tryz.prog f (wK v) := fun cx h1 h2 => konstK_ok (m := wMemo v) (by rw [h1, h2]; exact h) fail_ok rfl rfl rfl rfl rfl rfl
theorem m198 (i : Nat) (h : i ≤ 5 ∨ i = 10 ∨ i = 11 ∨ i = 12) : slotB (cxA.mask 530) i = true := by
  have : i = 0 ∨ i = 1 ∨ i = 2 ∨ i = 3 ∨ i = 4 ∨ i = 5 ∨ i = 10 ∨ i = 11 ∨ i = 12 := by omega
  have h0 : slotB (cxA.mask 530) 0 = true := by kernel_rfl
  have h1 : slotB (cxA.mask 530) 1 = true := by kernel_rfl
  have h2 : slotB (cxA.mask 530) 2 = true := by kernel_rfl
  have h3 : slotB (cxA.mask 530) 3 = true := by kernel_rfl
  have h4 : slotB (cxA.mask 530) 4 = true := by kernel_rfl
  have h5 : slotB (cxA.mask 530) 5 = true := by kernel_rfl
  have h10 : slotB (cxA.mask 530) 10 = true := by kernel_rfl
  have h11 : slotB (cxA.mask 530) 11 = true := by kernel_rfl
  have h12 : slotB (cxA.mask 530) 12 = true := by kernel_rfl
  rcases this with rfl | rfl | rfl | rfl | rfl | rfl | rfl | rfl | rfl <;> assumption
theorem prims0_ok (f : Nat) (g : Pf) (h : prims0 f = some g) : PfOk Tryz.prog f g := by
  unfold prims0 at h
  split at h <;> first | (injection h with h; subst h) | (cases h; done)
  · exact fun cx h1 _ => pMore_ok h1
  · exact fun cx h1 _ => pGet_ok h1
  · exact fun cx h1 h2 => FnOk.cast (p198_ok (cx := cxA) (cxA_ok 40) rfl m198) h1 h2
  · exact fun cx h1 _ => pCount_ok (fn := Tryz.f704) (by rw [h1]; exact Tryz.func704) (by kernel_rfl) (by kernel_rfl) (by kernel_rfl) (by kernel_rfl)
  · exact fun cx h1 _ => pIs_ok h1
  · exact fun cx h1 _ => pIndexByteString_ok (fn := Tryz.f709) (by rw [h1]; exact Tryz.func709) (by kernel_rfl) (by kernel_rfl) (by kernel_rfl) (by kernel_rfl)
  · exact fun cx h1 _ => pAdd64_ok (fn := Tryz.f273) (by rw [h1]; exact Tryz.func273) (by kernel_rfl) (by kernel_rfl) (by kernel_rfl) (by kernel_rfl)
  · exact fun cx h1 _ => pSub64_ok (fn := Tryz.f275) (by rw [h1]; exact Tryz.func275) (by kernel_rfl) (by kernel_rfl) (by kernel_rfl) (by kernel_rfl)
  · exact fun cx h1 _ => pSame_ok (fn := Tryz.f679) (by rw [h1]; exact Tryz.func679) (by kernel_rfl) (by kernel_rfl) (by kernel_rfl) (by kernel_rfl)
  · exact wK_ok w327
  · exact wK_ok w455
  · exact wK_ok w532
  · exact wK_ok w605
noncomputable def putB (g : Pf) (f : Nat) : Option Pf := ifb (Nat.beq f 105) (some g) (prims0 f)
theorem putB_ok {g : Pf} (h : PfOk Tryz.prog 105 g) (f : Nat) (g' : Pf) (hg : putB g f = some g') : PfOk Tryz.prog f g' := by
  unfold putB at hg
  rw [ifb_eq] at hg
  split at hg
  · rename_i he
    have := Nat.eq_of_beq_eq_true he
    subst this
    injection hg with hg
    subst hg
    exact h
  · exact prims0_ok f g' hg
noncomputable def putE : Pf := fun _ _ _ => .fail 360
theorem putE_ok : PfOk Tryz.prog 105 putE := fun _ _ _ => fail_ok
end Ae
namespace Ae
open Go Go.Proofs
noncomputable def litsOf (k : IntKind) (ns : List Nat) : List Value := ns.map fun n : Nat => Value.int k (Int.ofNat n)
noncomputable def rowB (k : IntKind) (ns : List Nat) (x : Blk) (t : Nat) : Bool := match x with
  | .row t' c z len _ => andB [Nat.beq t' t, Nat.beq len ns.length, (List.range ns.length).all fun j => same 2 ((cellAt c z len j).getD .u) (.n k (ns[j]?.getD 0)), ns.all fun n => Nat.blt n (md k)]
  | _ => false
theorem rowB_ok {k : IntKind} {ns : List Nat} {x : Blk} {t : Nat} (h : rowB k ns x t = true) : ∃ c z g, x = .row t c z ns.length g ∧ (∀ (j : Nat) (hj : j < ns.length), cellAt c z ns.length j = some (.n k ns[j])) ∧ ∀ n ∈ ns, n < md k := by
  unfold rowB at h
  split at h
  · rename_i t' c z len g
    obtain ⟨h1, h⟩ := andB_cons h
    obtain ⟨h2, h⟩ := andB_cons h
    obtain ⟨h3, h⟩ := andB_cons h
    obtain ⟨h4, _⟩ := andB_cons h
    obtain rfl := Nat.eq_of_beq_eq_true h1
    obtain rfl := Nat.eq_of_beq_eq_true h2
    refine ⟨c, z, g, rfl, fun j hj => ?_, fun n hn => ?_⟩
    · rw [List.all_eq_true] at h3
      have := same_eq 2 _ _ (h3 j (List.mem_range.2 hj))
      rw [List.getElem?_eq_getElem hj] at this
      cases hc : cellAt c z ns.length j with
      | none => rw [hc] at this; cases this
      | some v => rw [hc] at this; exact congrArg some this
    · rw [List.all_eq_true] at h4
      have := h4 n hn; rwa [Nat.blt_eq] at this
  · cases h
structure GT where
  g : Nat
  k : IntKind
  t : Nat
  ns : List Nat
def GT.met (W : World) (x : GT) : Prop := W.heap[x.g]? = some (.cells (litsOf x.k x.ns).toArray x.t) ∧ 100 ≤ x.t ∧ (x.k = .u8 ∨ x.k = .u64)
theorem wrap_u {k : IntKind} (hk : k = .u8 ∨ k = .u64) {n : Nat} (h : n < md k) : k.wrap n = n := by
  rcases hk with rfl | rfl
  · exact wrap_nn .u8 n h rfl
  · exact wrap_nn .u64 n h rfl
noncomputable def muG (l : List GT) : Mu := fun b => if b < 14 then some ⟨b, 0, ((l.find? fun x => x.g == b).map fun x => x.ns.length).getD 0⟩ else none
noncomputable def preB (l : List GT) (pre : List Blk) : Bool := Bool.and (Nat.beq pre.length 14) ((List.range 14).all fun b => match pre[b]? with
  | some .dead => true
  | some x => match l.find? fun x => x.g == b with | some y => rowB y.k y.ns x y.t | none => false
  | none => false)
theorem preB_ok {l : List GT} {pre : List Blk} (h : preB l pre = true) : pre.length = 14 ∧ ∀ b x, pre[b]? = some x → x = .dead ∨ ∃ y, (l.find? fun x => x.g == b) = some y ∧ rowB y.k y.ns x y.t = true := by
  unfold preB at h
  rw [Bool.and_eq_true] at h
  have hl := Nat.eq_of_beq_eq_true h.1
  refine ⟨hl, fun b x hx => ?_⟩
  have hb : b < 14 := by
    rcases Nat.lt_or_ge b 14 with q | q
    · exact q
    · rw [List.getElem?_eq_none (by omega)] at hx; cases hx
  have := (List.all_eq_true.1 h.2) b (List.mem_range.2 hb)
  rw [hx] at this
  cases x with
  | dead => exact .inl rfl
  | _ =>
    right
    simp only at this
    split at this
    · rename_i y hy; exact ⟨y, hy, this⟩
    · cases this
theorem find_g {l : List GT} {b : Nat} {y : GT} (h : (l.find? fun x => x.g == b) = some y) : y ∈ l ∧ y.g = b := ⟨List.mem_of_find?_eq_some h, by have := List.find?_some h; simpa using this⟩
theorem relG {P : Program} {W : World} {l : List GT} (hl : ∀ y ∈ l, y.met W) (h14 : 14 ≤ W.heap.size) {pre : List Blk} (hp : preB l pre = true) : RelM P (muG l) (stM pre) W := by
  obtain ⟨hlen, hpre⟩ := preB_ok hp
  have hmu : ∀ b L, muG l b = some L → b < 14 ∧ L = ⟨b, 0, ((l.find? fun x => x.g == b).map fun x => x.ns.length).getD 0⟩ := by
    intro b L h
    unfold muG at h
    split at h
    · rename_i q; exact ⟨q, (Option.some.inj h).symm⟩
    · cases h
  refine ⟨fun b x L hb hL => ?_, fun b b' x x' L L' hne hb hb' hl1 hl2 hL hL' => ?_, fun b hb => ?_, fun b L hL => ?_, fun b hb => ?_⟩
  · rw [stM_get] at hb
    obtain ⟨q, rfl⟩ := hmu b L hL
    rcases hpre b x hb with rfl | ⟨y, hy, hr⟩
    · trivial
    · obtain ⟨c, z, g, rfl, hc, hs⟩ := rowB_ok hr
      obtain ⟨hm, rfl⟩ := find_g hy
      obtain ⟨w1, w2, w3⟩ := hl y hm
      rw [hy]
      refine ⟨(litsOf y.k y.ns).toArray, (0, 0), w1, by simp [litsOf], by simp, .inl rfl, fun _ => Nat.zero_le _, fun j v hj => ?_⟩
      have hjl : j < y.ns.length := by
        rcases Nat.lt_or_ge j y.ns.length with q | q
        · exact q
        · rw [cellAt_ge q] at hj; cases hj
      rw [hc j hjl] at hj
      cases hj
      refine ⟨.int y.k (y.ns[j] : Int), by simp [litsOf, hjl], ?_⟩
      have hn := hs _ (List.getElem_mem hjl)
      have := RelV.n (μ := muG l) y.k y.ns[j] hn
      rwa [wrap_u w3 hn] at this
  · obtain ⟨_, rfl⟩ := hmu b L hL
    obtain ⟨_, rfl⟩ := hmu b' L' hL'
    exact hne
  · have hb : 14 ≤ b := by have : (stM pre).next = 14 := hlen; omega
    unfold muG
    rw [if_neg (by omega)]
  · obtain ⟨q, rfl⟩ := hmu b L hL
    exact Nat.lt_of_lt_of_le q h14
  · rw [stM_get, List.getElem?_eq_none]
    exact hb
theorem globG (l : List GT) : Glob 14 (muG l) := fun g hg => ⟨_, by unfold muG; rw [if_pos hg]⟩
theorem stepG {P : Program} {W W' : World} {l : List GT} (hl : ∀ y ∈ l, y.met W) {pre : List Blk} (hp : preB l pre = true) {μ' : Mu} (st : Step P (muG l) (stM pre) W μ' (stM pre) W') :
    W'.os = W.os ∧ W'.output = W.output ∧ W.heap.size ≤ W'.heap.size ∧ ∀ c, c < W.heap.size → W'.heap[c]? = W.heap[c]? := by
  obtain ⟨hlen, hpre⟩ := preB_ok hp
  refine ⟨st.rest.os, st.rest.output, st.rest.size, fun c hc => ?_⟩
  by_cases hh : Held (muG l) (stM pre) c
  · obtain ⟨b, x, L, hb, hx, hL, rfl⟩ := hh
    have hb' := hb
    rw [stM_get] at hb
    rcases hpre b x hb with rfl | ⟨y, hy, hr⟩
    · exact hx.elim
    · obtain ⟨cc, z, g, rfl, hcc, hs⟩ := rowB_ok hr
      obtain ⟨hm, rfl⟩ := find_g hy
      obtain ⟨w1, w2, w3⟩ := hl y hm
      have hLe : L = ⟨y.g, 0, y.ns.length⟩ := by
        unfold muG at hL
        split at hL
        · rw [hy] at hL; exact (Option.some.inj hL).symm
        · cases hL
      subst hLe
      obtain ⟨cs1, k1⟩ := st.rest.keep y.g _ y.t (0, 0) w2 w1
      obtain ⟨cs, fr, q1, q2, q3, q4, q5, q6⟩ := st.rel.blk y.g _ _ hb' (st.le _ _ hL)
      change W'.heap[y.g]? = _ at q1
      rw [k1] at q1
      cases q1
      show W'.heap[y.g]? = W.heap[y.g]?
      rw [k1, w1]
      have hq2 : cs1.size = y.ns.length := q2
      have e : cs1 = (litsOf y.k y.ns).toArray := by
        apply Array.ext
        · simp [litsOf, hq2]
        · intro j h1 h2
          have hj : j < y.ns.length := by omega
          obtain ⟨v', a1, a2⟩ := q6 j _ (hcc j hj)
          have a3 : cs1[j]? = some v' := by simpa using a1
          rw [Array.getElem?_eq_getElem h1] at a3
          cases a2 with
          | n k u hn =>
            rw [wrap_u w3 hn] at a3
            have := Option.some.inj a3
            rw [this]
            simp [litsOf]
      rw [e]
  · exact st.frame c hc hh
theorem calls_root {P : Program} {f : Nat} {m : Memo} {fn : Func} (hf : P.funcs[f]? = some fn) {c : Code} (hb : fn.body = some c) (hnm : (fn.name == "runtime.NumGoroutine") = false) (hm : MemoOk P 14 f (unM m)) {l : List GT} (hp : preB l (unM m).pre = true) (ha : (unM m).args = []) (hv : (unM m).val = .b true) (hn : (unM m).news = []) (hcg : (unM m).chg = [])
    {W : World} (h14 : 14 ≤ W.heap.size) (hl : ∀ y ∈ l, y.met W) :
    Calls P f #[] W fun e W' => e = .returned (.bool true) ∧ W'.os = W.os ∧ W'.output = W.output ∧ W.heap.size ≤ W'.heap.size ∧ ∀ c, c < W.heap.size → W'.heap[c]? = W.heap[c]? := by
  have hpost : ∀ l : List Blk, postL l [] = l := by
    intro l
    induction l with
    | nil => rfl
    | cons x l ih => show x :: postL l [] = _; rw [ih]
  have hpm : postM (unM m) = (unM m).pre := by unfold postM; rw [hn, hcg, hpost, List.append_nil]
  have hrun : (callFunc f #[]).run P W = .ok (.enter f #[]) W := run_enter hf hnm hb #[] W
  rcases hm.2 (relG hl h14 hp) (globG l) (by rw [ha]; exact .nil) with ⟨v', w1, μ1, v, σ1, h1, _⟩ | ⟨f', args', h1, h2⟩
  · rw [hrun] at h1; cases h1
  · rw [hrun] at h1
    cases h1
    refine h2.mono fun e W' ⟨v', μ1, v, σ1, he, hrv, hst, hv1, hσ⟩ => ?_
    subst he
    rw [hv] at hv1
    subst hv1
    rw [hpm] at hσ
    subst hσ
    cases hrv
    exact ⟨rfl, stepG hl hp hst⟩
end Ae
namespace Ae
open Go Go.Proofs
theorem laid_mem {P : Program} {w : World} {n : String} {d : DataW Unit} : ∀ {l : List (String × DataW Unit)} {ps : List MemPlace}, DataW.LaidVars P w l ps → (n, d) ∈ l →
    ∃ g t cs fuel p, P.globalNamed n = some g ∧ (P.globals[g]?).map (·.type) = some t ∧ w.var? P n = some cs ∧ DataW.trod (fun _ => ()) P w 0 (fun _ => true) false fuel t cs.toList = some (d, p)
  | [], _, _, h => by cases h
  | (n', d') :: r, ps, hl, h => by
    obtain ⟨g, t, cs, fuel, p, q, h1, h2, h3, h4, h5, _⟩ := hl
    rcases List.mem_cons.1 h with e | h
    · cases e; exact ⟨g, t, cs, fuel, p, h1, h2, h3, h4⟩
    · exact laid_mem h5 h
theorem laidH_mem {P : Program} {w : World} {n : String} {d : DataW Unit} {l : List (String × DataW Unit)} (h : laidMetH P l w) (hm : (n, d) ∈ l) (hd : d.handleName? = none) :
    ∃ g t cs fuel p, P.globalNamed n = some g ∧ (P.globals[g]?).map (·.type) = some t ∧ w.var? P n = some cs ∧ DataW.trod (fun _ => ()) P w 0 (fun _ => true) false fuel t cs.toList = some (d, p) := by
  unfold laidMetH at h
  split at h
  · obtain ⟨ps, h1, _⟩ := h
    exact laid_mem h1 hm
  · obtain ⟨⟨ps, h1, _⟩, _⟩ := h
    exact laid_mem h1 (List.mem_filter.2 ⟨hm, by rw [hd]; rfl⟩)
def aggD (k : IntKind) (ns : List Nat) : DataW Unit := .agg (ns.map fun n => .lit (.int k (Int.ofNat n)))
theorem agg_cells {P : Program} {W : World} {base : Nat} {spare : Nat → Bool} {held : Bool} {fuel t e n : Nat} {k : IntKind} {ns : List Nat} {cs : List Value} {p : List MemPlace} (hn : n = ns.length) (ht : P.underlying t = some (.array n e)) (he : P.underlying e = some (.int k)) (hc : P.cellsOf e = 1) (hct : P.cellsOf t = n)
    (h : DataW.trod (fun _ => ()) P W base spare held fuel t cs = some (aggD k ns, p)) : cs = litsOf k ns := by
  obtain ⟨xs, m, rfl, hx, hlen, hxn, hel⟩ := DataW.trod_array ht h
  unfold aggD at hx
  have hx1 : ns.map (fun n => (DataW.lit (.int k (Int.ofNat n)) : DataW Unit)) = xs.map (·.1) := by injection hx with a b; injection a
  apply List.ext_getElem?
  intro i
  by_cases hi : i < n
  · have h1 := hel i hi
    rw [hc, Nat.mul_one] at h1
    have hxi : i < xs.length := by omega
    rw [List.getElem?_eq_getElem hxi] at h1
    obtain ⟨z, e1, e2, _⟩ := DataW.trod_int he h1
    have e3 : (xs.map (·.1))[i]? = some (xs[i].1) := by rw [List.getElem?_map, List.getElem?_eq_getElem hxi]; rfl
    have hni : i < ns.length := by omega
    rw [← hx1, List.getElem?_map, List.getElem?_eq_getElem hni, e2] at e3
    have e4 : (ns[i] : Int) = z := by
      have := Option.some.inj e3
      injection this with this
      injection this
    have hcs : cs[i]? = some (.int k z) := by
      have : (cs.drop i)[0]? = some (.int k z) := by
        have h0 : ((cs.drop i).take 1)[0]? = some (.int k z) := by rw [e1]; rfl
        rwa [List.getElem?_take_of_lt (by omega)] at h0
      rw [List.getElem?_drop] at this
      simpa using this
    rw [hcs]
    unfold litsOf
    rw [List.getElem?_map, List.getElem?_eq_getElem hni, ← e4]
    rfl
  · rw [List.getElem?_eq_none (by rw [hlen, hct]; omega), List.getElem?_eq_none (by unfold litsOf; rw [List.length_map]; omega)]
noncomputable def rowT (P : Program) (g : Nat) : Option Nat := (((begin P (fun _ _ => 0) default).world.heap[g]?).bind Obj.row?).map (·.2)
theorem met_of {P : Program} {W : World} (sh : W.ShapedOpen P) {l : List (String × DataW Unit)} (hl : laidMetH P l W) (x : GT) (n : String) (e : Nat) (hm : (n, aggD x.k x.ns) ∈ l) (hg : P.globalNamed n = some x.g) (ht : (P.globals[x.g]?).map (·.type) = some x.t) (hs : x.g < P.globals.size) (hr : rowT P x.g = some x.t)
    (hu : P.underlying x.t = some (.array x.ns.length e)) (he : P.underlying e = some (.int x.k)) (hc : P.cellsOf e = 1) (hct : P.cellsOf x.t = x.ns.length) (h100 : 100 ≤ x.t) (hk : x.k = .u8 ∨ x.k = .u64) : x.met W := by
  obtain ⟨g, t, cs, fuel, p, h1, h2, h3, h4⟩ := laidH_mem hl hm rfl
  obtain rfl := Option.some.inj (hg.symm.trans h1)
  obtain rfl := Option.some.inj (ht.symm.trans h2)
  have hcs := agg_cells rfl hu he hc hct h4
  unfold rowT at hr
  obtain ⟨⟨zero, t'⟩, hz, rfl⟩ := Option.map_eq_some_iff.1 hr
  obtain ⟨cs', k1, _⟩ := sh.1 x.g zero _ hs hz
  have : cs' = cs := by
    simp only [World.var?, hg, Option.bind_some, k1] at h3
    exact Option.some.inj h3
  subst this
  refine ⟨?_, h100, hk⟩
  rw [k1, ← hcs]
theorem size_of {P : Program} {W : World} (sh : W.ShapedOpen P) {g : Nat} (hs : g < P.globals.size) {t : Nat} (hr : rowT P g = some t) : g + 1 ≤ W.heap.size := by
  unfold rowT at hr
  obtain ⟨⟨zero, t'⟩, hz, rfl⟩ := Option.map_eq_some_iff.1 hr
  obtain ⟨cs', k1, _⟩ := sh.1 g zero _ hs hz
  rcases Nat.lt_or_ge g W.heap.size with q | q
  · exact q
  · rw [Array.getElem?_eq_none q] at k1; cases k1
theorem keptBut_of {W W' : World} {may : MemPlace → Prop} (h1 : W'.os = W.os) (h2 : W'.output = W.output) (h : ∀ c, c < W.heap.size → W'.heap[c]? = W.heap[c]?) : W.keptBut W' may := by
  refine ⟨h1, h2, fun i hi => ?_⟩
  rw [h i hi]
  split
  · rename_i c t fr c' t' fr' e1 e2
    rw [e1] at e2
    cases e2
    exact ⟨rfl, rfl, rfl, fun _ _ => rfl⟩
  · rename_i es cl es' cl' e1 e2
    rw [e1] at e2
    cases e2
    exact .inr ⟨rfl, rfl⟩
  · rfl
theorem lifted_of {C : Checked} {os : Os} (started : os.Started) {f : Nat} {fn : Func} {H : Type} {enc : TypeId × Value → H} {s : ChangeSpec} {laid : List (String × DataW Unit)} {a : Assume} {m : Memo} {l : List GT} {t b13 : Nat} {cd : Code}
    (own : ownKnob C.prog.godebug = none) (noInit : C.prog.inits.idxOf? f = none) (hfn : C.prog.funcs[f]? = some fn) (hb : fn.body = some cd) (hnm : (fn.name == "runtime.NumGoroutine") = false) (hps : fn.params = #[]) (hrt : fn.resultTypes = #[t]) (ht : C.prog.underlying t = some .bool) (hvars : s.vars = []) (hs : s.fn H [] = { results := [.lit (.bool true)], args := [] })
    (hg13 : 13 < C.prog.globals.size) (hr13 : rowT C.prog 13 = some b13)
    (hm : MemoOk C.prog 14 f (unM m)) (hp : preB l (unM m).pre = true) (ha : (unM m).args = []) (hv : (unM m).val = .b true) (hn : (unM m).news = []) (hcg : (unM m).chg = [])
    (hmet : ∀ W : World, W.ShapedOpen C.prog → laidMetH C.prog laid W → ∀ y ∈ l, y.met W)
    (witness : ∃ (w : World) (tape : Tape) (i : Input), w.os = os ∧ (w.forCall tape i).Shaped C.prog ∧ i.vars = [] ∧ Input.okWide C.prog (w.forCall tape i) .any w.heap.size f i ∧
      ((s.pre enc C.prog fn [] false (w.forCall tape i).memory i.args ∧ laidMetH C.prog laid (w.forCall tape i).memory) ∧ sizedMet enc C.prog fn (OpenSpec.ofChange s) false (w.forCall tape i).memory i.args) ∧ a.holds C.prog (lone (Frame.enter C.prog f i.args .normal) [] (w.forCall tape i))) :
    ReturnsInHanded a C os f .any (fun w args => (s.pre enc C.prog fn [] false w args ∧ laidMetH C.prog laid w) ∧ sizedMet enc C.prog fn (OpenSpec.ofChange s) false w args) (s.post enc C.prog fn false true false false) := by
  refine returnsInHanded_of_calls own started noInit witness ?_
  intro w tape i _ sh _ hok hpre hholds
  obtain ⟨⟨⟨ds, gs, before, hw, hc⟩, hx⟩, hz⟩ := hpre
  have hw' := DataW.Whole.of_heap (w' := w.forCall tape i) (by rfl) hw
  have hx' : laidMetH C.prog laid (w.forCall tape i) := hx.of_heap (by rfl)
  generalize hW : w.forCall tape i = W at *
  have hall := hw'
  obtain ⟨p, q, hA, hV, rfl, hfz, hnd⟩ := hall
  have hA0 : DataW.TrodAll enc C.prog W 0 (fun _ => true) true [] i.args.toList ds p := by rw [hps] at hA; exact hA
  rw [hvars] at hV
  obtain ⟨rfl, rfl⟩ := Go.ChangeShapes.trodVars_none hV
  obtain ⟨e1, e2, e3⟩ : i.args.toList = [] ∧ ds = [] ∧ p = [] := by
    cases hl : i.args.toList with
    | nil => rw [hl] at hA0; cases ds with
      | nil => exact ⟨rfl, rfl, by simpa [DataW.TrodAll] using hA0⟩
      | cons d ds => simp [DataW.TrodAll] at hA0
    | cons v vs => rw [hl] at hA0; simp [DataW.TrodAll] at hA0
  have e4 : i.args = #[] := Array.toList_eq_nil_iff.1 e1
  subst e2 e3
  rw [e4] at hw' ⊢
  refine (calls_root hfn hb hnm hm hp ha hv hn hcg (size_of sh hg13 hr13) (hmet W sh hx')).mono fun e W' ⟨he, h1, h2, h3, h4⟩ => ?_
  subst he
  apply ChangeSpec.post_blind
  refine ⟨[], [], [], [], [], [], hw', ?_, ?_, ?_, keptBut_of h1 h2 h4, fun h => by cases h⟩
  · rw [List.append_nil, hs, hrt]
    exact ChangeShapes.trodAll_mk1 (Go.RowKit.shut_bool ht true)
  · rw [List.append_nil, hs, hps]
    simp [DataW.TrodAll]
  · rw [List.append_nil, hs, hvars]
    simp [DataW.TrodVars]
end Ae
namespace Ae
open Go Go.Proofs
set_option maxRecDepth 100000
def nsPow : List Nat := [1, 10, 100, 1000, 10000, 100000, 1000000, 10000000, 100000000, 1000000000, 10000000000, 100000000000, 1000000000000, 10000000000000, 100000000000000, 1000000000000000, 10000000000000000, 100000000000000000, 1000000000000000000, 10000000000000000000]
def nsClass : List Nat := [0, 0, 0, 0, 0, 0, 0, 0, 0, 1, 1, 0, 0, 1, 0, 0, 0, 0, 0, 0, 0, 0, 0, 0, 0, 0, 0, 0, 0, 0, 0, 0, 1, 6, 5, 2, 0, 6, 6, 0, 6, 6, 6, 6, 6, 6, 6, 6, 3, 3, 3, 3, 3, 3, 3, 3, 3, 3, 0, 6, 6, 6, 6, 0, 0, 4, 4, 4, 4, 4, 4, 4, 4, 4, 4, 4, 4, 4, 4, 4, 4, 4, 4, 4, 4, 4, 4, 4, 4, 4, 4, 6, 0, 6, 6, 4, 0, 4, 4, 4, 4, 4, 4, 4, 4, 4, 4, 4, 4, 4, 4, 4, 4, 4, 4, 4, 4, 4, 4, 4, 4, 4, 4, 6, 6, 6, 0, 0]
def nsSpace : List Nat := [0, 0, 0, 0, 0, 0, 0, 0, 0, 1, 1, 1, 1, 1, 0, 0, 0, 0, 0, 0, 0, 0, 0, 0, 0, 0, 0, 0, 0, 0, 0, 0, 1, 0, 0, 0, 0, 0, 0, 0, 0, 0, 0, 0, 0, 0, 0, 0, 0, 0, 0, 0, 0, 0, 0, 0, 0, 0, 0, 0, 0, 0, 0, 0, 0, 0, 0, 0, 0, 0, 0, 0, 0, 0, 0, 0, 0, 0, 0, 0, 0, 0, 0, 0, 0, 0, 0, 0, 0, 0, 0, 0, 0, 0, 0, 0, 0, 0, 0, 0, 0, 0, 0, 0, 0, 0, 0, 0, 0, 0, 0, 0, 0, 0, 0, 0, 0, 0, 0, 0, 0, 0, 0, 0, 0, 0, 0, 0, 0, 0, 0, 0, 0, 0, 0, 0, 0, 0, 0, 0, 0, 0, 0, 0, 0, 0, 0, 0, 0, 0, 0, 0, 0, 0, 0, 0, 0, 0, 0, 0, 0, 0, 0, 0, 0, 0, 0, 0, 0, 0, 0, 0, 0, 0, 0, 0, 0, 0, 0, 0, 0, 0, 0, 0, 0, 0, 0, 0, 0, 0, 0, 0, 0, 0, 0, 0, 0, 0, 0, 0, 0, 0, 0, 0, 0, 0, 0, 0, 0, 0, 0, 0, 0, 0, 0, 0, 0, 0, 0, 0, 0, 0, 0, 0, 0, 0, 0, 0, 0, 0, 0, 0, 0, 0, 0, 0, 0, 0, 0, 0, 0, 0, 0, 0, 0, 0, 0, 0, 0, 0, 0, 0, 0, 0, 0, 0]
def nsRank : List Nat := [1, 1, 1, 1, 1, 1, 2, 3, 4, 5, 5, 6, 6, 7]
def gts : List GT := [⟨2, .u64, 688, nsPow⟩, ⟨3, .u8, 802, nsClass⟩, ⟨4, .u8, 811, nsSpace⟩, ⟨8, .u8, 878, nsRank⟩]
theorem metAll {laid : List (String × DataW Unit)} (h2 : ("internal/strconv.uint64pow10", aggD .u64 nsPow) ∈ laid) (h3 : ("bulkhead/scan.classes", aggD .u8 nsClass) ∈ laid) (h4 : ("strings.asciiSpace", aggD .u8 nsSpace) ∈ laid) (h8 : ("bulkhead/render.ranks", aggD .u8 nsRank) ∈ laid)
    (W : World) (sh : W.ShapedOpen Tryz.prog) (hl : laidMetH Tryz.prog laid W) : ∀ y ∈ gts, y.met W := by
  have k2 : GT.met W ⟨2, .u64, 688, nsPow⟩ := met_of sh hl ⟨2, .u64, 688, nsPow⟩ _ 26 h2 (by kernel_rfl) (by kernel_rfl) (of_decide_eq_true (by kernel_rfl)) (by kernel_rfl) (by kernel_rfl) (by kernel_rfl) (by kernel_rfl) (by kernel_rfl) (by decide) (.inr rfl)
  have k3 : GT.met W ⟨3, .u8, 802, nsClass⟩ := met_of sh hl ⟨3, .u8, 802, nsClass⟩ _ 5 h3 (by kernel_rfl) (by kernel_rfl) (of_decide_eq_true (by kernel_rfl)) (by kernel_rfl) (by kernel_rfl) (by kernel_rfl) (by kernel_rfl) (by kernel_rfl) (by decide) (.inl rfl)
  have k4 : GT.met W ⟨4, .u8, 811, nsSpace⟩ := met_of sh hl ⟨4, .u8, 811, nsSpace⟩ _ 5 h4 (by kernel_rfl) (by kernel_rfl) (of_decide_eq_true (by kernel_rfl)) (by kernel_rfl) (by kernel_rfl) (by kernel_rfl) (by kernel_rfl) (by kernel_rfl) (by decide) (.inl rfl)
  have k8 : GT.met W ⟨8, .u8, 878, nsRank⟩ := met_of sh hl ⟨8, .u8, 878, nsRank⟩ _ 5 h8 (by kernel_rfl) (by kernel_rfl) (of_decide_eq_true (by kernel_rfl)) (by kernel_rfl) (by kernel_rfl) (by kernel_rfl) (by kernel_rfl) (by kernel_rfl) (by decide) (.inl rfl)
  intro y hy
  simp only [gts, List.mem_cons, List.not_mem_nil, or_false] at hy
  rcases hy with rfl | rfl | rfl | rfl
  · exact k2
  · exact k3
  · exact k4
  · exact k8
theorem row13 : rowT Tryz.prog 13 = some 849 := by kernel_rfl
end Ae
