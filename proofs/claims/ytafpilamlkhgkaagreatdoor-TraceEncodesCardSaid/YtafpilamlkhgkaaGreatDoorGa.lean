/- The opening of the row, part 1. -/
import Derived.Test.YtafpilamlkhgkaaGreatDoorE4
import Derived.Test.YtafpilamlkhgkaaGreatDoorTa1
import Derived.Deep.Slices
import Derived.ChangeSame
import Derived.ChangeSlices
import Derived.Carry
import Derived.WideKeyArgs
import Derived.SizedLaws
set_option linter.all false
namespace Ae
open Go Go.Proofs Go.RowKit
def GoodG (l : List GT) (W : World) : Prop := 14 ≤ W.heap.size ∧ ∀ y ∈ l, y.met W
theorem GoodG.below {l : List GT} {w w' : World} (h : GoodG l w) (hb : Below w.heap.size w w') : GoodG l w' :=
  ⟨Nat.le_trans h.1 hb.size, fun y hy => by
    obtain ⟨h1, h2⟩ := h.2 y hy
    refine ⟨?_, h2⟩
    have hlt : y.g < w.heap.size := by
      rcases Nat.lt_or_ge y.g w.heap.size with q | q
      · exact q
      · rw [Array.getElem?_eq_none q] at h1; cases h1
    rw [hb.block y.g hlt]
    exact h1⟩
theorem trodAll_stays {H : Type} {enc : TypeId × Value → H} {P : Program} (hl : laidOutB P = true) {W W' : World} {sp' : Nat → Bool} (hb : ∀ c, c < W.heap.size → W'.heap[c]? = W.heap[c]?) :
    ∀ {ts : List TypeId} {vs : List Value} {ds : List (DataW H)} {ps : List MemPlace}, ts.all (fun t => P.readableRec t && decide (t < P.types.size)) = true → DataW.TrodAll enc P W 0 (fun _ => true) true ts vs ds ps → (∀ x ∈ ps, x.block < W.heap.size) → (∀ x ∈ ps, sp' x.block = true) → DataW.TrodAll enc P W' 0 sp' true ts vs ds ps
  | [], [], [], _, _, h, _, _ => h
  | t :: ts, v :: vs, d :: ds, ps, hr, h, hlt, hs => by
    obtain ⟨p, q, h1, h2, rfl⟩ := h
    rw [List.all_cons, Bool.and_eq_true, Bool.and_eq_true] at hr
    refine ⟨p, q, WideElems.Trod_stays hl hr.1.1 (of_decide_eq_true hr.1.2) h1 (fun x hx => ?_) (fun x hx => hs x (List.mem_append_left _ hx)), trodAll_stays hl hb hr.2 h2 (fun x hx => hlt x (List.mem_append_right _ hx)) (fun x hx => hs x (List.mem_append_right _ hx)), rfl⟩
    have hx' := hlt x (List.mem_append_left _ hx)
    cases x with
    | cell b o => exact World.cell?_of_block (w := W) (hb b hx')
    | map b => exact hb b hx'
theorem lifted_args {C : Checked} {os : Os} (started : os.Started) {f : Nat} {fn : Func} {H : Type} {enc : TypeId × Value → H} {s : ChangeSpec} {laid : List (String × DataW Unit)} {a : Assume} {l : List GT} {t b13 : Nat}
    (own : ownKnob C.prog.godebug = none) (noInit : C.prog.inits.idxOf? f = none) (hfn : C.prog.funcs[f]? = some fn) (hrt : fn.resultTypes = #[t]) (ht : C.prog.underlying t = some .bool) (hvars : s.vars = [])
    (hs : ∀ ds : List (DataW H), ds.length = fn.params.toList.length → s.fn H ds = { results := [.lit (.bool true)], args := ds })
    (hg13 : 13 < C.prog.globals.size) (hr13 : rowT C.prog 13 = some b13)
    (hl : laidOutB C.prog = true) (hro : fn.params.toList.all (fun t => C.prog.readableRec t && decide (t < C.prog.types.size)) = true)
    (hmet : ∀ W : World, W.ShapedOpen C.prog → laidMetH C.prog laid W → ∀ y ∈ l, y.met W)
    (core : ∀ (W : World) (base : Nat) (args : Array Value) (ds : List (DataW H)) (p : List MemPlace), GoodG l W →
      (∀ (j : Nat) t v, fn.params[j]? = some t → args[j]? = some v → Value.okWide C.prog W .any base t v) →
      DataW.TrodAll enc C.prog W 0 (fun _ => true) true fn.params.toList args.toList ds p →
      (DataW.weightsEach C.prog (fn.params.toList ++ (OpenSpec.ofChange s).bare.plain.varTypes C.prog) (ds ++ [])).all (· ≤ reachBytes) = true →
      Calls C.prog f args W fun e W' => e = .returned (.bool true) ∧ KP W W')
    (witness : ∃ (w : World) (tape : Tape) (i : Input), w.os = os ∧ (w.forCall tape i).Shaped C.prog ∧ i.vars = [] ∧ Input.okWide C.prog (w.forCall tape i) .any w.heap.size f i ∧
      ((s.pre enc C.prog fn [] false (w.forCall tape i).memory i.args ∧ laidMetH C.prog laid (w.forCall tape i).memory) ∧ sizedMet enc C.prog fn (OpenSpec.ofChange s) false (w.forCall tape i).memory i.args) ∧ a.holds C.prog (lone (Frame.enter C.prog f i.args .normal) [] (w.forCall tape i))) :
    ReturnsInHanded a C os f .any (fun w args => (s.pre enc C.prog fn [] false w args ∧ laidMetH C.prog laid w) ∧ sizedMet enc C.prog fn (OpenSpec.ofChange s) false w args) (s.post enc C.prog fn false true false false) := by
  refine returnsInHanded_of_calls own started noInit witness ?_
  intro w tape i _ sh _ hok hpre hholds
  obtain ⟨_, _, _, fn', hfn', _, _, _, _, hval⟩ := hok
  obtain rfl : fn' = fn := Option.some.inj (hfn'.symm.trans hfn)
  obtain ⟨⟨_, hx⟩, _, ds, gs, before, hw, hz⟩ := hpre
  have hw' : DataW.Whole enc C.prog fn'.params.toList s.vars false (w.forCall tape i) i.args.toList ds gs before := DataW.Whole.of_heap (w' := w.forCall tape i) (by rfl) hw
  have hx' : laidMetH C.prog laid (w.forCall tape i) := hx.of_heap (by rfl)
  generalize hW : w.forCall tape i = W at *
  have hall := hw'
  obtain ⟨p, q, hA, hV, rfl, hfz, hnd⟩ := hall
  rw [hvars] at hV
  obtain ⟨rfl, rfl⟩ := Go.ChangeShapes.trodVars_none hV
  have hlen : ∀ {ts : List TypeId} {vs : List Value} {ds : List (DataW H)} {ps : List MemPlace}, DataW.TrodAll enc C.prog W 0 (fun _ => true) true ts vs ds ps → ds.length = ts.length := by
    intro ts
    induction ts with
    | nil => intro vs ds ps h; cases vs <;> cases ds <;> simp [DataW.TrodAll] at h ⊢
    | cons t ts ih => intro vs ds ps h; cases vs <;> cases ds <;> simp [DataW.TrodAll] at h ⊢; obtain ⟨_, _, _, h, _⟩ := h; exact ih h
  have hlt : ∀ x ∈ p, x.block < W.heap.size := fun x hx => hw'.lt x (List.mem_append_left _ hx)
  refine (core W w.heap.size i.args ds p ⟨size_of sh hg13 hr13, hmet W sh hx'⟩ hval hA hz).mono fun e W' ⟨he, h1, h2, h3, h4⟩ => ?_
  subst he
  apply ChangeSpec.post_blind
  refine ⟨ds, [], p ++ [], [], p, [], hw', ?_, ?_, ?_, keptBut_of h1 h2 h4, fun h => by cases h⟩
  · rw [List.append_nil, hs _ (hlen hA), hrt]
    exact ChangeShapes.trodAll_mk1 (Go.RowKit.shut_bool ht true)
  · rw [List.append_nil, hs _ (hlen hA)]
    exact trodAll_stays hl h4 hro hA hlt (fun x hx => by simpa using hlt x hx)
  · rw [List.append_nil, hs _ (hlen hA), hvars]
    simp [DataW.TrodVars]
theorem choose_list {α : Type} {p : Nat → α → Prop} : ∀ n, (∀ i, i < n → ∃ x, p i x) → ∃ l : List α, l.length = n ∧ ∀ i x, l[i]? = some x → p i x
  | 0, _ => ⟨[], rfl, fun i x h => by simp at h⟩
  | n + 1, h => by
    obtain ⟨l, h1, h2⟩ := choose_list n fun i hi => h i (by omega)
    obtain ⟨x, hx⟩ := h n (by omega)
    refine ⟨l ++ [x], by rw [List.length_append, h1]; rfl, fun i y hy => ?_⟩
    rcases Nat.lt_or_ge i n with q | q
    · rw [List.getElem?_append_left (by omega)] at hy; exact h2 i y hy
    · rw [List.getElem?_append_right (by omega), h1] at hy
      have : i - n = 0 := by
        rcases Nat.eq_zero_or_pos (i - n) with e | e
        · exact e
        · rw [List.getElem?_eq_none (by simp; omega)] at hy; cases hy
      rw [this] at hy
      have e : i = n := by omega
      subst e
      cases hy
      exact hx
section
variable {H : Type} {enc : TypeId × Value → H} {P : Program} {w : World} {base : Nat} {spare : Nat → Bool} {held : Bool}
theorem int_at {t o n c : Nat} {k : IntKind} {cs : List Value} {y : Option (DataW H × List MemPlace)} (ht : P.underlying t = some (.int k)) (hc : c = 1) (hy : y.isSome = true) (h : DataW.trod enc P w base spare held n t ((cs.drop o).take c) = y) :
    ∃ z, cs[o]? = some (.int k z) ∧ (Lit.int k z).wf = true := by
  obtain ⟨y, rfl⟩ := Option.isSome_iff_exists.1 hy
  obtain ⟨z, e1, _, e3⟩ := DataW.trod_int ht h
  subst hc
  refine ⟨z, ?_, e3⟩
  have h0 : ((cs.drop o).take 1)[0]? = some (.int k z) := by rw [e1]; rfl
  rw [List.getElem?_take_of_lt (by omega), List.getElem?_drop] at h0
  simpa using h0
theorem wf_i64 {z : Int} (h : (Lit.int .i64 z).wf = true) : i64B z := by
  simp only [Lit.wf, Bool.and_eq_true, decide_eq_true_eq] at h
  simp [IntKind.min, IntKind.max, IntKind.signed, IntKind.bits] at h
  unfold i64B; omega
theorem wf_u64 {z : Int} (h : (Lit.int .u64 z).wf = true) : ∃ n : Nat, z = n ∧ u64B n := by
  simp only [Lit.wf, Bool.and_eq_true, decide_eq_true_eq] at h
  simp [IntKind.min, IntKind.max, IntKind.signed, IntKind.bits] at h
  refine ⟨z.toNat, by omega, ?_⟩
  unfold u64B; omega
end
end Ae
set_option maxRecDepth 100000
namespace Ae
open Go Go.Proofs Go.RowKit
section
variable {H : Type} {enc : TypeId × Value → H} {w : World} {base : Nat} {spare : Nat → Bool} {held : Bool}
theorem c3 : Tryz.prog.cellsOf 3 = 1 := by kernel_rfl
theorem c26 : Tryz.prog.cellsOf 26 = 1 := by kernel_rfl
theorem c30 : Tryz.prog.cellsOf 30 = 1 := by kernel_rfl
theorem c28 : Tryz.prog.cellsOf 28 = 7 := by kernel_rfl
theorem c32 : Tryz.prog.cellsOf 32 = 4 := by kernel_rfl
theorem stp_of {fuel : Nat} {cs : List Value} {x : DataW H × List MemPlace} (h : DataW.trod enc Tryz.prog w base spare held fuel 28 cs = some x) : ∃ s : Stp, s.ok ∧ cs = s.cells := by
  obtain ⟨xs, n, _, _, hl, hx, hf⟩ := DataW.trod_struct Tryz.underlying28 h
  rw [c28] at hl
  have hy : ∀ i, i < 7 → xs[i]?.isSome = true := fun i hi => by rw [List.getElem?_eq_getElem (by rw [hx]; exact hi)]; rfl
  obtain ⟨z0, e0, f0⟩ := int_at Tryz.underlying3 c3 (hy 0 (by omega)) (hf 0 _ rfl)
  obtain ⟨z1, e1, f1⟩ := int_at Tryz.underlying3 c3 (hy 1 (by omega)) (hf 1 _ rfl)
  obtain ⟨z2, e2, f2⟩ := int_at Tryz.underlying3 c3 (hy 2 (by omega)) (hf 2 _ rfl)
  obtain ⟨z3, e3, f3⟩ := int_at Tryz.underlying3 c3 (hy 3 (by omega)) (hf 3 _ rfl)
  obtain ⟨z4, e4, f4⟩ := int_at Tryz.underlying26 c26 (hy 4 (by omega)) (hf 4 _ rfl)
  obtain ⟨z5, e5, f5⟩ := int_at Tryz.underlying3 c3 (hy 5 (by omega)) (hf 5 _ rfl)
  obtain ⟨z6, e6, f6⟩ := int_at Tryz.underlying26 c26 (hy 6 (by omega)) (hf 6 _ rfl)
  obtain ⟨n4, rfl, b4⟩ := wf_u64 f4
  obtain ⟨n6, rfl, b6⟩ := wf_u64 f6
  refine ⟨⟨z0, z1, z2, z3, n4, z5, n6⟩, ⟨wf_i64 f0, wf_i64 f1, wf_i64 f2, wf_i64 f3, b4, wf_i64 f5, b6⟩, ?_⟩
  match cs, hl with
  | [a0, a1, a2, a3, a4, a5, a6], _ =>
    cases e0; cases e1; cases e2; cases e3; cases e4; cases e5; cases e6
    rfl
theorem rsl_of {fuel : Nat} {cs : List Value} {x : DataW H × List MemPlace} (h : DataW.trod enc Tryz.prog w base spare held fuel 32 cs = some x) : ∃ s : Rsl, s.ok ∧ cs = s.cells := by
  obtain ⟨xs, n, _, _, hl, hx, hf⟩ := DataW.trod_struct Tryz.underlying32 h
  rw [c32] at hl
  have hy : ∀ i, i < 4 → xs[i]?.isSome = true := fun i hi => by rw [List.getElem?_eq_getElem (by rw [hx]; exact hi)]; rfl
  obtain ⟨z0, e0, f0⟩ := int_at Tryz.underlying30 c30 (hy 0 (by omega)) (hf 0 _ rfl)
  obtain ⟨z1, e1, f1⟩ := int_at Tryz.underlying26 c26 (hy 1 (by omega)) (hf 1 _ rfl)
  obtain ⟨z2, e2, f2⟩ := int_at Tryz.underlying26 c26 (hy 2 (by omega)) (hf 2 _ rfl)
  obtain ⟨z3, e3, f3⟩ := int_at Tryz.underlying26 c26 (hy 3 (by omega)) (hf 3 _ rfl)
  obtain ⟨n1, rfl, b1⟩ := wf_u64 f1
  obtain ⟨n2, rfl, b2⟩ := wf_u64 f2
  obtain ⟨n3, rfl, b3⟩ := wf_u64 f3
  refine ⟨⟨z0, n1, n2, n3⟩, ⟨wf_i64 f0, b1, b2, b3⟩, ?_⟩
  match cs, hl with
  | [a0, a1, a2, a3], _ =>
    cases e0; cases e1; cases e2; cases e3
    rfl
theorem arr_of {α : Type} {t e sz fuel : Nat} {v : Value} {a0 : Option Addr} {len0 cap0 : Nat} {x : DataW H × List MemPlace} (f : α → List Value) (ok : α → Prop) (ht : Tryz.prog.underlying t = some (.slice e)) (hC : Tryz.prog.cellsOf e = sz) (hsz : 0 < sz) (hf : ∀ a, (f a).length = sz)
    (hel : ∀ {fuel : Nat} {cs : List Value} {x : DataW H × List MemPlace}, DataW.trod enc Tryz.prog w base spare held fuel e cs = some x → ∃ s, ok s ∧ cs = f s)
    (hv : v = .slice a0 len0 cap0) (h : DataW.trod enc Tryz.prog w base spare held fuel t v.cells.toList = some x) :
    len0 ≤ cap0 ∧ cap0 ≤ 9223372036854775807 ∧ (len0 = 0 ∨ ∃ es sp, x.1 = .slice es sp ∧ es.length = len0) ∧ ∃ l : List α, l.length = len0 ∧ (∀ y ∈ l, ok y) ∧ Arr w a0 sz (l.map f) := by
  subst hv
  rcases Go.Deep.open_slice ht h with ⟨hcs, hx⟩ | ⟨a, len, cap, m, n, D, Pl, hcs, hb, hl, hm, hmm, hx, hi⟩
  · simp [Value.cells] at hcs
    obtain ⟨rfl, rfl, rfl⟩ := hcs
    exact ⟨Nat.le_refl _, by omega, .inl rfl, [], rfl, by simp, fun h => by simp at h⟩
  · simp [Value.cells] at hcs
    obtain ⟨rfl, rfl, rfl⟩ := hcs
    have hlm : len0 ≤ m := by rw [hmm]; split <;> omega
    obtain ⟨l, e1, e2⟩ := choose_list (p := fun i s => ok s ∧ ∀ q (u : Value), (f s)[q]? = some u → w.cell? (a.add (i * sz + q)) = some u) len0 fun i him => by
      obtain ⟨cs', hc, ht'⟩ := hi i (by omega)
      obtain ⟨s, h1, rfl⟩ := hel ht'
      obtain ⟨_, hcl, hat⟩ := World.cells?_some hc
      refine ⟨s, h1, fun q u hq => ?_⟩
      have hq' : q < sz := by
        rcases Nat.lt_or_ge q sz with h | h
        · exact h
        · rw [List.getElem?_eq_none (by rw [hf]; exact h)] at hq; cases hq
      rw [hC] at hat
      rw [← Go.Deep.add_add, hat q hq', hq]
    refine ⟨hl, Nat.le_trans hm (by decide), .inr ⟨_, _, by rw [hx], by simp⟩, l, e1, fun y hy => ?_, fun h0 => ?_⟩
    · obtain ⟨i, hi⟩ := List.mem_iff_getElem?.1 hy
      exact (e2 i y hi).1
    · rw [List.length_map, e1] at h0
      obtain ⟨s0, hl0⟩ : ∃ s, l[0]? = some s := ⟨_, List.getElem?_eq_getElem (by omega)⟩
      obtain ⟨u, hu⟩ : ∃ u, (f s0)[0]? = some u := ⟨_, List.getElem?_eq_getElem (by rw [hf]; exact hsz)⟩
      have hc0 := (e2 0 _ hl0).2 0 u hu
      obtain ⟨b, off, sp⟩ := a
      have hsp : sp = none := by simpa [Addr.add] using World.cell?_spot hc0
      subst hsp
      have hbs : b < w.heap.size := by
        rcases Nat.lt_or_ge b w.heap.size with q | q
        · exact q
        · have : (Addr.add ⟨b, off, none⟩ (0 * sz + 0)).block = b := by simp [Addr.add]
          rw [World.cell?, this, Array.getElem?_eq_none q] at hc0; cases hc0
      refine ⟨b, off, rfl, hbs, fun j x hx q u hq => ?_⟩
      rw [List.getElem?_map] at hx
      cases hlj : l[j]? with
      | none => rw [hlj] at hx; cases hx
      | some s =>
        rw [hlj] at hx
        cases hx
        have := (e2 j s hlj).2 q u hq
        unfold Addr.add at this
        split at this
        · rename_i hz
          have e3 : j * sz = 0 := by omega
          have e4 : q = 0 := by omega
          rw [e3, e4]
          exact this
        · rw [Nat.add_assoc]
          exact this
end
end Ae
set_option maxRecDepth 100000
namespace Ae
open Go Go.Proofs Go.RowKit
theorem bytes28 : Tryz.prog.bytesOf 28 = 56 := by kernel_rfl
theorem bytes32 : Tryz.prog.bytesOf 32 = 32 := by kernel_rfl
theorem small_of {H : Type} {ts : List TypeId} {ds : List (DataW H)} (hsz : (DataW.weightsEach Tryz.prog ts ds).all (· ≤ reachBytes) = true) {j t e n : Nat} {d : DataW H} (ht : ts[j]? = some t) (hd : ds[j]? = some d) (hu : Tryz.prog.underlying t = some (.slice e)) (hb : 0 < Tryz.prog.bytesOf e)
    (h : n = 0 ∨ ∃ es sp, d = .slice es sp ∧ es.length = n) : n < 9223372036854775807 := by
  rcases h with rfl | ⟨es, sp, rfl, rfl⟩
  · omega
  · have h1 := sized_slice hsz ht hd hu
    have h2 : es.length + sp.length ≤ (es.length + sp.length) * Tryz.prog.bytesOf e := Nat.le_mul_of_pos_right _ hb
    have h3 : reachBytes = 140737488351232 := rfl
    omega
theorem stp_len7 (s : Stp) : s.cells.length = 7 := rfl
theorem rsl_len4 (s : Rsl) : s.cells.length = 4 := rfl
theorem encodes_core {H : Type} {enc : TypeId × Value → H} {Good : World → Prop} (hg : ∀ w w', Good w → Below w.heap.size w w' → Good w') (known : ∀ w, Good w → Calls Tryz.prog 6 #[] w fun e w' => e = .returned (.bool true) ∧ KP w w')
    {ts' : List TypeId} (W : World) (base : Nat) (args : Array Value) (ds : List (DataW H)) (p : List MemPlace) (hgood : Good W)
    (hval : ∀ (j : Nat) t v, (#[22, 23] : Array TypeId)[j]? = some t → args[j]? = some v → Value.okWide Tryz.prog W .any base t v)
    (hA : DataW.TrodAll enc Tryz.prog W 0 (fun _ => true) true [22, 23] args.toList ds p)
    (hsz : (DataW.weightsEach Tryz.prog ([22, 23] ++ ts') (ds ++ [])).all (· ≤ reachBytes) = true) :
    Calls Tryz.prog 3 args W fun e W' => e = .returned (.bool true) ∧ KP W W' := by
  obtain ⟨v0, vs, d0, ds', p0, p', e1, rfl, rfl, h0, hA⟩ := Go.ChangeShapes.trodAll_cons hA
  obtain ⟨v1, vs, d1, ds', p1, p', rfl, rfl, rfl, h1, hA⟩ := Go.ChangeShapes.trodAll_cons hA
  obtain ⟨rfl, rfl, rfl⟩ := Go.ChangeShapes.trodAll_nil hA
  obtain rfl : args = #[v0, v1] := Array.toList_inj.1 e1
  obtain ⟨a0, n0, c0, rfl⟩ := Go.WideShapes.okWide_slice Tryz.underlying22 (hval 0 22 v0 rfl rfl)
  obtain ⟨a1, n1, c1, rfl⟩ := Go.WideShapes.okWide_slice Tryz.underlying23 (hval 1 23 v1 rfl rfl)
  obtain ⟨f0, h0⟩ := h0
  obtain ⟨f1, h1⟩ := h1
  obtain ⟨_, _, k0, ss, l0, ok0, arr0⟩ := arr_of Stp.cells Stp.ok Tryz.underlying22 c28 (by omega) stp_len7 (fun h => stp_of h) rfl h0
  obtain ⟨_, _, k1, rs, l1, ok1, arr1⟩ := arr_of Rsl.cells Rsl.ok Tryz.underlying23 c32 (by omega) rsl_len4 (fun h => rsl_of h) rfl h1
  exact traceEncodes_any hg known a0 a1 n0 c0 n1 c1 ss rs W l0 l1 hgood arr0 arr1 ok0 ok1 (small_of hsz (j := 0) (d := d0) rfl rfl Tryz.underlying22 (by rw [bytes28]; omega) k0) (small_of hsz (j := 1) (d := d1) rfl rfl Tryz.underlying23 (by rw [bytes32]; omega) k1)
end Ae
