/- The evaluator and why it may be leaned on, part 2. -/
import Derived.Test.YtafpilamlkhgkaaGreatDoorSE1
import Derived.Laws.StructEq
import Derived.Defers
import Derived.RangeFuncLeaves
import Derived.RangeFuncRecord
import Derived.OrdersIn
import Derived.LoopNIn
import Derived.Orders
set_option linter.all false
namespace Ae
open Go
section
variable {P : Program} {res : Operand → Acc}
theorem exec_builtin {ρ : Operand → Value} {o : Oper} {c : Call} {b : Builtin} (ho : o.op = .call c) (hb : c.callee = .builtin b) (w : World) :
    (execOp ρ o).run P w = (builtin b c.argTypes o.type (c.args.map fun | .const _ => true | _ => false) (c.args.map ρ)).run P w := by
  simp only [execOp, ho, resolve, hb, invoke, pure_bind]
  rfl
theorem args_two {c : Call} {s x : Operand} (h : c.args.toList = [s, x]) (ρ : Operand → Value) : c.args.map ρ = #[ρ s, ρ x] := by
  have : c.args = #[s, x] := by apply Array.ext'; simpa using h
  rw [this]; simp
theorem args_one {c : Call} {x : Operand} (h : c.args.toList = [x]) (ρ : Operand → Value) : c.args.map ρ = #[ρ x] := by
  have : c.args = #[x] := by apply Array.ext'; simpa using h
  rw [this]; simp
theorem zeroOk_ok {el : Nat} (h : zeroOk P el = true) : ∃ zv i, (∀ w, (zeroValue el).run P w = .ok zv w) ∧ zv.cells.size = P.cellsOf el ∧ P.info? el = some i := by
  unfold zeroOk at h
  split at h
  · rename_i z hz
    obtain ⟨zv, h1, -, h3, i, hi⟩ := zero_ok hz
    refine ⟨zv, i, h1, ?_, hi⟩
    have := RelL.length (h3 fun _ => none)
    rw [Array.length_toList] at this
    have e := Nat.eq_of_beq_eq_true h
    rw [lenL_eq] at e
    exact this.symm.trans e
  · cases h
theorem firstCells_same {x : Value} {l' : List Value} {size n : Nat} {w : World} (h : (Builtin.firstCells size n x).run P w = .ok l'.toArray w) (d : Nat) (hx : ∃ a l c, x = .slice a l c ∨ ∃ s, x = .string s) :
    (Builtin.firstCells size n x).run P { w with drawn := d } = .ok l'.toArray { w with drawn := d } := by
  have loads : ∀ (m i : Nat) (a : Addr) (acc r : Array Value), (loadCellsFrom a i m acc).run P w = .ok r w → (loadCellsFrom a i m acc).run P { w with drawn := d } = .ok r { w with drawn := d } := by
    intro m
    induction m with
    | zero => intro i a acc r h; simp [loadCellsFrom] at h ⊢; exact h
    | succ m ih =>
      intro i a acc r h
      simp only [loadCellsFrom, Sem.run_bind, run_load] at h ⊢
      have hc : ({ w with drawn := d } : World).cell? (a.add i) = w.cell? (a.add i) := rfl
      rw [hc]
      cases hv : w.cell? (a.add i) with
      | some v => rw [hv] at h; exact ih _ _ _ _ h
      | none =>
        rw [hv] at h
        have hf : ({ w with drawn := d } : World).farLoad P (a.add i) (Mode.plain == Mode.atomic) = w.farLoad P (a.add i) (Mode.plain == Mode.atomic) := rfl
        rw [hf]
        simp only at h ⊢
        cases hq : w.farLoad P (a.add i) (Mode.plain == Mode.atomic) with
        | error e => rw [hq] at h; cases h
        | ok q => rw [hq] at h; exact ih _ _ _ _ h
  obtain ⟨a, l, c, rfl | ⟨s, rfl⟩⟩ := hx
  · cases a with
    | none =>
      simp only [Builtin.firstCells, Sem.run_pure] at h ⊢
      cases h; rfl
    | some a => exact loads _ _ _ _ _ h
  · simp only [Builtin.firstCells, Sem.run_pure] at h ⊢
    injection h with h1 h2
    rw [h1]
theorem rel_slice_or_string {μ : Mu} {v : V} {v' : Value} (h : RelV μ v v') {K : Nat → Out} {x : Ex} {fr : Fr} {σ : St} (hk : lenOf v K = .done x fr σ) : ∃ a l c, v' = .slice a l c ∨ ∃ s, v' = .string s := by
  cases h with
  | sl0 => exact ⟨_, _, _, .inl rfl⟩
  | slk => exact ⟨_, _, _, .inl rfl⟩
  | slu => exact ⟨_, _, _, .inl rfl⟩
  | sle => exact ⟨_, _, _, .inl rfl⟩
  | s => exact ⟨none, 0, 0, .inr ⟨_, rfl⟩⟩
  | _ => cases hk
set_option maxHeartbeats 4000000 in
theorem run_append_nil {ts : Array TypeId} {ty : TypeId} {t el : TypeId} {i : TypeInfo} (h0 : ts[0]? = some t) (hu : P.underlying t = some (.slice el)) (hi : P.info? el = some i) (hz : NotInt P ts)
    {x : Value} (hn : ∀ w, (Builtin.lenOf x).run P w = .ok 0 w) (hx : ∃ a l c, x = .slice a l c ∨ ∃ s, x = .string s) (w : World) :
    (Builtin.append_ ts ty #[.slice none 0 0, x]).run P w = .ok (.slice none 0 0) w := by
  have hf : (Builtin.firstCells (P.cellsOf el) 0 x).run P w = .ok #[] w := by
    obtain ⟨a, b, d, rfl | ⟨q, rfl⟩⟩ := hx
    · cases a with
      | none => rfl
      | some a => simp [Builtin.firstCells, loadCells, loadCellsFrom]
    · simp [Builtin.firstCells]
  unfold Builtin.append_
  simp only [h0]
  rcases hz with hq | ⟨u, dd, hq, hd, hb⟩
  · simp [run_underlying hu, run_sizeOf w hi, hq, hn, hf]
  · cases dd <;> first | (cases hb; done) | simp [run_underlying hu, run_sizeOf w hi, hq, run_underlying hd, hn, hf]
structure AppX (P : Program) (ts : Array TypeId) (el : Nat) (x : Value) (n : Nat) (x' : Value) : Prop where
  fits : ∀ {ty t : TypeId} {i : TypeInfo}, ts[0]? = some t → P.underlying t = some (.slice el) → P.info? el = some i → ∀ {a : Addr} {len cap : Nat}, len + n ≤ cap → ∀ {w w1 : World} {l' : List Value}, (Builtin.firstCells (P.cellsOf el) n x').run P w = .ok l'.toArray w →
    (storeCells (a.add (len * P.cellsOf el)) l').run P w = .ok () w1 → (Builtin.append_ ts ty #[.slice (some a) len cap, x]).run P w = .ok (.slice (some a) (len + n) cap) w1
  grows : ∀ {ty t : TypeId} {i : TypeInfo}, ts[0]? = some t → P.underlying t = some (.slice el) → P.info? el = some i → ∀ {base : Option Addr} {len cap : Nat}, cap < len + n → (len + n) * (i.bytes + 1) ≤ 1099511627776 → ∀ {w : World} {old new : List Value} {zv : Value},
    (∀ d, (Builtin.firstCells (P.cellsOf el) len (.slice base len cap)).run P { w with drawn := d } = .ok old.toArray { w with drawn := d }) →
    (∀ d, (Builtin.firstCells (P.cellsOf el) n x').run P { w with drawn := d } = .ok new.toArray { w with drawn := d }) → (∀ w, (zeroValue el).run P w = .ok zv w) → zv.cells.size = P.cellsOf el →
    ∃ newCap, len + n ≤ newCap ∧ ∃ rest : List Value, rest.length = (newCap - (len + n)) * P.cellsOf el ∧
      (Builtin.append_ ts ty #[.slice base len cap, x]).run P w = .ok (.slice (some ⟨w.heap.size, 0, none⟩) (len + n) newCap) { w with drawn := w.drawn + 1, heap := w.heap.push (.cells (old ++ new ++ rest).toArray el (0, 0)) }
  nil : n = 0 → ∀ {ty t : TypeId} {i : TypeInfo}, ts[0]? = some t → P.underlying t = some (.slice el) → P.info? el = some i → ∀ w, (Builtin.append_ ts ty #[.slice none 0 0, x]).run P w = .ok (.slice none 0 0) w
theorem AppX.plain {ts : Array TypeId} {el : Nat} {x : Value} {n : Nat} (hz : NotInt P ts) (hn : ∀ w, (Builtin.lenOf x).run P w = .ok n w) (hx : ∃ a l c, x = .slice a l c ∨ ∃ s, x = .string s) : AppX P ts el x n x where
  fits := fun h0 hu hi _ _ _ hle _ _ _ hf hs => run_append_fits h0 hu hi hz hn hle hf hs
  grows := fun h0 hu hi _ _ _ hlt hroom _ _ _ _ ho hf hzv hzs => run_append_grows h0 hu hi hz hn hlt hroom ho hf hzv hzs
  nil := fun e _ _ _ h0 hu hi w => by subst e; exact run_append_nil h0 hu hi hz hn hx w
set_option maxHeartbeats 4000000 in
theorem appU_ok (c : Call) {μ : Mu} {σ : St} {w : World} (hm : RelM P μ σ w) {ty : TypeId} {rs rx : Value} {Goal : Prop} {K : V → St → Out} {e : Ex} {fr : Fr} {σ' : St}
    (close : ∀ {v : V} {v' : Value} {μ1 : Mu} {σ1 : St} {w1 : World}, (Builtin.append_ c.argTypes ty #[rs, rx]).run P w = .ok v' w1 → RelV μ1 v v' → Step P μ σ w μ1 σ1 w1 → K v σ1 = .done e fr σ' → Goal)
    {t el : Nat} {i : TypeInfo} (h0 : c.argTypes[0]? = some t) (hu : P.underlying t = some (.slice el)) (hi : P.info? el = some i) {n : Nat} {rx' : Value} (X : AppX P c.argTypes el rx n rx') (hn : ∀ w, (Builtin.lenOf rx').run P w = .ok n w)
    (hxs : ∃ a l c, rx' = .slice a l c ∨ ∃ s, rx' = .string s) {vx : V} (hvx : RelV μ vx rx') {zv : Value} (hzv : ∀ w, (zeroValue el).run P w = .ok zv w) (hzs : zv.cells.size = P.cellsOf el) (hbo : P.bytesOf el = i.bytes)
    {b : Nat} {L : Loc} (hL : μ b = some L) {off len cap : Nat} {a : Addr} (hrs : rs = .slice (some a) len cap) (hlc : len ≤ cap) (hcb : len < 9223372036854775808)
    (hcase : (a = ⟨L.c, L.sh + off, none⟩ ∧ L.sh + off + cap * P.cellsOf el ≤ L.N) ∨ (len = 0 ∧ cap = 0 ∧ a.block = L.c ∧ a.spot = none))
    (hk : appU el (P.cellsOf el) (P.bytesOf el) b off len n vx σ K = .done e fr σ') : Goal := by
  subst hrs
  unfold appU at hk
  by_cases hn0 : n = 0
  · subst hn0
    simp only [Nat.beq_refl, ifb_true] at hk
    have hf : (Builtin.firstCells (P.cellsOf el) 0 rx').run P w = .ok ([] : List Value).toArray w := by
      obtain ⟨a, b, d, rfl | ⟨q, rfl⟩⟩ := hxs
      · cases a with
        | none => rfl
        | some a => simp [Builtin.firstCells, loadCells, loadCellsFrom]
      · simp [Builtin.firstCells]
    refine close (X.fits (ty := ty) h0 hu hi (by omega) hf (w1 := w) rfl) ?_ (Step.refl hm) hk
    rcases hcase with ⟨rfl, hN⟩ | ⟨rfl, rfl, h3, h4⟩
    · exact .slu off len _ cap hL hlc hcb hN
    · obtain ⟨ab, ao, asp⟩ := a
      simp only at h3 h4
      subst h3 h4
      exact .sle off ao _ hL
  · have hb0 : Nat.beq n 0 = false := by rw [Bool.eq_false_iff]; intro q; exact hn0 (Nat.eq_of_beq_eq_true q)
    rw [hb0, ifb_false, force_eq] at hk
    obtain ⟨hr, hk1⟩ := ifb_inv hk
    have hroom : (len + n) * (P.bytesOf el + 1) ≤ 1099511627776 := Nat.le_of_ble_eq_true hr
    have hneed := mul_succ_lt hroom
    rw [hbo] at hroom
    obtain ⟨new, new', rn, hnl, hfn, hk2⟩ := firstK_ok hm hvx (P.cellsOf el) ⟨n, hn, Nat.le_refl _⟩ hk1
    obtain ⟨hc1, hk3⟩ := ifb_inv hk2
    unfold appG at hk3
    rw [St.get_eq] at hk3
    cases hb : σ.heap.get b with
    | none => rw [hb] at hk3; cases hk3
    | some y =>
      rw [hb] at hk3
      cases y with
      | row e' cc z m g =>
        cases g with
        | false => cases hk3
        | true =>
          obtain ⟨hee, hk4⟩ := ifb_inv hk3
          have hee2 := Nat.eq_of_beq_eq_true hee
          subst hee2
          -- the new row, however it is made
          have key : ∃ c' z', Grown cc z m off new (len * P.cellsOf e') c' z' ((len + n) * P.cellsOf e') ∧
              K (.sl σ.next 0 (len + n) (.u (P.cellsOf e'))) ⟨(σ.heap.set .dead b).set (.row e' c' z' ((len + n) * P.cellsOf e') true) σ.next, σ.next + 1⟩ = .done e fr σ' := by
            rw [ifb_eq] at hk4
            split at hk4
            · rename_i hc
              rw [Bool.and_eq_true] at hc
              have ho := Nat.eq_of_beq_eq_true hc.1
              have hmm : m = len * P.cellsOf e' := Nat.eq_of_beq_eq_true hc.2
              subst ho hmm
              rw [stK_eq, St.setK_eq, force_eq, St.newK_eq] at hk4
              exact ⟨_, _, grown_take cc z _ new _ (by rw [hnl, Nat.add_mul]), hk4⟩
            · rcases ldK_eq (cellAt cc z m) (.fail 116) (len * P.cellsOf e') off (fun old => σ.setK b .dead fun σ => σ.rowK e' (appL old new) true fun b σ => K (.sl b 0 (len + n) (.u (P.cellsOf e'))) σ) with ⟨old, ho, hj, hkk⟩ | hbad
              · have hk5 : (σ.setK b .dead fun σ => σ.rowK e' (appL old new) true fun b σ => K (.sl b 0 (len + n) (.u (P.cellsOf e'))) σ) = .done e fr σ' := by rw [← hkk]; exact hk4
                rw [St.setK_eq, St.rowK_eq] at hk5
                have hlen : (old ++ new).length = (len + n) * P.cellsOf e' := by rw [List.length_append, ho, hnl, Nat.add_mul]
                have hg := grown_list cc z m off old new (len * P.cellsOf e') ho hj
                rw [hlen] at hg
                have hk6 := hk5
                unfold appL at hk6
                rw [hlen] at hk6
                exact ⟨_, _, hg, hk6⟩
              · have : Out.fail 116 = .done e fr σ' := by rw [← hbad]; exact hk4
                cases this
          obtain ⟨c', z', hg, hk5⟩ := key
          by_cases hfit : len + n ≤ cap
          · rcases hcase with ⟨rfl, hN⟩ | ⟨h1, h2, -, -⟩
            · obtain ⟨μ1, w1, q1, q2, q3⟩ := grow_in hm hL hb rn hnl hc1 hfit hN hneed hg
              exact close (X.fits (ty := ty) h0 hu hi hfit hfn (w1 := w1) (by rw [addr_add]; exact q1)) q3 q2 hk5
            · omega
          · have hrb := hm.blk b _ L hb hL
            obtain ⟨cs, frz, q1, q2, q3, q4, -, q6⟩ := hrb
            have hold : ∃ old' : List Value, RelL μ (oldL cc z m off (len * P.cellsOf e')) old' ∧ old'.length = len * P.cellsOf e' ∧ ∀ d, (Builtin.firstCells (P.cellsOf e') len (.slice (some a) len cap)).run P { w with drawn := d } = .ok old'.toArray { w with drawn := d } := by
              rcases hcase with ⟨rfl, hN⟩ | ⟨h1, h2, -, -⟩
              · exact run_old (hm.blk b _ L hb hL) off _ (by have := Nat.mul_le_mul_right (P.cellsOf e') hlc; omega)
              · subst h1
                exact ⟨[], by rw [Nat.zero_mul]; exact .nil, by simp, fun d => by simp [Builtin.firstCells, loadCells, loadCellsFrom]⟩
            obtain ⟨old', ro, hol, hfo⟩ := hold
            obtain ⟨nc, hnc, rest, hrest, hrun⟩ := X.grows (ty := ty) h0 hu hi (by omega) hroom hfo (fun d => firstCells_same hfn d hxs) hzv hzs
            obtain ⟨st, rv⟩ := grow_out hm b hL e' ro rn hol rest (len + n) nc (P.cellsOf e') (w.drawn + 1) (by rw [hnl, Nat.add_mul]) hrest hnc hneed hg
            exact close hrun rv st hk5
      | _ => cases hk3
set_option maxHeartbeats 4000000 in
theorem appS_ok (c : Call) {μ : Mu} {σ : St} {w : World} (hm : RelM P μ σ w) {ty : TypeId} {rs rx : Value} {Goal : Prop} {K : V → St → Out} {e : Ex} {fr : Fr} {σ' : St}
    (close : ∀ {v : V} {v' : Value} {μ1 : Mu} {σ1 : St} {w1 : World}, (Builtin.append_ c.argTypes ty #[rs, rx]).run P w = .ok v' w1 → RelV μ1 v v' → Step P μ σ w μ1 σ1 w1 → K v σ1 = .done e fr σ' → Goal)
    {t el : Nat} {i : TypeInfo} (h0 : c.argTypes[0]? = some t) (hu : P.underlying t = some (.slice el)) (hi : P.info? el = some i) {n : Nat} {rx' : Value} (X : AppX P c.argTypes el rx n rx') (hn : ∀ w, (Builtin.lenOf rx').run P w = .ok n w)
    (hxs : ∃ a l c, rx' = .slice a l c ∨ ∃ s, rx' = .string s) {vx : V} (hvx : RelV μ vx rx') {zv : Value} (hzv : ∀ w, (zeroValue el).run P w = .ok zv w) (hzs : zv.cells.size = P.cellsOf el) (hbo : P.bytesOf el = i.bytes)
    {vs : V} (hvs : RelV μ vs rs) (hk3 : appS el (sz P el) (P.bytesOf el) n vx σ K vs = .done e fr σ') : Goal := by
  -- a new row out of the old cells and the new ones
  have grow : ∀ (base : Option Addr) (len cap : Nat) (old : List V) (old' : List Value) (new : List V) (new' : List Value), rs = .slice base len cap → cap < len + n → (len + n) * (P.bytesOf el + 1) ≤ 1099511627776 → RelL μ old old' → RelL μ new new' →
      old.length = len * P.cellsOf el → new.length = n * P.cellsOf el →
      (Builtin.firstCells (P.cellsOf el) len (.slice base len cap)).run P w = .ok old'.toArray w → (Builtin.firstCells (P.cellsOf el) n rx').run P w = .ok new'.toArray w →
      ∀ (σ0 : St), Step P μ σ w μ σ0 w →
      K (.sl σ0.next 0 (len + n) (.u (P.cellsOf el))) ⟨σ0.heap.set (.row el (stT (old ++ new) .e 0) [] (old ++ new).length true) σ0.next, σ0.next + 1⟩ = .done e fr σ' →
      Goal := by
    intro base len cap old old' new new' hrs2 hlt hroom ro rn hol hnl hfo hfn σ0 st0 hk
    rw [hbo] at hroom
    obtain ⟨nc, hnc, rest, hrest, hrun⟩ := X.grows (ty := ty) h0 hu hi hlt hroom (fun d => firstCells_same hfo d ⟨_, _, _, .inl rfl⟩) (fun d => firstCells_same hfn d hxs) hzv hzs
    obtain ⟨st, rv⟩ := app_new st0.rel el ro rn rest (len + n) nc (P.cellsOf el) (w.drawn + 1) (by rw [List.length_append, hol, hnl, Nat.add_mul]) hrest hnc (mul_succ_lt hroom)
    exact close (by rw [hrs2]; exact hrun) rv (st0.trans st) hk
  have fresh : ∀ (base : Option Addr) (cap : Nat) (new : List V) (new' : List Value) {c2 : T V} {z2 : List V}, rs = .slice base 0 cap → cap < n → n * (P.bytesOf el + 1) ≤ 1099511627776 → RelL μ new new' → new.length = n * P.cellsOf el →
      (Builtin.firstCells (P.cellsOf el) 0 (.slice base 0 cap)).run P w = .ok ([] : List Value).toArray w → (Builtin.firstCells (P.cellsOf el) n rx').run P w = .ok new'.toArray w → (∀ j v, cellAt c2 z2 (n * P.cellsOf el) j = some v → new[j]? = some v) →
      K (.sl σ.next 0 n (.u (P.cellsOf el))) ⟨σ.heap.set (.row el c2 z2 (n * P.cellsOf el) true) σ.next, σ.next + 1⟩ = .done e fr σ' →
      Goal := by
    intro base cap new new' c2 z2 hrs2 hlt hroom rn hnl hfo hfn hcc hk
    rw [hbo] at hroom
    obtain ⟨nc, hnc, rest, hrest, hrun⟩ := X.grows (ty := ty) h0 hu hi (base := base) (len := 0) (cap := cap) (old := []) (by omega) (by rw [Nat.zero_add]; exact hroom) (fun d => firstCells_same hfo d ⟨_, _, _, .inl rfl⟩) (fun d => firstCells_same hfn d hxs) hzv hzs
    rw [Nat.zero_add] at hnc hrest hrun
    obtain ⟨st, rv⟩ := app_new2 hm el rn rest n nc (P.cellsOf el) (w.drawn + 1) hnl hcc hrest hnc (mul_succ_lt hroom)
    exact close (by rw [hrs2]; exact hrun) rv st hk
  cases hvs with
  | sl0 =>
    change app0 el (sz P el) (P.bytesOf el) n vx σ K = _ at hk3
    unfold app0 at hk3
    by_cases hn0 : n = 0
    · subst hn0
      simp only [Nat.beq_refl, ifb_true] at hk3
      refine close (v' := .slice none 0 0) ?_ .sl0 (Step.refl hm) hk3
      exact X.nil rfl h0 hu hi w
    · have hb : Nat.beq n 0 = false := by rw [Bool.eq_false_iff]; intro q; exact hn0 (Nat.eq_of_beq_eq_true q)
      rw [hb, ifb_false] at hk3
      obtain ⟨hr, hk4⟩ := ifb_inv hk3
      obtain ⟨c2, z2, l, l', rl, hl, hf, hcc, hk5⟩ := freshK_ok hm hvx (sz P el) hn hk4
      exact fresh none 0 l l' rfl (by omega) (Nat.le_of_ble_eq_true hr) rl hl rfl hf hcc hk5
  | @slk b L off len cap hL hlc hcb =>
    change appC el (sz P el) (P.bytesOf el) b off len cap n vx σ K = _ at hk3
    unfold appC at hk3
    rw [force_eq] at hk3
    by_cases hle : len + n ≤ cap
    · have hb : Nat.ble (len.add n) cap = true := Nat.ble_eq_true_of_le hle
      rw [hb, ifb_true] at hk3
      obtain ⟨l, l', rl, hl, hf, hk5⟩ := firstK_ok hm hvx (sz P el) ⟨n, hn, Nat.le_refl _⟩ hk3
      obtain ⟨σ1, w1, q1, q2, q3⟩ := storeN_ok hm hL _ rl hk5
      refine close (X.fits (ty := ty) h0 hu hi hle hf (w1 := w1) ?_) ((RelV.slk off (len + n) cap hL hle hcb).mono q2.le) q2 q3
      rw [addr_add, Nat.add_assoc]; exact q1
    · have hb : Nat.ble (len.add n) cap = false := by rw [Bool.eq_false_iff]; intro q; exact hle (Nat.le_of_ble_eq_true q)
      rw [hb, ifb_false] at hk3
      obtain ⟨hr, hk4'⟩ := ifb_inv hk3
      rw [ifb_eq] at hk4'
      split at hk4'
      · rename_i h0
        have h0 := Nat.eq_of_beq_eq_true h0
        subst h0
        obtain ⟨c2, z2, l, l', rl, hl, hf, hcc, hk5⟩ := freshK_ok hm hvx (sz P el) hn hk4'
        have hr' := Nat.le_of_ble_eq_true hr
        exact fresh _ cap l l' rfl (by omega) (by have : Nat.add 0 n = n := Nat.zero_add n; rw [this] at hr'; exact hr') rl hl (by simp [Builtin.firstCells, loadCells, loadCellsFrom]) hf hcc hk5
      rename_i h0
      have hk4 := hk4'
      obtain ⟨old, old', ro, hol, hfo, hk5⟩ := loadN_ok hm hL off _ hk4
      obtain ⟨l, l', rl, hl, hf, hk6⟩ := firstK_ok hm hvx (sz P el) ⟨n, hn, Nat.le_refl _⟩ hk5
      rw [St.rowK_eq] at hk6
      exact grow _ len cap old old' l l' rfl (by omega) (Nat.le_of_ble_eq_true hr) ro rl hol hl hfo hf σ (Step.refl hm) hk6
  | @slu b L off len es cap hL hlc hcb hN =>
    obtain ⟨hes, hk4⟩ := ifb_inv (n := 118) hk3
    have hes2 := Nat.eq_of_beq_eq_true hes
    subst hes2
    exact appU_ok c hm (fun {v v' μ1 σ1 w1} h1 h2 h3 h4 => close h1 h2 h3 h4) h0 hu hi X hn hxs hvx hzv hzs hbo hL rfl hlc hcb (.inl ⟨rfl, hN⟩) hk4
  | @sle b L off off' es hL =>
    obtain ⟨hes, hk4⟩ := ifb_inv (n := 118) hk3
    have hes2 := Nat.eq_of_beq_eq_true hes
    subst hes2
    exact appU_ok c hm (fun {v v' μ1 σ1 w1} h1 h2 h3 h4 => close h1 h2 h3 h4) h0 hu hi X hn hxs hvx hzv hzs hbo hL rfl (Nat.le_refl _) (by decide) (.inr ⟨rfl, rfl, rfl, rfl⟩) hk4
  | _ => cases hk3
set_option maxHeartbeats 4000000 in
theorem oAppend_ok {c : Call} {s x : Operand} {t el : Nat} (hcal : c.callee = .builtin .append) (hargs : c.args.toList = [s, x]) (h0 : c.argTypes[0]? = some t) (hu : P.underlying t = some (.slice el)) (hz : zeroOk P el = true) (hni : NotInt P c.argTypes) :
    EvOk P res (.call c) (oAppend el (sz P el) (P.bytesOf el) (res s) (res x)) := by
  intro μ σ w ρ env sl K e fr σ' hm ha hk o ho
  obtain ⟨zv, i, hzv, hzs, hi⟩ := zeroOk_ok hz
  obtain ⟨vs, hvs, hk1⟩ := ha s _ e fr σ' hk
  obtain ⟨vx, hvx, hk2⟩ := ha x _ e fr σ' hk1
  obtain ⟨n, hn, hnb, hk3⟩ := lenOf_ok (P := P) hvx hk2
  have hxs := rel_slice_or_string hvx hk2
  generalize hrs : ρ s = rs at hvs
  generalize hrx : ρ x = rx at hvx hn hxs
  have hbo : P.bytesOf el = i.bytes := by simp [Program.bytesOf, hi]
  have hex : (execOp ρ o).run P w = ((Builtin.append_ c.argTypes o.type #[rs, rx]).run P w).andThen fun v w => .ok (.value v) w := by
    rw [exec_builtin ho hcal, args_two hargs, hrs, hrx]
    simp [builtin]
  have close : ∀ {v : V} {v' : Value} {μ1 : Mu} {σ1 : St} {w1 : World}, (Builtin.append_ c.argTypes o.type #[rs, rx]).run P w = .ok v' w1 → RelV μ1 v v' → Step P μ σ w μ1 σ1 w1 → K v σ1 = .done e fr σ' →
      ∃ v μ1 σ1 w1, Does P μ σ w (execOp ρ o) v μ1 σ1 w1 ∧ K v σ1 = .done e fr σ' := by
    intro v v' μ1 σ1 w1 h1 h2 h3 h4
    exact ⟨v, μ1, σ1, w1, .new h3 (by rw [hex, h1]; rfl) h2, h4⟩
  exact appS_ok c hm (fun {v v' μ1 σ1 w1} h1 h2 h3 h4 => close h1 h2 h3 h4) h0 hu hi (AppX.plain hni hn hxs) hn hxs hvx hzv hzs hbo hvs hk3
end
end Ae
namespace Ae
open Go
section
variable {P : Program}
def zstr (n : Nat) : ByteArray := ⟨(List.replicate n 0).toArray⟩
theorem zerosL_eq (n : Nat) : zerosL n = (zstr n).data.toList.map UInt8.toNat := by
  have : zerosL n = List.replicate n 0 := by
    induction n with
    | zero => rfl
    | succ n ih => show 0 :: zerosL n = _; rw [ih]; rfl
  rw [this]
  show _ = ((List.replicate n 0).toArray.toList).map UInt8.toNat
  simp
theorem zeroCells_one (n : Nat) : Builtin.zeroCells #[.int .u8 0] n = (List.replicate n (Value.int .u8 0)).toArray := by
  apply Array.ext'
  apply List.ext_getElem
  · simp [Builtin.zeroCells]
  · intro i h1 h2
    simp [Builtin.zeroCells, Nat.mod_one]
theorem first_zstr (n : Nat) (w : World) : (Builtin.firstCells 1 n (.string (zstr n))).run P w = .ok (List.replicate n (Value.int .u8 0)).toArray w := by
  simp only [Builtin.firstCells, Sem.run_pure]
  congr 1
  apply Array.ext'
  rw [ByteArray.data_extract]
  simp [zstr]
theorem run_zint {n : Nat} (w : World) : (asInt (.int .i64 (n : Nat))).run P w = .ok (n : Int) w := by
  simp [asInt, asIntOf]
theorem run_zapp {n sz el : Nat} (hzv : ∀ w, (zeroValue el).run P w = .ok (.int .u8 0) w) (hsz : sz = 1) (w : World) :
    Sem.run P (if n * sz = 0 then (pure #[] : Sem (Array Value)) else do pure (Builtin.zeroCells (← zeroValue el).cells n)) w = .ok (List.replicate n (Value.int .u8 0)).toArray w := by
  subst hsz
  by_cases h : n = 0
  · subst h; simp
  · have : ¬ (n * 1 = 0) := by omega
    rw [if_neg this]
    have e : (Value.int .u8 0).cells = #[.int .u8 0] := rfl
    simp [hzv, e, zeroCells_one]
set_option maxHeartbeats 4000000 in
theorem AppX.zeros {ts : Array TypeId} {el u : Nat} {n : Nat} (hz : ts[1]? = some u) (hd : P.underlying u = some (.int .i64)) (hzv : ∀ w, (zeroValue el).run P w = .ok (.int .u8 0) w) (hsz : P.cellsOf el = 1) (hb1 : P.bytesOf el = 1) (hn : n ≤ 1048576) :
    AppX P ts el (.int .i64 (n : Nat)) n (.string (zstr n)) where
  fits := fun {ty t i} h0 hu hi {a len cap} hle {w w1 l'} hfc hs => by
    have hib : i.bytes = 1 := by rw [← hb1]; simp [Program.bytesOf, hi]
    have hw : IntKind.i64.wrap (n : Int) = n := wrap_small .i64 n (by show n < 9223372036854775808; omega)
    have hneg : ¬ ((n : Int) < 0) := by omega
    have hbig : ¬ ((n : Int) * (i.bytes : Int) > 2 ^ 48) := by
      have : (2 : Int) ^ 48 = 281474976710656 := by decide
      rw [this, hib]; omega
    have hin : ∀ w, (typeInfo el).run P w = .ok i w := fun w => by simp [typeInfo, hi]
    have hza := run_zapp (P := P) (n := n) hzv hsz w
    rw [hsz, first_zstr] at hfc
    injection hfc with hfc _
    have hl' : l' = List.replicate n (Value.int .u8 0) := by
      have := congrArg Array.toList hfc
      simpa using this.symm
    subst hl'
    have ht : (n : Int).toNat = n := Int.toNat_natCast n
    unfold Builtin.append_
    simp only [h0]
    simp only [List.getElem?_toArray, List.getElem?_cons_zero, List.getElem?_cons_succ, hz, Sem.run_bind, run_underlying hu, run_underlying hd, Result.andThen_ok, run_sizeOf w hi, Sem.run_pure, if_true, hle, Sem.run_ite, Bool.not_true, Bool.false_eq_true, if_false, run_zint, hw, hneg, hin, hbig, ht]
    simp only [Sem.run_ite, Sem.run_bind, Sem.run_pure] at hza
    rw [hza]
    simp [hs]
  grows := fun {ty t i} h0 hu hi {base len cap} hlt hroom {w old new zv} ho hf hzv' hzs => by
    have hib : i.bytes = 1 := by rw [← hb1]; simp [Program.bytesOf, hi]
    have hzz : zv = .int .u8 0 := by
      have := (hzv' w).symm.trans (hzv w)
      injection this
    subst hzz
    have hn1 : ¬ (len + n ≤ cap) := by omega
    have hb0 : (len + n) * i.bytes ≤ 1099511627776 := Nat.le_trans (Nat.mul_le_mul_left _ (by omega)) hroom
    have hb1 : len + n ≤ 1099511627776 := Nat.le_trans (by rw [Nat.mul_add]; omega) hroom
    have hcap : Builtin.nextslicecap (len + n) cap * i.bytes ≤ 2 ^ 48 := by
      refine Nat.le_trans (Nat.mul_le_mul_right _ (nextslicecap_le _ _ hlt)) ?_
      rw [Nat.mul_assoc]; omega
    have hcap' : ¬ (Builtin.nextslicecap (len + n) cap * i.bytes > 2 ^ 48) := by omega
    have hmax : ¬ (((len + n : Nat) : Int) > IntKind.i64.max) := by
      have : IntKind.i64.max = 9223372036854775807 := rfl
      rw [this]; omega
    have hw : IntKind.i64.wrap (n : Int) = n := wrap_small .i64 n (by show n < 9223372036854775808; omega)
    have hneg : ¬ ((n : Int) < 0) := by omega
    have hbig : ¬ ((n : Int) * (i.bytes : Int) > 2 ^ 48) := by
      have : (2 : Int) ^ 48 = 281474976710656 := by decide
      rw [this, hib]; omega
    have hin : ∀ w, (typeInfo el).run P w = .ok i w := fun w => by simp [typeInfo, hi]
    have hnew : new = List.replicate n (Value.int .u8 0) := by
      have hfc := hf 0
      rw [hsz, first_zstr] at hfc
      injection hfc with hfc _
      have := congrArg Array.toList hfc
      simpa using this.symm
    subst hnew
    have ht : (n : Int).toNat = n := Int.toNat_natCast n
    let nc := (Question.appendCap (len + n) cap el).cut (w.tape w.drawn (.appendCap (len + n) cap el))
    have hnc : len + n ≤ nc := by show len + n ≤ (len + n) + _ % _; exact Nat.le_add_right _ _
    refine ⟨nc, hnc, (Builtin.zeroCells (Value.int .u8 0).cells (nc - (len + n))).toList, by simp [Builtin.zeroCells, hzs], ?_⟩
    have ho' := ho (w.drawn + 1)
    have hza := run_zapp (P := P) (n := n) hzv hsz { w with drawn := w.drawn + 1 }
    simp only [Sem.run_ite, Sem.run_bind, Sem.run_pure] at hza
    have hch : (choose (Question.appendCap (len + n) cap el)).run P w = .ok nc { w with drawn := w.drawn + 1 } := by simp [Question.forced, nc]
    clear_value nc
    unfold Builtin.append_
    simp only [h0]
    simp only [List.getElem?_toArray, List.getElem?_cons_zero, List.getElem?_cons_succ, hz, Sem.run_bind, run_underlying hu, run_underlying hd, Result.andThen_ok, run_sizeOf w hi, Sem.run_pure, Bool.false_eq_true, if_false, run_zint, hw, hneg, hbig, ht, hn1, Sem.run_ite, hmax, false_and, Bool.not_true, if_true, hin, hcap', hch, run_askRoom, ho']
    rw [hza]
    have e1 : (Value.int .u8 0).cells = #[.int .u8 0] := rfl
    simp [newRow, hzv, e1]
    have e2 : old.toArray ++ (Array.replicate n (Value.int .u8 0) ++ Builtin.zeroCells #[Value.int .u8 0] (nc - (len + n))) = (old ++ (List.replicate n (Value.int .u8 0) ++ (Builtin.zeroCells #[Value.int .u8 0] (nc - (len + n))).toList)).toArray := by
      apply Array.ext'
      simp
    rw [e2]
    rfl
  nil := fun e {ty t i} h0 hu hi w => by
    subst e
    have hw : IntKind.i64.wrap ((0 : Nat) : Int) = ((0 : Nat) : Int) := by decide
    have hneg : ¬ (((0 : Nat) : Int) < 0) := by decide
    have hbig : ¬ (((0 : Nat) : Int) * (i.bytes : Int) > 2 ^ 48) := by simp
    have hin : ∀ w, (typeInfo el).run P w = .ok i w := fun w => by simp [typeInfo, hi]
    have hza := run_zapp (P := P) (n := 0) hzv hsz w
    simp only [Sem.run_ite, Sem.run_bind, Sem.run_pure] at hza
    have ht : ((0 : Nat) : Int).toNat = 0 := rfl
    unfold Builtin.append_
    simp only [h0]
    simp only [List.getElem?_toArray, List.getElem?_cons_zero, List.getElem?_cons_succ, hz, Sem.run_bind, run_underlying hu, run_underlying hd, Result.andThen_ok, run_sizeOf w hi, Sem.run_pure, Bool.false_eq_true, if_false, run_zint, hw, hneg, hbig, ht, Sem.run_ite, Bool.not_true, if_true, hin, Nat.add_zero, Nat.le_refl]
    rw [hza]
    simp
variable (res : Operand → Acc)
theorem isB0_ok {el : Nat} (h : isB0 P el = true) : (∃ i, P.info? el = some i) ∧ (∀ w, (zeroValue el).run P w = .ok (.int .u8 0) w) ∧ P.cellsOf el = 1 ∧ P.bytesOf el = 1 := by
  unfold isB0 at h
  split at h
  · rename_i hz
    rw [Bool.and_eq_true] at h
    obtain ⟨zv, h1, h2, -, i, hi⟩ := zero_ok hz
    refine ⟨⟨i, hi⟩, ?_, Nat.eq_of_beq_eq_true h.2, Nat.eq_of_beq_eq_true h.1⟩
    intro w
    have hv := h2 (fun _ => none)
    cases hv with
    | n => exact h1 w
  · cases h
theorem isI64_ok {u : Option Nat} (h : isI64 P u = true) : ∃ k, u = some k ∧ P.underlying k = some (.int .i64) := by
  unfold isI64 at h
  cases u with
  | none => cases h
  | some k =>
    refine ⟨k, rfl, ?_⟩
    simp only at h
    split at h
    · assumption
    · cases h
theorem oAppendZ_ok {c : Call} {s x : Operand} {t u el : Nat} (hcal : c.callee = .builtin .append) (hargs : c.args.toList = [s, x]) (h0 : c.argTypes[0]? = some t) (hu : P.underlying t = some (.slice el)) (h1 : c.argTypes[1]? = some u) (hd : P.underlying u = some (.int .i64)) (hz : isB0 P el = true) :
    EvOk P res (.call c) (oAppendZ el (res s) (res x)) := by
  intro μ σ w ρ env sl K e fr σ' hm ha hk o ho
  obtain ⟨⟨i, hi⟩, hzv, hsz, hb1⟩ := isB0_ok hz
  obtain ⟨vs, hvs, hk1⟩ := ha s _ e fr σ' hk
  obtain ⟨vx, hvx, hk2⟩ := ha x _ e fr σ' hk1
  generalize hrs : ρ s = rs at hvs
  generalize hrx : ρ x = rx at hvx
  unfold appZK at hk2
  split at hk2
  · rename_i n
    cases hvx with
    | n =>
    obtain ⟨hle, hk3⟩ := ifb_inv hk2
    have hle := Nat.le_of_ble_eq_true hle
    have hw : IntKind.i64.wrap (n : Int) = n := wrap_small .i64 n (by show n < 9223372036854775808; omega)
    have hx : ρ x = .int .i64 (n : Nat) := by rw [hrx, hw]
    have hsz' : (zstr n).size = n := by simp [zstr, ByteArray.size]
    have hvz : RelV μ (.s (zerosL n)) (.string (zstr n)) := by rw [zerosL_eq]; exact .s _ (by rw [hsz']; omega)
    have hln : ∀ w, (Builtin.lenOf (.string (zstr n))).run P w = .ok n w := fun w => by simp [Builtin.lenOf, hsz']
    have hbo : P.bytesOf el = i.bytes := by simp [Program.bytesOf, hi]
    have hex : (execOp ρ o).run P w = ((Builtin.append_ c.argTypes o.type #[rs, .int .i64 (n : Nat)]).run P w).andThen fun v w => .ok (.value v) w := by
      rw [exec_builtin ho hcal, args_two hargs, hrs, hx]
      simp [builtin]
    have close : ∀ {v : V} {v' : Value} {μ1 : Mu} {σ1 : St} {w1 : World}, (Builtin.append_ c.argTypes o.type #[rs, .int .i64 (n : Nat)]).run P w = .ok v' w1 → RelV μ1 v v' → Step P μ σ w μ1 σ1 w1 → K v σ1 = .done e fr σ' →
        ∃ v μ1 σ1 w1, Does P μ σ w (execOp ρ o) v μ1 σ1 w1 ∧ K v σ1 = .done e fr σ' := by
      intro v v' μ1 σ1 w1 h1 h2 h3 h4
      exact ⟨v, μ1, σ1, w1, .new h3 (by rw [hex, h1]; rfl) h2, h4⟩
    refine appS_ok c hm (fun {v v' μ1 σ1 w1} h1 h2 h3 h4 => close h1 h2 h3 h4) h0 hu hi (AppX.zeros h1 hd hzv hsz hb1 hle) hln ⟨none, 0, 0, .inr ⟨_, rfl⟩⟩ hvz hzv (by rw [hsz]; rfl) hbo hvs ?_
    rw [show sz P el = 1 from hsz, hb1]
    exact hk3
  · cases hk2
end
end Ae
namespace Ae
open Go
section
variable {P : Program} {res : Operand → Acc}
theorem lenNum_inv {n : Nat} {K : V → Out} {x : Ex} {fr : Fr} {σ : St} (h : lenNum n K = .done x fr σ) : n < 9223372036854775808 ∧ K (.n .i64 n) = .done x fr σ := by
  obtain ⟨h1, h2⟩ := ifb_inv h
  exact ⟨Nat.le_of_ble_eq_true h1, h2⟩
theorem rel_len (μ : Mu) {n : Nat} (h : n < 9223372036854775808) : RelV μ (.n .i64 n) (goInt n) := by
  have := RelV.n (μ := μ) .i64 n (show n < 18446744073709551616 by omega)
  rwa [wrap_small .i64 n h] at this
theorem decLen_ok {c : Call} {x : Operand} {t : Nat} (hcal : c.callee = .builtin .len) (hargs : c.args.toList = [x]) (h0 : c.argTypes[0]? = some t) : EvS P res (.call c) (decLen P res t x) := by
  have arr : ∀ n : Nat, (∀ v w, (Builtin.len_ c.argTypes t #[v]).run P w = .ok (goInt n) w) → EvS P res (.call c) (oLenC n) := by
    intro n hrun μ σ w ρ env sl K e fr σ' hm ha hk o ho
    obtain ⟨hlt, hk1⟩ := lenNum_inv hk
    refine ⟨_, μ, σ, w, .pure hm (v' := goInt n) ?_ (rel_len μ hlt), hk1⟩
    rw [exec_builtin ho hcal, args_one hargs]
    have := hrun (ρ x) w
    simp only [builtin, Sem.run_bind]
    have e2 : Builtin.len_ c.argTypes o.type #[ρ x] = Builtin.len_ c.argTypes t #[ρ x] := rfl
    rw [e2, this]; rfl
  unfold decLen
  split
  · rename_i el hu
    intro μ σ w ρ env sl K e fr σ' hm ha hk o ho
    obtain ⟨v, hv, hk1⟩ := ha x _ e fr σ' hk
    generalize hr : ρ x = rx at hv
    have fin : ∀ (a : Option Addr) (n cap : Nat), rx = .slice a n cap → lenNum n (fun v => K v σ) = .done e fr σ' → ∃ v μ1 σ1 w1, PDoes P μ σ w (execOp ρ o) v μ1 σ1 w1 ∧ K v σ1 = .done e fr σ' := by
      intro a n cap hrx hk2
      subst hrx
      obtain ⟨hlt, hk3⟩ := lenNum_inv hk2
      refine ⟨_, μ, σ, w, .pure hm (v' := goInt n) ?_ (rel_len μ hlt), hk3⟩
      rw [exec_builtin ho hcal, args_one hargs, hr]
      simp [builtin, Builtin.len_, h0, run_underlying hu]
    cases hv with
    | sl0 => exact fin _ _ _ rfl hk1
    | slk => exact fin _ _ _ rfl hk1
    | slu => exact fin _ _ _ rfl hk1
    | sle => exact fin _ _ _ rfl hk1
    | _ => cases hk1
  · rename_i hu
    intro μ σ w ρ env sl K e fr σ' hm ha hk o ho
    obtain ⟨v, hv, hk1⟩ := ha x _ e fr σ' hk
    obtain ⟨l, ev, hk2⟩ := onS_inv hk1
    subst ev
    rw [force_eq, lenL_eq] at hk2
    generalize hr : ρ x = rx at hv
    cases hv with | s bs hb =>
    rw [List.length_map, Array.length_toList] at hk2
    obtain ⟨hlt, hk3⟩ := lenNum_inv hk2
    refine ⟨_, μ, σ, w, .pure hm (v' := goInt bs.size) ?_ (rel_len μ hlt), hk3⟩
    rw [exec_builtin ho hcal, args_one hargs, hr]
    simp [builtin, Builtin.len_, h0, run_underlying hu]
  · rename_i n el hu
    exact arr n fun v w => by simp [Builtin.len_, h0, run_underlying hu]
  · rename_i ar hu
    split
    · rename_i n el hu2
      exact arr n fun v w => by simp [Builtin.len_, h0, run_underlying hu, run_underlying hu2]
    · exact oErS_ok _ _
  · rename_i kt et hu
    intro μ σ w ρ env sl K e fr σ' hm ha hk o ho
    obtain ⟨v, hv, hk1⟩ := ha x _ e fr σ' hk
    generalize hr : ρ x = rx at hv
    cases hv with
    | m0 =>
      refine ⟨_, μ, σ, w, .pure hm (v' := goInt 0) ?_ (rel_len μ (n := 0) (by decide)), hk1⟩
      rw [exec_builtin ho hcal, args_one hargs, hr]
      simp [builtin, Builtin.len_, h0, run_underlying hu]
    | @m r L hL =>
      change mapK σ r _ = _ at hk1
      unfold mapK at hk1
      rw [St.get_eq] at hk1
      cases hg : σ.heap.get r with
      | none => rw [hg] at hk1; cases hk1
      | some y =>
        rw [hg] at hk1
        cases y with
        | map es =>
          simp only [force_eq, lenL_eq] at hk1
          obtain ⟨hlt, hk2⟩ := lenNum_inv hk1
          obtain ⟨es', clock, q1, q2, _⟩ := hm.blk r _ L hg hL
          have hl : es.length = es'.size := by have := q2.len; simpa using this
          refine ⟨_, μ, σ, w, .pure hm (v' := goInt es.length) ?_ (rel_len μ hlt), hk2⟩
          rw [exec_builtin ho hcal, args_one hargs, hr]
          simp [builtin, Builtin.len_, h0, run_underlying hu, getObj, Sem.run, q1, hl]
        | _ => cases hk1
    | _ => cases hk1
  · exact oErS_ok _ _
theorem mm_step {mx : Bool} {k : IntKind} {u q : Nat} (hu : u < md k) (hq : q < md k) :
    ((if mx then (if k.wrap q > k.wrap u then k.wrap q else k.wrap u) else (if k.wrap q < k.wrap u then k.wrap q else k.wrap u)) : Int) = k.wrap ((ifb (ifb mx (Nat.blt (ky k u) (ky k q)) (Nat.blt (ky k q) (ky k u))) q u : Nat) : Int) := by
  cases mx
  · simp only [Bool.false_eq_true, if_false, ifb_false]
    by_cases h : k.wrap q < k.wrap u
    · rw [if_pos h, show Nat.blt (ky k q) (ky k u) = true by simpa [Nat.blt_eq] using (ky_lt k q u hq hu).2 h]; rfl
    · rw [if_neg h, show Nat.blt (ky k q) (ky k u) = false by rw [Bool.eq_false_iff]; intro c; exact h ((ky_lt k q u hq hu).1 (by simpa [Nat.blt_eq] using c))]; rfl
  · simp only [if_true, ifb_true]
    by_cases h : k.wrap u < k.wrap q
    · rw [if_pos h, show Nat.blt (ky k u) (ky k q) = true by simpa [Nat.blt_eq] using (ky_lt k u q hu hq).2 h]; rfl
    · rw [if_neg h, show Nat.blt (ky k u) (ky k q) = false by rw [Bool.eq_false_iff]; intro c; exact h ((ky_lt k u q hu hq).1 (by simpa [Nat.blt_eq] using c))]; rfl
theorem oCopy_ok {c : Call} {d x : Operand} {t el : Nat} (hcal : c.callee = .builtin .copy) (hargs : c.args.toList = [d, x]) (h0 : c.argTypes[0]? = some t) (hu : P.underlying t = some (.slice el)) {i : TypeInfo} (hi : P.info? el = some i) :
    EvOk P res (.call c) (oCopy (sz P el) (res d) (res x)) := by
  intro μ σ w ρ env sl K e fr σ' hm ha hk o ho
  obtain ⟨vd, hvd, hk1⟩ := ha d _ e fr σ' hk
  obtain ⟨vx, hvx, hk2⟩ := ha x _ e fr σ' hk1
  obtain ⟨n, hn, hnb, hk3⟩ := lenOf_ok (P := P) hvx hk2
  obtain ⟨m, hm', hmb, hk4⟩ := lenOf_ok (P := P) hvd hk3
  have hds := rel_slice_or_string hvd hk3
  rw [force_eq] at hk4
  have hmin : (ifb (Nat.ble n m) n m) = Nat.min n m := by
    rw [ifb_eq]
    by_cases h : n ≤ m
    · rw [if_pos (Nat.ble_eq_true_of_le h)]; exact (Nat.min_eq_left h).symm
    · rw [if_neg (fun q => h (Nat.le_of_ble_eq_true q))]; exact (Nat.min_eq_right (by omega)).symm
  rw [hmin] at hk4
  obtain ⟨l, l', rl, hl, hf, hk5⟩ := firstK_ok hm hvx (sz P el) ⟨n, hn, Nat.min_le_left n m⟩ hk4
  have hlt : Nat.min n m < 9223372036854775808 := Nat.lt_of_le_of_lt (Nat.min_le_left n m) hnb
  generalize hrd : ρ d = rd at hvd hm' hds
  generalize hrx : ρ x = rx at hvx hn hf
  have hex : (execOp ρ o).run P w = ((Builtin.copy_ c.argTypes o.type #[rd, rx]).run P w).andThen fun v w => .ok (.value v) w := by
    rw [exec_builtin ho hcal, args_two hargs, hrd, hrx]
    simp [builtin]
  have hf' : (Builtin.firstCells (P.cellsOf el) (Nat.min n m) rx).run P w = .ok l'.toArray w := hf
  have run : ∀ (a : Option Addr) (dl dc : Nat), rd = .slice a dl dc → dl = m → ∀ w1, (match a with | some a => (storeCells a l').run P w = .ok () w1 | none => w1 = w) → (execOp ρ o).run P w = .ok (.value (goInt (Nat.min n m))) w1 := by
    intro a dl dc hrd2 hdl w1 hst
    subst hrd2 hdl
    rw [hex]
    cases a with
    | none => subst hst; simp [Builtin.copy_, h0, run_underlying hu, hn, run_sizeOf w1 hi, hf']
    | some a => simp [Builtin.copy_, h0, run_underlying hu, hn, run_sizeOf w hi, hf', hst]
  have stored : ∀ (b off dl dc : Nat) (L : Loc), μ b = some L → rd = .slice (some ⟨L.c, L.sh + off, none⟩) dl dc → dl = m → storeN σ b off l (.fail 123) (fun σ => lenNum (Nat.min n m) fun v => K v σ) = .done e fr σ' →
      ∃ v μ1 σ1 w1, Does P μ σ w (execOp ρ o) v μ1 σ1 w1 ∧ K v σ1 = .done e fr σ' := by
    intro b off dl dc L hL hrd2 hdl hk6
    obtain ⟨σ1, w1, q1, q2, q3⟩ := storeN_ok hm hL off rl hk6
    obtain ⟨-, hk7⟩ := lenNum_inv q3
    exact ⟨_, μ, σ1, w1, .new q2 (run _ dl dc hrd2 hdl w1 q1) (rel_len μ hlt), hk7⟩
  cases hvd with
  | sl0 =>
    have : (0 : Nat) = m := by have := hm' w; simp [Builtin.lenOf] at this; exact this
    obtain ⟨-, hk7⟩ := lenNum_inv (show lenNum (Nat.min n m) (fun v => K v σ) = _ from hk5)
    exact ⟨_, μ, σ, w, .pure hm (v' := goInt (Nat.min n m)) (run none 0 0 rfl this w rfl) (rel_len μ hlt), hk7⟩
  | @slk b L off len cap hL =>
    have : len = m := by have := hm' w; simp [Builtin.lenOf] at this; exact this
    exact stored b off len cap L hL rfl this hk5
  | @slu b L off len es cap hL =>
    have : len = m := by have := hm' w; simp [Builtin.lenOf] at this; exact this
    exact stored b off len cap L hL rfl this hk5
  | @sle b L off off' es hL =>
    have h0m : (0 : Nat) = m := by have := hm' w; simp [Builtin.lenOf] at this; exact this
    have hl0 : l = [] := List.length_eq_zero_iff.1 (by rw [hl, ← h0m]; simp)
    subst hl0
    cases rl
    obtain ⟨-, hk7⟩ := lenNum_inv (show lenNum (Nat.min n m) (fun v => K v σ) = _ from hk5)
    exact ⟨_, μ, σ, w, .pure hm (v' := goInt (Nat.min n m)) (run _ 0 0 rfl h0m w rfl) (rel_len μ hlt), hk7⟩
  | _ => cases hk5
end
end Ae
namespace Ae
open Go
section
variable {P : Program} {res : Operand → Acc}
theorem mmK_ok {mx : Bool} {k : IntKind} {f : Value → Value → Sem Value} (hf : ∀ x y w, (f (.int k x) (.int k y)).run P w = .ok (.int k (if mx then (if y > x then y else x) else (if y < x then y else x))) w) {μ : Mu} {K : V → Out} {x : Ex} {fr : Fr} {σ : St} :
    ∀ {l : List V} {l' : List Value}, RelL μ l l' → ∀ u, u < md k → mmK mx k l u K = .done x fr σ → ∃ u', u' < md k ∧ (∀ w, (l'.foldlM f (.int k (k.wrap u))).run P w = .ok (.int k (k.wrap u')) w) ∧ K (.n k u') = .done x fr σ
  | _, _, .nil, u, hu, hk => ⟨u, hu, fun w => rfl, hk⟩
  | _, _, .cons (v := v) (l := l) r rl, u, hu, hk => by
    have e : mmK mx k (v :: l) u K = onN (.fail 127) (fun k' q => ifb (kEq k k') (ifb (ifb mx (Nat.blt (ky k u) (ky k q)) (Nat.blt (ky k q) (ky k u))) (mmK mx k l q K) (mmK mx k l u K)) (.fail 126)) v := rfl
    rw [e] at hk
    obtain ⟨k', q, ev, hk1⟩ := onN_inv hk
    subst ev
    obtain ⟨hke, hk2⟩ := ifb_inv hk1
    have hkk := kEq_eq hke
    subst hkk
    cases r with | n _ _ hq =>
    have hs := mm_step (mx := mx) hu hq
    have hsel : mmK mx k l (ifb (ifb mx (Nat.blt (ky k u) (ky k q)) (Nat.blt (ky k q) (ky k u))) q u) K = .done x fr σ := by
      generalize (ifb mx (Nat.blt (ky k u) (ky k q)) (Nat.blt (ky k q) (ky k u))) = bb at hk2 ⊢
      cases bb <;> exact hk2
    have hlt : (ifb (ifb mx (Nat.blt (ky k u) (ky k q)) (Nat.blt (ky k q) (ky k u))) q u) < md k := by
      cases (ifb mx (Nat.blt (ky k u) (ky k q)) (Nat.blt (ky k q) (ky k u))) <;> assumption
    obtain ⟨u', h1, h2, h3⟩ := mmK_ok hf rl _ hlt hsel
    refine ⟨u', h1, fun w => ?_, h3⟩
    rw [List.foldlM_cons, Sem.run_bind, hf, Result.andThen_ok, hs]
    exact h2 w
theorem oMinMax_ok {c : Call} {mx : Bool} {l : List Operand} (hcal : c.callee = .builtin (if mx then .max else .min)) (hargs : c.args.toList = l) : EvS P res (.call c) (oMinMax mx (l.map res)) := by
  intro μ σ w ρ env sl K e fr σ' hm ha hk o ho
  obtain ⟨vs, hvs, hk1⟩ := accs_ok ha l _ e fr σ' hk
  have hmap : (c.args.map ρ).toList = l.map ρ := by rw [Array.toList_map, hargs]
  generalize hl' : l.map ρ = l' at hvs
  cases hvs with
  | nil => cases hk1
  | @cons v v' t t' r rl =>
    change onN (.fail 128) (fun k u => mmK mx k t u fun v => K v σ) v = _ at hk1
    obtain ⟨k, u, ev, hk2⟩ := onN_inv hk1
    subst ev
    cases r with | n _ _ hu =>
    cases mx
    · obtain ⟨u', h1, h2, h3⟩ := mmK_ok (P := P) (f := Builtin.min2) (mx := false) (k := k) (fun x y w => by simp [Builtin.min2]) rl u hu hk2
      refine ⟨_, μ, σ, w, .pure hm (v' := .int k (k.wrap u')) ?_ (.n k u' h1), h3⟩
      rw [exec_builtin ho hcal]
      simp only [builtin, Builtin.min_, hmap, hl', Sem.run_bind, h2 w, if_false, Bool.false_eq_true]; rfl
    · obtain ⟨u', h1, h2, h3⟩ := mmK_ok (P := P) (f := Builtin.max2) (mx := true) (k := k) (fun x y w => by simp [Builtin.max2]) rl u hu hk2
      refine ⟨_, μ, σ, w, .pure hm (v' := .int k (k.wrap u')) ?_ (.n k u' h1), h3⟩
      rw [exec_builtin ho hcal]
      simp only [builtin, Builtin.max_, hmap, hl', Sem.run_bind, h2 w, if_true]; rfl
theorem u8s_inv {l : List V} {n : Nat} {x : Ex} {fr : Fr} {σ : St} : ∀ {K : List Nat → Out}, u8s? (.fail n) l K = .done x fr σ → ∃ ns, l = ns.map (V.n .u8) ∧ K ns = .done x fr σ := by
  induction l with
  | nil => intro K h; exact ⟨[], rfl, h⟩
  | cons v l ih =>
    intro K h
    have key : ∀ u, v = .n .u8 u → ∃ ns, v :: l = ns.map (V.n .u8) ∧ K ns = .done x fr σ := by
      intro u hv
      subst hv
      obtain ⟨ns, h1, h2⟩ := ih (K := fun r => K (u :: r)) h
      exact ⟨u :: ns, by rw [h1]; rfl, h2⟩
    cases v with
    | n k u => cases k with
      | u8 => exact key u rfl
      | _ => cases h
    | _ => cases h
theorem push_all (ns : List Int) : ∀ s : ByteArray, (ns.foldl (fun r n => r.push (UInt8.ofNat n.toNat)) s).data.toList = s.data.toList ++ ns.map fun n => UInt8.ofNat n.toNat := by
  induction ns with
  | nil => intro s; simp
  | cons n ns ih => intro s; rw [List.foldl_cons, ih]; simp
theorem u8_vals {μ : Mu} : ∀ {ns : List Nat} {l' : List Value}, RelL μ (ns.map (V.n .u8)) l' → l' = (ns.map fun (n : Nat) => (n : Int)).map (Value.int .u8) ∧ ∀ n ∈ ns, n < 256
  | [], _, .nil => ⟨rfl, by simp⟩
  | n :: ns, _, .cons r rl => by
    obtain ⟨h1, h2⟩ := u8_vals rl
    cases r with | n _ _ hn =>
    refine ⟨?_, ?_⟩
    · rw [h1, wrap_nn .u8 n hn rfl]; rfl
    · intro m hm'
      rcases List.mem_cons.1 hm' with rfl | hm'
      · exact hn
      · exact h2 m hm'
theorem oConvSB_ok (s d : Nat) (x : Operand) {el : Nat} (hs : P.underlying s = some (.slice el)) (hd : P.underlying d = some .string) (he : P.underlying el = some (.int .u8)) : EvS P res (.convert s d x) (oConvSB (res x)) := by
  intro μ σ w ρ env sl K e fr σ' hm ha hk o ho
  obtain ⟨v, hv, hk1⟩ := ha x _ e fr σ' hk
  generalize hr : ρ x = rx at hv
  have run : ∀ (a : Option Addr) (n cap : Nat), rx = .slice a n cap → ∀ r, (Conv.bytesToString (.slice a n cap)).run P w = .ok r w → (execOp ρ o).run P w = .ok (.value r) w := by
    intro a n cap hrx r h
    subst hrx
    simp [execOp, ho, hr, convert, run_underlying hs, run_underlying hd, run_underlying he, h]
  have fin : ∀ (b off n cap : Nat) (L : Loc), μ b = some L → rx = .slice (some ⟨L.c, L.sh + off, none⟩) n cap → n < 9223372036854775808 → (loadN σ b off n (.fail 54) fun l => u8s? (.fail 55) l fun l => K (.s l) σ) = .done e fr σ' →
      ∃ v μ1 σ1 w1, PDoes P μ σ w (execOp ρ o) v μ1 σ1 w1 ∧ K v σ1 = .done e fr σ' := by
    intro b off n cap L hL hrx hn hk2
    obtain ⟨l, l', rl, hl, hrun, hk3⟩ := loadN_ok hm hL off _ hk2
    obtain ⟨ns, e1, hk4⟩ := u8s_inv hk3
    subst e1
    obtain ⟨e2, hb⟩ := u8_vals rl
    rw [e2] at hrun
    have h := run_bytesToString (P := P) w _ n cap _ hrun
    refine ⟨_, μ, σ, w, .pure hm (run _ n cap hrx _ h) ?_, hk4⟩
    have hdat := push_all (ns.map fun (n : Nat) => (n : Int)) ByteArray.empty
    generalize hB : (ns.map fun (n : Nat) => (n : Int)).foldl (fun r n => r.push (UInt8.ofNat n.toNat)) ByteArray.empty = B at hdat
    have e3 : B.data.toList.map UInt8.toNat = ns := by
      rw [hdat]
      simp only [List.map_append, List.map_map]
      have : (ByteArray.empty.data.toList.map UInt8.toNat) = [] := rfl
      rw [this, List.nil_append]
      conv => rhs; rw [← List.map_id ns]
      refine List.map_congr_left fun m hm' => ?_
      simp only [Function.comp, Int.toNat_natCast, id]
      exact UInt8.toNat_ofNat_of_lt' (hb m hm')
    have hsz : B.size = n := by
      have := congrArg List.length e3
      rw [List.length_map, Array.length_toList] at this
      rw [List.length_map] at hl
      exact this.trans hl
    rw [← e3]
    exact .s B (by omega)
  cases hv with
  | sl0 => exact ⟨_, μ, σ, w, .pure hm (run none 0 0 rfl _ (by simp [Conv.bytesToString])) (RelV.s (μ := μ) ByteArray.empty (by decide)), hk1⟩
  | @slk b L off len cap hL hl hc => exact fin b off len cap L hL rfl (by omega) hk1
  | @slu b L off len es cap hL hl hc => exact fin b off len cap L hL rfl hc hk1
  | @sle b L off off' es hL =>
    obtain ⟨l, l', rl, hl, hrun, hk3⟩ := loadN_ok hm hL off _ hk1
    have hl0 : l = [] := List.length_eq_zero_iff.1 hl
    subst hl0
    have hk4 : K (.s []) σ = .done e fr σ' := hk3
    refine ⟨_, μ, σ, w, .pure hm (run _ 0 0 rfl (.string .empty) ?_) (RelV.s (μ := μ) ByteArray.empty (by decide)), hk4⟩
    have h := run_bytesToString (P := P) w ⟨L.c, off', none⟩ 0 0 [] (by simp [loadCells, loadCellsFrom])
    exact h
  | _ => cases hk1
theorem oConvI_ok (s d : Nat) (x : Operand) {k k0 : IntKind} (hs : P.underlying s = some (.int k0)) (hd : P.underlying d = some (.int k)) : EvS P res (.convert s d x) (oConvI k (res x)) := by
  intro μ σ w ρ env sl K e fr σ' hm ha hk o ho
  obtain ⟨v, hv, hk1⟩ := ha x _ e fr σ' hk
  obtain ⟨j, u, ev, hk2⟩ := onN_inv hk1
  subst ev
  generalize hr : ρ x = rx at hv
  cases hv with | n _ _ hu =>
  have hrun : (execOp ρ o).run P w = .ok (.value (.int k (k.wrap (j.wrap u)))) w := by simp [execOp, ho, hr, convert, run_underlying hs, run_underlying hd, Conv.intToInt]
  unfold intInt at hk2
  cases hn : ng j u with
  | false =>
    rw [hn, ifb_false, num_eq] at hk2
    refine ⟨_, μ, σ, w, .pure hm hrun (.num k u _ ?_), hk2⟩
    rw [wrap_nn j u hu hn]; push_cast; rfl
  | true =>
    rw [hn, ifb_true, num_eq] at hk2
    refine ⟨_, μ, σ, w, .pure hm hrun (.num k _ _ ?_), hk2⟩
    have hneg : j.wrap u = (u : Int) - md j := by
      rw [wrap_lt j u hu]
      rw [ng_eq j u hu, wrap_lt j u hu] at hn
      by_cases h : sg j = true ∧ hf j ≤ u
      · rw [if_pos h]
      · rw [if_neg h] at hn; simp at hn; omega
    rw [hneg]
    have hmj : md j ≤ 18446744073709551616 := by cases j <;> decide
    have hdv : (18446744073709551616 : Int) % (md k : Int) = 0 := by cases k <;> decide
    have e1 : (((u.add 18446744073709551616).sub (md j) : Nat) : Int) = (u : Int) - md j + 18446744073709551616 := by
      show ((u + 18446744073709551616 - md j : Nat) : Int) = _
      omega
    rw [Int.natCast_emod, e1, Int.add_emod, hdv, Int.add_zero, Int.emod_emod_of_dvd _ (Int.dvd_refl _)]
end
end Ae
namespace Ae
open Go
theorem modify_push (h : Array Obj) (o : Obj) (f : Obj → Obj) : (h.push o).modify h.size f = h.push (f o) := by
  apply Array.ext_getElem?
  intro i
  rw [Array.getElem?_modify, Array.getElem?_push, Array.getElem?_push]
  by_cases hi : h.size = i
  · subst hi; simp
  · rw [if_neg hi]
    by_cases h2 : i = h.size
    · exact absurd h2.symm hi
    · rw [if_neg h2, if_neg h2]
theorem run_mark {P : Program} {w : World} {b n e : Nat} (h : w.shape? b = some (e, n)) : (markStringish ⟨b, 0, none⟩).run P w = .ok () (w.freeze { block := b, off := n } 1) := by
  unfold markStringish
  rw [Sem.run_bind, run_shape]
  simp only [Result.andThen_ok]
  rw [h]
  rfl
section
variable {P : Program} {res : Operand → Acc}
theorem oConvBS_ok (s d : Nat) (x : Operand) {el : Nat} (hs : P.underlying s = some .string) (hd : P.underlying d = some (.slice el)) (he : P.underlying el = some (.int .u8)) : EvOk P res (.convert s d x) (oConvBS el (res x)) := by
  intro μ σ w ρ env sl K e fr σ' hm ha hk o ho
  obtain ⟨v, hv, hk1⟩ := ha x _ e fr σ' hk
  obtain ⟨l, ev, hk2⟩ := onS_inv hk1
  subst ev
  rw [St.rowK_eq, force_eq, lenL_eq] at hk2
  generalize hr : ρ x = rx at hv
  cases hv with | s bs hb =>
  have hlen : (bs.data.toList.map UInt8.toNat).length = bs.size := by rw [List.length_map, Array.length_toList]; rfl
  rw [hlen] at hk2
  let cap := (Question.appendCap bs.size 0 el).cut (w.tape w.drawn (.appendCap bs.size 0 el))
  have hcap : bs.size ≤ cap := by show bs.size ≤ bs.size + _ % _; exact Nat.le_add_right _ _
  have hch : (choose (Question.appendCap bs.size 0 el)).run P w = .ok cap { w with drawn := w.drawn + 1 } := by simp [Question.forced, cap]
  clear_value cap
  let cs : Array Value := (bs.data.map fun b => Value.int .u8 b.toNat) ++ Array.replicate (cap - bs.size) (.int .u8 0)
  have hcs : cs.size = cap := by show (_ ++ _ : Array Value).size = _; rw [Array.size_append, Array.size_map, Array.size_replicate]; show bs.size + (cap - bs.size) = cap; omega
  have hrun : (execOp ρ o).run P w = .ok (.value (.slice (some ⟨w.heap.size, 0, none⟩) bs.size cap)) { w with drawn := w.drawn + 1, heap := w.heap.push (.cells cs el (cap, cap + 1)) } := by
    have e1 : ({ w with drawn := w.drawn + 1, heap := w.heap.push (.cells cs el (0, 0)) } : World).freeze { block := w.heap.size, off := cap } 1 = { w with drawn := w.drawn + 1, heap := w.heap.push (.cells cs el (cap, cap + 1)) } := by
      unfold World.freeze
      rw [if_neg (by decide)]
      simp only [modify_push]
      rfl
    have e2 : ({ w with drawn := w.drawn + 1, heap := w.heap.push (.cells cs el (0, 0)) } : World).shape? w.heap.size = some (el, cap) := by
      simp [World.shape?, hcs]
    have e3 : (markStringish ⟨w.heap.size, 0, none⟩).run P { w with drawn := w.drawn + 1, heap := w.heap.push (.cells cs el (0, 0)) } = .ok () { w with drawn := w.drawn + 1, heap := w.heap.push (.cells cs el (cap, cap + 1)) } := by
      rw [run_mark e2, e1]
    have e4 : (newRow el cs).run P { w with drawn := w.drawn + 1 } = .ok ⟨w.heap.size, 0, none⟩ { w with drawn := w.drawn + 1, heap := w.heap.push (.cells cs el (0, 0)) } := rfl
    have e5 : (Conv.stringToBytes el bs).run P w = .ok (.slice (some ⟨w.heap.size, 0, none⟩) bs.size cap) { w with drawn := w.drawn + 1, heap := w.heap.push (.cells cs el (cap, cap + 1)) } := by
      unfold Conv.stringToBytes
      rw [Sem.run_bind, hch]
      simp only [Result.andThen_ok]
      rw [Sem.run_bind]
      change Result.andThen ((newRow el cs).run P { w with drawn := w.drawn + 1 }) _ = _
      rw [e4]
      simp only [Result.andThen_ok]
      rw [Sem.run_bind, e3]
      rfl
    simp only [execOp, ho, hr, convert, Sem.run_bind, run_underlying hs, run_underlying hd, Result.andThen_ok, run_underlying he, e5]
    rfl
  have hst := step_row (hm.of_heap (w' := { w with drawn := w.drawn + 1 }) rfl) el (stT (toU8s (bs.data.toList.map UInt8.toNat)) .e 0) [] (toU8s (bs.data.toList.map UInt8.toNat)).length true cs (cap, cap + 1)
    (.inr ⟨by rw [hcs]; exact Nat.le_refl _, by rw [hcs]; exact Nat.le_succ _⟩) (by rw [toU8s_eq, List.length_map, hlen, hcs]; exact hcap) (by
      intro j v hv
      have h1 := cellAt_list _ j v hv
      rw [toU8s_eq] at h1
      obtain ⟨v', q1, q2⟩ := RelL.get (u8_rel μ bs.data.toList) j v h1
      refine ⟨v', ?_, q2⟩
      have hj : j < bs.size := by
        rcases Nat.lt_or_ge j bs.size with q | q
        · exact q
        · rw [List.getElem?_eq_none (by rw [List.length_map, Array.length_toList]; exact q)] at q1; cases q1
      show (_ ++ _ : Array Value)[j]? = _
      rw [Array.getElem?_append_left (by rw [Array.size_map]; exact hj), Array.getElem?_map]
      rw [List.getElem?_map] at q1
      simpa using q1)
  refine ⟨_, _, _, _, .new ((Step.draw hm (w.drawn + 1)).trans hst) hrun ?_, hk2⟩
  exact rel_grown μ _ _ _ _ _ 1 hcap hb (by rw [hcs]; omega)
theorem oConvR_ok (s d : Nat) (x : Operand) {k : IntKind} (hs : P.underlying s = some (.int k)) (hd : P.underlying d = some .string) : EvS P res (.convert s d x) (oConvR (res x)) := by
  intro μ σ w ρ env sl K e fr σ' hm ha hk o ho
  obtain ⟨v, hv, hk1⟩ := ha x _ e fr σ' hk
  obtain ⟨j, u, ev, hk2⟩ := onN_inv hk1
  subst ev
  obtain ⟨hc, hk3⟩ := ifb_inv hk2
  rw [Bool.and_eq_true] at hc
  have hlt : u < 128 := Nat.le_of_ble_eq_true hc.1
  have hng : ng j u = false := by simpa using hc.2
  generalize hr : ρ x = rx at hv
  cases hv with | n _ _ hu =>
  rw [wrap_nn j u hu hng] at hr
  have henc : Utf8.encode (u : Int) = ⟨#[UInt8.ofNat u]⟩ := by
    unfold Utf8.encode
    have : Utf8.valid (u : Int) = true := by simp [Utf8.valid]; omega
    simp [this]; omega
  refine ⟨_, μ, σ, w, .pure hm (v' := .string ⟨#[UInt8.ofNat u]⟩) (by simp [execOp, ho, hr, convert, run_underlying hs, run_underlying hd, Conv.intToString, henc]) ?_, hk3⟩
  have := RelV.s (μ := μ) ⟨#[UInt8.ofNat u]⟩ (show (1 : Nat) < _ by decide)
  have e2 : (ByteArray.mk #[UInt8.ofNat u]).data.toList.map UInt8.toNat = [u] := by
    show [(UInt8.ofNat u).toNat] = [u]
    rw [UInt8.toNat_ofNat_of_lt' (show u < 256 by omega)]
  rwa [e2] at this
theorem isU8_ok {e : Nat} (h : isU8 P e = true) : P.underlying e = some (.int .u8) := by
  unfold isU8 at h
  split at h
  · assumption
  · cases h
theorem oConvSS_ok (s d : Nat) (x : Operand) (hs : P.underlying s = some .string) (hd : P.underlying d = some .string) : EvS P res (.convert s d x) (oConvSS (res x)) := by
  intro μ σ w ρ env sl K e fr σ' hm ha hk o ho
  obtain ⟨v, hv, hk1⟩ := ha x _ e fr σ' hk
  obtain ⟨l, ev, hk2⟩ := onS_inv hk1
  subst ev
  generalize hr : ρ x = rx at hv
  cases hv with | s bs hb =>
  exact ⟨_, μ, σ, w, .pure hm (v' := .string bs) (by simp [execOp, ho, hr, convert, run_underlying hs, run_underlying hd]) (.s bs hb), hk2⟩
theorem free_mark {cs : Array Value} {fr : Nat × Nat} (h : Free cs fr) : Free cs (if fr.1 == fr.2 then (cs.size, cs.size + 1) else (min fr.1 cs.size, max fr.2 (cs.size + 1))) := by
  unfold Free at h ⊢
  by_cases q : fr.1 = fr.2
  · rw [if_pos (by simpa using q)]; right; exact ⟨Nat.le_refl _, Nat.le_succ _⟩
  · rw [if_neg (by simpa using q)]
    rcases h with h | ⟨h1, h2⟩
    · exact absurd h q
    · right; exact ⟨by show cs.size ≤ min _ _; omega, by show cs.size ≤ max _ _; omega⟩
theorem modify_row {h : Array Obj} {c : Nat} {cs : Array Value} {e : Nat} {fr : Nat × Nat} (hc : h[c]? = some (.cells cs e fr)) (f : Obj → Obj) : h.modify c f = h.setIfInBounds c (f (.cells cs e fr)) := by
  apply Array.ext_getElem?
  intro i
  rw [Array.getElem?_modify, Array.getElem?_setIfInBounds]
  by_cases q : c = i
  · subst q
    have : c < h.size := by
      rcases Nat.lt_or_ge c h.size with r | r
      · exact r
      · rw [Array.getElem?_eq_none r] at hc; cases hc
    rw [if_pos rfl, if_pos rfl, if_pos this, hc]; rfl
  · rw [if_neg q, if_neg q]
theorem markK_ok {μ : Mu} {σ : St} {w : World} (hm : RelM P μ σ w) {b : Nat} {L : Loc} (hL : μ b = some L) {K : St → Out} {x : Ex} {fr : Fr} {σ' : St} (hk : markK σ b K = .done x fr σ') :
    ∃ σ1 w1, (∀ o', (markStringish ⟨L.c, o', none⟩).run P w = .ok () w1) ∧ Step P μ σ w μ σ1 w1 ∧ K σ1 = .done x fr σ' := by
  unfold markK at hk
  rw [St.get_eq] at hk
  split at hk
  · rename_i e c z len g hb
    obtain ⟨he99, hk⟩ := ifb_inv hk
    have he99 := Nat.le_of_ble_eq_true he99
    rw [St.setK_eq] at hk
    obtain ⟨cs, frz, q1, q2, q3, q4, q5, q6⟩ := hm.blk b _ L hb hL
    have e2 : w.shape? L.c = some (e, cs.size) := by simp [World.shape?, q1]
    have e3 : w.freeze { block := L.c, off := cs.size } 1 = { w with heap := w.heap.setIfInBounds L.c (.cells cs e (if frz.1 == frz.2 then (cs.size, cs.size + 1) else (min frz.1 cs.size, max frz.2 (cs.size + 1)))) } := by
      unfold World.freeze
      rw [if_neg (by decide), modify_row q1]
    refine ⟨_, _, fun o' => ?_, step_set hm b _ (.row e c z len g) (.cells cs e (if frz.1 == frz.2 then (cs.size, cs.size + 1) else (min frz.1 cs.size, max frz.2 (cs.size + 1)))) L hb trivial hL ?_ ?_, hk⟩
    · unfold markStringish
      rw [Sem.run_bind, run_shape]
      simp only [Result.andThen_ok]
      rw [e2]
      rw [← e3]; rfl
    · have hlt : L.c < w.heap.size := hm.inb _ _ hL
      exact ⟨cs, _, by simp [hlt], q2, q3, free_mark q4, q5, fun j v hv => let ⟨v', h1, h2⟩ := q6 j v hv; ⟨v', h1, h2⟩⟩
    · intro cs2 t2 fr2 ht hq
      rw [q1] at hq
      cases hq
      exact (Nat.not_succ_le_self 99 (Nat.le_trans ht he99)).elim
  · cases hk
theorem oConvLL_ok (s : Nat) (x : Operand) {es ed : Nat} (hs : P.underlying s = some (.slice es)) (hd : P.underlying s = some (.slice ed)) (he : P.underlying ed = some (.int .u8)) : EvOk P res (.convert s s x) (oConvLL (res x)) := by
  intro μ σ w ρ env sl K e fr σ' hm ha hk o ho
  obtain ⟨v, hv, hk1⟩ := ha x _ e fr σ' hk
  have key : ∀ b o' len cap L o'' cap' , v = .sl b o' len cap → μ b = some L → ρ x = .slice (some ⟨L.c, o'', none⟩) len cap' → ∃ v μ1 σ1 w1, Does P μ σ w (execOp ρ o) v μ1 σ1 w1 ∧ K v σ1 = .done e fr σ' := by
    intro b o' len cap L o'' cap' ev hL hr
    subst ev
    obtain ⟨σ1, w1, h1, h2, h3⟩ := markK_ok hm hL hk1
    refine ⟨_, μ, σ1, w1, ⟨.inl ⟨.slice (some ⟨L.c, o'', none⟩) len cap', ?_, by rw [← hr]; exact hv⟩, h2⟩, h3⟩
    simp [execOp, ho, hr, convert, run_underlying hs, run_underlying he, h1]
    rw [hs] at hd; cases hd
    simp [run_underlying he, h1]
  generalize hr : ρ x = rx at hv
  cases hv with
  | @slk b L off len cap hL hl hc => exact key _ _ _ _ L _ _ rfl hL hr
  | @slu b L off len es cap hL hl hc hN => exact key _ _ _ _ L _ _ rfl hL hr
  | @sle b L off off' es hL => exact key _ _ _ _ L _ _ rfl hL hr
  | _ => cases hk1
theorem decConv_ok (s d : Nat) (x : Operand) : EvOk P res (.convert s d x) (decConv P res s d x) := by
  unfold decConv
  split
  · rename_i k0 k h1 h2; exact (oConvI_ok s d x h1 h2).ok
  · rename_i k h1 h2; exact (oConvR_ok s d x h1 h2).ok
  · rename_i h1 h2; exact (oConvSS_ok s d x h1 h2).ok
  · rename_i el h1 h2
    cases hu : isU8 P el with
    | true => exact oConvBS_ok s d x h1 h2 (isU8_ok hu)
    | false => exact oEr_ok _ _
  · rename_i el h1 h2
    cases hu : isU8 P el with
    | true => exact (oConvSB_ok s d x h1 h2 (isU8_ok hu)).ok
    | false => exact oEr_ok _ _
  · rename_i el h1 h2
    cases hu : Bool.and (Nat.beq s d) (isU8 P el) with
    | true =>
      rw [Bool.and_eq_true] at hu
      have := Nat.eq_of_beq_eq_true hu.1
      subst this
      exact oConvLL_ok s x h1 h2 (isU8_ok hu.2)
    | false => exact oEr_ok _ _
  · exact oEr_ok _ _
end
end Ae
namespace Ae
open Go
section
variable {P : Program} {res : Operand → Acc}
theorem run_as_no {w : World} {xt as : Nat} {d : TypeDesc} (hd : P.underlying as = some d) (hi : ∀ m, d ≠ .interface m) {zv : Value} (hz : (zeroValue as).run P w = .ok zv w) {x : Value} (hx : x = .nilIface ∨ ∃ t v, x = .iface t v ∧ t ≠ as) :
    (Instr.typeAssert x xt as true).run P w = .ok (.tuple #[zv, .bool false]) w := by
  rcases hx with rfl | ⟨t, v, rfl, ht⟩
  · unfold Instr.typeAssert
    cases d <;> first | exact absurd rfl (hi _) | simp [run_underlying hd, hz]
  · unfold Instr.typeAssert
    cases d <;> first | exact absurd rfl (hi _) | simp [run_underlying hd, hz, ht]
theorem run_as_yes {w : World} {xt as : Nat} {d : TypeDesc} (hd : P.underlying as = some d) (hi : ∀ m, d ≠ .interface m) (ok : Bool) (v : Value) :
    (Instr.typeAssert (.iface as v) xt as ok).run P w = .ok (if ok then .tuple #[v, .bool true] else v) w := by
  unfold Instr.typeAssert
  cases d <;> first | exact absurd rfl (hi _) | simp [run_underlying hd]
theorem oAssertTo_ok (x : Operand) (xt as : Nat) (ok : Bool) {d : TypeDesc} (hd : P.underlying as = some d) (hi : ∀ m, d ≠ .interface m) : EvS P res (.typeAssert x xt as ok) (oAssertTo as (zero? P as) ok (res x)) := by
  intro μ σ w ρ env sl K e fr σ' hm ha hk o ho
  obtain ⟨v, hv, hk1⟩ := ha x _ e fr σ' hk
  generalize hr : ρ x = rx at hv
  have hno : (ifb ok (Option.rec (.fail 100) (fun z => K (.t [z, .b false]) σ) (zero? P as)) (.fail 101) : Out) = .done e fr σ' → (rx = .nilIface ∨ ∃ t v, rx = .iface t v ∧ t ≠ as) →
      ∃ v μ1 σ1 w1, PDoes P μ σ w (execOp ρ o) v μ1 σ1 w1 ∧ K v σ1 = .done e fr σ' := by
    intro h hx
    obtain ⟨hok, h2⟩ := ifb_inv h
    subst hok
    cases hz : zero? P as with
    | none => rw [hz] at h2; cases h2
    | some z =>
      rw [hz] at h2
      obtain ⟨zv, z1, z2, z3, z4⟩ := zero_ok hz
      refine ⟨_, μ, σ, w, .pure hm (v' := .tuple #[zv, .bool false]) ?_ (.t (.cons (z2 μ) (.cons (.b false) .nil))), h2⟩
      simp [execOp, ho, hr, run_as_no hd hi (z1 w) hx]
  cases hv with
  | i0 => exact hno hk1 (.inl rfl)
  | @i t v v' hv =>
    change ifb (Nat.beq t as) (K (ifb ok (.t [v, .b true]) v) σ) _ = _ at hk1
    cases ht : Nat.beq t as with
    | false =>
      rw [ht] at hk1
      exact hno hk1 (.inr ⟨t, v', rfl, Nat.ne_of_beq_eq_false ht⟩)
    | true =>
      rw [ht] at hk1
      have := Nat.eq_of_beq_eq_true ht
      subst this
      refine ⟨_, μ, σ, w, .pure hm (v' := if ok then .tuple #[v', .bool true] else v') ?_ ?_, hk1⟩
      · simp [execOp, ho, hr, run_as_yes hd hi]
      · cases ok
        · exact hv
        · exact .t (.cons hv (.cons (.b true) .nil))
  | _ => cases hk1
theorem run_asi_no {w : World} {xt as : Nat} {want : Array (String × TypeId)} (hd : P.underlying as = some (.interface want)) {zv : Value} (hz : (zeroValue as).run P w = .ok zv w) {x : Value}
    (hx : x = .nilIface ∨ ∃ t v i m, x = .iface t v ∧ P.info? t = some i ∧ Instr.missingMethod want i.methods = some m) :
    (Instr.typeAssert x xt as true).run P w = .ok (.tuple #[zv, .bool false]) w := by
  rcases hx with rfl | ⟨t, v, i, m, rfl, hi, ht⟩
  · unfold Instr.typeAssert
    simp [run_underlying hd, hz]
  · unfold Instr.typeAssert
    simp [run_underlying hd, hz, typeInfo, hi, ht]
theorem run_asi_yes {w : World} {xt as t : Nat} {want : Array (String × TypeId)} (hd : P.underlying as = some (.interface want)) (ok : Bool) (v : Value) {i : TypeInfo} (hi : P.info? t = some i) (hm : Instr.missingMethod want i.methods = none) :
    (Instr.typeAssert (.iface t v) xt as ok).run P w = .ok (if ok then .tuple #[.iface t v, .bool true] else .iface t v) w := by
  unfold Instr.typeAssert
  simp [run_underlying hd, typeInfo, hi, hm]
theorem oAssertIf_ok (x : Operand) (xt as : Nat) (ok : Bool) {want : Array (String × TypeId)} (hd : P.underlying as = some (.interface want)) (hz : zero? P as = some .i0) : EvS P res (.typeAssert x xt as ok) (oAssertIf P want ok (res x)) := by
  intro μ σ w ρ env sl K e fr σ' hm ha hk o ho
  obtain ⟨v, hv, hk1⟩ := ha x _ e fr σ' hk
  generalize hr : ρ x = rx at hv
  obtain ⟨zv, z1, z2, z3, z4⟩ := zero_ok hz
  have hno : (ifb ok (K (.t [.i0, .b false]) σ) (.fail 101) : Out) = .done e fr σ' → (rx = .nilIface ∨ ∃ t v i m, rx = .iface t v ∧ P.info? t = some i ∧ Instr.missingMethod want i.methods = some m) →
      ∃ v μ1 σ1 w1, PDoes P μ σ w (execOp ρ o) v μ1 σ1 w1 ∧ K v σ1 = .done e fr σ' := by
    intro h hx
    obtain ⟨hok, h2⟩ := ifb_inv h
    subst hok
    refine ⟨_, μ, σ, w, .pure hm (v' := .tuple #[zv, .bool false]) ?_ (.t (.cons (z2 μ) (.cons (.b false) .nil))), h2⟩
    simp [execOp, ho, hr, run_asi_no hd (z1 w) hx]
  cases hv with
  | i0 => exact hno hk1 (.inl rfl)
  | @i t v v' hv =>
    change (Option.rec (motive := fun _ => Out) (.fail 102) (fun c => ifb c (ifb ok (K (.t [.i0, .b false]) σ) (.fail 101)) (K (ifb ok (.t [.i t v, .b true]) (.i t v)) σ)) (lacks P want t) : Out) = _ at hk1
    cases hi : P.info? t with
    | none => rw [show lacks P want t = none by simp [lacks, hi]] at hk1; cases hk1
    | some i =>
      rw [show lacks P want t = some (Instr.missingMethod want i.methods).isSome by simp [lacks, hi]] at hk1
      cases hmm : Instr.missingMethod want i.methods with
      | some m =>
        rw [hmm] at hk1
        exact hno hk1 (.inr ⟨t, v', i, m, rfl, hi, hmm⟩)
      | none =>
        rw [hmm] at hk1
        refine ⟨_, μ, σ, w, .pure hm (v' := if ok then .tuple #[.iface t v', .bool true] else .iface t v') ?_ ?_, hk1⟩
        · simp [execOp, ho, hr, run_asi_yes hd ok v' hi hmm]
        · cases ok
          · exact .i t hv
          · exact .t (.cons (.i t hv) (.cons (.b true) .nil))
  | _ => cases hk1
theorem decAs_ok (x : Operand) (xt as : Nat) (ok : Bool) : EvS P res (.typeAssert x xt as ok) (decAs P res x as ok) := by
  unfold decAs
  split
  · rename_i want h
    split
    · rename_i hz; exact oAssertIf_ok x xt as ok h hz
    · exact oErS_ok _ _
  · rename_i d h hn
    exact oAssertTo_ok x xt as ok hn h
  · exact oErS_ok _ _
theorem fold_setArr (l : List Value) : ∀ (k o : Nat) (cs : Array Value), (l.zipIdx k).foldl (fun cs (c, j) => cs.setIfInBounds (o + j) c) cs = setArr cs (o + k) l := by
  induction l with
  | nil => intro k o cs; rfl
  | cons v l ih =>
    intro k o cs
    rw [List.zipIdx_cons, List.foldl_cons, ih, setArr]
    rfl
theorem afold_setArr (a : Array Value) (o : Nat) (cs : Array Value) : (a.zipIdx.foldl (fun cs (c, j) => cs.setIfInBounds (o + j) c) cs) = setArr cs o a.toList := by
  rw [← Array.foldl_toList, Array.toList_zipIdx, fold_setArr]; rfl
def Cells (μ : Mu) (t : T V) (z : List V) (n : Nat) (cs : Array Value) : Prop := cs.size = n ∧ ∀ j v, cellAt t z n j = some v → ∃ v', cs[j]? = some v' ∧ RelV μ v v'
theorem fillK_ok {μ : Mu} {env : List V} {sl : T V} {ρ : Operand → Value} (ha : HAcc μ env sl res ρ) {place : Nat → Option (Nat × Nat)} {z : List V} {n : Nat} {e : Ex} {fr : Fr} {σ' : St} {K : T V → Out} :
    ∀ (ps : List (Nat × Operand)) (t : T V) (cs : Array Value), Cells μ t z n cs → fillK place (decParts res ps) n env sl t K = .done e fr σ' →
      ∃ t' cs', Instr.fill place cs (ps.map fun p => (p.1, ρ p.2)) = some cs' ∧ Cells μ t' z n cs' ∧ K t' = .done e fr σ' := by
  intro ps
  induction ps with
  | nil => intro t cs hc hk; exact ⟨t, cs, rfl, hc, hk⟩
  | cons p ps ih =>
    intro t cs hc hk
    change (match place p.1 with | some (off, size) => accK (res p.2) env sl (known fun v => ifb (Bool.and (Nat.beq (lenL v.cells) size) (Nat.ble (Nat.add off size) n)) (stK v.cells t off fun t => fillK place (decParts res ps) n env sl t K) (.fail 41)) | none => .fail 41) = _ at hk
    cases hp : place p.1 with
    | none => rw [hp] at hk; cases hk
    | some os =>
      obtain ⟨off, size⟩ := os
      rw [hp] at hk
      obtain ⟨v, hv, hk1⟩ := ha p.2 _ e fr σ' hk
      obtain ⟨hu, hk2⟩ := known_inv hk1
      obtain ⟨hc1, hk3⟩ := ifb_inv hk2
      rw [Bool.and_eq_true] at hc1
      rw [stK_eq] at hk3
      have r := cells_rel hv hu
      have hl := RelL.length r
      have h1 : v.cells.length = size := by have := Nat.eq_of_beq_eq_true hc1.1; rwa [lenL_eq] at this
      have h2 : off + size ≤ n := Nat.le_of_ble_eq_true hc1.2
      have hcs : Cells μ (stT v.cells t off) z n (setArr cs off (ρ p.2).cells.toList) := by
        refine ⟨by rw [size_setArr]; exact hc.1, ?_⟩
        intro j u hj
        rw [cellAt_eq] at hj
        rw [get_setArr _ _ _ _ (by rw [← hl, hc.1]; omega)]
        by_cases hjn : n ≤ j
        · rw [if_pos hjn] at hj; cases hj
        · rw [if_neg hjn, get_stT] at hj
          by_cases hin : off ≤ j ∧ j < off + v.cells.length
          · rw [if_pos hin, List.getElem?_eq_getElem (by omega)] at hj
            simp only at hj
            rw [if_pos (by rw [← hl]; exact hin)]
            exact RelL.get r (j - off) u (by rw [List.getElem?_eq_getElem (by omega)]; exact hj)
          · rw [if_neg hin] at hj
            rw [if_neg (by rw [← hl]; exact hin)]
            exact hc.2 j u (by rw [cellAt_eq, if_neg hjn]; exact hj)
      obtain ⟨t', cs', q1, q2, q3⟩ := ih _ _ hcs hk3
      refine ⟨t', cs', ?_, q2, q3⟩
      rw [List.map_cons, Instr.fill]
      simp only [hp]
      rw [if_neg (by
        have : (ρ p.2).cells.size = size := by rw [← Array.length_toList, ← hl]; exact h1
        simp [this, hc.1]; omega), afold_setArr]
      exact q1
theorem cells_zero {μ : Mu} {z : List V} {zv : Array Value} (r : RelL μ z zv.toList) : Cells μ .e z z.length zv := by
  refine ⟨by have := RelL.length r; simp at this; exact this.symm, fun j v hv => ?_⟩
  obtain ⟨h1, h2⟩ := cellAt_zero _ _ _ _ hv
  rw [Nat.mod_eq_of_lt h1] at h2
  obtain ⟨v', q1, q2⟩ := RelL.get r j v h2
  exact ⟨v', by simpa using q1, q2⟩
theorem oBuild_ok (t : Nat) (ps : Array (Nat × Operand)) {place : Nat → Option (Nat × Nat)} {z : V} {zv : Value} (hz : ∀ μ, RelL μ z.cells zv.cells.toList)
    (hrun : ∀ (w : World) (parts : Array (Nat × Value)) (cs : Array Value), Instr.fill place zv.cells parts.toList = some cs → (Instr.build t parts).run P w = .ok (.agg cs) w) :
    EvS P res (.build t ps) (oBuild place z.cells (lenL z.cells) (decParts res ps.toList)) := by
  intro μ σ w ρ env sl K e fr σ' hm ha hk o ho
  unfold oBuild at hk
  split at hk
  · rename_i hnil
    obtain ⟨_, h3⟩ := ifb_inv hk
    have hps : ps.toList = [] := by
      cases hp : ps.toList with
      | nil => rfl
      | cons p l => rw [hp] at hnil; cases hnil
    have e1 : Instr.fill place zv.cells (ps.map fun p => (p.1, ρ p.2)).toList = some zv.cells := by rw [Array.toList_map, hps]; rfl
    exact ⟨_, μ, σ, w, .pure hm (v' := .agg zv.cells) (by simp [execOp, ho, hrun w _ _ e1]) (.a (hz μ)), h3⟩
  rename_i hne
  clear hne
  have hk0 : fillK place (decParts res ps.toList) z.cells.length env sl .e (fun c => ldK (cellAt c z.cells z.cells.length) (.fail 42) z.cells.length 0 fun l => K (.a l) σ) = .done e fr σ' := by
    have := hk; rwa [lenL_eq] at this
  obtain ⟨t', cs', h1, h2, h3⟩ := fillK_ok ha ps.toList .e zv.cells (cells_zero (hz μ)) hk0
  rcases ldK_eq (cellAt t' z.cells z.cells.length) (.fail 42) z.cells.length 0 (fun l => K (.a l) σ) with ⟨l, q1, q2, q3⟩ | q
  · rw [q3] at h3
    refine ⟨_, μ, σ, w, .pure hm (v' := .agg cs') ?_ (.a ?_), h3⟩
    · have e1 : Instr.fill place zv.cells (ps.map fun p => (p.1, ρ p.2)).toList = some cs' := by rw [Array.toList_map]; exact h1
      simp [execOp, ho, hrun w _ cs' e1]
    · refine RelL.of_get (by rw [q1, Array.length_toList]; exact h2.1.symm) fun i v hv => ?_
      have hi : i < z.cells.length := by
        rcases Nat.lt_or_ge i l.length with r | r
        · omega
        · rw [List.getElem?_eq_none r] at hv; cases hv
      obtain ⟨v', r1, r2⟩ := h2.2 i v (by have := q2 i hi; rw [Nat.zero_add] at this; rw [this]; exact hv)
      exact ⟨v', by simpa using r1, r2⟩
  · rw [q] at h3; cases h3
theorem fieldsOk_ok : ∀ {fs : List Field}, fieldsOk P fs = true → fs.mapM (fun f => (P.info? f.type).map fun i => (f.offset, i.size)) = some (fs.map fun f => (f.offset, sz P f.type))
  | [], _ => rfl
  | f :: fs, h => by
    change (match P.info? f.type with | some _ => fieldsOk P fs | none => false) = true at h
    cases hi : P.info? f.type with
    | none => rw [hi] at h; cases h
    | some i =>
      rw [hi] at h
      have ih := fieldsOk_ok h
      have e : sz P f.type = i.size := by unfold sz Program.cellsOf; rw [hi]; rfl
      simp only [List.mapM_cons, hi, ih, List.map_cons, e]
      rfl
theorem decBuild_ok (t : Nat) (ps : Array (Nat × Operand)) : EvS P res (.build t ps) (decBuild P res t ps.toList) := by
  unfold decBuild
  cases hz : zero? P t with
  | none => exact oErS_ok _ _
  | some z =>
    simp only
    obtain ⟨i, hi, hzi⟩ : ∃ i, P.info? t = some i ∧ i.zero.map (ofValue 6) = some z := by
      unfold zero? at hz
      cases hi : P.info? t with
      | none => rw [hi] at hz; cases hz
      | some i => rw [hi] at hz; exact ⟨i, rfl, hz⟩
    obtain ⟨zv, hzv, ez⟩ : ∃ zv, i.zero = some zv ∧ ofValue 6 zv = z := by
      cases h : i.zero with
      | none => rw [h] at hzi; cases hzi
      | some zv => rw [h] at hzi; simp at hzi; exact ⟨zv, rfl, hzi⟩
    have hc : ∀ μ, RelL μ z.cells zv.cells.toList := fun μ => by rw [← ez]; exact ofValue_cells μ 5 zv
    cases hu : P.underlying t with
    | none => exact oErS_ok _ _
    | some d =>
      cases d with
      | struct fs =>
        simp only
        cases hf : fieldsOk P fs.toList with
        | false => exact oErS_ok _ _
        | true =>
          refine oBuild_ok t ps hc (place := placeF P fs.toList) fun w parts cs h => run_build w t parts cs ?_
          unfold Program.built
          simp only [hi, hu, hzv, fieldsOk_ok hf]
          rw [← h]
          congr 1
          funext j
          unfold placeF
          simp
      | array n e =>
        simp only
        cases hie : P.info? e with
        | none => exact oErS_ok _ _
        | some ie =>
          refine oBuild_ok t ps hc (place := placeA (sz P e)) fun w parts cs h => run_build w t parts cs ?_
          unfold Program.built
          simp only [hi, hu, hzv, hie]
          rw [← h]
          have e1 : sz P e = ie.size := by unfold sz Program.cellsOf; rw [hie]; rfl
          unfold placeA
          rw [e1]
          rfl
      | _ => exact oErS_ok _ _
theorem cells_zeros {μ : Mu} {z : List V} {zv : Array Value} (r : RelL μ z zv.toList) (n : Nat) : Cells μ .e z n ((Array.range n).map fun i => zv[i % zv.size]!) := by
  refine ⟨by simp, fun j v hv => ?_⟩
  obtain ⟨h1, h2⟩ := cellAt_zero _ _ _ _ hv
  obtain ⟨v', q1, q2⟩ := RelL.get r _ v h2
  have hl := RelL.length r
  change z.length = zv.size at hl
  refine ⟨v', ?_, q2⟩
  rw [Array.getElem?_map, Array.getElem?_range, if_pos h1, Option.map_some]
  rw [hl] at q1
  have q3 : zv[j % zv.size]? = some v' := by simpa using q1
  simp [getElem!_def, q3]
theorem map_range0 {α : Type} (f : Nat → α) : (Array.range 0).map f = #[] := Array.eq_empty_of_size_eq_zero (by simp)
theorem decBS_ok (t len : Nat) (ps : Array (Nat × Operand)) : EvOk P res (.buildSlice t len ps) (decBS P res t len ps.toList) := by
  unfold decBS
  split
  · rename_i el hu
    cases hz : zero? P el with
    | none => exact oEr_ok _ _
    | some z =>
      simp only
      cases hle : Bool.and (Nat.ble (Nat.mul len (sz P el)) 16777216) (Nat.ble len 16777216) with
      | false => exact oEr_ok _ _
      | true =>
        rw [Bool.and_eq_true] at hle
        have hle1 : len * sz P el ≤ 16777216 := Nat.le_of_ble_eq_true hle.1
        have hle2 : len ≤ 16777216 := Nat.le_of_ble_eq_true hle.2
        intro μ σ w ρ env sl K e fr σ' hm ha hk o ho
        obtain ⟨zv, z1, z2, z3, i, hi⟩ := zero_ok hz
        have hk0 : fillK (placeA (sz P el)) (decParts res ps.toList) (len * sz P el) env sl .e (fun c => σ.newK (.row el c z.cells (len * sz P el) false) fun b σ => K (.sl b 0 len (.k len)) σ) = .done e fr σ' := hk
        have es := run_sizeOf (P := P) w hi
        obtain ⟨t', cs', h1, h2, h3⟩ := fillK_ok ha ps.toList .e _ (cells_zeros (z3 μ) (len * sz P el)) hk0
        rw [St.newK_eq] at h3
        have hst := step_row hm el t' z.cells (len * sz P el) false cs' (0, 0) (free_zero _) (by rw [h2.1]; exact Nat.le_refl _) h2.2
        refine ⟨_, _, _, _, ⟨.inl ⟨.slice (some ⟨w.heap.size, 0, none⟩) len len, ?_, ?_⟩, hst⟩, h3⟩
        · have e1 : ∀ zz, (len * sz P el ≠ 0 → zz = zv.cells) → Instr.fill (fun i => some (i * sz P el, sz P el)) ((Array.range (len * sz P el)).map (fun i => zz[i % zz.size]!)) (ps.map fun p => (p.1, ρ p.2)).toList = some cs' := by
            intro zz h
            rw [Array.toList_map]
            have e0 : (Array.range (len * sz P el)).map (fun i => zz[i % zz.size]!) = (Array.range (len * sz P el)).map (fun i => zv.cells[i % zv.cells.size]!) := by
              by_cases q : len * sz P el = 0
              · rw [q]; simp
              · rw [h q]
            rw [e0]; exact h1
          have e2 : (newRow el cs').run P w = .ok ⟨w.heap.size, 0, none⟩ { w with heap := w.heap.push (.cells cs' el (0, 0)) } := rfl
          by_cases q : len * sz P el = 0
          · have e3 := e1 #[] (fun h => absurd q h)
            simp only [execOp, ho, Instr.buildSlice, Sem.run_bind, run_underlying hu, Result.andThen_ok, es]
            rw [if_neg (by show ¬ (len * sz P el > 2 ^ 24); have : (2:Nat) ^ 24 = 16777216 := rfl; omega), if_pos (show len * P.cellsOf el = 0 from q)]
            have q' : len * P.cellsOf el = 0 := q
            have e4 : Instr.fill (fun i => some (i * P.cellsOf el, P.cellsOf el)) (#[] : Array Value) (ps.map fun p => (p.1, ρ p.2)).toList = some cs' := by
              rw [q, map_range0] at e3
              exact e3
            simp only [Sem.run_bind, Sem.run_pure, Result.andThen_ok, q', map_range0, e4, e2]
          · have e3 := e1 zv.cells (fun _ => rfl)
            simp only [execOp, ho, Instr.buildSlice, Sem.run_bind, run_underlying hu, Result.andThen_ok, es]
            rw [if_neg (by show ¬ (len * sz P el > 2 ^ 24); have : (2:Nat) ^ 24 = 16777216 := rfl; omega), if_neg (show ¬ len * P.cellsOf el = 0 from q)]
            change Instr.fill (fun i => some (i * P.cellsOf el, P.cellsOf el)) ((Array.range (len * P.cellsOf el)).map (fun i => zv.cells[i % zv.cells.size]!)) _ = some cs' at e3
            simp only [Sem.run_bind, Sem.run_pure, Result.andThen_ok, z1, e3, e2]
        · have := RelV.slk (μ := μ.new σ.next w.heap.size cs'.size) 0 len len (Mu.new_self μ σ.next w.heap.size cs'.size) (Nat.le_refl _) (by omega)
          simpa using this
  · exact oEr_ok _ _
end
end Ae
namespace Ae
open Go
section
variable {P : Program} {res : Operand → Acc}
theorem decStore_ok (t : Nat) (a x : Operand) : EvOk P res (.store t a x) (decStore P res t a x) := by
  unfold decStore
  split
  · rename_i i hi; exact oStore_ok t a x hi
  · exact oEr_ok _ _
theorem decFunc_ok (fn : Fn) (a b : Array Operand) : EvS P res (.makeFunc fn a b) (decFunc fn (a.toList.map res) (b.toList.map res)) := by
  unfold decFunc
  split
  · exact oFunc_ok _ a b fun _ => .func _
  · exact oFunc_ok _ a b fun _ => .method _
  · exact oErS_ok _ _
theorem sliceOk_ok {e : Nat} {hi mx : Option Operand} (h : sliceOk P e hi mx = true) : (∃ i, P.info? e = some i) ∧ (mx ≠ none → hi ≠ none) := by
  unfold sliceOk at h
  rw [Bool.and_eq_true] at h
  constructor
  · cases hi : P.info? e with
    | none => rw [hi] at h; cases h.1
    | some i => exact ⟨i, rfl⟩
  · intro hm hh
    subst hh
    cases mx with
    | none => exact hm rfl
    | some m => cases h.2
theorem decSlice_ok (t : Nat) (x : Operand) (lo hi mx : Option Operand) : EvS P res (.slice t x lo hi mx) (decSlice P res t x lo hi mx) := by
  unfold decSlice
  split
  · rename_i hu
    split
    · exact oErS_ok _ _
    · exact oSliceS_ok t x lo hi hu
  · rename_i n e hu
    cases hc : Bool.and (sliceOk P e hi mx) (Nat.blt n 9223372036854775808) with
    | false => exact oErS_ok _ _
    | true =>
      rw [Bool.and_eq_true] at hc
      obtain ⟨h1, h2⟩ := sliceOk_ok hc.1
      exact oSliceA_ok t x lo hi mx hu h1 (by have := hc.2; simpa using this) h2
  · rename_i e hu
    cases hc : sliceOk P e hi mx with
    | false => exact oErS_ok _ _
    | true =>
      obtain ⟨h1, h2⟩ := sliceOk_ok hc
      exact oSliceL_ok t x lo hi mx hu h1 h2
  · exact oErS_ok _ _
theorem notInt_of {ts : Array TypeId} {t : Nat} (rest : List Nat) (h : ts.toList = t :: rest) (hu : (match (rest.head?) with | none => true | some u => Bool.not (isInt P u)) = true) : NotInt P ts := by
  unfold NotInt
  have e1 : ts[1]? = rest.head? := by
    rw [← Array.getElem?_toList, h]
    cases rest <;> rfl
  rw [e1]
  cases hr : rest.head? with
  | none => exact .inl rfl
  | some u =>
    rw [hr] at hu
    right
    have hu' : isInt P u = false := by simpa using hu
    unfold isInt at hu'
    cases hd : P.underlying u with
    | none => rw [hd] at hu'; cases hu'
    | some d => rw [hd] at hu'; exact ⟨u, d, rfl, hd, by cases d <;> first | rfl | cases hu'⟩
theorem decApp_ok {c : Call} {s x : Operand} {t : Nat} {rest : List Nat} (hcal : c.callee = .builtin .append) (hts : c.argTypes.toList = t :: rest) (hargs : c.args.toList = [s, x]) :
    EvOk P res (.call c) (decApp P res t rest.head? s x) := by
  unfold decApp
  split
  · rename_i e hu
    cases hc : Bool.and (zeroOk P e) (match rest.head? with | none => true | some u => Bool.not (isInt P u)) with
    | false =>
      show EvOk P res (.call c) (ifb (Bool.and (isB0 P e) (isI64 P rest.head?)) (oAppendZ e (res s) (res x)) (oEr 110))
      cases hz : Bool.and (isB0 P e) (isI64 P rest.head?) with
      | false => exact oEr_ok _ _
      | true =>
        rw [Bool.and_eq_true] at hz
        obtain ⟨k, hk, hd⟩ := isI64_ok hz.2
        exact oAppendZ_ok res hcal hargs (by rw [← Array.getElem?_toList, hts]; rfl) hu (by rw [← Array.getElem?_toList, hts]; cases rest with | nil => cases hk | cons a l => exact hk) hd hz.1
    | true =>
      rw [Bool.and_eq_true] at hc
      exact oAppend_ok hcal hargs (by rw [← Array.getElem?_toList, hts]; rfl) hu hc.1 (notInt_of rest hts hc.2)
  · exact oEr_ok _ _
theorem decCopy_ok {c : Call} {d x : Operand} {t : Nat} {rest : List Nat} (hcal : c.callee = .builtin .copy) (hts : c.argTypes.toList = t :: rest) (hargs : c.args.toList = [d, x]) :
    EvOk P res (.call c) (decCopy P res t d x) := by
  unfold decCopy
  split
  · rename_i e hu
    cases ha : agg? P e with
    | none => exact oEr_ok _ _
    | some b =>
      obtain ⟨i, hi⟩ := info_of_agg ha
      exact oCopy_ok hcal hargs (by rw [← Array.getElem?_toList, hts]; rfl) hu hi
  · exact oEr_ok _ _
end
end Ae
namespace Ae
open Go
section
variable {P : Program} {res : Operand → Acc}
theorem ba_beq (a b : ByteArray) : (a == b) = (a.data == b.data) := by cases a; cases b; rfl
theorem ba_eq {a b : ByteArray} (h : (a == b) = true) : a = b := by
  rw [ba_beq, beq_iff_eq] at h
  cases a; cases b; congr
theorem ba_refl (a : ByteArray) : (a == a) = true := by rw [ba_beq]; exact beq_self_eq_true _
theorem str_eq (a b : ByteArray) : (a == b) = eqL (a.data.toList.map UInt8.toNat) (b.data.toList.map UInt8.toNat) := by
  rw [beqL_eq, ba_beq, Bool.eq_iff_iff, beq_iff_eq, beq_iff_eq]
  exact ⟨fun h => by rw [h], fun h => Array.ext' h⟩
theorem plain_eq {μ : Mu} {kt : Nat} {k ke : V} {rk rke : Value} {m : Nat} {K : Bool → Out} {x : Ex} {fr : Fr} {σ : St} (hp : plainKey P kt k = true) (h1 : RelV μ k rk) (h2 : RelV μ ke rke)
    (hk : eqF P (.fail m) 12 kt k ke K = .done x fr σ) : ∃ d c, P.underlying kt = some d ∧ Instr.sameNow d rk rke = some c ∧ K c = .done x fr σ ∧ (c = true → Instr.sameBits 10000 rke rk = true) := by
  unfold plainKey at hp
  change eqStep P (.fail m) (eqF P (.fail m) 11) kt k ke K = _ at hk
  unfold eqStep at hk
  cases hu : P.underlying kt with
  | none => rw [hu] at hp; cases hp
  | some d =>
    rw [hu] at hp hk
    cases d with
    | int j =>
      cases h1 with
      | n i a ha =>
        cases h2 with
        | n i' b hb =>
          obtain ⟨hc, hk1⟩ := ifb_inv hk
          have := kEq_eq hc
          subst this
          refine ⟨_, Nat.beq a b, rfl, ?_, hk1, ?_⟩
          · show (if i = i then some (i.wrap a == i.wrap b) else none) = _
            rw [if_pos rfl]
            congr 1
            rw [Bool.eq_iff_iff, Nat.beq_eq, beq_iff_eq]
            exact wrap_inj i a b ha hb
          · intro h
            have := Nat.eq_of_beq_eq_true h
            subst this
            simp [Instr.sameBits]
        | _ => cases hk
      | _ => cases hp
    | string =>
      cases h1 with
      | s a ha =>
        cases h2 with
        | s b hb =>
          refine ⟨_, _, rfl, rfl, by rw [str_eq]; exact hk, ?_⟩
          intro h
          have := ba_eq h
          subst this
          show (a == a) = true
          exact ba_refl a
        | _ => cases hk
      | _ => cases hp
    | bool =>
      cases h1 with
      | b a =>
        cases h2 with
        | b b =>
          refine ⟨_, _, rfl, rfl, ?_, ?_⟩
          · cases a <;> cases b <;> exact hk
          · intro h; have : a = b := by simpa using h
            subst this; simp [Instr.sameBits]
        | _ => cases hk
      | _ => cases hp
    | _ => cases hp
theorem list_toNat_inj {a b : List UInt8} (h : a.map UInt8.toNat = b.map UInt8.toNat) : a = b := by
  induction a generalizing b with
  | nil => cases b with | nil => rfl | cons _ _ => cases h
  | cons x a ih =>
    cases b with
    | nil => cases h
    | cons y b =>
      simp only [List.map_cons, List.cons.injEq] at h
      rw [UInt8.toNat_inj.1 h.1, ih h.2]
theorem str_inj {a b : ByteArray} (h : a.data.toList.map UInt8.toNat = b.data.toList.map UInt8.toNat) : a = b := by
  have := list_toNat_inj h
  cases a; cases b
  congr
  exact Array.ext' this
theorem key_det {μ : Mu} {k : V} {r r' : Value} {c : Nat} (hc : keyC k = some c) (h : RelV μ k r) (h' : RelV μ k r') : r = r' := by
  cases k with
  | n j u => cases h; cases h'; rfl
  | s l =>
    generalize hl : (V.s l) = v at h h'
    cases h with
    | s bs _ =>
      cases hl
      generalize hl : (V.s (bs.data.toList.map UInt8.toNat)) = v at h'
      cases h' with
      | s bs' _ => injection hl with hl; rw [str_inj hl]
      | _ => cases hl
    | _ => cases hl
  | b x => cases h; cases h'; rfl
  | _ => cases hc
theorem key_inj {μ : Mu} {k k' : V} {r : Value} {c : Nat} (hc : keyC k = some c) (hc' : keyC k' = some c) (h : RelV μ k r) (h' : RelV μ k' r) : k = k' := by
  cases h with
  | n j u hu =>
    generalize hr : (Value.int j (j.wrap ↑u)) = r at h'
    cases h' with
    | n j' u' hu' =>
      injection hr with h1 h2
      subst h1
      rw [(wrap_inj j u u' hu hu').1 h2]
    | u => cases hc'
    | x => cases hc'
    | _ => cases hr
  | s bs _ =>
    generalize hr : (Value.string bs) = r at h'
    cases h' with
    | s bs' _ => injection hr with hr; rw [hr]
    | u => cases hc'
    | x => cases hc'
    | _ => cases hr
  | b x =>
    generalize hr : (Value.bool x) = r at h'
    cases h' with
    | b y => injection hr with hr; rw [hr]
    | u => cases hc'
    | x => cases hc'
    | _ => cases hr
  | _ => cases hc
theorem plain_cls {kt : Nat} {k : V} (hp : plainKey P kt k = true) : ∃ c, keyC k = some c := by
  unfold plainKey at hp
  split at hp <;> first | exact ⟨_, rfl⟩ | cases hp
theorem same_now {μ : Mu} {kt : Nat} {d : TypeDesc} {k ke : V} {rk rke : Value} (hd : P.underlying kt = some d) (hp : plainKey P kt k = true) (h1 : RelV μ k rk) (h2 : RelV μ ke rke) (hc : keyC ke = keyC k) :
    ∃ c, Instr.sameNow d rk rke = some c ∧ (c = true ↔ rk = rke) := by
  unfold plainKey at hp
  rw [hd] at hp
  cases d with
  | int j =>
    cases h1 with
    | n i a ha =>
      cases h2 with
      | n i' b hb =>
        have : i' = i := by simp only [keyC, Option.some.injEq] at hc; exact kn_inj hc
        subst this
        refine ⟨_, by show (if i' = i' then some (i'.wrap a == i'.wrap b) else none) = _; rw [if_pos rfl], ?_⟩
        simp
      | s => simp only [keyC, Option.some.injEq] at hc; revert hc; cases i <;> (intro hc; cases hc)
      | b => simp only [keyC, Option.some.injEq] at hc; revert hc; cases i <;> (intro hc; cases hc)
      | _ => cases hc
    | _ => cases hp
  | string =>
    cases h1 with
    | s a ha =>
      cases h2 with
      | s b hb =>
        refine ⟨_, rfl, ⟨fun h => by rw [ba_eq h], fun h => by injection h with h; rw [h]; exact ba_refl b⟩⟩
      | n i b hb => simp only [keyC, Option.some.injEq] at hc; revert hc; cases i <;> (intro hc; cases hc)
      | b => cases hc
      | _ => cases hc
    | _ => cases hp
  | bool =>
    cases h1 with
    | b a =>
      cases h2 with
      | b b => exact ⟨_, rfl, by simp⟩
      | n i b hb => simp only [keyC, Option.some.injEq] at hc; revert hc; cases i <;> (intro hc; cases hc)
      | s => cases hc
      | _ => cases hc
    | _ => cases hp
  | _ => cases hp
theorem eqF_cls {μ : Mu} {kt : Nat} {k ke : V} {rk rke : Value} {m : Nat} {K : Bool → Out} {x : Ex} {fr : Fr} {σ : St} (hp : plainKey P kt k = true) (h1 : RelV μ k rk) (h2 : RelV μ ke rke)
    (hk : eqF P (.fail m) 12 kt k ke K = .done x fr σ) : keyC ke = keyC k := by
  unfold plainKey at hp
  change eqStep P (.fail m) (eqF P (.fail m) 11) kt k ke K = _ at hk
  unfold eqStep at hk
  cases hu : P.underlying kt with
  | none => rw [hu] at hp; cases hp
  | some d =>
    rw [hu] at hp hk
    cases d with
    | int j =>
      cases h1 with
      | n i a ha =>
        cases h2 with
        | n i' b hb =>
          obtain ⟨hc, hk1⟩ := ifb_inv hk
          have := kEq_eq hc
          subst this
          rfl
        | _ => cases hk
      | _ => cases hp
    | string =>
      cases h1 with
      | s a ha =>
        cases h2 with
        | s b hb => rfl
        | _ => cases hk
      | _ => cases hp
    | bool =>
      cases h1 with
      | b a =>
        cases h2 with
        | b b => rfl
        | _ => cases hk
      | _ => cases hp
    | _ => cases hp
theorem findNow_none {d : TypeDesc} {rk : Value} : ∀ (es' : List MapEntry) (i : Nat), (∀ e ∈ es', Instr.sameNow d rk e.key = some false) → Instr.findNow d rk es' i = some none := by
  intro es'
  induction es' with
  | nil => intro i _; rfl
  | cons e es' ih => intro i h; simp [Instr.findNow, h e List.mem_cons_self, ih (i + 1) fun x hx => h x (List.mem_cons_of_mem _ hx)]
theorem findNow_some {d : TypeDesc} {rk : Value} {e' : MapEntry} {b : List MapEntry} (he : Instr.sameNow d rk e'.key = some true) : ∀ (a : List MapEntry) (i : Nat), (∀ e ∈ a, Instr.sameNow d rk e.key = some false) → Instr.findNow d rk (a ++ e' :: b) i = some (some (i + a.length, e'.val)) := by
  intro a
  induction a with
  | nil => intro i _; simp [Instr.findNow, he]
  | cons x a ih => intro i h; simp [Instr.findNow, h x List.mem_cons_self, ih (i + 1) fun y hy => h y (List.mem_cons_of_mem _ hy)]; omega
section
variable {μ : Mu} {kt : Nat} {k : V} {rk : Value} {d : TypeDesc}
theorem RelE.same {es : List (V × V)} {es' : List MapEntry} (h : RelE μ es es') (hd : P.underlying kt = some d) (hp : plainKey P kt k = true) (h1 : RelV μ k rk) (hc : ∀ e ∈ es, keyC e.1 = keyC k) {e' : MapEntry} (he : e' ∈ es') :
    ∃ e ∈ es, RelV μ e.1 e'.key ∧ RelV μ e.2 e'.val ∧ ((e.1 = k ∧ e'.key = rk ∧ Instr.sameNow d rk e'.key = some true) ∨ (e.1 ≠ k ∧ e'.key ≠ rk ∧ Instr.sameNow d rk e'.key = some false)) := by
  obtain ⟨e, q1, q2, q3⟩ := h.fro e' he
  obtain ⟨c, s1, s2⟩ := same_now hd hp h1 q2 (hc e q1)
  obtain ⟨n, hn⟩ := plain_cls hp
  refine ⟨e, q1, q2, q3, ?_⟩
  cases c with
  | true =>
    have hr := s2.1 rfl
    left
    refine ⟨?_, hr.symm, s1⟩
    exact key_inj ((hc e q1).trans hn) hn q2 (hr ▸ h1)
  | false =>
    right
    refine ⟨fun e0 => ?_, fun e0 => ?_, s1⟩
    · have := s2.2 (key_det hn h1 (e0 ▸ q2)); cases this
    · have := s2.2 e0.symm; cases this
theorem findK_inv (hp : plainKey P kt k = true) (h1 : RelV μ k rk) {K : Option V → Out} {x : Ex} {fr : Fr} {σ : St} : ∀ (es : List (V × V)), (∀ e ∈ es, ∃ r, RelV μ e.1 r) → findK P kt k es K = .done x fr σ →
    (∀ e, es.head? = some e → keyC e.1 = keyC k) ∧ ((K none = .done x fr σ ∧ ∀ e ∈ es, e.1 ≠ k) ∨ ∃ a v b, es = a ++ (k, v) :: b ∧ K (some v) = .done x fr σ) := by
  obtain ⟨n, hn⟩ := plain_cls hp
  intro es
  induction es with
  | nil => intro _ hk; exact ⟨fun e h => (by cases h), .inl ⟨hk, fun e h => (by cases h)⟩⟩
  | cons e es ih =>
    intro hr hk
    obtain ⟨re, hre⟩ := hr e List.mem_cons_self
    have hcl := eqF_cls hp h1 hre hk
    obtain ⟨d, c, hd, hs, hk1, _⟩ := plain_eq (K := fun c => ifb c (K (some e.2)) (findK P kt k es K)) hp h1 hre hk
    obtain ⟨c', s1, s2⟩ := same_now hd hp h1 hre hcl
    rw [hs] at s1
    have s1 := Option.some.inj s1
    subst s1
    refine ⟨fun e' h => by simp at h; rw [← h]; exact hcl, ?_⟩
    cases c with
    | true =>
      have hkk : e.1 = k := key_inj (hcl.trans hn) hn hre ((s2.1 rfl) ▸ h1)
      exact .inr ⟨[], e.2, es, by rw [← hkk]; rfl, hk1⟩
    | false =>
      rcases (ih (fun y hy => hr y (List.mem_cons_of_mem _ hy)) hk1).2 with ⟨a, b⟩ | ⟨a, v, b, q1, q2⟩
      · refine .inl ⟨a, fun y hy => ?_⟩
        rcases List.mem_cons.1 hy with rfl | hy
        · intro e0
          have := s2.2 (key_det hn h1 (e0 ▸ hre)); cases this
        · exact b y hy
      · exact .inr ⟨e :: a, v, b, by rw [q1]; rfl, q2⟩
theorem RelE.cls' {es : List (V × V)} {es' : List MapEntry} (h : RelE μ es es') (hh : ∀ e, es.head? = some e → keyC e.1 = keyC k) : ∀ e ∈ es, keyC e.1 = keyC k := by
  obtain ⟨c, hc⟩ := h.cls
  cases es with
  | nil => intro e he; cases he
  | cons a es =>
    have := hh a rfl
    rw [hc a List.mem_cons_self] at this
    intro e he
    rw [hc e he, this]
theorem RelE.vals {es : List (V × V)} {es' : List MapEntry} (h : RelE μ es es') : ∀ e ∈ es, ∃ r, RelV μ e.1 r := fun e he => let ⟨e', _, b, _⟩ := h.to e he; ⟨e'.key, b⟩
theorem RelE.at {es : List (V × V)} {es' : List MapEntry} (h : RelE μ es es') (hd : P.underlying kt = some d) (hp : plainKey P kt k = true) (h1 : RelV μ k rk) (hc : ∀ e ∈ es, keyC e.1 = keyC k) {v : V} (hv : (k, v) ∈ es) :
    ∃ a' e' b', es' = a' ++ e' :: b' ∧ e'.key = rk ∧ RelV μ v e'.val ∧ Instr.sameNow d rk e'.key = some true ∧ (∀ x ∈ a', x.key ≠ rk ∧ Instr.sameNow d rk x.key = some false) ∧ (∀ x ∈ b', x.key ≠ rk) := by
  obtain ⟨n, hn⟩ := plain_cls hp
  obtain ⟨e', q1, q2, q3⟩ := h.to _ hv
  have hk' : e'.key = rk := key_det hn q2 h1
  obtain ⟨a', b', e0⟩ := List.append_of_mem q1
  have hap := h.apart'
  rw [e0, List.pairwise_append] at hap
  obtain ⟨p1, p2, p3⟩ := hap
  rw [List.pairwise_cons] at p2
  obtain ⟨c, s1, s2⟩ := same_now hd hp h1 q2 rfl
  have hc1 : c = true := s2.2 hk'.symm
  subst hc1
  refine ⟨a', e', b', e0, hk', q3, s1, fun x hx => ?_, fun x hx => ?_⟩
  · have hne : x.key ≠ rk := fun e1 => p3 x hx e' List.mem_cons_self (e1.trans hk'.symm)
    obtain ⟨_, _, _, _, hcase⟩ := h.same hd hp h1 hc (e' := x) (by rw [e0]; exact List.mem_append_left _ hx)
    rcases hcase with ⟨_, e1, _⟩ | ⟨_, _, e1⟩
    · exact absurd e1 hne
    · exact ⟨hne, e1⟩
  · exact fun e1 => p2.1 x hx (hk'.trans e1.symm)
theorem findK_ok (hd : P.underlying kt = some d) (hp : plainKey P kt k = true) (h1 : RelV μ k rk) {K : Option V → Out} {x : Ex} {fr : Fr} {σ : St} (es : List (V × V)) (es' : List MapEntry) (hr : RelE μ es es') (hk : findK P kt k es K = .done x fr σ) :
    (Instr.findNow d rk es' 0 = some none ∧ K none = .done x fr σ) ∨ ∃ j v v', Instr.findNow d rk es' 0 = some (some (j, v')) ∧ RelV μ v v' ∧ K (some v) = .done x fr σ := by
  obtain ⟨hh, hcase⟩ := findK_inv hp h1 es hr.vals hk
  have hc := hr.cls' hh
  rcases hcase with ⟨a, b⟩ | ⟨a, v, b, q1, q2⟩
  · refine .inl ⟨findNow_none es' 0 fun e' he => ?_, a⟩
    obtain ⟨e, g1, _, _, hcase⟩ := hr.same hd hp h1 hc he
    rcases hcase with ⟨e1, _, _⟩ | ⟨_, _, e1⟩
    · exact absurd e1 (b e g1)
    · exact e1
  · obtain ⟨a', e', b', e0, g1, g2, g3, g4, g5⟩ := hr.at hd hp h1 hc (v := v) (by rw [q1]; simp)
    refine .inr ⟨0 + a'.length, v, e'.val, ?_, g2, q2⟩
    rw [e0]
    exact findNow_some g3 a' 0 fun x hx => (g4 x hx).2
end
theorem run_findKey {w : World} {kt : Nat} {rk : Value} {d : TypeDesc} (hd : P.underlying kt = some d) {es : List MapEntry} {r : Option (Nat × Value)} (h : Instr.findNow d rk es 0 = some r) : (Instr.findKey kt rk es).run P w = .ok r w := by
  simp [Instr.findKey, run_underlying hd, h]
theorem run_checkKey {w : World} {μ : Mu} {kt : Nat} {k : V} {rk : Value} (hp : plainKey P kt k = true) (h1 : RelV μ k rk) (em : Bool) : (Instr.checkKey em 10000 kt rk).run P w = .ok () w := by
  unfold plainKey at hp
  rw [show (10000 : Nat) = 9999 + 1 from rfl]
  generalize 9999 = n
  unfold Instr.checkKey
  cases hu : P.underlying kt with
  | none => rw [hu] at hp; cases hp
  | some d =>
    rw [hu] at hp
    rw [Sem.run_bind, run_underlying hu]
    simp only [Result.andThen_ok]
    cases d <;> first
      | (cases h1 <;> first | rfl | cases hp)
      | (cases hp)
theorem mapK_inv {σ : St} {r : Nat} {K : List (V × V) → Out} {x : Ex} {fr : Fr} {σ' : St} (h : mapK σ r K = .done x fr σ') : ∃ es, σ.heap.get r = some (.map es) ∧ K es = .done x fr σ' := by
  unfold mapK at h
  rw [St.get_eq] at h
  split at h
  · rename_i es hb; exact ⟨es, hb, h⟩
  · cases h
theorem map_at {μ : Mu} {σ : St} {w : World} (hm : RelM P μ σ w) {r : Nat} {L : Loc} (hL : μ r = some L) {es : List (V × V)} (hb : σ.heap.get r = some (.map es)) : ∃ es' clock, w.heap[L.c]? = some (.map es' clock) ∧ RelE μ es es'.toList ∧ Born es'.toList clock := by
  obtain ⟨es', cl, h1, h2⟩ := hm.blk r _ L hb hL
  exact ⟨es', cl, h1, h2⟩
theorem run_getMap {w : World} {c : Nat} {es : Array MapEntry} {cl : Nat} (h : w.heap[c]? = some (.map es cl)) : (getObj c).run P w = .ok (.map es cl) w := by
  simp [getObj, Sem.run, h]
theorem run_setMap {w : World} {c : Nat} {es : Array MapEntry} {cl : Nat} (h : w.heap[c]? = some (.map es cl)) (o : Obj) : (setObj c o).run P w = .ok () { w with heap := w.heap.setIfInBounds c o } := by
  simp [setObj, Sem.run, h]
def look (zv : Value) (ok : Bool) (r : Option (Nat × Value)) : Value := match r with
  | some (_, v) => if ok then .tuple #[v, .bool true] else v
  | none => if ok then .tuple #[zv, .bool false] else zv
theorem run_look {w : World} {μ : Mu} {t kt et : Nat} {d : TypeDesc} {k : V} {x rk zv : Value} (hu : P.underlying t = some (.map kt et)) (hd : P.underlying kt = some d) (hz : (zeroValue et).run P w = .ok zv w) (ok : Bool) {es' : Array MapEntry}
    (hx : (x = .map none ∧ es' = #[]) ∨ ∃ c cl, x = .map (some c) ∧ w.heap[c]? = some (.map es' cl)) (hp : plainKey P kt k = true) (h1 : RelV μ k rk) {r : Option (Nat × Value)} (hr : Instr.findNow d rk es'.toList 0 = some r) :
    (Instr.lookup t x rk ok).run P w = .ok (look zv ok r) w := by
  have e1 := run_findKey (P := P) (w := w) hd hr
  have e2 := run_checkKey (P := P) (w := w) hp h1 es'.isEmpty
  rcases hx with ⟨rfl, rfl⟩ | ⟨c, cl, rfl, hc⟩
  · simp only [Instr.lookup, Sem.run_bind, run_underlying hu, Result.andThen_ok, Sem.run_pure, e2, e1]
    cases r with
    | none => cases ok <;> simp [hz, look]
    | some r => cases ok <;> simp [look]
  · simp only [Instr.lookup, Sem.run_bind, run_underlying hu, Result.andThen_ok, Sem.run_pure, run_getMap hc, e2, e1]
    cases r with
    | none => cases ok <;> simp [hz, look]
    | some r => cases ok <;> simp [look]
theorem oLookup_ok (t : Nat) (x k : Operand) (ok : Bool) {kt et : Nat} {z : V} (hu : P.underlying t = some (.map kt et)) (hz : zero? P et = some z) : EvS P res (.lookup t x k ok) (oLookup P kt z (res x) (res k) ok) := by
  intro μ σ w ρ env sl K e fr σ' hm ha hk o ho
  obtain ⟨vx, hvx, hk1⟩ := ha x _ e fr σ' hk
  obtain ⟨vk, hvk, hk2⟩ := ha k _ e fr σ' hk1
  obtain ⟨hp, hk3⟩ := ifb_inv hk2
  obtain ⟨zv, z1, z2, z3, z4⟩ := zero_ok hz
  obtain ⟨d, hd⟩ : ∃ d, P.underlying kt = some d := by
    unfold plainKey at hp
    cases h : P.underlying kt with
    | none => rw [h] at hp; cases hp
    | some d => exact ⟨d, rfl⟩
  have fin : ∀ (es' : Array MapEntry), ((ρ x = .map none ∧ es' = #[]) ∨ ∃ c cl, ρ x = .map (some c) ∧ w.heap[c]? = some (.map es' cl)) →
      ((Instr.findNow d (ρ k) es'.toList 0 = some none ∧ giveK z ok (fun v => K v σ) none = .done e fr σ') ∨ ∃ j v v', Instr.findNow d (ρ k) es'.toList 0 = some (some (j, v')) ∧ RelV μ v v' ∧ giveK z ok (fun v => K v σ) (some v) = .done e fr σ') →
      ∃ v μ1 σ1 w1, PDoes P μ σ w (execOp ρ o) v μ1 σ1 w1 ∧ K v σ1 = .done e fr σ' := by
    intro es' hx h
    rcases h with ⟨h1, h2⟩ | ⟨j, v, v', h1, h2, h3⟩
    · have := run_look (P := P) hu hd (z1 w) ok hx hp hvk h1
      refine ⟨_, μ, σ, w, .pure hm (v' := look zv ok none) (by simp [execOp, ho, this]) ?_, h2⟩
      cases ok
      · exact z2 μ
      · exact .t (.cons (z2 μ) (.cons (.b false) .nil))
    · have := run_look (P := P) hu hd (z1 w) ok hx hp hvk h1
      refine ⟨_, μ, σ, w, .pure hm (v' := look zv ok (some (j, v'))) (by simp [execOp, ho, this]) ?_, h3⟩
      cases ok
      · exact h2
      · exact .t (.cons h2 (.cons (.b true) .nil))
  generalize hr : ρ x = rx at hvx fin
  cases hvx with
  | m0 => exact fin #[] (.inl ⟨rfl, rfl⟩) (.inl ⟨rfl, hk3⟩)
  | @m r L hL =>
    obtain ⟨es, hb, hk4⟩ := mapK_inv hk3
    obtain ⟨es', cl, q1, q2, _⟩ := map_at hm hL hb
    exact fin es' (.inr ⟨L.c, cl, rfl, q1⟩) (findK_ok hd hp hvk es es'.toList q2 hk4)
  | _ => cases hk3
theorem decLook_ok (t : Nat) (x k : Operand) (ok : Bool) : EvS P res (.lookup t x k ok) (decLook P res t x k ok) := by
  unfold decLook
  split
  · rename_i kt et hu
    split
    · rename_i z hz; exact oLookup_ok t x k ok hu hz
    · exact oErS_ok _ _
  · exact oErS_ok _ _
theorem putK_inv {μ : Mu} {kt : Nat} {k v : V} {rk : Value} (hp : plainKey P kt k = true) (h1 : RelV μ k rk) {x : Ex} {fr : Fr} {σ : St} : ∀ (es : List (V × V)) (K : List (V × V) → Out), (∀ e ∈ es, ∃ r, RelV μ e.1 r) → putK P kt k v es K = .done x fr σ →
    (∀ e, es.head? = some e → keyC e.1 = keyC k) ∧ ((K (es ++ [(k, v)]) = .done x fr σ ∧ ∀ e ∈ es, e.1 ≠ k) ∨ ∃ a v0 b, es = a ++ (k, v0) :: b ∧ K (a ++ (k, v) :: b) = .done x fr σ) := by
  obtain ⟨n, hn⟩ := plain_cls hp
  intro es
  induction es with
  | nil => intro K _ hk; exact ⟨fun e h => (by cases h), .inl ⟨hk, fun e h => (by cases h)⟩⟩
  | cons e es ih =>
    intro K hr hk
    obtain ⟨re, hre⟩ := hr e List.mem_cons_self
    have hcl := eqF_cls hp h1 hre hk
    obtain ⟨d, c, hd, hs, hk1, _⟩ := plain_eq (K := fun c => ifb c (K ((k, v) :: es)) (putK P kt k v es fun l => K (e :: l))) hp h1 hre hk
    obtain ⟨c', s1, s2⟩ := same_now hd hp h1 hre hcl
    rw [hs] at s1
    have s1 := Option.some.inj s1
    subst s1
    refine ⟨fun e' h => by simp at h; rw [← h]; exact hcl, ?_⟩
    cases c with
    | true =>
      have hkk : e.1 = k := key_inj (hcl.trans hn) hn hre ((s2.1 rfl) ▸ h1)
      exact .inr ⟨[], e.2, es, by rw [← hkk]; rfl, hk1⟩
    | false =>
      rcases (ih _ (fun y hy => hr y (List.mem_cons_of_mem _ hy)) hk1).2 with ⟨a, b⟩ | ⟨a, v0, b, q1, q2⟩
      · refine .inl ⟨a, fun y hy => ?_⟩
        rcases List.mem_cons.1 hy with rfl | hy
        · intro e0
          have := s2.2 (key_det hn h1 (e0 ▸ hre)); cases this
        · exact b y hy
      · exact .inr ⟨e :: a, v0, b, by rw [q1]; rfl, q2⟩
theorem modify_at {α : Type} (f : α → α) (a : List α) (x : α) (b : List α) : (a ++ x :: b).modify a.length f = a ++ f x :: b := by
  induction a with
  | nil => rfl
  | cons y a ih => simp [ih]
theorem RelE.push {μ : Mu} {kt : Nat} {k v : V} {rk rv : Value} {d : TypeDesc} {es : List (V × V)} {es' : List MapEntry} (h : RelE μ es es') (hd : P.underlying kt = some d) (hp : plainKey P kt k = true) (h1 : RelV μ k rk) (h2 : RelV μ v rv) (hc : ∀ e ∈ es, keyC e.1 = keyC k) (hn : ∀ e ∈ es, e.1 ≠ k) (clock : Nat) :
    RelE μ (es ++ [(k, v)]) (es' ++ [{ key := rk, val := rv, born := clock }]) := by
  obtain ⟨n, hn'⟩ := plain_cls hp
  refine ⟨fun e he => ?_, fun e' he => ?_, ?_, ?_, ⟨n, fun e he => ?_⟩, by simp [h.len]⟩
  · rcases List.mem_append.1 he with he | he
    · obtain ⟨e', a, b⟩ := h.to e he; exact ⟨e', List.mem_append_left _ a, b⟩
    · simp at he; subst he; exact ⟨_, List.mem_append_right _ List.mem_cons_self, h1, h2⟩
  · rcases List.mem_append.1 he with he | he
    · obtain ⟨e, a, b⟩ := h.fro e' he; exact ⟨e, List.mem_append_left _ a, b⟩
    · simp at he; subst he; exact ⟨_, List.mem_append_right _ List.mem_cons_self, h1, h2⟩
  · rw [List.pairwise_append]
    exact ⟨h.apart, List.pairwise_singleton _ _, fun a ha b hb => by simp at hb; subst hb; exact hn a ha⟩
  · rw [List.pairwise_append]
    refine ⟨h.apart', List.pairwise_singleton _ _, fun a ha b hb => ?_⟩
    simp at hb; subst hb
    obtain ⟨e, g1, _, _, hcase⟩ := h.same hd hp h1 hc ha
    rcases hcase with ⟨e1, _, _⟩ | ⟨_, e1, _⟩
    · exact absurd e1 (hn e g1)
    · exact e1
  · rcases List.mem_append.1 he with he | he
    · rw [hc e he, hn']
    · simp at he; subst he; exact hn'
theorem putK_ok {μ : Mu} {kt : Nat} {k v : V} {rk rv : Value} {d : TypeDesc} (hd : P.underlying kt = some d) (hp : plainKey P kt k = true) (h1 : RelV μ k rk) (h2 : RelV μ v rv) {x : Ex} {fr : Fr} {σ : St} (clock : Nat)
    (es : List (V × V)) (es' : List MapEntry) (K : List (V × V) → Out) (hr : RelE μ es es') (hk : putK P kt k v es K = .done x fr σ) :
      ∃ es2, K es2 = .done x fr σ ∧ ((Instr.findNow d rk es' 0 = some none ∧ RelE μ es2 (es' ++ [{ key := rk, val := rv, born := clock }])) ∨
        ∃ j e', es'[j]? = some e' ∧ Instr.findNow d rk es' 0 = some (some (j, e'.val)) ∧ Instr.sameBits 10000 e'.key rk = true ∧ RelE μ es2 (es'.modify j fun e => { e with key := rk, val := rv })) := by
  obtain ⟨n, hn⟩ := plain_cls hp
  obtain ⟨hh, hcase⟩ := putK_inv hp h1 es K hr.vals hk
  have hc := hr.cls' hh
  rcases hcase with ⟨a, b⟩ | ⟨a, v0, b, q1, q2⟩
  · refine ⟨_, a, .inl ⟨findNow_none es' 0 fun e' he => ?_, hr.push hd hp h1 h2 hc b clock⟩⟩
    obtain ⟨e, g1, _, _, hcase⟩ := hr.same hd hp h1 hc he
    rcases hcase with ⟨e1, _, _⟩ | ⟨_, _, e1⟩
    · exact absurd e1 (b e g1)
    · exact e1
  · obtain ⟨a', e', b', e0, g1, g2, g3, g4, g5⟩ := hr.at hd hp h1 hc (v := v0) (by rw [q1]; simp)
    have hap := hr.apart
    rw [q1, List.pairwise_append] at hap
    obtain ⟨p1, p2, p3⟩ := hap
    rw [List.pairwise_cons] at p2
    have hap' := hr.apart'
    rw [e0, List.pairwise_append] at hap'
    obtain ⟨r1, r2, r3⟩ := hap'
    rw [List.pairwise_cons] at r2
    have hfind := findNow_some (b := b') g3 a' 0 fun x hx => (g4 x hx).2
    rw [← e0, Nat.zero_add] at hfind
    have hkne : ∀ e ∈ es, e.1 ≠ k → ∃ x, (x ∈ a' ∨ x ∈ b') ∧ RelV μ e.1 x.key ∧ RelV μ e.2 x.val := by
      intro e he hne
      obtain ⟨x, w1, w2, w3⟩ := hr.to e he
      rw [e0] at w1
      rcases List.mem_append.1 w1 with w1 | w1
      · exact ⟨x, .inl w1, w2, w3⟩
      · rcases List.mem_cons.1 w1 with rfl | w1
        · exact absurd (key_inj ((hc e he).trans hn) hn w2 (g1 ▸ h1)) hne
        · exact ⟨x, .inr w1, w2, w3⟩
    refine ⟨_, q2, .inr ⟨a'.length, e', by rw [e0]; simp, hfind, ?_, ?_⟩⟩
    · rw [g1]
      cases h1 with
      | n j u hu => simp [Instr.sameBits]
      | s bs hb => show (bs == bs) = true; exact ba_refl bs
      | b c => simp [Instr.sameBits]
      | _ => cases hn
    · rw [e0, modify_at]
      refine ⟨fun e he => ?_, fun x hx => ?_, ?_, ?_, ⟨n, fun e he => ?_⟩, ?_⟩
      · have old : e ∈ es → e.1 ≠ k → ∃ y ∈ a' ++ { e' with key := rk, val := rv } :: b', RelV μ e.1 y.key ∧ RelV μ e.2 y.val := by
          intro h3 h4
          obtain ⟨y, w1, w2⟩ := hkne e h3 h4
          rcases w1 with w1 | w1
          · exact ⟨y, List.mem_append_left _ w1, w2⟩
          · exact ⟨y, List.mem_append_right _ (List.mem_cons_of_mem _ w1), w2⟩
        rcases List.mem_append.1 he with he | he
        · exact old (by rw [q1]; exact List.mem_append_left _ he) (p3 e he _ List.mem_cons_self)
        · rcases List.mem_cons.1 he with rfl | he
          · exact ⟨_, List.mem_append_right _ List.mem_cons_self, h1, h2⟩
          · exact old (by rw [q1]; exact List.mem_append_right _ (List.mem_cons_of_mem _ he)) (fun e1 => p2.1 e he e1.symm)
      · have old : x ∈ es' → x.key ≠ rk → ∃ e ∈ a ++ (k, v) :: b, RelV μ e.1 x.key ∧ RelV μ e.2 x.val := by
          intro h3 h4
          obtain ⟨e, w1, w2, w3⟩ := hr.fro x h3
          rw [q1] at w1
          rcases List.mem_append.1 w1 with w1 | w1
          · exact ⟨e, List.mem_append_left _ w1, w2, w3⟩
          · rcases List.mem_cons.1 w1 with rfl | w1
            · exact absurd (key_det hn w2 h1) h4
            · exact ⟨e, List.mem_append_right _ (List.mem_cons_of_mem _ w1), w2, w3⟩
        rcases List.mem_append.1 hx with hx | hx
        · exact old (by rw [e0]; exact List.mem_append_left _ hx) (g4 x hx).1
        · rcases List.mem_cons.1 hx with rfl | hx
          · exact ⟨_, List.mem_append_right _ List.mem_cons_self, h1, h2⟩
          · exact old (by rw [e0]; exact List.mem_append_right _ (List.mem_cons_of_mem _ hx)) (g5 x hx)
      · rw [List.pairwise_append, List.pairwise_cons]
        refine ⟨p1, ⟨fun y hy => p2.1 y hy, p2.2⟩, fun y hy z hz => ?_⟩
        rcases List.mem_cons.1 hz with rfl | hz
        · exact p3 y hy (k, v0) List.mem_cons_self
        · exact p3 y hy z (List.mem_cons_of_mem _ hz)
      · rw [List.pairwise_append, List.pairwise_cons]
        refine ⟨r1, ⟨fun y hy e1 => g5 y hy e1.symm, r2.2⟩, fun y hy z hz => ?_⟩
        rcases List.mem_cons.1 hz with rfl | hz
        · exact (g4 y hy).1
        · exact r3 y hy z (List.mem_cons_of_mem _ hz)
      · rcases List.mem_append.1 he with he | he
        · rw [hc e (by rw [q1]; exact List.mem_append_left _ he), hn]
        · rcases List.mem_cons.1 he with rfl | he
          · exact hn
          · rw [hc e (by rw [q1]; exact List.mem_append_right _ (List.mem_cons_of_mem _ he)), hn]
      · have := hr.len
        rw [q1, e0] at this
        simp at this ⊢
        omega
theorem oUpdate_ok {op : Op} (t : Nat) (m k x : Operand) (hop : op = .mapUpdate t m k x ∨ op = .insert t m k x) {kt et : Nat} (hu : P.underlying t = some (.map kt et)) : EvOk P res op (oUpdate P kt (res m) (res k) (res x)) := by
  intro μ σ w ρ env sl K e fr σ' hm ha hk o ho
  obtain ⟨vm, hvm, hk1⟩ := ha m _ e fr σ' hk
  generalize hr : ρ m = rm at hvm
  cases hvm with
  | @m r L hL =>
    obtain ⟨vk, hvk, hk2⟩ := ha k _ e fr σ' hk1
    obtain ⟨vx, hvx, hk3⟩ := ha x _ e fr σ' hk2
    obtain ⟨hp, hk4⟩ := ifb_inv hk3
    obtain ⟨es, hb, hk5⟩ := mapK_inv hk4
    obtain ⟨es', cl, q1, q2, q3⟩ := map_at hm hL hb
    obtain ⟨d, hd⟩ : ∃ d, P.underlying kt = some d := by
      unfold plainKey at hp
      cases h : P.underlying kt with
      | none => rw [h] at hp; cases hp
      | some d => exact ⟨d, rfl⟩
    obtain ⟨es2, hk6, hcase⟩ := putK_ok hd hp hvk hvx cl es es'.toList _ q2 hk5
    rw [St.setK_eq] at hk6
    have hlt := hm.inb _ _ hL
    have e2 := run_checkKey (P := P) (w := w) hp hvk false
    have fin : ∀ (es3 : Array MapEntry) (cl' : Nat), RelE μ es2 es3.toList → Born es3.toList cl' → (Instr.mapUpdate t (.map (some L.c)) (ρ k) (ρ x)).run P w = .ok () { w with heap := w.heap.setIfInBounds L.c (.map es3 cl') } →
        ∃ v μ1 σ1 w1, Does P μ σ w (execOp ρ o) v μ1 σ1 w1 ∧ K v σ1 = .done e fr σ' := by
      intro es3 cl' h1 h0 h2
      have hst := step_set hm r _ (.map es2) (.map es3 cl') L hb trivial hL ⟨es3, cl', by simp [hlt], h1, h0⟩ (fun _ _ _ _ hq => by rw [q1] at hq; cases hq)
      refine ⟨undef, μ, _, _, ⟨.inr ⟨?_, rfl⟩, hst⟩, hk6⟩
      rcases hop with rfl | rfl
      · simp [execOp, ho, hr, h2]
      · simp [execOp, ho, hr, h2]
    rcases hcase with ⟨c1, c2⟩ | ⟨j, e', c1, c2, c3, c4⟩
    · have e1 := run_findKey (P := P) (w := w) hd c1
      refine fin (es'.push { key := ρ k, val := ρ x, born := cl }) (cl + 1) (by simpa using c2) (by simpa using q3.push (ρ k) (ρ x)) ?_
      simp [Instr.mapUpdate, run_underlying hu, run_getMap q1, e2, e1, run_setMap q1]
    · have e1 := run_findKey (P := P) (w := w) hd c2
      refine fin (es'.modify j fun e => { e with key := ρ k, val := ρ x }) cl (by simpa using c4) (by simpa using q3.modify j (fun e => { e with key := ρ k, val := ρ x }) fun _ => rfl) ?_
      have c1' : es'[j]? = some e' := by simpa using c1
      simp [Instr.mapUpdate, run_underlying hu, run_getMap q1, e2, e1, run_setMap q1, c1', Instr.keyThatStays, c3]
  | _ => cases hk1
theorem plain_notpair {kt : Nat} {k : V} (hp : plainKey P kt k = true) : pairT P kt = false := by
  unfold plainKey at hp
  unfold pairT
  split at hp <;> first | (rename_i h; rw [h]) | cases hp
theorem pairT_inv {kt : Nat} (h : pairT P kt = true) : ∃ fs f0 f1, P.underlying kt = some (.struct fs) ∧ fs.toList = [f0, f1] ∧ f0.offset = 0 ∧ f1.offset = 1 ∧ P.underlying f0.type = some (.int .i64) ∧ P.underlying f1.type = some (.int .i64) ∧ f0.name ≠ "_" ∧ f1.name ≠ "_" ∧ P.stoodInHeld kt = false := by
  unfold pairT at h
  split at h
  · rename_i fs hu
    rw [ifb_eq] at h
    split at h
    · rename_i hf
      unfold pairFs at hf
      split at hf
      · rename_i a b hl
        rw [ifb_eq] at hf
        split at hf
        · rename_i h1
          rw [ifb_eq] at hf
          split at hf
          · rename_i h2
            rw [ifb_eq] at hf
            split at hf
            · rename_i h3
              rw [ifb_eq] at hf
              split at hf
              · rename_i h4
                rw [ifb_eq] at hf
                split at hf
                · cases hf
                · rename_i h5
                  have i64 : ∀ t, isP64 P t = true → P.underlying t = some (.int .i64) := fun t ht => by
                    unfold isP64 at ht
                    split at ht
                    · assumption
                    · cases ht
                  exact ⟨fs, a, b, hu, hl, Nat.eq_of_beq_eq_true h1, Nat.eq_of_beq_eq_true h2, i64 _ h3, i64 _ h4, by simpa using h5, by simpa using hf, by simpa using h⟩
              · cases hf
            · cases hf
          · cases hf
        · cases hf
      · cases hf
    · cases h
  · cases h
theorem run_part_i64 {t : Nat} {w : World} {xs : Array Value} {off : Nat} {v : Value} (hu : P.underlying t = some (.int .i64)) (hx : xs[off]? = some v) : (part t xs off).run P w = .ok v w := by
  have ha : agg? P t = some false := by unfold agg?; rw [hu]
  simp only [part, Sem.run_bind, run_isAgg ha, Result.andThen_ok, Bool.false_eq_true, if_false, hx]
  rfl
theorem run_equal_pair {kt : Nat} {w : World} (h : pairT P kt = true) (a b c d : Int) : (Op.equal kt (.agg #[.int .i64 a, .int .i64 b]) (.agg #[.int .i64 c, .int .i64 d])).run P w = .ok (a == c && b == d) w := by
  obtain ⟨fs, f0, f1, hu, hl, o0, o1, u0, u1, n0, n1, hs⟩ := pairT_inv h
  have hf : P.fieldsOf kt = fs := by unfold Program.fieldsOf; rw [hu]
  unfold Op.equal
  rw [show Op.maxDepth = 9998 + 1 + 1 from rfl, run_equalIn_struct w _ kt _ _ (by rw [hf]; exact hu) hs, hf, hl]
  have p0 : ∀ x y : Value, (part f0.type #[x, y] f0.offset).run P w = .ok x w := fun x y => run_part_i64 u0 (by rw [o0]; rfl)
  have p1 : ∀ x y : Value, (part f1.type #[x, y] f1.offset).run P w = .ok y w := fun x y => run_part_i64 u1 (by rw [o1]; rfl)
  have e0 : ∀ (x y : Int) (n : Nat), (Op.equalIn (n + 1) f0.type (.int .i64 x) (.int .i64 y)).run P w = .ok (x == y) w := fun x y n => by simp [Op.equalIn, run_underlying u0]
  have e1 : ∀ (x y : Int) (n : Nat), (Op.equalIn (n + 1) f1.type (.int .i64 x) (.int .i64 y)).run P w = .ok (x == y) w := fun x y n => by simp [Op.equalIn, run_underlying u1]
  simp [Op.eqFields, n0, n1, p0, p1, e0, e1, Sem.run_bind]
  by_cases h1 : a = c <;> by_cases h2 : b = d <;> simp [h1, h2]
theorem modify_mid {α : Type} (f : α → α) (x : α) (b : List α) : ∀ a : List α, (a ++ x :: b).modify a.length f = a ++ f x :: b
  | [] => rfl
  | y :: a => by show y :: (a ++ x :: b).modify a.length f = _; rw [modify_mid f x b a]; rfl
theorem run_checkKey_pair {kt : Nat} {w : World} (h : pairT P kt = true) (a b : Int) : (Instr.checkKey false 10000 kt (.agg #[.int .i64 a, .int .i64 b])).run P w = .ok () w := by
  obtain ⟨fs, f0, f1, hu, hl, o0, o1, u0, u1, n0, n1, hs⟩ := pairT_inv h
  have p0 : (part f0.type #[Value.int .i64 a, .int .i64 b] f0.offset).run P w = .ok (.int .i64 a) w := run_part_i64 u0 (by rw [o0]; rfl)
  have p1 : (part f1.type #[Value.int .i64 a, .int .i64 b] f1.offset).run P w = .ok (.int .i64 b) w := run_part_i64 u1 (by rw [o1]; rfl)
  have c0 : ∀ (x : Int) (n : Nat), (Instr.checkKey false (n + 1) f0.type (.int .i64 x)).run P w = .ok () w := fun x n => by simp [Instr.checkKey, run_underlying u0]
  have c1 : ∀ (x : Int) (n : Nat), (Instr.checkKey false (n + 1) f1.type (.int .i64 x)).run P w = .ok () w := fun x n => by simp [Instr.checkKey, run_underlying u1]
  rw [show (10000 : Nat) = 9998 + 1 + 1 from rfl]
  unfold Instr.checkKey
  rw [Sem.run_bind, run_underlying hu]
  simp only [Result.andThen_ok]
  rw [← Array.forIn_toList, hl]
  simp [n0, n1, p0, p1, c0, c1, Sem.run_bind]
theorem memP_ok {a b : Nat} : ∀ {ks : List (Nat × Nat)}, memP a b ks = true → (a, b) ∈ ks := by
  intro ks
  induction ks with
  | nil => intro h; cases h
  | cons p ks ih =>
    intro h
    change ifb (Nat.beq p.1 a) (ifb (Nat.beq p.2 b) true (memP a b ks)) (memP a b ks) = true at h
    rw [ifb_eq] at h
    split at h
    · rename_i h1
      rw [ifb_eq] at h
      split at h
      · rename_i h2
        have : p = (a, b) := Prod.ext (Nat.eq_of_beq_eq_true h1) (Nat.eq_of_beq_eq_true h2)
        rw [this]; exact List.mem_cons_self
      · exact List.mem_cons_of_mem _ (ih h)
    · exact List.mem_cons_of_mem _ (ih h)
theorem pairV_of {μ : Mu} {a b : Nat} {v : Value} (h : RelV μ (.a [.n .i64 a, .n .i64 b]) v) : v = pairV (a, b) := by
  cases h with
  | @a _ cs h =>
    generalize hq : cs.toList = q at h
    cases h with
    | cons h1 h =>
      cases h with
      | cons h2 h =>
        cases h
        cases h1
        cases h2
        unfold pairV
        congr 1
        exact Array.toList_inj.1 hq
theorem findAsking_pair {kt : Nat} {w : World} (h : pairT P kt = true) (p : Nat × Nat) : ∀ (l : List MapEntry) (i : Nat), (∀ e ∈ l, ∃ q : Nat × Nat, e.key = pairV q) →
    ((Instr.findAsking kt (pairV p) l i).run P w = .ok none w ∧ ∀ e ∈ l, e.key ≠ pairV p) ∨ ∃ a e b, l = a ++ e :: b ∧ e.key = pairV p ∧ (Instr.findAsking kt (pairV p) l i).run P w = .ok (some (i + a.length, e.val)) w := by
  intro l
  induction l with
  | nil => intro i _; exact .inl ⟨by simp [Instr.findAsking], fun e he => by cases he⟩
  | cons e l ih =>
    intro i hl
    obtain ⟨q, hq⟩ := hl e List.mem_cons_self
    have hr := run_equal_pair (w := w) h (IntKind.i64.wrap (p.1 : Nat)) (IntKind.i64.wrap (p.2 : Nat)) (IntKind.i64.wrap (q.1 : Nat)) (IntKind.i64.wrap (q.2 : Nat))
    have hr' : (Op.equal kt (pairV p) e.key).run P w = .ok (IntKind.i64.wrap (p.1 : Nat) == IntKind.i64.wrap (q.1 : Nat) && IntKind.i64.wrap (p.2 : Nat) == IntKind.i64.wrap (q.2 : Nat)) w := by rw [hq]; exact hr
    by_cases hc : (IntKind.i64.wrap (p.1 : Nat) == IntKind.i64.wrap (q.1 : Nat) && IntKind.i64.wrap (p.2 : Nat) == IntKind.i64.wrap (q.2 : Nat)) = true
    · have hk : e.key = pairV p := by
        rw [Bool.and_eq_true, beq_iff_eq, beq_iff_eq] at hc
        rw [hq]; unfold pairV; rw [hc.1, hc.2]
      refine .inr ⟨[], e, l, rfl, hk, ?_⟩
      simp only [Instr.findAsking, Sem.run_bind, hr', hc, Result.andThen_ok]
      simp
    · have hc : (IntKind.i64.wrap (p.1 : Nat) == IntKind.i64.wrap (q.1 : Nat) && IntKind.i64.wrap (p.2 : Nat) == IntKind.i64.wrap (q.2 : Nat)) = false := by simpa using hc
      have hk : e.key ≠ pairV p := by
        rw [hq]; unfold pairV
        intro e0
        simp at e0
        rw [e0.1, e0.2] at hc
        simp at hc
      have step : (Instr.findAsking kt (pairV p) (e :: l) i).run P w = (Instr.findAsking kt (pairV p) l (i + 1)).run P w := by
        simp only [Instr.findAsking, Sem.run_bind, hr', hc, Result.andThen_ok]
        simp
      rcases ih (i + 1) (fun x hx => hl x (List.mem_cons_of_mem _ hx)) with ⟨h1, h2⟩ | ⟨a, x, b, h1, h2, h3⟩
      · refine .inl ⟨step.trans h1, fun x hx => ?_⟩
        rcases List.mem_cons.1 hx with rfl | hx
        · exact hk
        · exact h2 x hx
      · refine .inr ⟨e :: a, x, b, by rw [h1]; rfl, h2, step.trans (h3.trans ?_)⟩
        rw [List.length_cons, show i + 1 + a.length = i + (a.length + 1) by omega]
theorem run_findKey_pair {kt : Nat} {w : World} (h : pairT P kt = true) (p : Nat × Nat) (l : List MapEntry) (hl : ∀ e ∈ l, ∃ q : Nat × Nat, e.key = pairV q) :
    ((Instr.findKey kt (pairV p) l).run P w = .ok none w ∧ ∀ e ∈ l, e.key ≠ pairV p) ∨ ∃ a e b, l = a ++ e :: b ∧ e.key = pairV p ∧ (Instr.findKey kt (pairV p) l).run P w = .ok (some (a.length, e.val)) w := by
  obtain ⟨fs, f0, f1, hu, _⟩ := pairT_inv h
  cases l with
  | nil => exact .inl ⟨by simp [Instr.findKey, run_underlying hu, Instr.findNow], fun e he => by cases he⟩
  | cons e l =>
    have e0 : (Instr.findKey kt (pairV p) (e :: l)).run P w = (Instr.findAsking kt (pairV p) (e :: l) 0).run P w := by
      obtain ⟨q, hq⟩ := hl e List.mem_cons_self
      simp [Instr.findKey, run_underlying hu, Instr.findNow, Instr.sameNow]
    have := findAsking_pair (w := w) h p (e :: l) 0 hl
    rw [e0]
    simpa using this
theorem oUpdBag_ok {op : Op} (t : Nat) (m k x : Operand) (hop : op = .mapUpdate t m k x ∨ op = .insert t m k x) {kt et : Nat} (hu : P.underlying t = some (.map kt et)) (hpt : pairT P kt = true) : EvOk P res op (oUpdBag (res m) (res k) (res x)) := by
  intro μ σ w ρ env sl K e fr σ' hm ha hk o ho
  obtain ⟨vm, hvm, hk1⟩ := ha m _ e fr σ' hk
  generalize hr : ρ m = rm at hvm
  cases hvm with
  | @m r L hL =>
    obtain ⟨vk, hvk, hk2⟩ := ha k _ e fr σ' hk1
    obtain ⟨vx, hvx, hk3⟩ := ha x _ e fr σ' hk2
    change bagK σ r (fun σ => K undef σ) vk = .done e fr σ' at hk3
    unfold bagK at hk3
    split at hk3
    · rename_i a b
      split at hk3
      · rename_i ks hb
        rw [St.get_eq] at hb
        obtain ⟨hmem, hk4⟩ := ifb_inv hk3
        have hmem := memP_ok hmem
        rw [St.setK_eq] at hk4
        obtain ⟨es', cl, q1, q2, q3⟩ := hm.blk r _ L hb hL
        have hkv := pairV_of hvk
        have hlt := hm.inb _ _ hL
        have e2 : (Instr.checkKey false 10000 kt (ρ k)).run P w = .ok () w := by rw [hkv]; exact run_checkKey_pair hpt _ _
        have fin : ∀ (es3 : Array MapEntry) (cl' : Nat), BagR ks es3.toList → Born es3.toList cl' → (Instr.mapUpdate t (.map (some L.c)) (ρ k) (ρ x)).run P w = .ok () { w with heap := w.heap.setIfInBounds L.c (.map es3 cl') } →
            ∃ v μ1 σ1 w1, Does P μ σ w (execOp ρ o) v μ1 σ1 w1 ∧ K v σ1 = .done e fr σ' := by
          intro es3 cl' h1 h0 h2
          have hst := step_set hm r _ (.bag ks) (.map es3 cl') L hb trivial hL ⟨es3, cl', by simp [hlt], h1, h0⟩ (fun _ _ _ _ hq => by rw [q1] at hq; cases hq)
          refine ⟨undef, μ, _, _, ⟨.inr ⟨?_, rfl⟩, hst⟩, hk4⟩
          rcases hop with rfl | rfl
          · simp [execOp, ho, hr, h2]
          · simp [execOp, ho, hr, h2]
        rcases run_findKey_pair (w := w) hpt (a, b) es'.toList (fun e he => let ⟨p, _, hp⟩ := q2.1 e he; ⟨p, hp⟩) with ⟨c1, c2⟩ | ⟨la, e', lb, c1, c2, c3⟩
        · refine fin (es'.push { key := ρ k, val := ρ x, born := cl }) (cl + 1) ?_ (by simpa using q3.push (ρ k) (ρ x)) ?_
          · rw [Array.toList_push]
            refine ⟨fun e he => ?_, ?_⟩
            · rcases List.mem_append.1 he with he | he
              · exact q2.1 e he
              · rw [List.mem_singleton.1 he]; exact ⟨(a, b), hmem, hkv⟩
            · rw [List.pairwise_append]
              refine ⟨q2.2, by simp, fun x hx y hy => ?_⟩
              rw [List.mem_singleton.1 hy, hkv]
              exact c2 x hx
          · rw [← hkv] at c1
            simp [Instr.mapUpdate, run_underlying hu, run_getMap q1, e2, c1, run_setMap q1]
        · have hj : es'[la.length]? = some e' := by rw [← Array.getElem?_toList, c1]; simp
          have hsame : Instr.sameBits 10000 e'.key (ρ k) = true := by
            rw [c2, hkv]; unfold pairV
            simp [Instr.sameBits]
          refine fin (es'.modify la.length fun e => { e with key := ρ k, val := ρ x }) cl ?_ (by simpa using q3.modify la.length (fun e => { e with key := ρ k, val := ρ x }) fun _ => rfl) ?_
          · have hmod : (es'.modify la.length fun e => { e with key := ρ k, val := ρ x }).toList = la ++ { e' with key := ρ k, val := ρ x } :: lb := by
              rw [Array.toList_modify, c1]
              exact modify_mid _ _ _ _
            rw [hmod]
            have q2' := q2
            rw [c1] at q2'
            refine ⟨fun e he => ?_, ?_⟩
            · rcases List.mem_append.1 he with he | he
              · exact q2'.1 e (List.mem_append_left _ he)
              · rcases List.mem_cons.1 he with rfl | he
                · exact ⟨(a, b), hmem, hkv⟩
                · exact q2'.1 e (List.mem_append_right _ (List.mem_cons_of_mem _ he))
            · have hp := q2'.2
              rw [List.pairwise_append, List.pairwise_cons] at hp ⊢
              refine ⟨hp.1, ⟨fun y hy => ?_, hp.2.1.2⟩, fun x hx y hy => ?_⟩
              · rw [hkv, ← c2]; exact hp.2.1.1 y hy
              · rcases List.mem_cons.1 hy with rfl | hy
                · rw [hkv, ← c2]; exact hp.2.2 x hx e' List.mem_cons_self
                · exact hp.2.2 x hx y (List.mem_cons_of_mem _ hy)
          · rw [← hkv] at c3
            simp [Instr.mapUpdate, run_underlying hu, run_getMap q1, e2, c3, run_setMap q1, hj, Instr.keyThatStays, hsame]
      · cases hk3
    · cases hk3
  | _ => cases hk1
theorem decUpd_ok {op : Op} (t : Nat) (m k x : Operand) (hop : op = .mapUpdate t m k x ∨ op = .insert t m k x) : EvOk P res op (decUpd P res t m k x) := by
  unfold decUpd
  split
  · rename_i hu
    rw [ifb_eq]
    split
    · rename_i hp; exact oUpdBag_ok t m k x hop hu hp
    · exact oUpdate_ok t m k x hop hu
  · exact oEr_ok _ _
theorem setIfInBounds_same {h : Array Obj} {c : Nat} {o : Obj} (e : h[c]? = some o) : h.setIfInBounds c o = h := by
  apply Array.ext_getElem?
  intro i
  rw [Array.getElem?_setIfInBounds]
  by_cases q : c = i
  · subst q
    have : c < h.size := by
      rcases Nat.lt_or_ge c h.size with r | r
      · exact r
      · rw [Array.getElem?_eq_none r] at e; cases e
    rw [if_pos rfl, if_pos this, e]
  · rw [if_neg q]
theorem decDel_ok {c : Call} {m k : Operand} {t : Nat} {rest : List Nat} (hcal : c.callee = .builtin .delete) (hts : c.argTypes.toList = t :: rest) (hargs : c.args.toList = [m, k]) : EvOk P res (.call c) (decDel P res t m k) := by
  unfold decDel
  split
  · rename_i kt et hu
    intro μ σ w ρ env sl K e fr σ' hm ha hk o ho
    obtain ⟨vm, hvm, hk1⟩ := ha m _ e fr σ' hk
    generalize hr : ρ m = rm at hvm
    cases hvm with
    | @m r L hL =>
      obtain ⟨vk, hvk, hk2⟩ := ha k _ e fr σ' hk1
      obtain ⟨hp, hk3⟩ := ifb_inv hk2
      obtain ⟨es, hb, hk4⟩ := mapK_inv hk3
      obtain ⟨es', cl, q1, q2, q3⟩ := map_at hm hL hb
      obtain ⟨d, hd⟩ : ∃ d, P.underlying kt = some d := by
        unfold plainKey at hp
        cases h : P.underlying kt with
        | none => rw [h] at hp; cases hp
        | some d => exact ⟨d, rfl⟩
      have h0 : c.argTypes[0]? = some t := by rw [← Array.getElem?_toList, hts]; rfl
      rcases findK_ok hd hp hvk es es'.toList q2 hk4 with ⟨f1, f2⟩ | ⟨j, v, v', f1, f2, f3⟩
      · have e1 := run_findKey (P := P) (w := w) hd f1
        have e2 := run_checkKey (P := P) (w := w) hp hvk es'.isEmpty
        have e3 : (setObj L.c (.map es' cl)).run P w = .ok () w := by rw [run_setMap q1, setIfInBounds_same q1]
        refine ⟨_, μ, σ, w, .pure hm (v' := .tuple #[]) ?_ (.t .nil), f2⟩
        rw [exec_builtin ho hcal, args_two hargs, hr]
        simp [builtin, Builtin.delete_, h0, run_underlying hu, run_getMap q1, e2, e1, e3]
      · cases f3
    | _ => cases hk1
  · exact oEr_ok _ _
end
end Ae
namespace Ae
open Go
section
variable {P : Program} {res : Operand → Acc}
theorem decRange_ok (t : Nat) (x : Operand) : EvOk P res (.range t x) (decRange P res t x) := by
  unfold decRange
  split
  · rename_i hu
    intro μ σ w ρ env sl K e fr σ' hm ha hk o ho
    obtain ⟨v, hv, hk1⟩ := ha x _ e fr σ' hk
    obtain ⟨l, rfl, hk2⟩ := onS_inv hk1
    rw [St.newK_eq] at hk2
    generalize hr : ρ x = rx at hv
    cases hv with
    | s bs hb =>
      refine ⟨_, _, _, _, .new (v' := .pointer (some ⟨w.heap.size, 0, none⟩)) (step_new hm (.iter (bs.data.toList.map UInt8.toNat) 0) (.stringIter bs 0) ⟨w.heap.size, 0, 0⟩ rfl ⟨bs, by simp, by simp, Nat.zero_le _, hb, rfl⟩) ?_ ?_, hk2⟩
      · simp [execOp, ho, hr, Instr.range, run_underlying hu, newObj, Sem.run]
      · exact RelV.p (L := ⟨w.heap.size, 0, 0⟩) 0 (by simp)
  · exact oEr_ok _ _
theorem decode_ascii (s : ByteArray) (i : Nat) (h : (s.get! i).toNat < 128) : Utf8.decode s i = ((s.get! i).toNat, 1) := by
  unfold Utf8.decode
  simp only [Nat.add_zero]
  rw [if_pos h]
theorem get_bytes (bs : ByteArray) (i c : Nat) (h : (bs.data.toList.map UInt8.toNat)[i]? = some c) : i < bs.size ∧ (bs.get! i).toNat = c := by
  rw [List.getElem?_map] at h
  cases hg : bs.data.toList[i]? with
  | none => rw [hg] at h; cases h
  | some b =>
    rw [hg] at h
    simp only [Option.map_some, Option.some.injEq] at h
    have hlt : i < bs.data.toList.length := (List.getElem?_eq_some_iff.1 hg).1
    have hlt2 : i < bs.data.size := by simpa using hlt
    refine ⟨hlt2, ?_⟩
    have : bs.get! i = b := by
      show bs.data[i]! = b
      rw [getElem!_pos bs.data i hlt2]
      have := (List.getElem?_eq_some_iff.1 hg).2
      simpa using this
    rw [this]; exact h
theorem decNext_ok (it : Operand) (str : Bool) : EvOk P res (.next it str) (decNext res it str) := by
  unfold decNext
  split
  · intro μ σ w ρ env sl K e fr σ' hm ha hk o ho
    obtain ⟨v, hv, hk1⟩ := ha it _ e fr σ' hk
    obtain ⟨b, off, rfl, hk2⟩ := onP_inv hk1
    obtain ⟨h0, hk3⟩ := ifb_inv hk2
    have h0' := Nat.eq_of_beq_eq_true h0
    subst h0'
    generalize hr : ρ it = rx at hv
    cases hv with
    | @p _ L _ hL =>
      rw [St.get_eq] at hk3
      unfold nextG at hk3
      cases hb : σ.heap.get b with
      | none => rw [hb] at hk3; cases hk3
      | some y =>
        rw [hb] at hk3
        cases y with
        | iter l pos =>
          have hk4 : nextL b pos l σ K = .done e fr σ' := hk3
          obtain ⟨bs, q1, q2, q3, q4, q5⟩ := hm.blk b _ L hb hL
          have hobj : (getObj L.c).run P w = .ok (.stringIter bs pos) w := by simp [getObj, Sem.run, q1]
          cases l with
          | nil =>
            have hlen : ¬ pos < bs.size := by
              intro hc
              have : ((bs.data.toList.map UInt8.toNat).drop pos).length = 0 := by rw [← q2]; rfl
              rw [List.length_drop, List.length_map, Array.length_toList] at this
              have hs : bs.data.size = bs.size := rfl
              omega
            refine ⟨.t [.b false], μ, σ, w, ⟨.inl ⟨.tuple #[.bool false], ?_, .t (.cons (.b false) .nil)⟩, Step.refl hm⟩, hk4⟩
            simp [execOp, ho, hr, Instr.next, q5, hobj, hlen]
          | cons c rest =>
            obtain ⟨hc, hk5⟩ := ifb_inv hk4
            have hc' : c < 128 := by simpa using hc
            rw [force_eq, St.setK_eq] at hk5
            have hget : (bs.data.toList.map UInt8.toNat)[pos]? = some c := by
              have : ((bs.data.toList.map UInt8.toNat).drop pos)[0]? = some c := by rw [← q2]; rfl
              rw [List.getElem?_drop] at this
              simpa using this
            obtain ⟨hlt, hcc⟩ := get_bytes bs pos c hget
            have hst := step_set hm b _ (.iter rest (pos + 1)) (.stringIter bs (pos + 1)) L hb trivial hL
              ⟨bs, by
                show (w.heap.setIfInBounds L.c (.stringIter bs (pos + 1)))[L.c]? = _
                rw [Array.getElem?_setIfInBounds_self_of_lt (hm.inb _ _ hL)], by
                have : (bs.data.toList.map UInt8.toNat).drop (pos + 1) = ((bs.data.toList.map UInt8.toNat).drop pos).drop 1 := by rw [List.drop_drop]
                rw [this, ← q2]; rfl, hlt, q4, q5⟩ (fun _ _ _ _ hq => by rw [q1] at hq; cases hq)
            have hdec := decode_ascii bs pos (by rw [hcc]; exact hc')
            rw [hcc] at hdec
            have hpos : RelV μ (.n .i64 pos) (goInt pos) := rel_len μ (by omega)
            have hch : RelV μ (.n .i32 c) (.int .i32 c) := by
              have := RelV.n (μ := μ) .i32 c (by show c < 4294967296; omega)
              rwa [wrap_small .i32 c (by show c < 2147483648; omega)] at this
            refine ⟨_, μ, _, _, ⟨.inl ⟨.tuple #[.bool true, goInt pos, .int .i32 c], ?_, .t (.cons (.b true) (.cons hpos (.cons hch .nil)))⟩, hst⟩, hk5⟩
            have hset : (setObj L.c (.stringIter bs (pos + 1))).run P w = .ok () { w with heap := w.heap.setIfInBounds L.c (.stringIter bs (pos + 1)) } := by
              simp [setObj, Sem.run, q1]
            simp [execOp, ho, hr, Instr.next, q5, hobj, hlt, hdec, hset]
        | _ => cases hk3
  · exact oEr_ok _ _
end
end Ae
namespace Ae
open Go
section
variable {P : Program} {res : Operand → Acc}
theorem zeroCells_list (z : Array Value) : ∀ n, (Builtin.zeroCells z n).toList = (List.replicate n z.toList).flatten := by
  have e0 : ∀ n, (Builtin.zeroCells z n).toList = (List.range (n * z.size)).map fun i => z[i % z.size]! := by
    intro n; simp [Builtin.zeroCells]
  intro n
  induction n with
  | zero => simp [e0]
  | succ n ih =>
    rw [e0] at ih ⊢
    rw [show (n + 1) * z.size = z.size + n * z.size by rw [Nat.succ_mul, Nat.add_comm], List.range_add, List.map_append, List.replicate_succ, List.flatten_cons, ← ih, List.map_map]
    congr 1
    · apply List.ext_getElem
      · simp
      · intro i h1 h2
        have hi : i < z.size := by simpa using h2
        simp [Nat.mod_eq_of_lt hi, hi]
    · apply List.map_congr_left
      intro i _
      simp
theorem zRow_rel {μ : Mu} {z : List V} {z' : List Value} (h : RelL μ z z') : ∀ n, RelL μ (zRow z n) (List.replicate n z').flatten := by
  intro n
  induction n with
  | zero => exact .nil
  | succ n ih => rw [List.replicate_succ, List.flatten_cons]; exact RelL.append h ih
theorem oClear_ok {c : Call} {d : Operand} {t el : Nat} {z : V} (hcal : c.callee = .builtin .clear) (hargs : c.args.toList = [d]) (h0 : c.argTypes[0]? = some t) (hu : P.underlying t = some (.slice el)) (hz : zero? P el = some z) :
    EvOk P res (.call c) (oClear z.cells (res d)) := by
  intro μ σ w ρ env sl K e fr σ' hm ha hk o ho
  obtain ⟨vd, hvd, hk1⟩ := ha d _ e fr σ' hk
  obtain ⟨zv, z1, -, z3, -⟩ := zero_ok hz
  generalize hrd : ρ d = rd at hvd
  have hex : (execOp ρ o).run P w = ((Builtin.clear_ c.argTypes o.type #[rd]).run P w).andThen fun v w => .ok (.value v) w := by
    rw [exec_builtin ho hcal, args_one hargs, hrd]
    simp [builtin]
  have rt : RelV μ (.t []) (.tuple #[]) := .t .nil
  have none_ : ∀ (dl dc : Nat) , rd = .slice none dl dc → K (.t []) σ = .done e fr σ' → ∃ v μ1 σ1 w1, Does P μ σ w (execOp ρ o) v μ1 σ1 w1 ∧ K v σ1 = .done e fr σ' := by
    intro dl dc h1 h2
    subst h1
    refine ⟨_, μ, σ, w, .pure hm (v' := .tuple #[]) ?_ rt, h2⟩
    rw [hex]; simp [Builtin.clear_, h0, run_underlying hu]
  have stored : ∀ (b off n dc : Nat) (L : Loc), μ b = some L → rd = .slice (some ⟨L.c, L.sh + off, none⟩) n dc → storeN σ b off (zRow z.cells n) (.fail 151) (fun σ => K (.t []) σ) = .done e fr σ' →
      ∃ v μ1 σ1 w1, Does P μ σ w (execOp ρ o) v μ1 σ1 w1 ∧ K v σ1 = .done e fr σ' := by
    intro b off n dc L hL h1 hk6
    obtain ⟨σ1, w1, q1, q2, q3⟩ := storeN_ok hm hL off (zRow_rel (z3 μ) n) hk6
    subst h1
    refine ⟨_, μ, σ1, w1, .new q2 (v' := .tuple #[]) ?_ rt, q3⟩
    rw [hex]
    cases n with
    | zero =>
      have : w1 = w := by
        have q : (storeCells ⟨L.c, L.sh + off, none⟩ []).run P w = .ok () w1 := q1
        have q0 : (storeCells ⟨L.c, L.sh + off, none⟩ []).run P w = .ok () w := rfl
        rw [q0] at q; cases q; rfl
      subst this
      simp [Builtin.clear_, h0, run_underlying hu]
    | succ n => simp [Builtin.clear_, h0, run_underlying hu, z1, zeroCells_list, q1]
  cases hvd with
  | sl0 => exact none_ _ _ rfl hk1
  | @slk b L off len cap hL =>
    obtain ⟨-, hk2⟩ := ifb_inv (show ifb (Nat.ble len 65536) (storeN σ b off (zRow z.cells len) (.fail 151) fun σ => K (.t []) σ) (.fail 152) = .done e fr σ' from hk1)
    exact stored b off len cap L hL rfl hk2
  | @slu b L off len es cap hL =>
    obtain ⟨-, hk2⟩ := ifb_inv (show ifb (Nat.ble len 65536) (storeN σ b off (zRow z.cells len) (.fail 151) fun σ => K (.t []) σ) (.fail 152) = .done e fr σ' from hk1)
    exact stored b off len cap L hL rfl hk2
  | @sle b L off off' es hL =>
    have hk2 : K (.t []) σ = .done e fr σ' := by
      obtain ⟨-, hk2⟩ := ifb_inv (show ifb (Nat.ble 0 65536) (storeN σ b off [] (.fail 151) fun σ => K (.t []) σ) (.fail 152) = .done e fr σ' from hk1)
      exact hk2
    refine ⟨_, μ, σ, w, .pure hm (v' := .tuple #[]) ?_ rt, hk2⟩
    rw [hex]; simp [Builtin.clear_, h0, run_underlying hu]
  | _ => cases hk1
theorem decClear_ok {c : Call} {d : Operand} {t : Nat} {rest : List Nat} (hcal : c.callee = .builtin .clear) (hts : c.argTypes.toList = t :: rest) (hargs : c.args.toList = [d]) : EvOk P res (.call c) (decClear P res t d) := by
  unfold decClear
  have h0 : c.argTypes[0]? = some t := by rw [← Array.getElem?_toList, hts]; rfl
  split
  · rename_i el hu
    split
    · rename_i z hz; exact oClear_ok hcal hargs h0 hu hz
    · exact oEr_ok _ _
  · exact oEr_ok _ _
end
end Ae
namespace Ae
open Go
section
variable {P : Program} {res : Operand → Acc}
theorem decMap_ok (t : Nat) (r : Option Operand) : EvOk P res (.makeMap t r) (decMap P res t r) := by
  have key : ∀ {μ : Mu} {σ : St} {w : World}, RelM P μ σ w → Step P μ σ w (fun b => if b = σ.next then some ⟨w.heap.size, 0, 0⟩ else μ b) ⟨σ.heap.set (.map []) σ.next, σ.next + 1⟩ { w with heap := w.heap.push (.map #[] 0) } := by
    intro μ σ w hm
    exact step_new hm (.map []) (.map #[] 0) ⟨w.heap.size, 0, 0⟩ rfl ⟨#[], 0, by simp, RelE.nil _, Born.nil 0⟩
  unfold decMap
  split
  · intro μ σ w ρ env sl K e fr σ' hm ha hk o ho
    change σ.newK (.map []) (fun b σ => K (.m b) σ) = _ at hk
    rw [St.newK_eq] at hk
    refine ⟨_, _, _, _, ⟨.inl ⟨.map (some w.heap.size), ?_, .m (L := ⟨w.heap.size, 0, 0⟩) (by simp)⟩, key hm⟩, hk⟩
    simp [execOp, ho, Instr.makeMap, newObj, Sem.run]
  · rename_i r
    split
    · rename_i kt et hu
      intro μ σ w ρ env sl K e fr σ' hm ha hk o ho
      obtain ⟨v, hv, hk1⟩ := ha r _ e fr σ' hk
      obtain ⟨j, u, ev, hk2⟩ := onN_inv hk1
      subst ev
      rw [St.newK_eq] at hk2
      generalize hr : ρ r = rr at hv
      cases hv with | n _ _ hu' =>
      refine ⟨_, _, _, _, ⟨.inl ⟨.map (some w.heap.size), ?_, .m (L := ⟨w.heap.size, 0, 0⟩) (by simp)⟩, key hm⟩, hk2⟩
      simp [execOp, ho, hr, Instr.makeMap, newObj, Sem.run, run_underlying hu, asInt, asIntOf]
    · exact oEr_ok _ _
theorem decBuiltin_ok (c : Call) (b : Builtin) (hb : c.callee = .builtin b) : EvOk P res (.call c) (decBuiltin P res b c.argTypes.toList c.args.toList) := by
  unfold decBuiltin
  split
  · rename_i t rest x h1 h2; exact (decLen_ok hb h2 (by rw [← Array.getElem?_toList, h1]; rfl)).ok
  · rename_i t s x h1 h2; exact decApp_ok (rest := []) hb h1 h2
  · rename_i t u rest s x h1 h2; exact decApp_ok (rest := u :: rest) hb h1 h2
  · rename_i t rest d x h1 h2; exact decCopy_ok hb h1 h2
  · rename_i t rest m k h1 h2; exact decDel_ok hb h1 h2
  · rename_i t rest d h1 h2; exact decClear_ok hb h1 h2
  · exact (oMinMax_ok (mx := false) hb rfl).ok
  · exact (oMinMax_ok (mx := true) hb rfl).ok
  · exact oEr_ok _ _
theorem dec_ok (op : Op) {c : Cl} (h : dec P res op = .val c) : EvOk P res op c.f := by
  unfold dec at h
  split at h <;> first | (obtain rfl := (CO.val.inj h); skip) | skip
  all_goals first
    | exact (oMove_ok _).ok
    | exact (oAssign_ok _).ok
    | exact (oPick_ok _ _ _).ok
    | exact decAlloc_ok _
    | exact oBox_ok _ _
    | exact (decBuild_ok _ _).ok
    | exact decBS_ok _ _ _
    | exact (decLoad_ok _ _).ok
    | exact decStore_ok _ _ _
    | exact (oNil_ok _).ok
    | exact (decBin_ok _ _ _ _ _).ok
    | exact (decUn_ok _ _ _).ok
    | exact decConv_ok _ _ _
    | exact (decIface_ok _ _).ok
    | exact (decFunc_ok _ _ _).ok
    | exact decMap_ok _ _
    | exact decMake_ok _ _ _
    | exact (decSlice_ok _ _ _ _ _).ok
    | exact (decFA_ok _ _ _).ok
    | exact (decFd_ok _ _ _).ok
    | exact (decIA_ok _ _ _).ok
    | exact (decIx_ok _ _ _).ok
    | exact (decLook_ok _ _ _ _).ok
    | exact decUpd_ok _ _ _ _ (.inl rfl)
    | exact decUpd_ok _ _ _ _ (.inr rfl)
    | exact (decAs_ok _ _ _ _).ok
    | exact (oExtract_ok _ _).ok
    | exact decRange_ok _ _
    | exact decNext_ok _ _
    | exact oEr_ok _ _
    | skip
  · rename_i c
    unfold decCall at h
    split at h
    · cases h
    · cases h
    · rename_i b hb; obtain rfl := (CO.val.inj h); exact decBuiltin_ok c b hb
  · rename_i c
    unfold decDefer at h
    split at h
    · cases h
    · obtain rfl := (CO.val.inj h); exact oEr_ok _ _
theorem still_ok (op : Op) (hs : still P op = true) : ∃ c, dec P res op = .val c ∧ EvS P res op c.f := by
  unfold still at hs
  split at hs <;> first | (cases hs; done) | skip
  all_goals first
    | exact ⟨_, rfl, oMove_ok _⟩
    | exact ⟨_, rfl, oAssign_ok _⟩
    | exact ⟨_, rfl, oPick_ok _ _ _⟩
    | exact ⟨_, rfl, decBuild_ok _ _⟩
    | exact ⟨_, rfl, decLoad_ok _ _⟩
    | exact ⟨_, rfl, oNil_ok _⟩
    | exact ⟨_, rfl, decBin_ok _ _ _ _ _⟩
    | exact ⟨_, rfl, decUn_ok _ _ _⟩
    | exact ⟨_, rfl, decIface_ok _ _⟩
    | exact ⟨_, rfl, decFunc_ok _ _ _⟩
    | exact ⟨_, rfl, decSlice_ok _ _ _ _ _⟩
    | exact ⟨_, rfl, decFA_ok _ _ _⟩
    | exact ⟨_, rfl, decFd_ok _ _ _⟩
    | exact ⟨_, rfl, decIA_ok _ _ _⟩
    | exact ⟨_, rfl, decIx_ok _ _ _⟩
    | exact ⟨_, rfl, decLook_ok _ _ _ _⟩
    | exact ⟨_, rfl, decAs_ok _ _ _ _⟩
    | exact ⟨_, rfl, oExtract_ok _ _⟩
    | skip
  · rename_i s d x
    refine ⟨_, rfl, ?_⟩
    show EvS P res _ (decConv P res s d x)
    unfold stillC at hs
    unfold decConv
    split at hs <;> first | (cases hs; done) | skip
    · rename_i h1 h2; rw [h1, h2]; exact oConvI_ok s d x h1 h2
    · rename_i h1 h2; rw [h1, h2]; exact oConvR_ok s d x h1 h2
    · rename_i h1 h2; rw [h1, h2]; exact oConvSS_ok s d x h1 h2
    · rename_i el h1 h2
      rw [h1, h2]
      show EvS P res _ (ifb (isU8 P el) (oConvSB (res x)) (oEr 56))
      cases hu : isU8 P el with
      | true => exact oConvSB_ok s d x h1 h2 (isU8_ok hu)
      | false => exact oErS_ok _ _
  · rename_i c
    split at hs
    · rename_i b hb
      refine ⟨⟨decBuiltin P res b c.argTypes.toList c.args.toList⟩, by show decCall P res c = _; unfold decCall; rw [hb], ?_⟩
      show EvS P res _ (decBuiltin P res b c.argTypes.toList c.args.toList)
      unfold stillB at hs
      unfold decBuiltin
      split
      · rename_i t rest x h1 h2; exact decLen_ok hb h2 (by rw [← Array.getElem?_toList, h1]; rfl)
      · cases hs
      · cases hs
      · cases hs
      · cases hs
      · cases hs
      · exact oMinMax_ok (mx := false) hb rfl
      · exact oMinMax_ok (mx := true) hb rfl
      · exact oErS_ok _ _
    · cases hs
end
end Ae
namespace Ae
open Go
def Glob (G : Nat) (μ : Mu) : Prop := ∀ g, g < G → ∃ N, μ g = some ⟨g, 0, N⟩
theorem Glob.mono {G : Nat} {μ μ' : Mu} (h : Glob G μ) (hl : μ.le μ') : Glob G μ' := fun g hg => let ⟨N, e⟩ := h g hg; ⟨N, hl _ _ e⟩
def RelS (μ : Mu) (sl : T V) (tmps : Array Value) : Prop := ∀ i v, sl.get i = some v → ∃ v', tmps[i]? = some v' ∧ RelV μ v v'
theorem RelS.mono {μ μ' : Mu} (h : μ.le μ') {sl : T V} {t : Array Value} (r : RelS μ sl t) : RelS μ' sl t := fun i v e => let ⟨v', a, b⟩ := r i v e; ⟨v', a, b.mono h⟩
def RelE' (μ : Mu) (names : List Nat) (env : List V) (tmps : Array Value) : Prop := ∀ t k, posL t names = some k → ∃ v v', env[k]? = some v ∧ tmps[t]? = some v' ∧ RelV μ v v'
theorem RelE'.mono {μ μ' : Mu} (h : μ.le μ') {n : List Nat} {env : List V} {t : Array Value} (r : RelE' μ n env t) : RelE' μ' n env t := fun i k e => let ⟨v, v', a, b, c⟩ := r i k e; ⟨v, v', a, b, c.mono h⟩
theorem RelE'.nil (μ : Mu) (env : List V) (t : Array Value) : RelE' μ [] env t := fun _ _ h => by cases h
theorem posL_cons (t x : Nat) (l : List Nat) : posL t (x :: l) = if x = t then some 0 else (posL t l).map Nat.succ := by
  show ifb (Nat.beq x t) (some 0) (Option.rec none (fun k => some (Nat.succ k)) (posL t l)) = _
  rw [ifb_eq]
  by_cases h : x = t
  · subst h; simp
  · rw [if_neg (fun c => h (Nat.eq_of_beq_eq_true c)), if_neg h]
    cases posL t l <;> rfl
theorem hacc {G m : Nat} {μ : Mu} {names : List Nat} {env : List V} {sl : T V} {a : Act} (hG : Glob G μ) (hs : RelS μ sl a.tmps) (he : RelE' μ names env a.tmps) : HAcc μ env sl (res G m names) a.eval := by
  intro y K x fr σ hk
  cases y with
  | const v => exact ⟨_, ofValue_ok μ 6 v, hk⟩
  | func f => exact ⟨_, .f (.func f) .nil .nil, hk⟩
  | global g =>
    refine ⟨_, ?_, hk⟩
    show RelV μ (ifb (Nat.blt g G) (.p g 0) .u) (.pointer (some ⟨g, 0, none⟩))
    cases hg : Nat.blt g G with
    | false => exact .u _
    | true =>
      obtain ⟨N, e⟩ := hG g (by simpa using hg)
      exact RelV.p (L := ⟨g, 0, N⟩) 0 e
  | tmp t =>
    change accK (resT m names t) env sl K = _ at hk
    have geto : ∀ v', a.tmps[t]? = some v' → a.eval (.tmp t) = v' := fun v' h => by show a.tmps.getD t Go.undef = v'; rw [Array.getD_eq_getD_getElem?, h]; rfl
    unfold resT at hk
    cases hb : slotB m t with
    | true =>
      rw [hb] at hk
      change Option.rec (motive := fun _ => Out) (K .u) K (sl.getP (pth t)) = _ at hk
      cases hg : sl.getP (pth t) with
      | none => rw [hg] at hk; exact ⟨_, .u _, hk⟩
      | some v =>
        rw [hg] at hk
        obtain ⟨v', h1, h2⟩ := hs t v hg
        exact ⟨v, by rw [geto v' h1]; exact h2, hk⟩
    | false =>
      rw [hb] at hk
      change accK (Option.rec (.c .u) (fun k => .e k) (posL t names)) env sl K = _ at hk
      cases hp : posL t names with
      | none => rw [hp] at hk; exact ⟨_, .u _, hk⟩
      | some k =>
        rw [hp] at hk
        obtain ⟨v, v', h1, h2, h3⟩ := he t k hp
        change nthK env k K = _ at hk
        obtain ⟨u, hu, hk⟩ := nthK_inv hk
        rw [h1] at hu; cases hu
        exact ⟨v, by rw [geto v' h2]; exact h3, hk⟩
end Ae
namespace Ae
open Go
def fe (r : Option Nat) : Fence := { Fence.wide with round := r }
theorem callsIn_fe {P : Program} {f : FuncId} {args : Array Value} {w : World} {R : Ending → World → Prop} (r : Option Nat) (n : Nat) (h : Calls P f args w R) : CallsIn (fe r) n P f args w R := by
  have h2 := callsIn_wide (n := n).2 h
  exact ⟨trivial, h2.2⟩
theorem roundIn_fe {P : Program} {l : Nat} {f : FuncId} {tmps : Array Value} {asg body : Code} {w : World} {R : Ending → World → Prop} (r : Option Nat) (h : RoundIn Fence.wide 0 P l f tmps asg body w R) : RoundIn (fe r) 0 P l f tmps asg body w R :=
  ⟨trivial, h.2⟩
def uponR (P : Program) (o : Oper) (a : Act) (next : Act → World → Prop) : Result Next → Prop
  | .ok (.value v) w' => next (a.put o.dst v) w'
  | .ok .skip w' => next (a.put o.dst Go.undef) w'
  | .ok (.defer d) w' => next (({ a with defers := d :: a.defers } : Act).put o.dst Go.undef) w'
  | .ok (.enter f args) w' => Calls P f args w' fun e w'' => ∃ v, e = .returned v ∧ next (a.put o.dst v) w''
  | .ok (.round l f tmps asg body) w' => RoundIn Fence.wide 0 P l f tmps asg body w' fun e w'' => ∃ v, e = .returned v ∧ next (a.put o.dst v) w''
  | _ => False
section
variable (P : Program) (o : Oper) (a : Act) (next : Act → World → Prop) (w : World)
theorem uponR_value (v : Value) : uponR P o a next (.ok (.value v) w) = next (a.put o.dst v) w := rfl
theorem uponR_skip : uponR P o a next (.ok .skip w) = next (a.put o.dst Go.undef) w := rfl
theorem uponR_defer (d : Deferred) : uponR P o a next (.ok (.defer d) w) = next (({ a with defers := d :: a.defers } : Act).put o.dst Go.undef) w := rfl
theorem uponR_enter (f : FuncId) (args : Array Value) : uponR P o a next (.ok (.enter f args) w) = Calls P f args w fun e w'' => ∃ v, e = .returned v ∧ next (a.put o.dst v) w'' := rfl
theorem uponR_round (l : Nat) (f : FuncId) (tmps : Array Value) (asg body : Code) : uponR P o a next (.ok (.round l f tmps asg body) w) = RoundIn Fence.wide 0 P l f tmps asg body w fun e w'' => ∃ v, e = .returned v ∧ next (a.put o.dst v) w'' := rfl
end
def noDf (r : Option Nat) (o : Oper) : Prop := r = none ∨ ∀ c, o.op ≠ .defer c
theorem noDf_sem {r : Option Nat} {o : Oper} (h : noDf r o) (ρ : Operand → Value) : Oper.semAt r ρ o = execOp ρ o := by
  rcases h with rfl | h
  · rfl
  · exact Oper.semAt_eq r ρ o h
def wpR (r : Option Nat) (P : Program) (o : Oper) (a : Act) (w : World) (next : Act → World → Prop) : Prop := noDf r o ∧ uponR P o a next ((execOp a.eval o).run P w)
theorem wpR_in {r : Option Nat} {P : Program} {o : Oper} {a : Act} {w : World} {next : Act → World → Prop} {Q : Exit → Act → World → Prop} (h : wpR r P o a w next) : o.wpIn (fe r) 0 P a w next Q := by
  refine ⟨fun _ _ => trivial, ?_⟩
  show o.uponIn (fe r) 0 P a next Q ((o.semAt r a.eval).run P w)
  rw [noDf_sem h.1]
  have h2 := h.2
  generalize (execOp a.eval o).run P w = res at h2
  cases res with
  | halt x w' => exact h2.elim
  | ok x w' =>
    cases x with
    | value v => exact h2
    | skip => exact h2
    | defer d => exact h2
    | enter f args =>
      rw [uponR_enter] at h2
      rw [Oper.uponIn_enter]
      refine ⟨fun hd => (by cases hd), callsIn_fe r _ (Calls.mono h2 fun e w'' he => ?_)⟩
      obtain ⟨v, rfl, hn⟩ := he
      exact hn
    | round l f tmps asg body =>
      rw [uponR_round] at h2
      rw [Oper.uponIn_round]
      refine ⟨fun hd => (by cases hd), RoundIn.mono (roundIn_fe r h2) fun e w'' he => ?_⟩
      obtain ⟨v, rfl, hn⟩ := he
      exact hn
    | _ => exact h2.elim
def wpOp (r : Option Nat) (P : Program) (ops : Array Oper) (i : Nat) (K : Act → World → Prop) (a : Act) (w : World) : Prop :=
  match ops[i]? with
  | none => K a w
  | some o => if Region.wanted o (yielded ops a.tmps) then wpR r P o a w K else K (a.put o.dst Go.undef) w
theorem wpOp_in {r : Option Nat} {P : Program} {ops : Array Oper} {i : Nat} {K : Act → World → Prop} {Q : Exit → Act → World → Prop} {a : Act} {w : World} (h : wpOp r P ops i K a w) : wpOpIn (fe r) 0 P ops Q i K a w := by
  unfold wpOp at h
  unfold wpOpIn
  cases ho : ops[i]? with
  | none => simp only [ho] at h; exact h
  | some o =>
    simp only [ho] at h ⊢
    by_cases hw : Region.wanted o (yielded ops a.tmps) = true
    · simp only [hw, if_true] at h ⊢; exact wpR_in h
    · simp only [hw] at h ⊢; exact ⟨fun _ _ => trivial, h⟩
def wpOps (r : Option Nat) (P : Program) (ops : Array Oper) (Q : Exit → Act → World → Prop) : List Nat → Act → World → Prop
  | [], a, w => Q .normal a w
  | i :: rest, a, w => wpOp r P ops i (wpOps r P ops Q rest) a w
theorem wpOps_cons {r : Option Nat} {P : Program} {ops : Array Oper} {Q : Exit → Act → World → Prop} (i : Nat) (rest : List Nat) (a : Act) (w : World) : wpOps r P ops Q (i :: rest) a w = wpOp r P ops i (wpOps r P ops Q rest) a w := rfl
theorem wpOps_in {r : Option Nat} {P : Program} {ops : Array Oper} {Q : Exit → Act → World → Prop} : ∀ (l : List Nat) (a : Act) (w : World), wpOps r P ops Q l a w → wpOpsIn (fe r) 0 P ops Q l a w := by
  intro l
  induction l with
  | nil => exact fun a w h => h
  | cons i l ih =>
    intro a w h
    rw [wpOpsIn_cons]
    exact wpOpIn_mono (fun a w => ih a w) (wpOp_in h)
def wpAny (r : Option Nat) (P : Program) (ops : Array Oper) (Q : Exit → Act → World → Prop) : Nat → Array Bool → Act → World → Prop
  | 0, listed, a, w => Region.ready .any ops listed = [] ∧ Q .normal a w
  | fuel + 1, listed, a, w =>
    (Region.ready .any ops listed = [] → Q .normal a w) ∧
    ∀ i ∈ Region.ready .any ops listed, wpOp r P ops i (wpAny r P ops Q fuel (listed.setIfInBounds i true)) a w
theorem wpAny_in {r : Option Nat} {P : Program} {ops : Array Oper} {Q : Exit → Act → World → Prop} : ∀ (fuel : Nat) (listed : Array Bool) (a : Act) (w : World), wpAny r P ops Q fuel listed a w → wpAnyIn (fe r) 0 P .any ops Q fuel listed a w := by
  intro fuel
  induction fuel with
  | zero => exact fun listed a w h => h
  | succ fuel ih =>
    intro listed a w h
    exact ⟨h.1, fun i hi => wpOpIn_mono (fun a w => ih _ a w) (wpOp_in (h.2 i hi))⟩
inductive RelD0 (μ : Mu) : DS → List Deferred → Prop
  | nil : RelD0 μ [] []
  | cons {fn : Fn} {x y : List V} {f' : Value} {l : List V} {l' : Array Value} {ds : DS} {ds' : List Deferred} {d : Deferred} (hf : RelV μ (.f fn x y) f') (hl : RelL μ l l'.toList) (hd : ∀ P w, (Deferred.ofValue f' l').run P w = .ok d w) (h : RelD0 μ ds ds') : RelD0 μ ((.f fn x y, l) :: ds) (d :: ds')
  | mark {b : Nat} {L : Loc} {ds : DS} {ds' : List Deferred} (hL : μ b = some L) (h : RelD0 μ ds ds') : RelD0 μ ((.m b, []) :: ds) ({ target := .collected L.c, args := #[] } :: ds')
theorem RelD0.mono {μ μ' : Mu} (h : μ.le μ') {ds : DS} {ds' : List Deferred} (r : RelD0 μ ds ds') : RelD0 μ' ds ds' := by
  induction r with
  | nil => exact .nil
  | cons hf hl hd _ ih => exact .cons (hf.mono h) (hl.mono h) hd ih
  | mark hL _ ih => exact .mark (h _ _ hL) ih
def RelD (r : Option Nat) (μ : Mu) (ds : DS) (dd : List Deferred) : Prop := match r with
  | none => RelD0 μ ds dd
  | some _ => ds = [(.u, [])] ∧ dd = []
theorem RelD.mono {r : Option Nat} {μ μ' : Mu} (h : μ.le μ') {ds : DS} {dd : List Deferred} (d : RelD r μ ds dd) : RelD r μ' ds dd := by
  cases r with
  | none => exact RelD0.mono h d
  | some l => exact d
theorem noPz_inv {r : Option Nat} {μ : Mu} {ds : DS} {dd : List Deferred} (d : RelD r μ ds dd) {o : Out} {x : Ex} {fr : Fr} {σ : St} (h : noPz ds o = .done x fr σ) : r = none ∧ RelD0 μ ds dd ∧ o = .done x fr σ := by
  cases r with
  | none =>
    refine ⟨rfl, d, ?_⟩
    cases d with
    | nil => exact h
    | cons hf hl hd hr => exact h
    | mark hL hr => exact h
  | some l =>
    obtain ⟨rfl, _⟩ := d
    cases h
end Ae
namespace Ae
open Go
def Comes1 (P : Program) (s : Sem Next) (μ : Mu) (σ : St) (w : World) (Φ : V → St → Prop) : Prop :=
  (∃ v' w1 μ1 v σ1, s.run P w = .ok (.value v') w1 ∧ RelV μ1 v v' ∧ Step P μ σ w μ1 σ1 w1 ∧ Φ v σ1) ∨
  (∃ f args, s.run P w = .ok (.enter f args) w ∧ Calls P f args w fun e w1 => ∃ v' μ1 v σ1, e = .returned v' ∧ RelV μ1 v v' ∧ Step P μ σ w μ1 σ1 w1 ∧ Φ v σ1)
def Comes2 (P : Program) (s : Sem Next) (μ : Mu) (σ : St) (w : World) (Φ : V → St → Prop) : Prop :=
  Comes1 P s μ σ w Φ ∨ ∃ l f tmps asg body, s.run P w = .ok (.round l f tmps asg body) w ∧ RoundIn Fence.wide 0 P l f tmps asg body w fun e w1 => ∃ v' μ1 v σ1, e = .returned v' ∧ RelV μ1 v v' ∧ Step P μ σ w μ1 σ1 w1 ∧ Φ v σ1
def FnOk (cx : Cx) (g : List V → St → (V → St → Out) → Out) (f : Nat) : Prop :=
  ∀ ⦃args : List V⦄ ⦃σ : St⦄ ⦃K : V → St → Out⦄ ⦃x : Ex⦄ ⦃fr : Fr⦄ ⦃σ' : St⦄, g args σ K = .done x fr σ' →
    ∀ ⦃μ : Mu⦄ ⦃w : World⦄ ⦃args' : Array Value⦄, RelM cx.P μ σ w → Glob cx.globs μ → RelL μ args args'.toList →
      Comes1 cx.P (callFunc f args') μ σ w fun v σ1 => K v σ1 = .done x fr σ'
def DefOk (cx : Cx) (g : List V → St → (V → St → Out) → Out) (f : Nat) : Prop :=
  ∀ ⦃args : List V⦄ ⦃σ : St⦄ ⦃K : V → St → Out⦄ ⦃x : Ex⦄ ⦃fr : Fr⦄ ⦃σ' : St⦄, g args σ K = .done x fr σ' →
    ∀ ⦃μ : Mu⦄ ⦃w : World⦄ ⦃args' : Array Value⦄, RelM cx.P μ σ w → Glob cx.globs μ → RelL μ args args'.toList →
      (callFunc f args').run cx.P w = .ok (.enter f args') w ∧ CallsDIn Fence.wide 0 cx.P f args' .returning w fun e u w1 => ∃ v' μ1 v σ1, e = .returned v' ∧ u = .returning ∧ Step cx.P μ σ w μ1 σ1 w1 ∧ K v σ1 = .done x fr σ'
structure FrOk (cx : Cx) (r : Option Nat) (f : Nat) (μ : Mu) (sl : T V) (ds : DS) (a : Act) : Prop where
  s : RelS μ sl a.tmps
  m : ∀ i v, sl.get i = some v → slotB (cx.mask f) i = true
  d : RelD r μ ds a.defers
  n : a.tmps.size = ntmps cx f
theorem FrOk.mono {cx : Cx} {r : Option Nat} {f : Nat} {μ μ' : Mu} {sl : T V} {ds : DS} {a : Act} (h : FrOk cx r f μ sl ds a) (hl : μ.le μ') : FrOk cx r f μ' sl ds a := ⟨h.s.mono hl, h.m, h.d.mono hl, h.n⟩
def exOf : Ex → Exit
  | .norm => .normal
  | .exit id => .exit id
  | .goto l => .goto l
  | .ret => .ret
def CodeOk (cx : Cx) (r : Option Nat) (f : Nat) (c : Code) (run : Fr → St → Out) : Prop :=
  ∀ ⦃sl : T V⦄ ⦃ds : DS⦄ ⦃σ : St⦄ ⦃x : Ex⦄ ⦃fr' : Fr⦄ ⦃σ' : St⦄, run ⟨sl, ds⟩ σ = .done x fr' σ' →
    ∀ ⦃μ : Mu⦄ ⦃w : World⦄ ⦃a : Act⦄, RelM cx.P μ σ w → Glob cx.globs μ → FrOk cx r f μ sl ds a →
      ∀ ⦃Q : Exit → Act → World → Prop⦄, (∀ μ1 a1 w1, Step cx.P μ σ w μ1 σ' w1 → FrOk cx r f μ1 fr'.slots fr'.ds a1 → Q (exOf x) a1 w1) → c.wpIn (fe r) 0 cx.P Q a w
def SelfOk (cx : Cx) (self : Self) : Prop := ∀ r f c, CodeOk cx r f c (self f c)
structure CallsOk (cx : Cx) (sf : Self) : Prop where
  self : SelfOk cx sf
  prim : ∀ f g, cx.prim f = some g → FnOk cx g f
  dprim : ∀ f g, cx.dprim f = some g → DefOk cx g f
  names : ∀ (f : Nat) (fn : Func) (c : Code), cx.P.funcs[f]? = some fn → fn.body = some c → (fn.name == "runtime.NumGoroutine") = false
def CallT (cx : Cx) (self : Self) : Prop :=
  ∀ ⦃fv : V⦄ ⦃l : List V⦄ ⦃σ : St⦄ ⦃K : V → St → Out⦄ ⦃x : Ex⦄ ⦃fr : Fr⦄ ⦃σ' : St⦄, callT cx self fv l σ K = .done x fr σ' →
    ∀ ⦃μ : Mu⦄ ⦃w : World⦄ ⦃f' : Value⦄ ⦃l' : Array Value⦄, RelM cx.P μ σ w → Glob cx.globs μ → RelV μ fv f' → RelL μ l l'.toList →
      Comes2 cx.P (do let d ← Deferred.ofValue f' l'; invoke d.target d.args) μ σ w fun v σ1 => K v σ1 = .done x fr σ'
def MethT (cx : Cx) (self : Self) : Prop :=
  ∀ ⦃r : V⦄ ⦃m : String⦄ ⦃l : List V⦄ ⦃σ : St⦄ ⦃K : V → St → Out⦄ ⦃x : Ex⦄ ⦃fr : Fr⦄ ⦃σ' : St⦄, methV cx self r m l σ K = .done x fr σ' →
    ∀ ⦃μ : Mu⦄ ⦃w : World⦄ ⦃r' : Value⦄ ⦃l' : Array Value⦄, RelM cx.P μ σ w → Glob cx.globs μ → RelV μ r r' → RelL μ l l'.toList →
      Comes1 cx.P (callMethod r' m l') μ σ w fun v σ1 => K v σ1 = .done x fr σ'
theorem dec_call {P : Program} {res : Operand → Acc} {op : Op} {F : Acc} {L : List Acc} (h : dec P res op = .call F L) : ∃ c f, op = .call c ∧ c.callee = .value f ∧ F = res f ∧ L = c.args.toList.map res := by
  unfold dec at h
  split at h <;> try (cases h; done)
  · rename_i c
    unfold decCall at h
    split at h
    · rename_i f hf; cases h; exact ⟨c, f, rfl, hf, rfl, rfl⟩
    · cases h
    · cases h
  · unfold decDefer at h; split at h <;> cases h
theorem dec_meth {P : Program} {res : Operand → Acc} {op : Op} {R : Acc} {m : String} {L : List Acc} (h : dec P res op = .meth R m L) : ∃ c r, op = .call c ∧ c.callee = .invoke r m ∧ R = res r ∧ L = c.args.toList.map res := by
  unfold dec at h
  split at h <;> try (cases h; done)
  · rename_i c
    unfold decCall at h
    split at h
    · cases h
    · rename_i r m hf; cases h; exact ⟨c, r, rfl, hf, rfl, rfl⟩
    · cases h
  · unfold decDefer at h; split at h <;> cases h
theorem dec_dfr {P : Program} {res : Operand → Acc} {op : Op} {F : Acc} {L : List Acc} (h : dec P res op = .dfr F L) : ∃ c f, op = .defer c ∧ c.callee = .value f ∧ F = res f ∧ L = c.args.toList.map res := by
  unfold dec at h
  split at h <;> try (cases h; done)
  · unfold decCall at h; split at h <;> cases h
  · rename_i c
    unfold decDefer at h
    split at h
    · rename_i f hf; cases h; exact ⟨c, f, rfl, hf, rfl, rfl⟩
    · cases h
def OpRes (r : Option Nat) (P : Program) (o : Oper) (μ : Mu) (σ : St) (w : World) (a : Act) (Φ : V → DS → St → Prop) : Prop :=
  ∀ (next : Act → World → Prop),
    (∀ v' μ1 w1 dd v ds1 σ1, Φ v ds1 σ1 → Step P μ σ w μ1 σ1 w1 → RelV μ1 v v' → RelD r μ1 ds1 dd → next (({ a with defers := dd } : Act).put o.dst v') w1) → wpR r P o a w next
theorem comes1_upon {r : Option Nat} {P : Program} {s : Sem Next} {μ : Mu} {σ : St} {w : World} {ds : DS} {Φ : V → DS → St → Prop} (h : Comes2 P s μ σ w fun v σ1 => Φ v ds σ1) (o : Oper) (a : Act) (hd : RelD r μ ds a.defers)
    (next : Act → World → Prop) (hn : ∀ v' μ1 w1 dd v ds1 σ1, Φ v ds1 σ1 → Step P μ σ w μ1 σ1 w1 → RelV μ1 v v' → RelD r μ1 ds1 dd → next (({ a with defers := dd } : Act).put o.dst v') w1) :
    uponR P o a next (s.run P w) := by
  rcases h with (⟨v', w1, μ1, v, σ1, hr, hv, hs, hp⟩ | ⟨f, args, hr, hc⟩) | ⟨l, f, tmps, asg, body, hr, hc⟩
  · rw [hr, uponR_value]
    exact hn v' μ1 w1 a.defers v ds σ1 hp hs hv (hd.mono hs.le)
  · rw [hr, uponR_enter]
    refine Calls.mono hc fun e w1 he => ?_
    obtain ⟨v', μ1, v, σ1, rfl, hv, hs, hp⟩ := he
    exact ⟨v', rfl, hn v' μ1 w1 a.defers v ds σ1 hp hs hv (hd.mono hs.le)⟩
  · rw [hr, uponR_round]
    refine RoundIn.mono hc fun e w1 he => ?_
    obtain ⟨v', μ1, v, σ1, rfl, hv, hs, hp⟩ := he
    exact ⟨v', rfl, hn v' μ1 w1 a.defers v ds σ1 hp hs hv (hd.mono hs.le)⟩
theorem dec_noDf {P : Program} {res : Operand → Acc} {op : Op} {c : Cl} (h : dec P res op = .val c) {env : List V} {sl : T V} {σ : St} {K : V → St → Out} {x : Ex} {fr : Fr} {σ' : St} (hk : c.f env sl σ K = .done x fr σ') (q : Call) : op ≠ .defer q := by
  rintro rfl
  change decDefer res q = _ at h
  unfold decDefer at h
  split at h
  · cases h
  · cases h; cases hk
theorem co_ok {cx : Cx} {r : Option Nat} {self : Self} (hcall : CallT cx self) (hmeth : MethT cx self) {rs : Operand → Acc} {o : Oper} {c : CO} (hc : dec cx.P rs o.op = c) {env : List V} {sl : T V} {ds : DS} {σ : St} {K : V → DS → St → Out} {x : Ex} {fr : Fr} {σ' : St}
    (hk : coK cx self c env sl ds σ K = .done x fr σ') {μ : Mu} {w : World} {a : Act} (hm : RelM cx.P μ σ w) (hG : Glob cx.globs μ) (ha : HAcc μ env sl rs a.eval) (hd : RelD r μ ds a.defers) :
    OpRes r cx.P o μ σ w a fun v ds1 σ1 => K v ds1 σ1 = .done x fr σ' := by
  intro next hn
  cases c with
  | val c =>
    cases c with
    | mk g =>
      obtain ⟨v, μ1, σ1, w1, hdo, hk1⟩ := dec_ok o.op hc hm ha hk o rfl
      refine ⟨.inr (dec_noDf hc hk), ?_⟩
      rcases hdo.run with ⟨v', hr, hv⟩ | ⟨hr, rfl⟩
      · rw [hr, uponR_value]
        exact hn v' μ1 w1 a.defers v ds σ1 hk1 hdo.step hv (hd.mono hdo.step.le)
      · rw [hr, uponR_skip]
        exact hn Go.undef μ1 w1 a.defers _ ds σ1 hk1 hdo.step RelV.undef (hd.mono hdo.step.le)
  | call F L =>
    obtain ⟨c, f, hop, hcal, rfl, rfl⟩ := dec_call hc
    obtain ⟨fv, hf, hk1⟩ := ha f _ x fr σ' hk
    obtain ⟨l, hl, hk2⟩ := accs_ok ha _ _ x fr σ' hk1
    have hcm := hcall hk2 hm hG hf (l' := c.args.map a.eval) (by simpa using hl)
    refine ⟨.inr fun q e => (by rw [hop] at e; cases e), ?_⟩
    have : execOp a.eval o = (do let d ← Deferred.ofValue (a.eval f) (c.args.map a.eval); invoke d.target d.args) := by
      simp [execOp, hop, resolve, hcal]
    rw [this]
    exact comes1_upon (Φ := fun v ds1 σ1 => K v ds1 σ1 = .done x fr σ') hcm o a hd next hn
  | meth R m L =>
    obtain ⟨c, r, hop, hcal, rfl, rfl⟩ := dec_meth hc
    obtain ⟨rv, hr, hk1⟩ := ha r _ x fr σ' hk
    obtain ⟨l, hl, hk2⟩ := accs_ok ha _ _ x fr σ' hk1
    have hcm := hmeth hk2 hm hG hr (l' := c.args.map a.eval) (by simpa using hl)
    refine ⟨.inr fun q e => (by rw [hop] at e; cases e), ?_⟩
    have : execOp a.eval o = callMethod (a.eval r) m (c.args.map a.eval) := by
      have h0 : (#[a.eval r] ++ Array.map a.eval c.args)[0]? = some (a.eval r) := by
        rw [Array.getElem?_append_left (by simp)]; rfl
      have h1 : (Array.map a.eval c.args).extract 0 c.args.size = Array.map a.eval c.args := by rw [show c.args.size = (Array.map a.eval c.args).size by simp]; exact Array.extract_size
      simp only [execOp, hop, resolve, hcal, invoke, pure_bind]
      rw [h0]
      simp [h1]
    rw [this]
    exact comes1_upon (Φ := fun v ds1 σ1 => K v ds1 σ1 = .done x fr σ') (.inl hcm) o a hd next hn
  | dfr F L =>
    obtain ⟨c, f, hop, hcal, rfl, rfl⟩ := dec_dfr hc
    obtain ⟨fv, hf, hk1⟩ := ha f _ x fr σ' hk
    cases fv with
    | f fn xs ys =>
      obtain ⟨l, hl, hk2⟩ := accs_ok ha _ _ x fr σ' hk1
      generalize hr : a.eval f = rf at hf
      have hf0 := hf
      cases hf with
      | @f _ fn' _ _ xs' ys' hfn hx hy =>
        have hrun : (execOp a.eval o).run cx.P w = .ok (.defer { target := .fn fn' ys', args := xs' ++ c.args.map a.eval }) w := by
          simp [execOp, hop, resolve, hcal, hr, Deferred.ofValue]
        obtain ⟨rfl, hd0, hk3⟩ := noPz_inv hd hk2
        refine ⟨.inl rfl, ?_⟩
        rw [hrun, uponR_defer]
        exact hn Go.undef μ w _ Ae.undef _ σ hk3 (Step.refl hm) RelV.undef (RelD0.cons hf0 (l' := c.args.map a.eval) (by simpa using hl) (fun P w => by simp [Deferred.ofValue]) hd0)
    | _ => cases hk1
end Ae
namespace Ae
open Go
theorem xRC_mk (cx : Cx) (self : Self) (c : CO) (d : Dst) (rest : RC) (env : List V) (sl : T V) (ds : DS) (σ : St) :
    xRC cx self (mkRC c d rest) env sl ds σ = coK cx self c env sl ds σ fun v ds σ => putD d v env sl fun env sl => xRC cx self rest env sl ds σ := by
  cases c with
  | val c => cases c; cases d <;> rfl
  | _ => cases d <;> rfl
def Msk (m : Nat) (sl : T V) : Prop := ∀ i v, sl.get i = some v → slotB m i = true
def NamesOk (m : Nat) (names : List Nat) : Prop := ∀ t k, posL t names = some k → slotB m t = false
theorem put_tmps (a : Act) (dd : List Deferred) (d : Option Tmp) (v : Value) : (({ a with defers := dd } : Act).put d v).tmps = (a.put d v).tmps := by cases d <;> rfl
theorem put_defers' (a : Act) (d : Option Tmp) (v : Value) : (a.put d v).defers = a.defers := by cases d <;> rfl
theorem put_size (a : Act) (d : Option Tmp) (v : Value) : (a.put d v).tmps.size = a.tmps.size := by cases d <;> simp [Act.put]
theorem putD_ok {m n : Nat} {d : Option Nat} (hd : okDst n d = true) {μ : Mu} {names : List Nat} {env : List V} {sl : T V} {a : Act} {v : V} {v' : Value} (hn : a.tmps.size = n)
    (hs : RelS μ sl a.tmps) (hk : Msk m sl) (he : RelE' μ names env a.tmps) (hN : NamesOk m names) (hv : RelV μ v v') (K : List V → T V → Out) :
    ∃ env1 sl1, putD (dstOf m d) v env sl K = K env1 sl1 ∧ RelS μ sl1 (a.put d v').tmps ∧ Msk m sl1 ∧ RelE' μ (namesOf m d names) env1 (a.put d v').tmps ∧ NamesOk m (namesOf m d names) := by
  cases d with
  | none => exact ⟨env, sl, rfl, hs, hk, he, hN⟩
  | some d =>
    have hlt : d < a.tmps.size := by rw [hn]; simpa [okDst] using hd
    have self : (a.put (some d) v').tmps[d]? = some v' := by simp [Act.put, hlt]
    have other : ∀ t, t ≠ d → (a.put (some d) v').tmps[t]? = a.tmps[t]? := fun t ht => by
      show (a.tmps.setIfInBounds d v')[t]? = _
      rw [Array.getElem?_setIfInBounds, if_neg (fun e => ht e.symm)]
    cases hb : slotB m d with
    | true =>
      refine ⟨env, sl.set v d, ?_, ?_, ?_, ?_, ?_⟩
      · show putD (ifb (slotB m d) (.slot (pth d)) .env) v env sl K = _
        rw [hb]
        exact T.setK_eq v sl d _
      · intro i u hu
        rw [T.get_set] at hu
        by_cases e : i = d
        · subst e; simp at hu; subst hu; exact ⟨v', self, hv⟩
        · rw [if_neg e] at hu; obtain ⟨u', h1, h2⟩ := hs i u hu; exact ⟨u', by rw [other i e]; exact h1, h2⟩
      · intro i u hu
        rw [T.get_set] at hu
        by_cases e : i = d
        · subst e; exact hb
        · rw [if_neg e] at hu; exact hk i u hu
      · have : namesOf m (some d) names = names := by show ifb (slotB m d) names (d :: names) = names; rw [hb]; rfl
        rw [this]
        intro t k ht
        obtain ⟨u, u', h1, h2, h3⟩ := he t k ht
        have hne : t ≠ d := fun e => by subst e; have := hN t k ht; rw [hb] at this; cases this
        exact ⟨u, u', h1, by rw [other t hne]; exact h2, h3⟩
      · have : namesOf m (some d) names = names := by show ifb (slotB m d) names (d :: names) = names; rw [hb]; rfl
        rw [this]; exact hN
    | false =>
      have hnm : namesOf m (some d) names = d :: names := by show ifb (slotB m d) names (d :: names) = _; rw [hb]; rfl
      refine ⟨v :: env, sl, ?_, ?_, hk, ?_, ?_⟩
      · show putD (ifb (slotB m d) (.slot (pth d)) .env) v env sl K = _
        rw [hb]; rfl
      · intro i u hu
        have hne : i ≠ d := fun e => by subst e; have := hk i u hu; rw [hb] at this; cases this
        obtain ⟨u', h1, h2⟩ := hs i u hu; exact ⟨u', by rw [other i hne]; exact h1, h2⟩
      · rw [hnm]
        intro t k ht
        rw [posL_cons] at ht
        by_cases e : d = t
        · subst e; simp at ht; subst ht; exact ⟨v, v', rfl, self, hv⟩
        · rw [if_neg e] at ht
          cases hp : posL t names with
          | none => rw [hp] at ht; cases ht
          | some j =>
            rw [hp] at ht; simp at ht; subst ht
            obtain ⟨u, u', h1, h2, h3⟩ := he t j hp
            exact ⟨u, u', by simpa using h1, by rw [other t (fun q => e q.symm)]; exact h2, h3⟩
      · rw [hnm]
        intro t k ht
        rw [posL_cons] at ht
        by_cases e : d = t
        · subst e; exact hb
        · rw [if_neg e] at ht
          cases hp : posL t names with
          | none => rw [hp] at ht; cases ht
          | some j => exact hN t j hp
section
variable {r : Option Nat} {cx : Cx} {self : Self} {ops : Array Oper} {m n : Nat}
noncomputable def opK (cx : Cx) (self : Self) (all : List Oper) (m : Nat) (names : List Nat) (o : Oper) (env : List V) (sl : T V) (ds : DS) (σ : St) (K : V → DS → St → Out) : Out :=
  match o.guard with
  | none => coK cx self (dec cx.P (res cx.globs m names) o.op) env sl ds σ K
  | some (j, want) => accK (gdOf m all names j) env sl (onG want (coK cx self (dec cx.P (res cx.globs m names) o.op) env sl ds σ K) (K Ae.undef ds σ))
def WOp (r : Option Nat) (P : Program) (ops : Array Oper) (o : Oper) (μ : Mu) (σ : St) (w : World) (a : Act) (Φ : V → DS → St → Prop) : Prop :=
  ∀ (i : Nat), ops[i]? = some o → ∀ (next : Act → World → Prop),
    (∀ v' μ1 w1 dd v ds1 σ1, Φ v ds1 σ1 → Step P μ σ w μ1 σ1 w1 → RelV μ1 v v' → RelD r μ1 ds1 dd → next (({ a with defers := dd } : Act).put o.dst v') w1) → wpOp r P ops i next a w
theorem wanted_none {o : Oper} (h : o.guard = none) (y : Nat → Option Bool) : Region.wanted o y = true := by unfold Region.wanted; rw [h]
theorem wanted_some {o : Oper} {j : Nat} {want : Bool} (h : o.guard = some (j, want)) (y : Nat → Option Bool) : Region.wanted o y = (y j == some want) := by unfold Region.wanted; rw [h]
theorem guard_val {o : Oper} {j d : Nat} {want : Bool} (hg : o.guard = some (j, want)) (hb : (ops[j]?).bind (·.dst) = some d) {a : Act} {μ : Mu} {v : V} (hv : RelV μ v (a.eval (.tmp d))) {KT KF : Out} {x : Ex} {fr : Fr} {σ' : St} (hk : onG want KT KF v = .done x fr σ') :
    (Region.wanted o (yielded ops a.tmps) = true ∧ KT = .done x fr σ') ∨ (Region.wanted o (yielded ops a.tmps) = false ∧ KF = .done x fr σ') := by
  change RelV μ v (a.tmps.getD d Go.undef) at hv
  rw [Array.getD_eq_getD_getElem?] at hv
  cases v with
  | b c =>
    have hy : yielded ops a.tmps j = some c := by
      unfold yielded
      rw [hb]
      cases ht : a.tmps[d]? with
      | none => rw [ht] at hv; cases hv
      | some t => rw [ht] at hv; simp only [Option.getD_some] at hv; cases hv; simp [ht]
    have hw : Region.wanted o (yielded ops a.tmps) = (c == want) := by
      rw [wanted_some hg, hy]; cases c <;> cases want <;> rfl
    change ifb (Bool.rec (Bool.not want) want c) KT KF = _ at hk
    by_cases hcw : c = want
    · subst hcw
      have e : (Bool.rec (Bool.not c) c c : Bool) = true := by cases c <;> rfl
      rw [e, ifb_true] at hk
      exact .inl ⟨by rw [hw]; simp, hk⟩
    · have e : (Bool.rec (Bool.not want) want c : Bool) = false := by cases c <;> cases want <;> first | rfl | exact absurd rfl hcw
      rw [e, ifb_false] at hk
      exact .inr ⟨by rw [hw]; simpa using hcw, hk⟩
  | t l =>
    have hy : yielded ops a.tmps j = none := by
      unfold yielded
      rw [hb]
      cases ht : a.tmps[d]? with
      | none => simp [ht]
      | some t => rw [ht] at hv; simp only [Option.getD_some] at hv; cases hv; simp [ht]
    exact .inr ⟨by rw [wanted_some hg, hy]; cases want <;> rfl, hk⟩
  | _ => cases hk
theorem opK_ok (hcall : CallT cx self) (hmeth : MethT cx self) {names : List Nat} {o : Oper} {env : List V} {sl : T V} {ds : DS} {σ : St} {K : V → DS → St → Out} {x : Ex} {fr : Fr} {σ' : St}
    (hk : opK cx self ops.toList m names o env sl ds σ K = .done x fr σ') {μ : Mu} {w : World} {a : Act} (hm : RelM cx.P μ σ w) (hG : Glob cx.globs μ) (ha : HAcc μ env sl (res cx.globs m names) a.eval) (hd : RelD r μ ds a.defers) :
    WOp r cx.P ops o μ σ w a fun v ds1 σ1 => K v ds1 σ1 = .done x fr σ' := by
  intro i hi next hn
  unfold opK at hk
  cases hg : o.guard with
  | none =>
    rw [hg] at hk
    have hr := co_ok hcall hmeth rfl hk hm hG ha hd
    unfold wpOp
    simp only [hi, wanted_none hg, if_true]
    exact hr next hn
  | some jw =>
    obtain ⟨j, want⟩ := jw
    rw [hg] at hk
    simp only at hk
    unfold gdOf at hk
    rw [Array.getElem?_toList] at hk
    cases hb : (ops[j]?).bind (·.dst) with
    | none => rw [hb] at hk; cases hk
    | some d =>
      rw [hb] at hk
      obtain ⟨c, hc, hk1⟩ := ha (.tmp d) _ x fr σ' hk
      unfold wpOp
      rcases guard_val hg hb hc hk1 with ⟨hw, hk2⟩ | ⟨hw, hk2⟩
      · have hr := co_ok hcall hmeth rfl hk2 hm hG ha hd
        simp only [hi, hw, if_true]
        exact hr next hn
      · simp only [hi, hw, Bool.false_eq_true, if_false]
        exact hn Go.undef μ w a.defers Ae.undef ds σ hk2 (Step.refl hm) RelV.undef hd
theorem compO_eq (names : List Nat) (o : Oper) (rest : RC) (hd : okDst n o.dst = true) (all : List Oper) (env : List V) (sl : T V) (ds : DS) (σ : St) :
    xRC cx self (compO cx.P cx.globs m n all o names rest) env sl ds σ = opK cx self all m names o env sl ds σ fun v ds σ => putD (dstOf m o.dst) v env sl fun env sl => xRC cx self rest env sl ds σ := by
  unfold compO opK
  rw [hd, ifb_true]
  cases hg : o.guard with
  | none => exact xRC_mk _ _ _ _ _ _ _ _ _
  | some jw => obtain ⟨j, want⟩ := jw; rfl
theorem reg_ok (hcall : CallT cx self) (hmeth : MethT cx self) {Q : Exit → Act → World → Prop} {x : Ex} {fr' : Fr} {σ' : St} : ∀ (l : List Oper) (i : Nat), (∀ j, l[j]? = ops[i + j]?) →
    ∀ {names : List Nat} {env : List V} {sl : T V} {ds : DS} {σ : St} {μ : Mu} {w : World} {a : Act}, xRC cx self (compL cx.P cx.globs m n ops.toList l names) env sl ds σ = .done x fr' σ' →
      RelM cx.P μ σ w → Glob cx.globs μ → RelS μ sl a.tmps → Msk m sl → RelE' μ names env a.tmps → NamesOk m names → RelD r μ ds a.defers → a.tmps.size = n →
      (∀ μ1 a1 w1, Step cx.P μ σ w μ1 σ' w1 → RelS μ1 fr'.slots a1.tmps → Msk m fr'.slots → RelD r μ1 fr'.ds a1.defers → a1.tmps.size = n → Q (exOf x) a1 w1) →
      wpOps r cx.P ops Q (List.range' i l.length) a w := by
  intro l
  induction l with
  | nil =>
    intro i _ names env sl ds σ μ w a hk hm hG hs hms he hN hd hn hQ
    change Out.done .norm ⟨sl, ds⟩ σ = _ at hk
    cases hk
    exact hQ μ a w (Step.refl hm) hs hms hd hn
  | cons o l ih =>
    intro i hl names env sl ds σ μ w a hk hm hG hs hms he hN hd hn hQ
    change xRC cx self (compO cx.P cx.globs m n ops.toList o names (compL cx.P cx.globs m n ops.toList l (namesOf m o.dst names))) env sl ds σ = _ at hk
    have hi : ops[i]? = some o := by have := hl 0; simpa using this.symm
    rw [List.length_cons, List.range'_succ, wpOps_cons]
    cases hdst : okDst n o.dst with
    | false =>
      unfold compO at hk
      rw [hdst] at hk
      cases hk
    | true =>
      rw [compO_eq _ _ _ hdst] at hk
      have hr := opK_ok hcall hmeth hk hm hG (hacc hG hs he) hd
      refine hr i hi _ fun v' μ1 w1 dd v ds1 σ1 hk1 hst hv hdd => ?_
      obtain ⟨env1, sl1, e1, r1, r2, r3, r4⟩ := putD_ok hdst (names := names) (env := env) hn (hs.mono hst.le) hms (he.mono hst.le) hN hv (fun env sl => xRC cx self (compL cx.P cx.globs m n ops.toList l (namesOf m o.dst names)) env sl ds1 σ1)
      simp only at hk1
      rw [e1] at hk1
      refine ih (i + 1) (fun j => by have := hl (j + 1); simpa [Nat.add_assoc, Nat.add_comm 1 j] using this) hk1 hst.rel (hG.mono hst.le) (by rw [put_tmps]; exact r1) r2 (by rw [put_tmps]; exact r3) r4 (by rw [put_defers']; exact hdd) (by rw [put_size]; exact hn) ?_
      intro μ2 a2 w2 hst2
      exact hQ μ2 a2 w2 (hst.trans hst2)
end
end Ae
namespace Ae
open Go
theorem slotB_eq (m t : Nat) : slotB m t = m.testBit t := by
  unfold slotB
  show Nat.beq ((m >>> t) &&& 1) 1 = m.testBit t
  rw [Nat.testBit, Nat.and_comm]
  have h : 1 &&& (m >>> t) = (m >>> t) % 2 := by rw [Nat.and_comm]; exact Nat.and_one_is_mod _
  rw [h]
  rcases Nat.mod_two_eq_zero_or_one (m >>> t) with h | h <;> rw [h] <;> rfl
theorem slotB_lor (a b t : Nat) : slotB (Nat.lor a b) t = (slotB a t || slotB b t) := by
  rw [slotB_eq, slotB_eq, slotB_eq]; exact Nat.testBit_or a b t
theorem slotB_bitN (i t : Nat) : slotB (bitN i) t = decide (i = t) := by
  rw [slotB_eq]; exact Nat.testBit_two_pow
theorem slotB_zero (t : Nat) : slotB 0 t = false := by rw [slotB_eq]; exact Nat.zero_testBit t
theorem memN_eq (t : Nat) (l : List Nat) : memN t l = true ↔ t ∈ l := by
  induction l with
  | nil => simp [memN]
  | cons x l ih =>
    change ifb (Nat.beq x t) true (memN t l) = true ↔ _
    rw [ifb_eq]
    by_cases h : x = t
    · subst h; simp
    · rw [if_neg (fun c => h (Nat.eq_of_beq_eq_true c)), ih]
      simp [Ne.symm h]
theorem isD_eq (d : Option Nat) (t : Nat) : isD d t = true ↔ d = some t := by
  cases d with
  | none => simp [isD]
  | some x =>
    change Nat.beq x t = true ↔ _
    constructor
    · intro h; rw [Nat.eq_of_beq_eq_true h]
    · intro h; cases h; exact Nat.beq_refl _
theorem bindsB_eq (e : Edge) : bindsB e = Region.binds .any e := by
  unfold bindsB Region.binds
  cases e.ground <;> rfl
theorem rdyL_eq (E : Nat) (l : List Edge) : rdyL E l = true ↔ ∀ e ∈ l, Region.binds .any e = true → slotB E e.on = true := by
  induction l with
  | nil => simp [rdyL]
  | cons e l ih =>
    change ifb (bindsB e) (ifb (slotB E e.on) (rdyL E l) false) (rdyL E l) = true ↔ _
    rw [bindsB_eq]
    cases hb : Region.binds .any e with
    | false => rw [ifb_false, ih]; simp [hb]
    | true =>
      rw [ifb_true]
      cases hs : slotB E e.on with
      | false => simp [hb, hs]
      | true => rw [ifb_true, ih]; simp [hb, hs]
theorem lowL_ok {i : Nat} {l : List Edge} (h : lowL i l = true) : ∀ e ∈ l, Region.binds .any e = true → e.on < i := by
  induction l with
  | nil => simp
  | cons e l ih =>
    change ifb (bindsB e) (ifb (Nat.blt e.on i) (lowL i l) false) (lowL i l) = true at h
    rw [bindsB_eq] at h
    cases hb : Region.binds .any e with
    | false =>
      rw [hb, ifb_false] at h
      intro e' he' hb'
      rcases List.mem_cons.1 he' with rfl | he'
      · rw [hb] at hb'; cases hb'
      · exact ih h e' he' hb'
    | true =>
      rw [hb, ifb_true] at h
      cases hs : Nat.blt e.on i with
      | false => rw [hs] at h; cases h
      | true =>
        rw [hs, ifb_true] at h
        intro e' he' hb'
        rcases List.mem_cons.1 he' with rfl | he'
        · simpa using hs
        · exact ih h e' he' hb'
inductive Anc (ops : Array Oper) : Nat → Nat → Prop
  | one {i : Nat} {o : Oper} {e : Edge} (h : ops[i]? = some o) (he : e ∈ o.after.toList) (hb : Region.binds .any e = true) : Anc ops i e.on
  | more {i j : Nat} {o : Oper} {e : Edge} (h : ops[i]? = some o) (he : e ∈ o.after.toList) (hb : Region.binds .any e = true) (hj : Anc ops e.on j) : Anc ops i j
def MasksOk (ops : Array Oper) (m : List Nat) : Prop := ∀ i A, m[i]? = some A → ∀ j, slotB A j = true → Anc ops i j
theorem ancL_ok {ops : Array Oper} {m : List Nat} (hm : MasksOk ops m) {i : Nat} {o : Oper} (h : ops[i]? = some o) : ∀ (l : List Edge), (∀ e ∈ l, e ∈ o.after.toList) → ∀ j, slotB (ancL m l) j = true → Anc ops i j := by
  intro l
  induction l with
  | nil => intro _ j hj; change slotB 0 j = true at hj; rw [slotB_zero] at hj; cases hj
  | cons e l ih =>
    intro hl j hj
    change slotB (ifb (bindsB e) (Nat.lor (Nat.lor (bitN e.on) (getN m e.on)) (ancL m l)) (ancL m l)) j = true at hj
    rw [bindsB_eq] at hj
    cases hb : Region.binds .any e with
    | false => rw [hb, ifb_false] at hj; exact ih (fun e he => hl e (List.mem_cons_of_mem _ he)) j hj
    | true =>
      rw [hb, ifb_true, slotB_lor, slotB_lor, slotB_bitN, Bool.or_eq_true, Bool.or_eq_true] at hj
      have he := hl e List.mem_cons_self
      rcases hj with (hj | hj) | hj
      · have : e.on = j := by simpa using hj
        subst this
        exact .one h he hb
      · refine .more h he hb ?_
        unfold getN at hj
        cases hg : m[e.on]? with
        | none => rw [hg] at hj; rw [Option.getD_none, slotB_zero] at hj; cases hj
        | some A => rw [hg] at hj; exact hm _ A hg j hj
      · exact ih (fun e he => hl e (List.mem_cons_of_mem _ he)) j hj
structure RowOk (ops : Array Oper) (r : Row) : Prop where
  o : ops[r.id]? = some r.o
  reads : r.reads = readsOf ops.toList r.o
  anc : ∀ j, slotB r.anc j = true → Anc ops r.id j
theorem rowsL_ok {ops : Array Oper} : ∀ (l : List Oper) (i : Nat) (m : List Nat), (∀ j, l[j]? = ops[i + j]?) → m.length = i → MasksOk ops m →
    (∀ r ∈ rowsL ops.toList l i m, RowOk ops r) ∧ (∀ j, i ≤ j → j < i + l.length → ∃ r ∈ rowsL ops.toList l i m, r.id = j) := by
  intro l
  induction l with
  | nil => intro i m _ _ _; exact ⟨fun r hr => (by cases hr), fun j h1 h2 => (by simp at h2; omega)⟩
  | cons o l ih =>
    intro i m hl hlen hm
    have e : rowsL ops.toList (o :: l) i m = ⟨i, o, readsOf ops.toList o, ancL m o.after.toList⟩ :: rowsL ops.toList l (i + 1) (m ++ [ancL m o.after.toList]) := by
      show force (ancL m o.after.toList) (fun a => (⟨i, o, readsOf ops.toList o, a⟩ : Row) :: force (Nat.succ i) fun j => rowsL ops.toList l j (m ++ [a])) = _
      rw [force_eq, force_eq]
    have hi : ops[i]? = some o := by have := hl 0; simpa using this.symm
    have hA := ancL_ok hm hi o.after.toList (fun _ h => h)
    have hm' : MasksOk ops (m ++ [ancL m o.after.toList]) := by
      intro k A hk j hj
      rcases Nat.lt_or_ge k m.length with q | q
      · rw [List.getElem?_append_left q] at hk; exact hm k A hk j hj
      · rw [List.getElem?_append_right q] at hk
        have : k = m.length := by
          rcases Nat.lt_or_ge (k - m.length) 1 with q2 | q2
          · omega
          · rw [List.getElem?_eq_none (by simpa using q2)] at hk; cases hk
        subst this
        simp at hk
        subst hk
        rw [hlen]; exact hA j hj
    obtain ⟨h1, h2⟩ := ih (i + 1) (m ++ [ancL m o.after.toList]) (fun j => by have := hl (j + 1); simpa [Nat.add_assoc, Nat.add_comm 1 j] using this) (by simp [hlen]) hm'
    rw [e]
    constructor
    · intro r hr
      rcases List.mem_cons.1 hr with rfl | hr
      · exact ⟨hi, rfl, hA⟩
      · exact h1 r hr
    · intro j hj1 hj2
      rcases Nat.lt_or_ge i j with q | q
      · obtain ⟨r, hr, hid⟩ := h2 j q (by simp at hj2; omega)
        exact ⟨r, List.mem_cons_of_mem _ hr, hid⟩
      · exact ⟨_, List.mem_cons_self, by show i = j; omega⟩
theorem allR_ok {p : Row → Bool} {l : List Row} (h : allR p l = true) : ∀ r ∈ l, p r = true := by
  induction l with
  | nil => intro r hr; cases hr
  | cons x l ih =>
    change ifb (p x) (allR p l) false = true at h
    cases hp : p x with
    | false => rw [hp] at h; cases h
    | true =>
      rw [hp, ifb_true] at h
      intro r hr
      rcases List.mem_cons.1 hr with rfl | hr
      · exact hp
      · exact ih h r hr
theorem pickR_some {p : Row → Bool} {l : List Row} {r : Row} (h : pickR p l = some r) : r ∈ l ∧ p r = true := by
  induction l with
  | nil => cases h
  | cons x l ih =>
    change ifb (p x) (some x) (pickR p l) = some r at h
    cases hp : p x with
    | false => rw [hp, ifb_false] at h; obtain ⟨h1, h2⟩ := ih h; exact ⟨List.mem_cons_of_mem _ h1, h2⟩
    | true => rw [hp, ifb_true] at h; cases h; exact ⟨List.mem_cons_self, hp⟩
theorem pickR_none {p : Row → Bool} {l : List Row} (h : pickR p l = none) : ∀ r ∈ l, p r = false := by
  induction l with
  | nil => intro r hr; cases hr
  | cons x l ih =>
    change ifb (p x) (some x) (pickR p l) = none at h
    cases hp : p x with
    | true => rw [hp] at h; cases h
    | false =>
      rw [hp, ifb_false] at h
      intro r hr
      rcases List.mem_cons.1 hr with rfl | hr
      · exact hp
      · exact ih h r hr
theorem dropR_mem {i : Nat} {l : List Row} {r : Row} : r ∈ dropR i l ↔ r ∈ l ∧ r.id ≠ i := by
  induction l with
  | nil => simp [dropR]
  | cons x l ih =>
    change r ∈ ifb (Nat.beq x.id i) (dropR i l) (x :: dropR i l) ↔ _
    rw [ifb_eq]
    split
    · rename_i h
      have := Nat.eq_of_beq_eq_true h
      rw [ih]
      constructor
      · rintro ⟨a, b⟩; exact ⟨List.mem_cons_of_mem _ a, b⟩
      · rintro ⟨a, b⟩
        rcases List.mem_cons.1 a with rfl | a
        · exact absurd this b
        · exact ⟨a, b⟩
    · rename_i h
      have hne : x.id ≠ i := fun q => h (by rw [q]; exact Nat.beq_refl _)
      rw [List.mem_cons, ih]
      constructor
      · rintro (rfl | ⟨a, b⟩)
        · exact ⟨List.mem_cons_self, hne⟩
        · exact ⟨List.mem_cons_of_mem _ a, b⟩
      · rintro ⟨a, b⟩
        rcases List.mem_cons.1 a with rfl | a
        · exact .inl rfl
        · exact .inr ⟨a, b⟩
structure RegOk (ops : Array Oper) (n : Nat) : Prop where
  cmp : ∀ (i j : Nat) (oi oj : Oper) (t : Nat), ops[i]? = some oi → ops[j]? = some oj → oi.dst = some t → (t ∈ readsOf ops.toList oj ∨ oj.dst = some t) → i = j ∨ Anc ops i j ∨ Anc ops j i
  low : ∀ (i : Nat) (o : Oper), ops[i]? = some o → ∀ e ∈ o.after.toList, Region.binds .any e = true → e.on < i
  dst : ∀ (i : Nat) (o : Oper), ops[i]? = some o → okDst n o.dst = true
theorem rowsOk_ok {ops : Array Oper} {n : Nat} {rows : List Row} (hr : ∀ r ∈ rows, RowOk ops r) (hall : ∀ j, j < ops.size → ∃ r ∈ rows, r.id = j) (h : rowsOk n rows = true) : RegOk ops n := by
  have get : ∀ i o, ops[i]? = some o → ∃ r ∈ rows, r.id = i ∧ r.o = o := by
    intro i o hi
    obtain ⟨r, h1, h2⟩ := hall i (Array.getElem?_eq_some_iff.1 hi).1
    refine ⟨r, h1, h2, ?_⟩
    have := (hr r h1).o
    rw [h2, hi] at this
    exact (Option.some.inj this).symm
  have key : ∀ r ∈ rows, (okDst n r.o.dst = true ∧ lowL r.id r.o.after.toList = true) ∧ allR (cmp1 r) rows = true := by
    intro r hm
    have := allR_ok h r hm
    obtain ⟨h1, h2⟩ : (Bool.and (okDst n r.o.dst) (lowL r.id r.o.after.toList)) = true ∧ allR (cmp1 r) rows = true := by
      cases hc : Bool.and (okDst n r.o.dst) (lowL r.id r.o.after.toList) with
      | false => rw [hc] at this; cases this
      | true => rw [hc] at this; exact ⟨rfl, this⟩
    rw [Bool.and_eq_true] at h1
    exact ⟨h1, h2⟩
  refine ⟨?_, ?_, ?_⟩
  · intro i j oi oj t hi hj hd ht
    obtain ⟨ri, hri, ei, eoi⟩ := get i oi hi
    obtain ⟨rj, hrj, ej, eoj⟩ := get j oj hj
    have hc := allR_ok (key ri hri).2 rj hrj
    unfold cmp1 at hc
    rw [eoi, hd] at hc
    change ifb (Bool.or (memN t rj.reads) (isD rj.o.dst t)) (Bool.or (Nat.beq ri.id rj.id) (Bool.or (slotB ri.anc rj.id) (slotB rj.anc ri.id))) true = true at hc
    have h1 : Bool.or (memN t rj.reads) (isD rj.o.dst t) = true := by
      rw [Bool.or_eq_true]
      rcases ht with ht | ht
      · left; rw [memN_eq, (hr rj hrj).reads, eoj]; exact ht
      · right; rw [isD_eq, eoj]; exact ht
    rw [h1, ifb_true, Bool.or_eq_true, Bool.or_eq_true] at hc
    rcases hc with hc | hc | hc
    · left; rw [← ei, ← ej]; exact Nat.eq_of_beq_eq_true hc
    · right; left; have := (hr ri hri).anc _ hc; rwa [ei, ej] at this
    · right; right; have := (hr rj hrj).anc _ hc; rwa [ei, ej] at this
  · intro i o hi
    obtain ⟨r, hm, ei, eo⟩ := get i o hi
    have := lowL_ok (key r hm).1.2
    rw [ei, eo] at this
    exact this
  · intro i o hi
    obtain ⟨r, hm, ei, eo⟩ := get i o hi
    have := (key r hm).1.1
    rwa [eo] at this
theorem sameL_eq {α : Type} {f : α → α → Bool} (hf : ∀ a b, f a b = true → a = b) : ∀ (l m : List α), sameL f l m = true → l = m := by
  intro l
  induction l with
  | nil => intro m h; cases m with | nil => rfl | cons _ _ => cases h
  | cons x l ih =>
    intro m h
    cases m with
    | nil => cases h
    | cons y m =>
      change ifb (f x y) (sameL f l m) false = true at h
      cases hc : f x y with
      | false => rw [hc] at h; cases h
      | true => rw [hc, ifb_true] at h; rw [hf x y hc, ih m h]
theorem sameC_eq {a b : Cap} (h : sameC a b = true) : a = b := by
  cases a <;> cases b <;> first | (cases h; done) | (rw [Nat.eq_of_beq_eq_true h])
theorem beqB_eq {a b : Bool} (h : beqB a b = true) : a = b := by cases a <;> cases b <;> first | rfl | cases h
theorem same_eq (n : Nat) : ∀ (a b : V), same n a b = true → a = b := by
  induction n with
  | zero => intro a b h; cases h
  | succ n ih =>
    intro a b h
    cases a with
    | b x => cases b <;> first | (cases h; done) | (rw [beqB_eq h])
    | n k u => cases b <;> first | (cases h; done) | (obtain ⟨h1, h2⟩ := Bool.and_eq_true _ _ ▸ h; rw [kEq_eq h1, Nat.eq_of_beq_eq_true h2])
    | s l => cases b <;> first | (cases h; done) | (rw [sameL_eq (fun a b => Nat.eq_of_beq_eq_true) _ _ h])
    | p0 => cases b <;> first | (cases h; done) | rfl
    | p c o => cases b <;> first | (cases h; done) | (obtain ⟨h1, h2⟩ := Bool.and_eq_true _ _ ▸ h; rw [Nat.eq_of_beq_eq_true h1, Nat.eq_of_beq_eq_true h2])
    | sl0 => cases b <;> first | (cases h; done) | rfl
    | sl c o n x =>
      cases b with
      | sl d q m y =>
        change Bool.and (Bool.and (Nat.beq c d) (Nat.beq o q)) (Bool.and (Nat.beq n m) (sameC x y)) = true at h
        rw [Bool.and_eq_true, Bool.and_eq_true, Bool.and_eq_true] at h
        obtain ⟨⟨h1, h2⟩, h3, h4⟩ := h
        rw [Nat.eq_of_beq_eq_true h1, Nat.eq_of_beq_eq_true h2, Nat.eq_of_beq_eq_true h3, sameC_eq h4]
      | _ => cases h
    | m0 => cases b <;> first | (cases h; done) | rfl
    | m c => cases b <;> first | (cases h; done) | (rw [Nat.eq_of_beq_eq_true h])
    | f fn x y =>
      cases b with
      | f fn' x' y' =>
        cases fn with
        | func g =>
          cases fn' with
          | func g' =>
            change Bool.and (Nat.beq g g') (Bool.and (sameL (same n) x x') (sameL (same n) y y')) = true at h
            rw [Bool.and_eq_true, Bool.and_eq_true] at h
            obtain ⟨h1, h2, h3⟩ := h
            rw [Nat.eq_of_beq_eq_true h1, sameL_eq ih _ _ h2, sameL_eq ih _ _ h3]
          | _ => cases h
        | _ => cases h
      | _ => cases h
    | f0 => cases b <;> first | (cases h; done) | rfl
    | i t v =>
      cases b with
      | i u w =>
        change Bool.and (Nat.beq t u) (same n v w) = true at h
        rw [Bool.and_eq_true] at h
        rw [Nat.eq_of_beq_eq_true h.1, ih _ _ h.2]
      | _ => cases h
    | i0 => cases b <;> first | (cases h; done) | rfl
    | a l => cases b <;> first | (cases h; done) | (rw [sameL_eq ih _ _ h])
    | t l => cases b <;> first | (cases h; done) | (rw [sameL_eq ih _ _ h])
    | u => cases b <;> first | (cases h; done) | rfl
    | x => cases b <;> first | (cases h; done) | rfl
end Ae
namespace Ae
open Go
section
variable {rd : Option Nat} {cx : Cx} {self : Self} {ops : Array Oper} {m n : Nat}
theorem takeV_inv {K : V → Out} {o : Out} {x : Ex} {fr : Fr} {σ : St} (h : takeV K o = .done x fr σ) : ∃ x1 sl1 v l ds σ1, o = .done x1 ⟨sl1, (v, l) :: ds⟩ σ1 ∧ K v = .done x fr σ := by
  cases o with
  | fail n => cases h
  | done x1 fr1 σ1 =>
    obtain ⟨sl1, ds1⟩ := fr1
    cases ds1 with
    | nil => cases h
    | cons d ds => obtain ⟨v, l⟩ := d; exact ⟨x1, sl1, v, l, ds, σ1, rfl, h⟩
def dstI (ops : Array Oper) (j : Nat) : Option Nat := (ops[j]?).bind (·.dst)
noncomputable def lookT (D : Nat → Bool) (ops : Array Oper) (sl : T V) (t : Nat) : List Nat → List V → Option V
  | j :: ids, v :: env => if D j = true ∧ dstI ops j = some t then some v else lookT D ops sl t ids env
  | _, _ => sl.get t
theorem lookT_pre {D : Nat → Bool} {sl : T V} {t : Nat} {post : List Nat} {postV : List V} : ∀ (pre : List Nat) (preV : List V), preV.length = pre.length → (∀ j ∈ pre, ¬ (D j = true ∧ dstI ops j = some t)) →
    lookT D ops sl t (pre ++ post) (preV ++ postV) = lookT D ops sl t post postV := by
  intro pre
  induction pre with
  | nil => intro preV h _; cases preV with | nil => rfl | cons _ _ => cases h
  | cons j pre ih =>
    intro preV h hn
    cases preV with
    | nil => cases h
    | cons v preV =>
      show (if D j = true ∧ dstI ops j = some t then some v else lookT D ops sl t (pre ++ post) (preV ++ postV)) = _
      rw [if_neg (hn j List.mem_cons_self)]
      exact ih preV (by simpa using h) fun j hj => hn j (List.mem_cons_of_mem _ hj)
theorem lookT_congr {D D' : Nat → Bool} {sl : T V} {t : Nat} : ∀ (ids : List Nat) (env : List V), (∀ j ∈ ids, dstI ops j = some t → D j = D' j) → lookT D ops sl t ids env = lookT D' ops sl t ids env := by
  intro ids
  induction ids with
  | nil => intro env _; rfl
  | cons j ids ih =>
    intro env h
    cases env with
    | nil => rfl
    | cons v env =>
      show (if D j = true ∧ dstI ops j = some t then some v else lookT D ops sl t ids env) = (if D' j = true ∧ dstI ops j = some t then some v else lookT D' ops sl t ids env)
      rw [ih env fun j hj => h j (List.mem_cons_of_mem _ hj)]
      by_cases hd : dstI ops j = some t
      · rw [h j List.mem_cons_self hd]
      · simp [hd]
theorem posO_cons (t : Nat) (x : Option Nat) (l : List (Option Nat)) : posO t (x :: l) = if x = some t then some 0 else (posO t l).map Nat.succ := by
  show ifb (isD x t) (some 0) (Option.rec none (fun k => some (Nat.succ k)) (posO t l)) = _
  rw [ifb_eq]
  by_cases h : x = some t
  · rw [if_pos ((isD_eq x t).2 h), if_pos h]
  · rw [if_neg (fun c => h ((isD_eq x t).1 c)), if_neg h]
    cases posO t l <;> rfl
theorem lookT_pos {sl : T V} {t : Nat} : ∀ (ids : List Nat) (env : List V), env.length = ids.length →
    match posO t (ids.map (dstI ops)) with
    | some k => ∃ v, env[k]? = some v ∧ lookT (fun _ => true) ops sl t ids env = some v
    | none => lookT (fun _ => true) ops sl t ids env = sl.get t := by
  intro ids
  induction ids with
  | nil => intro env h; cases env with | nil => rfl | cons _ _ => cases h
  | cons j ids ih =>
    intro env h
    cases env with
    | nil => cases h
    | cons v env =>
      have := ih env (by simpa using h)
      rw [List.map_cons, posO_cons]
      by_cases hd : dstI ops j = some t
      · rw [if_pos hd]
        exact ⟨v, rfl, by simp [lookT, hd]⟩
      · rw [if_neg hd]
        have e : lookT (fun _ => true) ops sl t (j :: ids) (v :: env) = lookT (fun _ => true) ops sl t ids env := by simp [lookT, hd]
        cases hp : posO t (ids.map (dstI ops)) with
        | none => rw [hp] at this; rw [e]; exact this
        | some k => rw [hp] at this; obtain ⟨u, h1, h2⟩ := this; exact ⟨u, by simpa using h1, by rw [e]; exact h2⟩
theorem accQ {sl : T V} {t : Nat} {ids : List Nat} {env : List V} (hlen : env.length = ids.length) {K : V → Out} {x : Ex} {fr : Fr} {σ : St}
    (h : accK (resQ m (ids.map (dstI ops)) t) env sl K = .done x fr σ) : ∃ v, K v = .done x fr σ ∧ (v = .u ∨ lookT (fun _ => true) ops sl t ids env = some v) := by
  have hp := lookT_pos (ops := ops) (sl := sl) (t := t) ids env hlen
  unfold resQ at h
  cases hq : posO t (ids.map (dstI ops)) with
  | some k =>
    rw [hq] at h hp
    obtain ⟨v, h1, h2⟩ := hp
    change nthK env k K = _ at h
    obtain ⟨u, hu, hk⟩ := nthK_inv h
    rw [h1] at hu; cases hu
    exact ⟨v, hk, .inr h2⟩
  | none =>
    rw [hq] at h hp
    change accK (ifb (slotB m t) (.s (pth t)) (.c .u)) env sl K = _ at h
    cases hb : slotB m t with
    | false => rw [hb] at h; exact ⟨.u, h, .inl rfl⟩
    | true =>
      rw [hb] at h
      change Option.rec (motive := fun _ => Out) (K .u) K (sl.getP (pth t)) = _ at h
      cases hg : sl.getP (pth t) with
      | none => rw [hg] at h; exact ⟨.u, h, .inl rfl⟩
      | some v => rw [hg] at h; exact ⟨v, h, .inr (by rw [hp]; exact hg)⟩
theorem eval_tmp {a : Act} {t : Nat} {v : Value} (h : a.tmps[t]? = some v) : a.eval (.tmp t) = v := by
  show a.tmps.getD t Go.undef = v
  rw [Array.getD_eq_getD_getElem?, h]; rfl
theorem haccD {G : Nat} {μ : Mu} {sl : T V} {ids : List Nat} {env : List V} {reads : List Nat} {a : Act} (hG : Glob G μ) (hlen : env.length = ids.length)
    (hl : ∀ t ∈ reads, ∀ v, lookT (fun _ => true) ops sl t ids env = some v → ∃ v', a.tmps[t]? = some v' ∧ RelV μ v v') : HAcc μ env sl (resD G m reads (ids.map (dstI ops))) a.eval := by
  intro y K x fr σ hk
  cases y with
  | const v => exact ⟨_, ofValue_ok μ 6 v, hk⟩
  | func f => exact ⟨_, .f (.func f) .nil .nil, hk⟩
  | global g =>
    refine ⟨_, ?_, hk⟩
    show RelV μ (ifb (Nat.blt g G) (.p g 0) .u) (.pointer (some ⟨g, 0, none⟩))
    cases hg : Nat.blt g G with
    | false => exact .u _
    | true =>
      obtain ⟨N, e⟩ := hG g (by simpa using hg)
      exact RelV.p (L := ⟨g, 0, N⟩) 0 e
  | tmp t =>
    change accK (ifb (memN t reads) (resQ m (ids.map (dstI ops)) t) (.c .u)) env sl K = _ at hk
    cases hb : memN t reads with
    | false => rw [hb] at hk; exact ⟨.u, .u _, hk⟩
    | true =>
      rw [hb] at hk
      obtain ⟨v, hk1, hv⟩ := accQ hlen hk
      rcases hv with rfl | hv
      · exact ⟨.u, .u _, hk1⟩
      · obtain ⟨v', h1, h2⟩ := hl t ((memN_eq _ _).1 hb) v hv
        exact ⟨v, by rw [eval_tmp h1]; exact h2, hk1⟩
theorem goK_of (G : Nat) (r : Row) (names : List (Option Nat)) (env : List V) (sl : T V) (ds : DS) (σ : St) (K : V → DS → St → Out) :
    goK cx self (goOf cx.P G m ops.toList r names) env sl ds σ K = match r.o.guard with
      | none => coK cx self (dec cx.P (resD G m r.reads names) r.o.op) env sl ds σ K
      | some (j, want) => accK (gAcc G m ops.toList r.reads names j) env sl (onG want (coK cx self (dec cx.P (resD G m r.reads names) r.o.op) env sl ds σ K) (K Ae.undef ds σ)) := by
  unfold goOf goK
  cases r.o.guard with
  | none => rfl
  | some jw => obtain ⟨j, want⟩ := jw; rfl
theorem guard_ok {r : Row} {j : Nat} {want : Bool} (hg : r.o.guard = some (j, want)) {names : List (Option Nat)} {env : List V} {sl : T V} {μ : Mu} {a : Act} (ha : HAcc μ env sl (resD cx.globs m r.reads names) a.eval)
    {KT KF : Out} {x : Ex} {fr : Fr} {σ' : St} (hk : accK (gAcc cx.globs m ops.toList r.reads names j) env sl (onG want KT KF) = .done x fr σ') :
    (Region.wanted r.o (yielded ops a.tmps) = true ∧ KT = .done x fr σ') ∨ (Region.wanted r.o (yielded ops a.tmps) = false ∧ KF = .done x fr σ') := by
  unfold gAcc dstAt at hk
  rw [Array.getElem?_toList] at hk
  cases hb : (ops[j]?).bind (·.dst) with
  | none => rw [hb] at hk; cases hk
  | some d =>
    rw [hb] at hk
    obtain ⟨c, hc, hk1⟩ := ha (.tmp d) _ x fr σ' hk
    exact guard_val hg hb hc hk1
theorem go_ok (hcall : CallT cx self) (hmeth : MethT cx self) {r : Row} {names : List (Option Nat)} {env : List V} {sl : T V} {ds : DS} {σ : St} {K : V → DS → St → Out} {x : Ex} {fr : Fr} {σ' : St}
    (hk : goK cx self (goOf cx.P cx.globs m ops.toList r names) env sl ds σ K = .done x fr σ') {μ : Mu} {w : World} {a : Act} (hm : RelM cx.P μ σ w) (hG : Glob cx.globs μ) (ha : HAcc μ env sl (resD cx.globs m r.reads names) a.eval) (hd : RelD rd μ ds a.defers) :
    WOp rd cx.P ops r.o μ σ w a fun v ds1 σ1 => K v ds1 σ1 = .done x fr σ' := by
  intro i hi next hn
  rw [goK_of] at hk
  cases hg : r.o.guard with
  | none =>
    rw [hg] at hk
    have hr := co_ok hcall hmeth rfl hk hm hG ha hd
    unfold wpOp
    simp only [hi, wanted_none hg, if_true]
    exact hr next hn
  | some jw =>
    obtain ⟨j, want⟩ := jw
    rw [hg] at hk
    rcases guard_ok hg ha hk with ⟨hw, hk2⟩ | ⟨hw, hk2⟩
    · have hr := co_ok hcall hmeth rfl hk2 hm hG ha hd
      unfold wpOp
      simp only [hi, hw, if_true]
      exact hr next hn
    · unfold wpOp
      simp only [hi, hw, Bool.false_eq_true, if_false]
      exact hn Go.undef μ w a.defers Ae.undef ds σ hk2 (Step.refl hm) RelV.undef hd
theorem still_noDf {P : Program} {op : Op} (h : still P op = true) (q : Call) : op ≠ .defer q := by rintro rfl; cases h
theorem goS_ok {r : Row} (hs : still cx.P r.o.op = true) {names : List (Option Nat)} {env : List V} {sl sl1 : T V} {ds : DS} {σ σ1 : St} {v : V} {l : List V} {x1 : Ex} {ds1 : DS}
    (hk : goK cx self (goOf cx.P cx.globs m ops.toList r names) env sl ds σ reify = .done x1 ⟨sl1, (v, l) :: ds1⟩ σ1) {μ : Mu} {w : World} {a : Act} (hm : RelM cx.P μ σ w) (ha : HAcc μ env sl (resD cx.globs m r.reads names) a.eval) :
    ∃ v', RelV μ v v' ∧ ∀ (i : Nat), ops[i]? = some r.o → ∀ (rd : Option Nat) (next : Act → World → Prop), next (a.put r.o.dst v') w → wpOp rd cx.P ops i next a w := by
  obtain ⟨c, hc, hev⟩ := still_ok (P := cx.P) (res := resD cx.globs m r.reads names) r.o.op hs
  have core : coK cx self (.val c) env sl ds σ reify = .done x1 ⟨sl1, (v, l) :: ds1⟩ σ1 → ∃ v', RelV μ v v' ∧ (execOp a.eval r.o).run cx.P w = .ok (.value v') w := by
    intro h
    cases c with
    | mk g =>
      obtain ⟨v1, μ1, σ2, w1, hdo, hk1⟩ := hev hm ha h r.o rfl
      cases hdo with
      | pure _ hr hv => cases hk1; exact ⟨_, hv, hr⟩
  rw [goK_of, hc] at hk
  cases hg : r.o.guard with
  | none =>
    rw [hg] at hk
    obtain ⟨v', hv, hr⟩ := core hk
    refine ⟨v', hv, fun i hi rd next hn => ?_⟩
    unfold wpOp
    simp only [hi, wanted_none hg, if_true]
    refine ⟨.inr (still_noDf hs), ?_⟩
    rw [hr, uponR_value]
    exact hn
  | some jw =>
    obtain ⟨j, want⟩ := jw
    rw [hg] at hk
    rcases guard_ok hg ha hk with ⟨hw, hk2⟩ | ⟨hw, hk2⟩
    · obtain ⟨v', hv, hr⟩ := core hk2
      refine ⟨v', hv, fun i hi rd next hn => ?_⟩
      unfold wpOp
      simp only [hi, hw, if_true]
      refine ⟨.inr (still_noDf hs), ?_⟩
      rw [hr, uponR_value]
      exact hn
    · cases hk2
      refine ⟨Go.undef, RelV.undef, fun i hi rd next hn => ?_⟩
      unfold wpOp
      simp only [hi, hw, Bool.false_eq_true, if_false]
      exact hn
inductive Wf (ops : Array Oper) : List Nat → Prop
  | nil : Wf ops []
  | cons {j : Nat} {o : Oper} {ids : List Nat} (h : Wf ops ids) (hj : j ∉ ids) (ho : ops[j]? = some o) (he : ∀ e ∈ o.after.toList, Region.binds .any e = true → e.on ∈ ids) : Wf ops (j :: ids)
theorem Wf.anc {ids : List Nat} (h : Wf ops ids) : ∀ {i j : Nat}, Anc ops i j → i ∈ ids → j ∈ ids := by
  have one : ∀ {i : Nat} {o : Oper} {e : Edge}, ops[i]? = some o → e ∈ o.after.toList → Region.binds .any e = true → i ∈ ids → e.on ∈ ids := by
    induction h with
    | nil => intro i o e _ _ _ hi; cases hi
    | cons hw hj ho he ih =>
      intro i o e h1 h2 h3 hi
      rcases List.mem_cons.1 hi with rfl | hi
      · rw [ho] at h1; cases h1; exact List.mem_cons_of_mem _ (he e h2 h3)
      · exact List.mem_cons_of_mem _ (ih h1 h2 h3 hi)
  intro i j ha
  induction ha with
  | one h1 h2 h3 => exact one h1 h2 h3
  | more h1 h2 h3 _ ih => exact fun hi => ih (one h1 h2 h3 hi)
theorem Wf.head {i : Nat} {ids : List Nat} (h : Wf ops (i :: ids)) {j : Nat} (ha : Anc ops i j) : j ∈ ids := by
  cases h with
  | cons hw hj ho he =>
    cases ha with
    | one h1 h2 h3 => rw [ho] at h1; cases h1; exact he _ h2 h3
    | more h1 h2 h3 h4 => rw [ho] at h1; cases h1; exact hw.anc h4 (he _ h2 h3)
theorem Wf.suffix {l : List Nat} : ∀ (pre : List Nat), Wf ops (pre ++ l) → Wf ops l := by
  intro pre
  induction pre with
  | nil => exact fun h => h
  | cons j pre ih => intro h; cases h with | cons hw _ _ _ => exact ih hw
theorem Wf.apart {i : Nat} {post : List Nat} : ∀ (pre : List Nat), Wf ops (pre ++ i :: post) → ∀ j ∈ pre, j ≠ i ∧ j ∉ post := by
  intro pre
  induction pre with
  | nil => intro _ j hj; cases hj
  | cons k pre ih =>
    intro h j hj
    cases h with
    | cons hw hk _ _ =>
      rcases List.mem_cons.1 hj with rfl | hj
      · have hk : _ ∉ pre ++ i :: post := hk
        rw [List.mem_append, List.mem_cons] at hk
        exact ⟨fun e => hk (.inr (.inl e)), fun e => hk (.inr (.inr e))⟩
      · exact ih hw j hj
theorem Wf.notin {i : Nat} {ids : List Nat} (h : Wf ops (i :: ids)) : i ∉ ids := by cases h with | cons _ hj _ _ => exact hj
end
end Ae
namespace Ae
open Go
theorem isNone_eq {α : Type} {o : Option α} (h : isNone o = true) : o = none := by cases o with | none => rfl | some _ => cases h
theorem notT_ok {t : Nat} {x : Operand} (h : notT t x = true) : x ≠ .tmp t := by
  intro e
  subst e
  change Bool.not (Nat.beq t t) = true at h
  rw [Nat.beq_refl] at h; cases h
structure LitOk (P : Program) (ops : Array Oper) (l : Lit) : Prop where
  made : ∃ (o : Oper) (t : TypeId), ops[l.jm]? = some o ∧ o.op = .makeMap t none ∧ o.dst = some l.tm ∧ o.guard = none
  only : ∀ (i : Nat) (o : Oper), ops[i]? = some o → o.dst = some l.tm → i = l.jm
  ins : ∀ (i : Nat) (o : Oper), ops[i]? = some o → isIns o.op = true → ∃ kc x, o.op = .insert l.t (.tmp l.tm) (.const kc) x ∧ o.dst = none ∧ o.guard = none ∧ Anc ops i l.jm ∧ keyOk P l.t kc = true ∧ x ≠ .tmp l.tm
  rd : ∀ (i : Nat) (o : Oper), ops[i]? = some o → isIns o.op = false → l.tm ∈ readsOf ops.toList o → Anc ops i l.jm ∧ ∀ (j : Nat) (q : Oper), ops[j]? = some q → isIns q.op = true → Anc ops i j
  un : ∀ (i j : Nat) (o q : Oper) (a b : Value) (x y : Operand), i ≠ j → ops[i]? = some o → ops[j]? = some q → o.op = .insert l.t (.tmp l.tm) (.const a) x → q.op = .insert l.t (.tmp l.tm) (.const b) y → Region.surelyUnlike (.const a) (.const b) = true
  one : ∃ (i : Nat) (o : Oper), ops[i]? = some o ∧ isIns o.op = true
def LitAll (P : Program) (ops : Array Oper) : Option Lit → Prop
  | none => ∀ (i : Nat) (o : Oper), ops[i]? = some o → isIns o.op = false
  | some l => LitOk P ops l
theorem ifb_true' {c a : Bool} (h : ifb c a false = true) : c = true ∧ a = true := by cases c <;> first | exact ⟨rfl, h⟩ | cases h
theorem litCk_ok {P : Program} {ops : Array Oper} {rows : List Row} (hr : ∀ r ∈ rows, RowOk ops r) (hall : ∀ j, j < ops.size → ∃ r ∈ rows, r.id = j) (h : litCk P (litOf rows) rows = true) : LitAll P ops (litOf rows) := by
  have get : ∀ (i : Nat) (o : Oper), ops[i]? = some o → ∃ r ∈ rows, r.id = i ∧ r.o = o := by
    intro i o hi
    obtain ⟨r, h1, h2⟩ := hall i (Array.getElem?_eq_some_iff.1 hi).1
    refine ⟨r, h1, h2, ?_⟩
    have := (hr r h1).o
    rw [h2, hi] at this
    exact (Option.some.inj this).symm
  cases hl : litOf rows with
  | none =>
    rw [hl] at h
    intro i o hi
    obtain ⟨r, h1, _, h3⟩ := get i o hi
    have := allR_ok h r h1
    rw [h3] at this
    cases hb : isIns o.op with
    | false => rfl
    | true => rw [hb] at this; cases this
  | some l =>
    rw [hl] at h
    have key : ∀ r ∈ rows, insOk P l r = true ∧ mkOk l r = true ∧ rdOk l rows r = true ∧ unOk rows r = true := by
      intro r hm
      have := allR_ok (p := fun r => ifb (insOk P l r) (ifb (mkOk l r) (ifb (rdOk l rows r) (unOk rows r) false) false) false) h r hm
      obtain ⟨h1, h2⟩ := ifb_true' this
      obtain ⟨h3, h4⟩ := ifb_true' h2
      obtain ⟨h5, h6⟩ := ifb_true' h4
      exact ⟨h1, h3, h5, h6⟩
    -- where the literal was found
    have found : ∃ r ∈ rows, isIns r.o.op = true ∧ ∃ q ∈ rows, q.id = l.jm ∧ q.o.dst = some l.tm := by
      unfold litOf at hl
      cases hp : pickR (fun r => isIns r.o.op) rows with
      | none => rw [hp] at hl; cases hl
      | some r =>
        rw [hp] at hl
        obtain ⟨h1, h2⟩ := pickR_some hp
        refine ⟨r, h1, h2, ?_⟩
        simp only at hl
        split at hl
        · rename_i t tm k x hop
          cases hq : pickR (fun q => isD q.o.dst tm) rows with
          | none => rw [hq] at hl; cases hl
          | some q =>
            rw [hq] at hl
            obtain ⟨h3, h4⟩ := pickR_some hq
            cases hl
            exact ⟨q, h3, rfl, (isD_eq _ _).1 h4⟩
        · cases hl
    obtain ⟨r1, hr1, hi1, q1, hq1, hqid, hqd⟩ := found
    refine ⟨?_, ?_, ?_, ?_, ?_, ⟨r1.id, r1.o, (hr r1 hr1).o, hi1⟩⟩
    · obtain ⟨_, h2, _, _⟩ := key q1 hq1
      unfold mkOk at h2
      rw [hqid, Nat.beq_refl, ifb_true] at h2
      split at h2
      · rename_i t hop
        rw [Bool.and_eq_true] at h2
        exact ⟨q1.o, t, by rw [← hqid]; exact (hr q1 hq1).o, hop, (isD_eq _ _).1 h2.1, isNone_eq h2.2⟩
      · cases h2
    · intro i o hi hd
      obtain ⟨r, h1, h2, h3⟩ := get i o hi
      obtain ⟨_, h4, _, _⟩ := key r h1
      unfold mkOk at h4
      rw [ifb_eq] at h4
      split at h4
      · rename_i hb; rw [← h2]; exact Nat.eq_of_beq_eq_true hb
      · rw [h3, (isD_eq _ _).2 hd] at h4; cases h4
    · intro i o hi hs
      obtain ⟨r, h1, h2, h3⟩ := get i o hi
      obtain ⟨h4, _, _, _⟩ := key r h1
      unfold insOk at h4
      rw [h3] at h4
      split at h4
      · rename_i t tm k x hop
        simp only [Bool.and_eq_true] at h4
        obtain ⟨⟨g1, g2⟩, ⟨g3, g4⟩, ⟨g5, g6⟩, g7⟩ := h4
        have e1 := Nat.eq_of_beq_eq_true g1
        have e2 := Nat.eq_of_beq_eq_true g2
        subst e1 e2
        exact ⟨k, x, hop, isNone_eq g3, isNone_eq g4, h2 ▸ (hr r h1).anc _ g5, g6, notT_ok g7⟩
      · cases h4
      · rename_i q1 q2
        cases hop : o.op with
        | insert t m k x => exact absurd hop (q2 t m k x)
        | _ => rw [hop] at hs; cases hs
    · intro i o hi hs ht
      obtain ⟨r, h1, h2, h3⟩ := get i o hi
      obtain ⟨_, _, h5, _⟩ := key r h1
      unfold rdOk at h5
      rw [h3, hs, (memN_eq _ _).2 (by rw [(hr r h1).reads, h3]; exact ht)] at h5
      change Bool.and (slotB r.anc l.jm) (allR (fun q => ifb (isIns q.o.op) (slotB r.anc q.id) true) rows) = true at h5
      rw [Bool.and_eq_true] at h5
      refine ⟨h2 ▸ (hr r h1).anc _ h5.1, fun j q hj hq => ?_⟩
      obtain ⟨r', g1, g2, g3⟩ := get j q hj
      have := allR_ok h5.2 r' g1
      rw [g3, hq, ifb_true, g2] at this
      exact h2 ▸ (hr r h1).anc _ this
    · intro i j o q a b x y hij hi hj ho hq
      obtain ⟨r, h1, h2, h3⟩ := get i o hi
      obtain ⟨r', g1, g2, g3⟩ := get j q hj
      obtain ⟨_, _, _, h6⟩ := key r h1
      unfold unOk at h6
      have hir : isIns r.o.op = true := by rw [h3, ho]; rfl
      rw [hir, ifb_true] at h6
      have := allR_ok h6 r' g1
      have hiq : isIns r'.o.op = true := by rw [g3, hq]; rfl
      rw [hiq, ifb_true, ifb_eq] at this
      rw [if_neg (fun c => hij (by rw [← h2, ← g2, Nat.eq_of_beq_eq_true c]))] at this
      rw [h3, g3, ho, hq] at this
      exact this
theorem unlike_ok {a b : Value} (h : Region.surelyUnlike (.const a) (.const b) = true) {c c' : Nat} (ha : keyC (ofValue 6 a) = some c) (hb : keyC (ofValue 6 b) = some c') : c = c' ∧ ofValue 6 a ≠ ofValue 6 b := by
  have ne : a ≠ b := by
    intro e
    subst e
    cases a <;> first
      | (cases h; done)
      | (simp [Region.surelyUnlike] at h; done)
      | (rename_i x
         have hx : (x != x) = true := h
         rw [bne, show (x == x) = true from ba_refl x] at hx
         cases hx)
  refine ⟨?_, fun e => ne ?_⟩
  · cases a with
    | int j x =>
      cases b with
      | int k y =>
        have hjk : j = k := by
          simp only [Region.surelyUnlike, Bool.and_eq_true, beq_iff_eq] at h
          exact h.1
        subst hjk
        change keyC (ifb (decide (j.wrap x = x)) (.n j (ofI j x)) .u) = some c at ha
        change keyC (ifb (decide (j.wrap y = y)) (.n j (ofI j y)) .u) = some c' at hb
        cases hx : decide (j.wrap x = x) <;> rw [hx] at ha <;> cases hy : decide (j.wrap y = y) <;> rw [hy] at hb <;> first | (cases ha; done) | (cases hb; done) | skip
        cases ha; cases hb; rfl
      | _ => cases h
    | string x =>
      cases b with
      | string y =>
        change keyC (ifb (decide (x.size < 9223372036854775808)) (.s (x.data.toList.map UInt8.toNat)) .u) = some c at ha
        change keyC (ifb (decide (y.size < 9223372036854775808)) (.s (y.data.toList.map UInt8.toNat)) .u) = some c' at hb
        cases hx : decide (x.size < 9223372036854775808) <;> rw [hx] at ha <;> cases hy : decide (y.size < 9223372036854775808) <;> rw [hy] at hb <;> first | (cases ha; done) | (cases hb; done) | skip
        cases ha; cases hb; rfl
      | _ => cases h
    | bool x =>
      cases b with
      | bool y => cases ha; cases hb; rfl
      | _ => cases h
    | _ => cases h
  · have h1 := ofValue_ok (fun _ => none) 6 a
    have h2 := ofValue_ok (fun _ => none) 6 b
    rw [e] at h1
    exact key_det hb h1 h2
theorem keyOk_ok {P : Program} {t : Nat} {k : Value} (h : keyOk P t k = true) : ∃ kt et, P.underlying t = some (.map kt et) ∧ plainKey P kt (ofValue 6 k) = true := by
  unfold keyOk at h
  split at h
  · rename_i kt et hu; exact ⟨kt, et, hu, h⟩
  · cases h
theorem accK_val {y : Acc} {env : List V} {sl : T V} {K : V → Out} {x : Ex} {fr : Fr} {σ : St} (h : accK y env sl K = .done x fr σ) : ∃ v, ∀ K', accK y env sl K' = K' v := by
  cases y with
  | e k =>
    change nthK env k K = _ at h
    obtain ⟨v, hv, _⟩ := nthK_inv h
    refine ⟨v, fun K' => ?_⟩
    show nthK env k K' = _
    rw [nthK_eq, hv]
  | s p =>
    cases hg : sl.getP p with
    | none => exact ⟨.u, fun K' => by show Option.rec (motive := fun _ => Out) (K' .u) K' (sl.getP p) = _; rw [hg]⟩
    | some v => exact ⟨v, fun K' => by show Option.rec (motive := fun _ => Out) (K' .u) K' (sl.getP p) = _; rw [hg]⟩
  | c v => exact ⟨v, fun _ => rfl⟩
theorem RelM.free {P : Program} {μ : Mu} {σ : St} {w : World} (h : RelM P μ σ w) {c : Nat} (hc : ¬ Held μ σ c) (o : Obj) : RelM P μ σ { w with heap := w.heap.setIfInBounds c o } := by
  refine ⟨fun b x L hb hL => ?_, h.inj, h.top, fun b L e => by show L.c < (w.heap.setIfInBounds c o).size; rw [Array.size_setIfInBounds]; exact h.inb b L e, h.emp⟩
  by_cases hd : x.live
  · have hne : c ≠ L.c := fun e => hc ⟨b, x, L, hb, hd, hL, e.symm⟩
    refine (h.blk b x L hb hL).of_heap (Mu.le_refl μ) ?_
    show (w.heap.setIfInBounds c o)[L.c]? = _
    rw [Array.getElem?_setIfInBounds, if_neg hne]
  · cases x with
    | dead => trivial
    | _ => exact absurd trivial hd
theorem Step.free {P : Program} {μ0 μ : Mu} {σ0 σ : St} {w0 w : World} (h : Step P μ0 σ0 w0 μ σ w) {c : Nat} (hc : ¬ Held μ σ c) (h0 : w0.heap.size ≤ c) (o : Obj) : Step P μ0 σ0 w0 μ σ { w with heap := w.heap.setIfInBounds c o } := by
  refine ⟨h.le, h.rel.free hc o, ⟨h.rest.tape, h.rest.os, h.rest.output, by show w0.heap.size ≤ (w.heap.setIfInBounds c o).size; rw [Array.size_setIfInBounds]; exact h.rest.size, fun k cs t fr ht e => by
    obtain ⟨cs1, e1⟩ := h.rest.keep k cs t fr ht e
    have hk : k < w0.heap.size := by
      rcases Nat.lt_or_ge k w0.heap.size with q | q
      · exact q
      · rw [Array.getElem?_eq_none q] at e; cases e
    exact ⟨cs1, by show (w.heap.setIfInBounds c o)[k]? = _; rw [Array.getElem?_setIfInBounds, if_neg (by omega)]; exact e1⟩⟩, fun k hk hn => ?_, h.held, h.next, h.hid⟩
  rw [← h.frame k hk hn]
  show (w.heap.setIfInBounds c o)[k]? = _
  rw [Array.getElem?_setIfInBounds, if_neg (by omega)]
theorem Step.grow {P : Program} {μ : Mu} {σ : St} {w : World} (h : RelM P μ σ w) (o : Obj) : Step P μ σ w μ σ { w with heap := w.heap.push o } := by
  have old : ∀ c, c < w.heap.size → ({ w with heap := w.heap.push o } : World).heap[c]? = w.heap[c]? := fun c hcs => by
    show (w.heap.push o)[c]? = _
    rw [Array.getElem?_push, if_neg (by omega)]
  refine ⟨Mu.le_refl μ, ⟨fun b x L hb hL => (h.blk b x L hb hL).of_heap (Mu.le_refl μ) (old _ (h.inb b L hL)), h.inj, h.top, fun b L e => by show L.c < (w.heap.push o).size; rw [Array.size_push]; have := h.inb b L e; omega, h.emp⟩,
    ⟨rfl, rfl, rfl, by simp, keep_push o⟩, fun c hc _ => old c hc, fun _ _ hh => hh, Nat.le_refl _, fun _ _ e => ⟨e, rfl⟩⟩
theorem Step.hide {P : Program} {μ : Mu} {σ : St} {w : World} (h : RelM P μ σ w) (x : Blk) : Step P μ σ w μ ⟨σ.heap.set x σ.next, σ.next + 1⟩ w := by
  have hn : μ σ.next = none := h.top _ (Nat.le_refl _)
  have get : ∀ b y L, (σ.heap.set x σ.next).get b = some y → μ b = some L → σ.heap.get b = some y := by
    intro b y L hb hL
    rw [T.get_set] at hb
    by_cases e : b = σ.next
    · subst e; rw [hn] at hL; cases hL
    · rw [if_neg e] at hb; exact hb
  refine ⟨Mu.le_refl μ, ⟨fun b y L hb hL => h.blk b y L (get b y L hb hL) hL, fun b b' y y' L L' hne hb hb' hl hl' hL hL' => h.inj b b' y y' L L' hne (get b y L hb hL) (get b' y' L' hb' hL') hl hl' hL hL',
    fun b hb => h.top b (by have : σ.next + 1 ≤ b := hb; omega), h.inb, fun b hb => by
      show (σ.heap.set x σ.next).get b = none
      have hb : σ.next + 1 ≤ b := hb
      rw [T.get_set, if_neg (by omega)]; exact h.emp b (by omega)⟩, Rest.refl w, fun _ _ _ => rfl, ?_, Nat.le_succ _, fun b hb e => ⟨e, by show (σ.heap.set x σ.next).get b = _; rw [T.get_set, if_neg (Nat.ne_of_lt hb)]⟩⟩
  rintro c _ ⟨b, y, L, hb, hl, hL, rfl⟩
  exact ⟨b, y, L, get b y L hb hL, hl, hL, rfl⟩
theorem hide_held {μ : Mu} {σ : St} (hn : μ σ.next = none) (x : Blk) {c : Nat} (h : ¬ Held μ σ c) : ¬ Held μ ⟨σ.heap.set x σ.next, σ.next + 1⟩ c := by
  rintro ⟨b, y, L, hb, hl, hL, rfl⟩
  rw [T.get_set] at hb
  by_cases e : b = σ.next
  · subst e; rw [hn] at hL; cases hL
  · rw [if_neg e] at hb; exact h ⟨b, y, L, hb, hl, hL, rfl⟩
theorem Step.hset {P : Program} {μ0 μ : Mu} {σ0 σ : St} {w0 w : World} (h : Step P μ0 σ0 w0 μ σ w) {m : Nat} (hm : μ m = none) (h0 : σ0.next ≤ m) (hms : m < σ.next) (x : Blk) : Step P μ0 σ0 w0 μ ⟨σ.heap.set x m, σ.next⟩ w := by
  have get : ∀ b y L, (σ.heap.set x m).get b = some y → μ b = some L → σ.heap.get b = some y := by
    intro b y L hb hL
    rw [T.get_set] at hb
    by_cases e : b = m
    · subst e; rw [hm] at hL; cases hL
    · rw [if_neg e] at hb; exact hb
  have r := h.rel
  refine ⟨h.le, ⟨fun b y L hb hL => r.blk b y L (get b y L hb hL) hL, fun b b' y y' L L' hne hb hb' hl hl' hL hL' => r.inj b b' y y' L L' hne (get b y L hb hL) (get b' y' L' hb' hL') hl hl' hL hL', r.top, r.inb, fun b hb => by
      show (σ.heap.set x m).get b = none
      have hb : σ.next ≤ b := hb
      rw [T.get_set, if_neg (by omega)]; exact r.emp b hb⟩, h.rest, h.frame, ?_, h.next, fun b hb e => ?_⟩
  · rintro c hc ⟨b, y, L, hb, hl, hL, rfl⟩
    exact h.held _ hc ⟨b, y, L, get b y L hb hL, hl, hL, rfl⟩
  · obtain ⟨e1, e2⟩ := h.hid b hb e
    exact ⟨e1, by show (σ.heap.set x m).get b = _; rw [T.get_set, if_neg (by omega)]; exact e2⟩
theorem hset_held {μ : Mu} {σ : St} {m : Nat} (hm : μ m = none) (x : Blk) {c : Nat} (h : ¬ Held μ σ c) : ¬ Held μ ⟨σ.heap.set x m, σ.next⟩ c := by
  rintro ⟨b, y, L, hb, hl, hL, rfl⟩
  rw [T.get_set] at hb
  by_cases e : b = m
  · subst e; rw [hm] at hL; cases hL
  · rw [if_neg e] at hb; exact h ⟨b, y, L, hb, hl, hL, rfl⟩
theorem Step.show {P : Program} {μ0 μ : Mu} {σ0 σ : St} {w0 w : World} (h : Step P μ0 σ0 w0 μ σ w) {m : Nat} (hm : μ m = none) (h0 : σ0.next ≤ m) (hms : m < σ.next) {y : Blk} (hy : σ.heap.get m = some y) {L : Loc} (hL0 : w0.heap.size ≤ L.c) (hLs : L.c < w.heap.size) (hc : ¬ Held μ σ L.c)
    (hx : RelB P (fun b => if b = m then some L else μ b) L w y) : Step P μ0 σ0 w0 (fun b => if b = m then some L else μ b) σ w := by
  have hle : μ.le (fun b => if b = m then some L else μ b) := by
    intro b M hM
    by_cases e : b = m
    · subst e; rw [hm] at hM; cases hM
    · show (if b = m then some L else μ b) = _
      rw [if_neg e]; exact hM
  have mu : ∀ b, b ≠ m → (if b = m then some L else μ b) = μ b := fun b e => if_neg e
  have r := h.rel
  refine ⟨Mu.le_trans h.le hle, ⟨?_, ?_, ?_, ?_, r.emp⟩, h.rest, h.frame, ?_, h.next, ?_⟩
  · intro b z M hb hM
    by_cases e : b = m
    · subst e; rw [hy] at hb; cases hb; simp at hM; subst hM; exact hx
    · simp only [e, if_false] at hM; exact (r.blk b z M hb hM).of_heap hle rfl
  · intro b b' z z' M M' hne hb hb' hl hl' hM hM'
    by_cases e : b = m
    · have e' : b' ≠ m := fun q => hne (e.trans q.symm)
      simp only [e, e', if_true, if_false] at hM hM'
      cases hM
      exact fun q => hc ⟨b', z', M', hb', hl', hM', q.symm⟩
    · simp only [e, if_false] at hM
      by_cases e' : b' = m
      · simp only [e', if_true] at hM'
        cases hM'
        exact fun q => hc ⟨b, z, M, hb, hl, hM, q⟩
      · simp only [e', if_false] at hM'; exact r.inj b b' z z' M M' hne hb hb' hl hl' hM hM'
  · intro b hb
    show (if b = m then some L else μ b) = none
    rw [if_neg (by omega)]; exact r.top b hb
  · intro b M hM
    by_cases e : b = m
    · simp only [e, if_true] at hM; cases hM; exact hLs
    · simp only [e, if_false] at hM; exact r.inb b M hM
  · rintro c hcs ⟨b, z, M, hb, hl, hM, rfl⟩
    by_cases e : b = m
    · simp only [e, if_true] at hM; cases hM; omega
    · simp only [e, if_false] at hM; exact h.held _ hcs ⟨b, z, M, hb, hl, hM, rfl⟩
  · intro b hb e
    obtain ⟨e1, e2⟩ := h.hid b hb e
    exact ⟨by show (if b = m then some L else μ b) = none; rw [if_neg (by omega)]; exact e1, e2⟩
end Ae
namespace Ae
open Go
inductive AtB (b : Nat) : V → Prop
  | p : AtB b (.p b 0)
  | m : AtB b (.m b)
  | s (l c : Nat) : AtB b (.sl b 0 l (.k c))
def Late (cx : Cx) (ops : Array Oper) (m : Nat) (sl : T V) (r : Row) (post : List Nat) (postV : List V) (v : V) (blk : Blk) : Prop :=
  ∀ ⦃μ : Mu⦄ ⦃w : World⦄ ⦃a : Act⦄, HAcc μ postV sl (resD cx.globs m r.reads (post.map (dstI ops))) a.eval →
    ∃ (v' : Value) (obj : Obj) (N : Nat), (execOp a.eval r.o).run cx.P w = .ok (.value v') { w with heap := w.heap.push obj } ∧
      (∀ (μ' : Mu) (w' : World), μ.le μ' → w'.heap[w.heap.size]? = some obj → RelB cx.P μ' ⟨w.heap.size, 0, N⟩ w' blk) ∧
      (∀ (μ' : Mu) (b : Nat), AtB b v → μ' b = some ⟨w.heap.size, 0, N⟩ → RelV μ' v v')
theorem known_of {K : V → Out} {v : V} (h : v ≠ .u) : known K v = K v := by cases v <;> first | rfl | exact absurd rfl h
theorem fillK_val {res : Operand → Acc} {env : List V} {sl : T V} {place : Nat → Option (Nat × Nat)} {n : Nat} {x : Ex} {fr : Fr} {σ' : St} :
    ∀ (ps : List (Nat × Operand)) (t : T V) (K : T V → Out), fillK place (decParts res ps) n env sl t K = .done x fr σ' → ∃ t', ∀ K' : T V → Out, fillK place (decParts res ps) n env sl t K' = K' t' := by
  intro ps
  induction ps with
  | nil => intro t K _; exact ⟨t, fun _ => rfl⟩
  | cons p ps ih =>
    intro t K hk
    have key : ∀ K : T V → Out, fillK place (decParts res (p :: ps)) n env sl t K = (match place p.1 with | some (off, size) => accK (res p.2) env sl (known fun v => ifb (Bool.and (Nat.beq (lenL v.cells) size) (Nat.ble (Nat.add off size) n)) (stK v.cells t off fun t => fillK place (decParts res ps) n env sl t K) (.fail 41)) | none => .fail 41) := fun _ => rfl
    rw [key] at hk
    cases hp : place p.1 with
    | none => rw [hp] at hk; cases hk
    | some os =>
      obtain ⟨off, size⟩ := os
      rw [hp] at hk
      obtain ⟨v, hv⟩ := accK_val hk
      simp only [hv] at hk
      obtain ⟨hu, hk2⟩ := known_inv hk
      obtain ⟨hc1, hk3⟩ := ifb_inv hk2
      rw [stK_eq] at hk3
      obtain ⟨t', ht'⟩ := ih _ _ hk3
      refine ⟨t', fun K' => ?_⟩
      rw [key, hp]
      simp only [hv]
      rw [known_of hu, hc1, ifb_eq, if_pos rfl, stK_eq, ht']
section
variable {cx : Cx} {self : Self} {ops : Array Oper} {m : Nat}
theorem al_early {r : Row} (hal : isAl r.o.op = true) (hg : r.o.guard = none) {ids : List Nat} {env : List V} {sl : T V} {ds : DS} {σ : St} {K : V → DS → St → Out} {x : Ex} {fr : Fr} {σ' : St}
    (hk : goK cx self (goOf cx.P cx.globs m ops.toList r (ids.map (dstI ops))) env sl ds σ K = .done x fr σ') :
    ∃ v blk, K v ds ⟨σ.heap.set blk σ.next, σ.next + 1⟩ = .done x fr σ' ∧ AtB σ.next v ∧ Late cx ops m sl r ids env v blk := by
  rw [goK_of, hg] at hk
  simp only at hk
  cases hop : r.o.op with
  | alloc e =>
    rw [hop] at hk
    have hk1 : decAlloc cx.P e env sl σ (fun v σ => K v ds σ) = .done x fr σ' := hk
    unfold decAlloc at hk1
    cases hz : zero? cx.P e with
    | none => rw [hz] at hk1; cases hk1
    | some z =>
      rw [hz] at hk1
      obtain ⟨zv, hrun, -, hcells, -⟩ := zero_ok hz
      have hk1 : σ.zerosK e z.cells (lenL z.cells) (fun b σ => K (.p b 0) ds σ) = .done x fr σ' := hk1
      rw [St.zerosK_eq] at hk1
      refine ⟨_, _, hk1, .p, fun μ w a _ => ⟨.pointer (some ⟨w.heap.size, 0, none⟩), .cells zv.cells e (0, 0), zv.cells.size, ?_, ?_, ?_⟩⟩
      · simp [execOp, hop, Instr.alloc, hrun w, newVar, newRow]
      · intro μ' w' hle hw
        have rr := hcells μ'
        have hl := RelL.length rr
        refine ⟨zv.cells, (0, 0), hw, rfl, by rw [lenL_eq, hl]; simp, free_zero _, fun h => (by cases h), ?_⟩
        intro j v hv
        obtain ⟨hj, hv⟩ := cellAt_zero _ _ _ _ hv
        rw [lenL_eq] at hj
        rw [Nat.mod_eq_of_lt hj] at hv
        obtain ⟨v', h1, h2⟩ := RelL.get rr j v hv
        exact ⟨v', by simpa using h1, h2⟩
      · intro μ' b hb hL
        cases hb
        have := RelV.p (L := ⟨w.heap.size, 0, zv.cells.size⟩) 0 hL
        simpa using this
  | box e y =>
    rw [hop] at hk
    have hk1 : accK (resD cx.globs m r.reads (ids.map (dstI ops)) y) env sl (known fun v => σ.rowK e v.cells false fun b σ => K (.p b 0) ds σ) = .done x fr σ' := hk
    obtain ⟨u, hu⟩ := accK_val hk1
    rw [hu] at hk1
    obtain ⟨hne, hk2⟩ := known_inv hk1
    rw [St.rowK_eq] at hk2
    refine ⟨_, _, hk2, .p, fun μ w a ha => ?_⟩
    obtain ⟨u2, hu2, hk3⟩ := ha y (fun v => .done .ret ⟨.e, [(v, [])]⟩ ⟨.e, 0⟩) .ret ⟨.e, [(u, [])]⟩ ⟨.e, 0⟩ (hu _)
    have : u2 = u := by injection hk3 with _ h1 _; injection h1 with _ h1; injection h1 with h1 _; injection h1
    subst this
    have rr := cells_rel hu2 hne
    refine ⟨.pointer (some ⟨w.heap.size, 0, none⟩), .cells (a.eval y).cells e (0, 0), (a.eval y).cells.size, ?_, ?_, ?_⟩
    · simp [execOp, hop, Instr.box, newVar, newRow]
    · intro μ' w' hle hw
      have hl := RelL.length rr
      refine ⟨(a.eval y).cells, (0, 0), hw, rfl, by rw [hl]; simp, free_zero _, fun h => (by cases h), ?_⟩
      intro j v hv
      obtain ⟨v', h1, h2⟩ := RelL.get rr j v (cellAt_list _ j v hv)
      exact ⟨v', by simpa using h1, h2.mono hle⟩
    · intro μ' b hb hL
      cases hb
      have := RelV.p (L := ⟨w.heap.size, 0, (a.eval y).cells.size⟩) 0 hL
      simpa using this
  | makeMap t q =>
    cases q with
    | some q => rw [hop] at hal; cases hal
    | none =>
      rw [hop] at hk
      have hk1 : σ.newK (.map []) (fun b σ => K (.m b) ds σ) = .done x fr σ' := hk
      rw [St.newK_eq] at hk1
      refine ⟨_, _, hk1, .m, fun μ w a _ => ⟨.map (some w.heap.size), .map #[] 0, 0, ?_, ?_, ?_⟩⟩
      · simp [execOp, hop, Instr.makeMap, newObj, Sem.run]
      · intro μ' w' _ hw; exact ⟨#[], 0, hw, RelE.nil _, Born.nil 0⟩
      · intro μ' b hb hL
        cases hb
        exact RelV.m (L := ⟨w.heap.size, 0, 0⟩) hL
  | makeSlice t l c =>
    rw [hop] at hk
    have hk1 : decMake cx.P (resD cx.globs m r.reads (ids.map (dstI ops))) t l c env sl σ (fun v σ => K v ds σ) = .done x fr σ' := hk
    unfold decMake at hk1
    cases hu : cx.P.underlying t with
    | none => rw [hu] at hk1; cases hk1
    | some dd =>
    rw [hu] at hk1
    cases dd with
    | slice el =>
      cases hz : zero? cx.P el with
      | none => simp only [hz] at hk1; cases hk1
      | some z =>
        simp only [hz] at hk1
        obtain ⟨zv, hrun, -, hcells, i, hi⟩ := zero_ok hz
        obtain ⟨u1, hu1⟩ := accK_val hk1
        rw [show oMake el z.cells (sz cx.P el) (cx.P.bytesOf el) (resD cx.globs m r.reads (ids.map (dstI ops)) l) (resD cx.globs m r.reads (ids.map (dstI ops)) c) env sl σ (fun v σ => K v ds σ) = accK (resD cx.globs m r.reads (ids.map (dstI ops)) l) env sl (onN (.fail 144) fun k l => accK (resD cx.globs m r.reads (ids.map (dstI ops)) c) env sl (onN (.fail 144) fun k' c => ifb (Bool.and (Nat.beq (kn k) 3) (Nat.beq (kn k') 3)) (makeS el z.cells (sz cx.P el) (cx.P.bytesOf el) l c σ (fun v σ => K v ds σ)) (.fail 143))) from rfl, hu1] at hk1
        obtain ⟨k1, ul, ev1, hk2⟩ := onN_inv hk1
        obtain ⟨u2, hu2⟩ := accK_val hk2
        rw [hu2] at hk2
        obtain ⟨k2, uc, ev2, hk4⟩ := onN_inv hk2
        obtain ⟨hkk, hk5⟩ := ifb_inv hk4
        rw [Bool.and_eq_true] at hkk
        have e1 := kn3 hkk.1
        have e2 := kn3 hkk.2
        subst e1 e2
        unfold makeS at hk5
        obtain ⟨hb, hk6⟩ := ifb_inv hk5
        obtain ⟨hc, hk7⟩ := ifb_inv' hk6
        rw [Bool.and_eq_true] at hb
        have hlc : ul ≤ uc := Nat.le_of_ble_eq_true hb.1
        have hbytes : cx.P.bytesOf el * uc ≤ 1099511627776 := Nat.le_of_ble_eq_true hb.2
        have hcc : uc < 9223372036854775808 := by
          rcases Nat.lt_or_ge uc 9223372036854775808 with h | h
          · exact h
          · rw [Nat.ble_eq_true_of_le h] at hc; cases hc
        rw [St.zerosK_eq] at hk7
        refine ⟨_, _, hk7, .s ul uc, fun μ w a ha => ?_⟩
        have rel : ∀ (y : Operand) (u : V), (∀ K : V → Out, accK (resD cx.globs m r.reads (ids.map (dstI ops)) y) env sl K = K u) → RelV μ u (a.eval y) := by
          intro y u hu
          obtain ⟨u3, hu3, hk3⟩ := ha y (fun v => .done .ret ⟨.e, [(v, [])]⟩ ⟨.e, 0⟩) .ret ⟨.e, [(u, [])]⟩ ⟨.e, 0⟩ (hu _)
          have : u3 = u := by injection hk3 with _ h1 _; injection h1 with _ h1; injection h1 with h1 _; injection h1
          exact this ▸ hu3
        have hv1 := rel l u1 hu1
        have hv2 := rel c u2 hu2
        rw [ev1] at hv1
        rw [ev2] at hv2
        generalize hr1 : a.eval l = r1 at hv1
        generalize hr2 : a.eval c = r2 at hv2
        cases hv1 with | n _ _ hl1 =>
        cases hv2 with | n _ _ hl2 =>
        rw [wrap_small .i64 ul (show ul < hf .i64 by show ul < 9223372036854775808; omega)] at hr1
        rw [wrap_small .i64 uc hcc] at hr2
        have rz := hcells μ
        have hin : (typeInfo el).run cx.P w = .ok i w := by simp [typeInfo, hi]
        have hbo : cx.P.bytesOf el = i.bytes := by simp [Program.bytesOf, hi]
        have hsz : cx.P.cellsOf el = i.size := by simp [Program.cellsOf, hi]
        have w1 : IntKind.i64.wrap (ul : Int) = ul := wrap_small .i64 ul (show ul < hf .i64 by show ul < 9223372036854775808; omega)
        have w2 : IntKind.i64.wrap (uc : Int) = uc := wrap_small .i64 uc hcc
        have hb2 : (i.bytes : Int) * uc ≤ 2 ^ 48 := by
          rw [hbo] at hbytes
          rw [← Int.natCast_mul]
          omega
        have hrm := run_makeSlice hu hi hrun w1 w2 hlc hb2 w
        have key : ∃ cs : Array Value, cs.size = uc * cx.P.cellsOf el ∧ (∀ (μ' : Mu) j v, cellAt .e z.cells (uc * cx.P.cellsOf el) j = some v → ∃ v', cs[j]? = some v' ∧ RelV μ' v v') ∧
            (execOp a.eval r.o).run cx.P w = .ok (.value (.slice (some ⟨w.heap.size, 0, none⟩) ul uc)) { w with heap := w.heap.push (.cells cs el (0, 0)) } := by
          have hex : execOp a.eval r.o = (do pure (.value (← Instr.makeSlice t (.int .i64 ul) (.int .i64 uc)))) := by simp only [execOp, hop, hr1, hr2]
          by_cases hn : uc * cx.P.cellsOf el = 0
          · refine ⟨#[], by simp [hn], fun μ' j v hv => ?_, ?_⟩
            · obtain ⟨hj, -⟩ := cellAt_zero _ _ _ _ hv; omega
            · rw [hex, Sem.run_bind, hrm, if_pos hn]; rfl
          · refine ⟨(Array.range (uc * cx.P.cellsOf el)).map fun j => zv.cells[j % zv.cells.size]!, by simp, fun μ' => zrow_cells (hcells μ') _, ?_⟩
            rw [hex, Sem.run_bind, hrm, if_neg hn]; rfl
        obtain ⟨cs, hcs, hcell, hex⟩ := key
        refine ⟨_, .cells cs el (0, 0), cs.size, hex, ?_, ?_⟩
        · intro μ' w' hle hw
          refine ⟨cs, (0, 0), hw, rfl, by rw [hcs]; exact Nat.le_of_eq (Nat.zero_add _), free_zero _, fun h => (by cases h), fun j v hv => ?_⟩
          obtain ⟨v', g1, g2⟩ := hcell μ' j v hv
          exact ⟨v', by simpa using g1, g2⟩
        · intro μ' b hb hL
          cases hb
          have := RelV.slk (L := ⟨w.heap.size, 0, cs.size⟩) 0 ul uc hL hlc hcc
          simpa using this
    | _ => cases hk1
  | buildSlice t len ps =>
    rw [hop] at hk
    have hk1 : decBS cx.P (resD cx.globs m r.reads (ids.map (dstI ops))) t len ps.toList env sl σ (fun v σ => K v ds σ) = .done x fr σ' := hk
    unfold decBS at hk1
    cases hu : cx.P.underlying t with
    | none => rw [hu] at hk1; cases hk1
    | some dd =>
    rw [hu] at hk1
    cases dd with
    | slice el =>
      cases hz : zero? cx.P el with
      | none => simp only [hz] at hk1; cases hk1
      | some z =>
        simp only [hz] at hk1
        cases hle : Bool.and (Nat.ble (Nat.mul len (sz cx.P el)) 16777216) (Nat.ble len 16777216) with
        | false => rw [hle] at hk1; cases hk1
        | true =>
          rw [hle] at hk1
          rw [Bool.and_eq_true] at hle
          have hle1 : len * sz cx.P el ≤ 16777216 := Nat.le_of_ble_eq_true hle.1
          have hle2 : len ≤ 16777216 := Nat.le_of_ble_eq_true hle.2
          have hk2 : fillK (placeA (sz cx.P el)) (decParts (resD cx.globs m r.reads (ids.map (dstI ops))) ps.toList) (len * sz cx.P el) env sl .e (fun c => σ.newK (.row el c z.cells (len * sz cx.P el) false) fun b σ => K (.sl b 0 len (.k len)) ds σ) = .done x fr σ' := hk1
          obtain ⟨t', ht'⟩ := fillK_val ps.toList .e _ hk2
          rw [ht', St.newK_eq] at hk2
          refine ⟨_, _, hk2, .s len len, fun μ w a ha => ?_⟩
          obtain ⟨zv, z1, z2, z3, i, hi⟩ := zero_ok hz
          have es := run_sizeOf (P := cx.P) w hi
          obtain ⟨t2, cs', h1, h2, h3⟩ := fillK_ok ha ps.toList .e _ (cells_zeros (z3 μ) (len * sz cx.P el)) (ht' fun c => .done .ret ⟨c, []⟩ ⟨.e, 0⟩)
          have et : t2 = t' := by injection h3 with _ q _; injection q
          subst et
          refine ⟨.slice (some ⟨w.heap.size, 0, none⟩) len len, .cells cs' el (0, 0), cs'.size, ?_, ?_, ?_⟩
          · have e1 : ∀ zz, (len * sz cx.P el ≠ 0 → zz = zv.cells) → Instr.fill (fun i => some (i * sz cx.P el, sz cx.P el)) ((Array.range (len * sz cx.P el)).map (fun i => zz[i % zz.size]!)) (ps.map fun p => (p.1, a.eval p.2)).toList = some cs' := by
              intro zz h
              rw [Array.toList_map]
              have e0 : (Array.range (len * sz cx.P el)).map (fun i => zz[i % zz.size]!) = (Array.range (len * sz cx.P el)).map (fun i => zv.cells[i % zv.cells.size]!) := by
                by_cases q : len * sz cx.P el = 0
                · rw [q]; simp
                · rw [h q]
              rw [e0]; exact h1
            have e2 : (newRow el cs').run cx.P w = .ok ⟨w.heap.size, 0, none⟩ { w with heap := w.heap.push (.cells cs' el (0, 0)) } := rfl
            by_cases q : len * sz cx.P el = 0
            · have e3 := e1 #[] (fun h => absurd q h)
              simp only [execOp, hop, Instr.buildSlice, Sem.run_bind, run_underlying hu, Result.andThen_ok, es]
              rw [if_neg (by show ¬ (len * sz cx.P el > 2 ^ 24); have : (2:Nat) ^ 24 = 16777216 := rfl; omega), if_pos (show len * cx.P.cellsOf el = 0 from q)]
              have q' : len * cx.P.cellsOf el = 0 := q
              have e4 : Instr.fill (fun i => some (i * cx.P.cellsOf el, cx.P.cellsOf el)) (#[] : Array Value) (ps.map fun p => (p.1, a.eval p.2)).toList = some cs' := by
                rw [q, map_range0] at e3
                exact e3
              simp only [Sem.run_bind, Sem.run_pure, Result.andThen_ok, q', map_range0, e4, e2]
            · have e3 := e1 zv.cells (fun _ => rfl)
              simp only [execOp, hop, Instr.buildSlice, Sem.run_bind, run_underlying hu, Result.andThen_ok, es]
              rw [if_neg (by show ¬ (len * sz cx.P el > 2 ^ 24); have : (2:Nat) ^ 24 = 16777216 := rfl; omega), if_neg (show ¬ len * cx.P.cellsOf el = 0 from q)]
              change Instr.fill (fun i => some (i * cx.P.cellsOf el, cx.P.cellsOf el)) ((Array.range (len * cx.P.cellsOf el)).map (fun i => zv.cells[i % zv.cells.size]!)) _ = some cs' at e3
              simp only [Sem.run_bind, Sem.run_pure, Result.andThen_ok, z1, e3, e2]
          · intro μ' w' hle hw
            refine ⟨cs', (0, 0), hw, rfl, by rw [h2.1]; exact Nat.le_of_eq (Nat.zero_add _), free_zero _, fun h => (by cases h), fun j v hv => ?_⟩
            obtain ⟨v', g1, g2⟩ := h2.2 j v hv
            exact ⟨v', by simpa using g1, g2.mono hle⟩
          · intro μ' b hb hL
            cases hb
            have := RelV.slk (L := ⟨w.heap.size, 0, cs'.size⟩) 0 len len hL (Nat.le_refl _) (by omega)
            simpa using this
    | _ => cases hk1
  | _ => rw [hop] at hal; cases hal
end
end Ae
namespace Ae
open Go
theorem countP_less {p q : Nat → Bool} {i : Nat} (hp : p i = true) (hq : q i = false) (h : ∀ j, j ≠ i → q j = p j) : ∀ (l : List Nat), l.Nodup → i ∈ l → l.countP q + 1 = l.countP p := by
  have same : ∀ l : List Nat, i ∉ l → l.countP q = l.countP p := by
    intro l
    induction l with
    | nil => intro _; rfl
    | cons x l ih =>
      intro hn
      rw [List.mem_cons] at hn
      rw [List.countP_cons, List.countP_cons, ih (fun c => hn (.inr c)), h x (fun c => hn (.inl c.symm))]
  intro l
  induction l with
  | nil => intro _ hi; cases hi
  | cons x l ih =>
    intro hn hi
    rw [List.nodup_cons] at hn
    rw [List.countP_cons, List.countP_cons]
    by_cases hx : x = i
    · subst hx
      rw [same l hn.1, hp, hq]; simp
    · have hi' : i ∈ l := by rcases List.mem_cons.1 hi with q | q; exact absurd q.symm hx; exact q
      rw [h x hx, ← ih hn.2 hi']; omega
section
variable {cx : Cx} {self : Self} {ops : Array Oper} {m n : Nat}
def unl (ops : Array Oper) (listed : Array Bool) : Nat := (List.range ops.size).countP fun j => !listed.getD j true
theorem unl_set {listed : Array Bool} {i : Nat} (hi : i < ops.size) (hs : listed.size = ops.size) (h : listed.getD i true = false) : unl ops (listed.setIfInBounds i true) + 1 = unl ops listed := by
  unfold unl
  refine countP_less (i := i) (by rw [h]; rfl) ?_ ?_ _ List.nodup_range (List.mem_range.2 hi)
  · have : i < listed.size := by omega
    simp [this]
  · intro j hj
    rw [getD_set_ne true (fun e => hj e.symm)]
def Good (cx : Cx) (self : Self) (ops : Array Oper) (m : Nat) (sl : T V) (σ : St) (pend : List Pn) (ids : List Nat) (env : List V) (j : Nat) : Prop :=
  ∃ (r : Row) (pre post : List Nat) (preV postV : List V) (v : V) (dsj : DS) (x1 : Ex) (sl1 : T V) (l : List V) (ds1 : DS) (σ1 : St),
    RowOk ops r ∧ r.id = j ∧ still cx.P r.o.op = true ∧ ids = pre ++ j :: post ∧ env = preV ++ v :: postV ∧ preV.length = pre.length ∧ postV.length = post.length ∧
    (⟨j, goOf cx.P cx.globs m ops.toList r (post.map (dstI ops)), postV, dsj, v⟩ : Pn) ∈ pend ∧
    goK cx self (goOf cx.P cx.globs m ops.toList r (post.map (dstI ops))) postV sl dsj σ reify = .done x1 ⟨sl1, (v, l) :: ds1⟩ σ1
theorem Good.cons {sl : T V} {σ : St} {pend : List Pn} {ids : List Nat} {env : List V} {j : Nat} (h : Good cx self ops m sl σ pend ids env j) (i : Nat) (v : V) (p : Pn) : Good cx self ops m sl σ (p :: pend) (i :: ids) (v :: env) j := by
  obtain ⟨r, pre, post, preV, postV, u, dsj, x1, sl1, l, ds1, σ1, h1, h2, h3, h4, h5, h6, h7, h8, h9⟩ := h
  exact ⟨r, i :: pre, post, v :: preV, postV, u, dsj, x1, sl1, l, ds1, σ1, h1, h2, h3, by rw [h4]; rfl, by rw [h5]; rfl, by simp [h6], h7, List.mem_cons_of_mem _ h8, h9⟩
theorem recheck_ok {sl : T V} {anc : Nat} {σ : St} {x : Ex} {fr : Fr} {σ' : St} : ∀ (pend : List Pn) (K : List Pn → Out), recheck cx self sl anc σ pend K = .done x fr σ' →
    ∃ pend', K pend' = .done x fr σ' ∧ ∀ p ∈ pend, slotB anc p.id = false → p ∈ pend' ∧ ∃ x1 sl1 l ds1 σ1, goK cx self p.g p.env sl p.ds σ reify = .done x1 ⟨sl1, (p.v, l) :: ds1⟩ σ1 := by
  intro pend
  induction pend with
  | nil => intro K h; exact ⟨[], h, fun p hp => by cases hp⟩
  | cons p pend ih =>
    intro K h
    change ifb (slotB anc p.id) (recheck cx self sl anc σ pend K) (chk1 cx self sl p σ (recheck cx self sl anc σ pend fun l => K (p :: l))) = _ at h
    cases hb : slotB anc p.id with
    | true =>
      rw [hb, ifb_true] at h
      obtain ⟨pend', h1, h2⟩ := ih K h
      refine ⟨pend', h1, fun q hq hqb => ?_⟩
      rcases List.mem_cons.1 hq with rfl | hq
      · rw [hb] at hqb; cases hqb
      · exact h2 q hq hqb
    | false =>
      rw [hb, ifb_false] at h
      change takeV (fun u => ifb (same 12 p.v u) (recheck cx self sl anc σ pend fun l => K (p :: l)) (.fail 275)) (goK cx self p.g p.env sl p.ds σ reify) = _ at h
      obtain ⟨x1, sl1, u, l, ds1, σ1, h1, h2⟩ := takeV_inv h
      obtain ⟨h3, h4⟩ := ifb_inv h2
      have e := same_eq 12 _ _ h3
      obtain ⟨pend', h5, h6⟩ := ih _ h4
      refine ⟨p :: pend', h5, fun q hq hqb => ?_⟩
      rcases List.mem_cons.1 hq with rfl | hq
      · exact ⟨List.mem_cons_self, x1, sl1, l, ds1, σ1, by rw [e]; exact h1⟩
      · obtain ⟨h7, h8⟩ := h6 q hq hqb
        exact ⟨List.mem_cons_of_mem _ h7, h8⟩
theorem finK_ok {sl : T V} (hm : Msk m sl) {x : Ex} {fr : Fr} {σ' : St} : ∀ (ids : List Nat) (env : List V) (K : T V → Out), env.length = ids.length → finK (wsOf m (ids.map (dstI ops))) env sl K = .done x fr σ' →
    ∃ sl1, K sl1 = .done x fr σ' ∧ ∀ t v, sl1.get t = some v → slotB m t = true ∧ lookT (fun _ => true) ops sl t ids env = some v := by
  intro ids
  induction ids with
  | nil => intro env K _ h; exact ⟨sl, h, fun t v hv => ⟨hm t v hv, hv⟩⟩
  | cons j ids ih =>
    intro env K hl h
    cases env with
    | nil => cases hl
    | cons v env =>
      have hl' : env.length = ids.length := by simpa using hl
      rw [List.map_cons] at h
      cases hd : dstI ops j with
      | none =>
        rw [hd] at h
        change finK (wsOf m (ids.map (dstI ops))) env sl (fun sl => K sl) = _ at h
        obtain ⟨sl1, h1, h2⟩ := ih env _ hl' h
        refine ⟨sl1, h1, fun t u hu => ?_⟩
        obtain ⟨h3, h4⟩ := h2 t u hu
        exact ⟨h3, by show (if true = true ∧ dstI ops j = some t then some v else _) = _; rw [if_neg (by rw [hd]; rintro ⟨_, c⟩; cases c)]; exact h4⟩
      | some d =>
        rw [hd] at h
        cases hb : slotB m d with
        | false =>
          have e : wsOf m (some d :: ids.map (dstI ops)) = none :: wsOf m (ids.map (dstI ops)) := by
            show ifb (slotB m d) (some (pth d)) none :: wsOf m (ids.map (dstI ops)) = _
            rw [hb]; rfl
          rw [e] at h
          change finK (wsOf m (ids.map (dstI ops))) env sl (fun sl => K sl) = _ at h
          obtain ⟨sl1, h1, h2⟩ := ih env _ hl' h
          refine ⟨sl1, h1, fun t u hu => ?_⟩
          obtain ⟨h3, h4⟩ := h2 t u hu
          refine ⟨h3, ?_⟩
          show (if true = true ∧ dstI ops j = some t then some v else _) = _
          rw [if_neg (by rw [hd]; rintro ⟨_, c⟩; cases c; rw [hb] at h3; cases h3)]; exact h4
        | true =>
          have e : wsOf m (some d :: ids.map (dstI ops)) = some (pth d) :: wsOf m (ids.map (dstI ops)) := by
            show ifb (slotB m d) (some (pth d)) none :: wsOf m (ids.map (dstI ops)) = _
            rw [hb]; rfl
          rw [e] at h
          change finK (wsOf m (ids.map (dstI ops))) env sl (fun sl => T.setP v (pth d) sl K) = _ at h
          obtain ⟨sl1, h1, h2⟩ := ih env _ hl' h
          have h1' : K (sl1.set v d) = .done x fr σ' := by rw [← h1]; exact (T.setK_eq v sl1 d K).symm
          refine ⟨sl1.set v d, h1', fun t u hu => ?_⟩
          rw [T.get_set] at hu
          by_cases ht : t = d
          · subst ht
            rw [if_pos rfl] at hu; cases hu
            exact ⟨hb, by show (if true = true ∧ dstI ops j = some t then some v else _) = _; rw [if_pos ⟨rfl, hd⟩]⟩
          · rw [if_neg ht] at hu
            obtain ⟨h3, h4⟩ := h2 t u hu
            refine ⟨h3, ?_⟩
            show (if true = true ∧ dstI ops j = some t then some v else _) = _
            rw [if_neg (by rw [hd]; rintro ⟨_, c⟩; cases c; exact ht rfl)]; exact h4
def Compl (ops : Array Oper) (listed : Array Bool) : Prop := ∀ (i : Nat) (o : Oper), ops[i]? = some o → isIns o.op = true → listed.getD i false = true
def InsData (cx : Cx) (ops : Array Oper) (m : Nat) (l : Lit) (sl : T V) (ids : List Nat) (env : List V) (e : Nat × V × V) : Prop :=
  ∃ (o : Oper) (kc : Value) (x : Operand) (pre post : List Nat) (preV : List V) (u : V) (postV : List V), ops[e.1]? = some o ∧ o.op = .insert l.t (.tmp l.tm) (.const kc) x ∧ ids = pre ++ e.1 :: post ∧ env = preV ++ u :: postV ∧ preV.length = pre.length ∧ postV.length = post.length ∧
    e.2.1 = ofValue 6 kc ∧ ∀ K : V → Out, accK (resD cx.globs m (readsOf ops.toList o) (post.map (dstI ops)) x) postV sl K = K e.2.2
theorem InsData.cons {cx : Cx} {ops : Array Oper} {m : Nat} {l : Lit} {sl : T V} {ids : List Nat} {env : List V} {e : Nat × V × V} (h : InsData cx ops m l sl ids env e) (i : Nat) (v : V) : InsData cx ops m l sl (i :: ids) (v :: env) e := by
  obtain ⟨o, kc, x, pre, post, preV, u, postV, h1, h2, h3, h4, h5, h6, h7, h8⟩ := h
  exact ⟨o, kc, x, i :: pre, post, v :: preV, u, postV, h1, h2, by rw [h3]; rfl, by rw [h4]; rfl, by simp [h5], h6, h7, h8⟩
structure RelI (D : Nat → Bool) (μ : Mu) (ins : List (Nat × V × V)) (es' : List MapEntry) : Prop where
  to : ∀ e ∈ ins, D e.1 = true → ∃ e' ∈ es', RelV μ e.2.1 e'.key ∧ RelV μ e.2.2 e'.val
  fro : ∀ e' ∈ es', ∃ e ∈ ins, D e.1 = true ∧ RelV μ e.2.1 e'.key ∧ RelV μ e.2.2 e'.val
  apart : es'.Pairwise (fun a b => a.key ≠ b.key)
  len : es'.length = (ins.filter fun e => D e.1).length
theorem RelI.mono {D D' : Nat → Bool} {μ μ' : Mu} {ins : List (Nat × V × V)} {es' : List MapEntry} (h : RelI D μ ins es') (hl : μ.le μ') (hD : ∀ e ∈ ins, D e.1 = D' e.1) : RelI D' μ' ins es' := by
  refine ⟨fun e he hd => ?_, fun e' he => ?_, h.apart, ?_⟩
  · obtain ⟨e', a, b, c⟩ := h.to e he (by rw [hD e he]; exact hd); exact ⟨e', a, b.mono hl, c.mono hl⟩
  · obtain ⟨e, a, b, c, d⟩ := h.fro e' he; exact ⟨e, a, by rw [← hD e a]; exact b, c.mono hl, d.mono hl⟩
  · rw [h.len, List.filter_congr hD]
def Open (cx : Cx) (ops : Array Oper) (m : Nat) (l : Lit) (σ0 : St) (w0 : World) (sl : T V) (H : List (Nat × Nat)) (listed : Array Bool) (ids : List Nat) (env : List V) (σ : St) (μ : Mu) (w : World) (a : Act) : Prop :=
  ∃ (mb : Nat) (ins : List (Nat × V × V)), (l.jm, mb) ∈ H ∧ σ0.next ≤ mb ∧ mb < σ.next ∧ μ mb = none ∧ σ.heap.get mb = some (.map (ins.map (·.2))) ∧ lookT (fun _ => true) ops sl l.tm ids env = some (.m mb) ∧
    (∀ (i : Nat) (o : Oper), i ∈ ids → ops[i]? = some o → isIns o.op = true → ∃ e ∈ ins, e.1 = i) ∧ (∀ e ∈ ins, InsData cx ops m l sl ids env e) ∧ (ins.map (·.1)).Nodup ∧
    (listed.getD l.jm false = true → ∃ (c : Nat) (es' : Array MapEntry) (cl : Nat), a.tmps[l.tm]? = some (.map (some c)) ∧ w0.heap.size ≤ c ∧ c < w.heap.size ∧ ¬ Held μ σ c ∧ w.heap[c]? = some (.map es' cl) ∧ Born es'.toList cl ∧ RelI (fun j => listed.getD j false) μ ins es'.toList)
def Hid (cx : Cx) (ops : Array Oper) (m : Nat) (sl : T V) (H : List (Nat × Nat)) (ids : List Nat) (env : List V) (σ : St) (μ : Mu) (r : Row) : Prop :=
  ∃ (pre post : List Nat) (preV postV : List V) (v : V) (b : Nat) (blk : Blk), (r.id, b) ∈ H ∧ ids = pre ++ r.id :: post ∧ env = preV ++ v :: postV ∧ preV.length = pre.length ∧ postV.length = post.length ∧
    AtB b v ∧ μ b = none ∧ σ.heap.get b = some blk ∧ Late cx ops m sl r post postV v blk
theorem Hid.cons {cx : Cx} {ops : Array Oper} {m : Nat} {sl : T V} {H : List (Nat × Nat)} {ids : List Nat} {env : List V} {σ : St} {μ : Mu} {r : Row} (h : Hid cx ops m sl H ids env σ μ r) (i : Nat) (u : V) : Hid cx ops m sl H (i :: ids) (u :: env) σ μ r := by
  obtain ⟨pre, post, preV, postV, v, b, blk, h1, h2, h3, h4, h5, h6⟩ := h
  exact ⟨i :: pre, post, u :: preV, postV, v, b, blk, h1, by rw [h2]; rfl, by rw [h3]; rfl, by simp [h4], h5, h6⟩
theorem Hid.move {cx : Cx} {ops : Array Oper} {m : Nat} {sl : T V} {H H' : List (Nat × Nat)} {ids : List Nat} {env : List V} {σ σ' : St} {μ μ' : Mu} {r : Row} (h : Hid cx ops m sl H ids env σ μ r) (hH : ∀ p ∈ H, p ∈ H') (hm : ∀ b, (r.id, b) ∈ H → μ b = none → μ' b = none ∧ σ'.heap.get b = σ.heap.get b) : Hid cx ops m sl H' ids env σ' μ' r := by
  obtain ⟨pre, post, preV, postV, v, b, blk, h1, h2, h3, h4, h5, h6, h7, h8, h9⟩ := h
  obtain ⟨g1, g2⟩ := hm b h1 h7
  exact ⟨pre, post, preV, postV, v, b, blk, hH _ h1, h2, h3, h4, h5, h6, g1, by rw [g2]; exact h8, h9⟩
theorem pair_eq : ∀ {H : List (Nat × Nat)} {x y : Nat × Nat}, (H.map (·.2)).Nodup → x ∈ H → y ∈ H → x.2 = y.2 → x = y := by
  intro H
  induction H with
  | nil => intro x y _ hx; cases hx
  | cons z l ih =>
    intro x y hn hx hy e
    rw [List.map_cons, List.nodup_cons] at hn
    have h1 := List.mem_cons.1 hx
    have h2 := List.mem_cons.1 hy
    rcases h1 with h1 | h1
    · rcases h2 with h2 | h2
      · rw [h1, h2]
      · have : y.2 ∈ l.map (·.2) := List.mem_map_of_mem h2
        rw [← e, h1] at this
        exact absurd this hn.1
    · rcases h2 with h2 | h2
      · have : x.2 ∈ l.map (·.2) := List.mem_map_of_mem h1
        rw [e, h2] at this
        exact absurd this hn.1
      · exact ih hn.2 h1 h2 e
theorem still_al {P : Program} {o : Op} (h : still P o = true) : isAl o = false := by cases o <;> first | rfl | (cases h; done) | (rename_i r; cases r <;> first | rfl | cases h)
structure DI (rd : Option Nat) (cx : Cx) (sf : Self) (ops : Array Oper) (lit : Option Lit) (m n : Nat) (μ0 : Mu) (σ0 : St) (w0 : World) (sl : T V) (H : List (Nat × Nat)) (listed : Array Bool) (ids : List Nat) (env : List V) (pend : List Pn) (ds : DS) (σ : St) (μ : Mu) (w : World) (a : Act) : Prop where
  st : Step cx.P μ0 σ0 w0 μ σ w
  glob : Glob cx.globs μ
  defs : RelD rd μ ds a.defers
  size : a.tmps.size = n
  lsz : listed.size = ops.size
  down : ∀ (j : Nat) (o : Oper), ops[j]? = some o → listed.getD j false = true → ∀ e ∈ o.after.toList, Region.binds .any e = true → listed.getD e.on false = true
  wf : Wf ops ids
  len : env.length = ids.length
  sub : ∀ j, listed.getD j false = true → j ∈ ids
  eff : ∀ r : Row, RowOk ops r → r.id ∈ ids → still cx.P r.o.op = false → litR lit r = false → alR lit r = false → listed.getD r.id false = true
  tmp : ∀ t v, (∀ l, lit = some l → l.tm = t → Compl ops listed) → lookT (fun j => listed.getD j false) ops sl t ids env = some v → ∃ v', a.tmps[t]? = some v' ∧ RelV μ v v'
  good : ∀ j ∈ ids, listed.getD j false = false → (∀ r : Row, RowOk ops r → r.id = j → still cx.P r.o.op = true) → Good cx sf ops m sl σ pend ids env j
  lits : ∀ l, lit = some l → l.jm ∈ ids → Compl ops listed ∨ Open cx ops m l σ0 w0 sl H listed ids env σ μ w a
  reg : ∀ p ∈ H, σ0.next ≤ p.2 ∧ p.2 < σ.next
  nod : (H.map (·.2)).Nodup
  als : ∀ r : Row, RowOk ops r → r.id ∈ ids → listed.getD r.id false = false → alR lit r = true → Hid cx ops m sl H ids env σ μ r
structure PF (ops : Array Oper) (ids : List Nat) (E : Nat) (names : List (Option Nat)) (rem : List Row) : Prop where
  e : ∀ j, slotB E j = true ↔ j ∈ ids
  names : names = ids.map (dstI ops)
  left : ∀ r : Row, r ∈ rem → RowOk ops r ∧ r.id ∉ ids
  cov : ∀ j : Nat, j < ops.size → j ∈ ids ∨ ∃ r : Row, r ∈ rem ∧ r.id = j
theorem PF.step {ids : List Nat} {E : Nat} {names : List (Option Nat)} {rem : List Row} (h : PF ops ids E names rem) {r : Row} (hr : r ∈ rem) : PF ops (r.id :: ids) (Nat.lor E (bitN r.id)) (r.o.dst :: names) (dropR r.id rem) := by
  refine ⟨fun j => ?_, ?_, fun q hq => ?_, fun j hj => ?_⟩
  · rw [slotB_lor, Bool.or_eq_true, h.e j, slotB_bitN, List.mem_cons]
    constructor
    · rintro (c | c)
      · exact .inr c
      · exact .inl (of_decide_eq_true c).symm
    · rintro (c | c)
      · exact .inr (decide_eq_true c.symm)
      · exact .inl c
  · rw [List.map_cons, ← h.names]
    congr 1
    unfold dstI
    rw [(h.left r hr).1.o]; rfl
  · obtain ⟨h1, h2⟩ := dropR_mem.1 hq
    refine ⟨(h.left q h1).1, ?_⟩
    rw [List.mem_cons]
    rintro (c | c)
    · exact h2 c
    · exact (h.left q h1).2 c
  · rcases h.cov j hj with c | ⟨q, hq, rfl⟩
    · exact .inl (List.mem_cons_of_mem _ c)
    · by_cases e : q.id = r.id
      · exact .inl (by rw [e]; exact List.mem_cons_self)
      · exact .inr ⟨q, dropR_mem.2 ⟨hq, e⟩, rfl⟩
section
variable {rd : Option Nat} {lit : Option Lit} {μ0 : Mu} {σ0 : St} {w0 : World} {sl : T V} {H : List (Nat × Nat)} {listed : Array Bool} {ids : List Nat} {env : List V} {pend : List Pn} {ds : DS} {σ : St} {μ : Mu} {w : World} {a : Act}
theorem DI.anc (h : DI rd cx self ops lit m n μ0 σ0 w0 sl H listed ids env pend ds σ μ w a) {i j : Nat} (ha : Anc ops i j) : listed.getD i false = true → listed.getD j false = true := by
  induction ha with
  | one h1 h2 h3 => exact fun hi => h.down _ _ h1 hi _ h2 h3
  | more h1 h2 h3 _ ih => exact fun hi => ih (h.down _ _ h1 hi _ h2 h3)
theorem DI.ahead (h : DI rd cx self ops lit m n μ0 σ0 w0 sl H listed ids env pend ds σ μ w a) {i j : Nat} {o : Oper} (ho : ops[i]? = some o) (hr : ∀ e ∈ o.after.toList, Region.binds .any e = true → listed.getD e.on false = true) (ha : Anc ops i j) : listed.getD j false = true := by
  cases ha with
  | one h1 h2 h3 => rw [ho] at h1; cases h1; exact hr _ h2 h3
  | more h1 h2 h3 h4 => rw [ho] at h1; cases h1; exact h.anc h4 (hr _ h2 h3)
theorem ready_spec {i : Nat} (h : i ∈ Region.ready .any ops listed) : listed.getD i true = false ∧ listed.getD i false = false ∧ ∃ o, ops[i]? = some o ∧ ∀ e ∈ o.after.toList, Region.binds .any e = true → listed.getD e.on false = true := by
  obtain ⟨h1, o, h2, h3⟩ := mem_ready.1 h
  refine ⟨h1, ?_, o, h2, fun e he hb => h3 e (by simpa using he) hb⟩
  rw [Array.getD_eq_getD_getElem?] at h1 ⊢
  cases hl : listed[i]? with
  | none => rfl
  | some b => rw [hl] at h1; exact h1
theorem get_of_dstI {j t : Nat} (h : dstI ops j = some t) : ∃ o, ops[j]? = some o ∧ o.dst = some t := by
  unfold dstI at h
  cases ho : ops[j]? with
  | none => rw [ho] at h; cases h
  | some o => rw [ho] at h; exact ⟨o, rfl, h⟩
theorem litR_false {l : Lit} {r : Row} (h : litR (some l) r = false) : isIns r.o.op = false ∧ r.id ≠ l.jm := by
  change Bool.or (isIns r.o.op) (Nat.beq r.id l.jm) = false at h
  rw [Bool.or_eq_false_iff] at h
  exact ⟨h.1, fun e => by rw [e, Nat.beq_refl] at h; cases h.2⟩
theorem compl_back {i : Nat} {o : Oper} (ho : ops[i]? = some o) (hi : isIns o.op = false) (h : Compl ops (listed.setIfInBounds i true)) : Compl ops listed := by
  intro j q hj hq
  have := h j q hj hq
  have hne : i ≠ j := fun e => by subst e; rw [ho] at hj; cases hj; rw [hi] at hq; cases hq
  rwa [getD_set_ne false hne] at this
theorem compl_on {i : Nat} (h : Compl ops listed) : Compl ops (listed.setIfInBounds i true) := fun j q hj hq => getD_set_true (h j q hj hq)
theorem InsData.isIns {cx : Cx} {ops : Array Oper} {m : Nat} {l : Lit} {sl : T V} {ids : List Nat} {env : List V} {e : Nat × V × V} (h : InsData cx ops m l sl ids env e) : e.1 ∈ ids ∧ ∃ o, ops[e.1]? = some o ∧ Ae.isIns o.op = true := by
  obtain ⟨o, kc, x, pre, post, preV, u, postV, h1, h2, h3, _⟩ := h
  exact ⟨by rw [h3]; simp, o, h1, by rw [h2]; rfl⟩
theorem DI.wait (h : DI rd cx self ops lit m n μ0 σ0 w0 sl H listed ids env pend ds σ μ w a) (hR : RegOk ops n) {i : Nat} {o : Oper} (ho : ops[i]? = some o) (hr : ∀ e ∈ o.after.toList, Region.binds .any e = true → listed.getD e.on false = true) (hi : listed.getD i false = false)
    {pre post : List Nat} {preV postV : List V} {v : V} (e1 : ids = pre ++ i :: post) (e2 : env = preV ++ v :: postV) (hl : preV.length = pre.length) {t : Nat} (ht : t ∈ readsOf ops.toList o) :
    lookT (fun j => listed.getD j false) ops sl t ids env = lookT (fun _ => true) ops sl t post postV := by
  have hw := h.wf
  rw [e1] at hw
  rw [e1, e2, lookT_pre pre preV hl]
  · have e3 : lookT (fun j => listed.getD j false) ops sl t (i :: post) (v :: postV) = lookT (fun j => listed.getD j false) ops sl t post postV := by
      show (if listed.getD i false = true ∧ dstI ops i = some t then some v else _) = _
      rw [if_neg (by rw [hi]; rintro ⟨c, _⟩; cases c)]
    rw [e3]
    refine lookT_congr _ _ fun j hj hd => ?_
    obtain ⟨oj, hoj, hdj⟩ := get_of_dstI hd
    rcases hR.cmp j i oj o t hoj ho hdj (.inl ht) with rfl | hc | hc
    · exact absurd hj (Wf.notin (Wf.suffix pre hw))
    · have := Wf.suffix pre hw
      cases this with
      | cons hw2 hn _ _ => exact absurd (hw2.anc hc hj) hn
    · exact h.ahead ho hr hc
  · rintro j hj ⟨hL, hd⟩
    obtain ⟨oj, hoj, hdj⟩ := get_of_dstI hd
    obtain ⟨a1, a2⟩ := Wf.apart pre hw j hj
    rcases hR.cmp j i oj o t hoj ho hdj (.inl ht) with hc | hc | hc
    · exact a1 hc
    · have := h.anc hc hL; rw [hi] at this; cases this
    · exact a2 (Wf.head (Wf.suffix pre hw) hc)
theorem set_self {i : Nat} (hi : i < listed.size) : (listed.setIfInBounds i true).getD i false = true := by simp [hi]
theorem DI.done (h : DI rd cx self ops lit m n μ0 σ0 w0 sl H listed ids env pend ds σ μ w a) (hR : RegOk ops n) (hA : LitAll cx.P ops lit) {i : Nat} {o : Oper} (ho : ops[i]? = some o) (hno : ∀ l, lit = some l → isIns o.op = false ∧ i ≠ l.jm) (hr : ∀ e ∈ o.after.toList, Region.binds .any e = true → listed.getD e.on false = true) (hi : listed.getD i false = false)
    {pre post : List Nat} {preV postV : List V} {v : V} (e1 : ids = pre ++ i :: post) (e2 : env = preV ++ v :: postV) (hl : preV.length = pre.length) {v' : Value} (hv : RelV μ v v') :
    DI rd cx self ops lit m n μ0 σ0 w0 sl H (listed.setIfInBounds i true) ids env pend ds σ μ w (a.put o.dst v') := by
  have hlt : i < ops.size := (Array.getElem?_eq_some_iff.1 ho).1
  have hli : i < listed.size := by rw [h.lsz]; exact hlt
  have hmem : i ∈ ids := by rw [e1]; simp
  have ne : ∀ j, j ≠ i → (listed.setIfInBounds i true).getD j false = listed.getD j false := fun j hj => getD_set_ne false (fun e => hj e.symm)
  refine ⟨h.st, h.glob, by rw [put_defers']; exact h.defs, by rw [put_size]; exact h.size, by simp [h.lsz], ?_, h.wf, h.len, ?_, ?_, ?_, ?_, ?_, h.reg, h.nod, ?_⟩
  · intro j oj hoj hj e he hb
    by_cases e0 : j = i
    · subst e0; rw [ho] at hoj; cases hoj; exact getD_set_true (hr e he hb)
    · rw [ne j e0] at hj; exact getD_set_true (h.down j oj hoj hj e he hb)
  · intro j hj
    by_cases e0 : j = i
    · subst e0; exact hmem
    · rw [ne j e0] at hj; exact h.sub j hj
  · intro r hr1 hr2 hr3 hr4 hr5; exact getD_set_true (h.eff r hr1 hr2 hr3 hr4 hr5)
  · intro t u hcl hu
    change lookT (fun j => (listed.setIfInBounds i true).getD j false) ops sl t ids env = some u at hu
    by_cases hd : dstI ops i = some t
    · have hod : o.dst = some t := by unfold dstI at hd; rw [ho] at hd; exact hd
      have hw := h.wf
      rw [e1] at hw
      rw [e1, e2, lookT_pre pre preV hl] at hu
      · have e3 : lookT (fun j => (listed.setIfInBounds i true).getD j false) ops sl t (i :: post) (v :: postV) = some v := by
          show (if (listed.setIfInBounds i true).getD i false = true ∧ dstI ops i = some t then some v else _) = _
          rw [if_pos ⟨set_self hli, hd⟩]
        rw [e3] at hu; cases hu
        have hlt2 : t < a.tmps.size := by rw [h.size]; have := hR.dst i o ho; rw [hod] at this; simpa [okDst] using this
        exact ⟨v', by rw [hod]; simp [Act.put, hlt2], hv⟩
      · rintro j hj ⟨hL, hdj⟩
        obtain ⟨oj, hoj, hdj2⟩ := get_of_dstI hdj
        obtain ⟨a1, a2⟩ := Wf.apart pre hw j hj
        rw [ne j a1] at hL
        rcases hR.cmp j i oj o t hoj ho hdj2 (.inr hod) with hc | hc | hc
        · exact a1 hc
        · have := h.anc hc hL; rw [hi] at this; cases this
        · exact a2 (Wf.head (Wf.suffix pre hw) hc)
    · rw [lookT_congr (D' := fun j => listed.getD j false) ids env (fun j hj hdj => ne j (fun e0 => by subst e0; exact hd hdj))] at hu
      obtain ⟨u', h1, h2⟩ := h.tmp t u (fun l hl ht => compl_back ho (hno l hl).1 (hcl l hl ht)) hu
      refine ⟨u', ?_, h2⟩
      cases hod : o.dst with
      | none => exact h1
      | some d =>
        have : d ≠ t := fun e0 => by subst e0; exact hd (by unfold dstI; rw [ho]; exact hod)
        show (a.tmps.setIfInBounds d v')[t]? = _
        rw [Array.getElem?_setIfInBounds, if_neg this]; exact h1
  · intro j hj hL hn
    have e0 : j ≠ i := fun e0 => by subst e0; rw [set_self hli] at hL; cases hL
    rw [ne j e0] at hL
    exact h.good j hj hL hn
  · intro l hl hj
    subst hl
    rcases h.lits l rfl hj with hc | ⟨mb, ins, g0, g1, g2, g3, g4, g5, g6, g7, g8, g9⟩
    · exact .inl (compl_on hc)
    · obtain ⟨hni, hnj⟩ := hno l rfl
      refine .inr ⟨mb, ins, g0, g1, g2, g3, g4, g5, g6, g7, g8, fun hL => ?_⟩
      rw [ne l.jm (fun e => hnj e.symm)] at hL
      obtain ⟨c, es', cl, k1, k2, k3, k4, k5, kb, k6⟩ := g9 hL
      refine ⟨c, es', cl, ?_, k2, k3, k4, k5, kb, k6.mono (Mu.le_refl μ) fun e he => ?_⟩
      · have hd : o.dst ≠ some l.tm := fun e => hnj (LitOk.only hA i o ho e)
        cases hod : o.dst with
        | none => exact k1
        | some d =>
          have : d ≠ l.tm := fun e => hd (by rw [hod, e])
          show (a.tmps.setIfInBounds d v')[l.tm]? = _
          rw [Array.getElem?_setIfInBounds, if_neg this]; exact k1
      · obtain ⟨_, q, hq, hq2⟩ := (g7 e he).isIns
        refine (ne e.1 fun e0 => ?_).symm
        rw [e0, ho] at hq; cases hq; rw [hni] at hq2; cases hq2
  · intro r hr1 hr2 hr3 hr4
    have e0 : r.id ≠ i := fun e0 => by rw [e0, set_self hli] at hr3; cases hr3
    rw [ne r.id e0] at hr3
    exact h.als r hr1 hr2 hr3 hr4
theorem DI.effect (h : DI rd cx self ops lit m n μ0 σ0 w0 sl H listed ids env pend ds σ μ w a) (hR : RegOk ops n) (hA : LitAll cx.P ops lit) {i : Nat} {o : Oper} (ho : ops[i]? = some o) (hno : ∀ l, lit = some l → isIns o.op = false ∧ i ≠ l.jm) (hr : ∀ e ∈ o.after.toList, Region.binds .any e = true → listed.getD e.on false = true) (hi : listed.getD i false = false) (hni : i ∉ ids)
    {r : Row} (hrow : RowOk ops r) (hid : r.id = i) {v : V} {v' : Value} {μ1 : Mu} {σ1 : St} {w1 : World} {ds1 : DS} {dd : List Deferred} (st : Step cx.P μ σ w μ1 σ1 w1) (hv : RelV μ1 v v') (hdd : RelD rd μ1 ds1 dd)
    {pend' : List Pn} (hp : ∀ p ∈ pend, slotB r.anc p.id = false → p ∈ pend' ∧ ∃ x1 sl1 l ds1 σ2, goK cx self p.g p.env sl p.ds σ1 reify = .done x1 ⟨sl1, (p.v, l) :: ds1⟩ σ2) :
    DI rd cx self ops lit m n μ0 σ0 w0 sl H (listed.setIfInBounds i true) (i :: ids) (v :: env) pend' ds1 σ1 μ1 w1 (({ a with defers := dd } : Act).put o.dst v') := by
  have hlt : i < ops.size := (Array.getElem?_eq_some_iff.1 ho).1
  have hli : i < listed.size := by rw [h.lsz]; exact hlt
  have ne : ∀ j, j ≠ i → (listed.setIfInBounds i true).getD j false = listed.getD j false := fun j hj => getD_set_ne false (fun e => hj e.symm)
  refine ⟨h.st.trans st, h.glob.mono st.le, by rw [put_defers']; exact hdd, by rw [put_tmps, put_size]; exact h.size, by simp [h.lsz], ?_, .cons h.wf hni ho (fun e he hb => h.sub _ (hr e he hb)), by simp [h.len], ?_, ?_, ?_, ?_, ?_, fun p hp => ⟨(h.reg p hp).1, Nat.lt_of_lt_of_le (h.reg p hp).2 st.next⟩, h.nod, ?_⟩
  · intro j oj hoj hj e he hb
    by_cases e0 : j = i
    · subst e0; rw [ho] at hoj; cases hoj; exact getD_set_true (hr e he hb)
    · rw [ne j e0] at hj; exact getD_set_true (h.down j oj hoj hj e he hb)
  · intro j hj
    by_cases e0 : j = i
    · subst e0; exact List.mem_cons_self
    · rw [ne j e0] at hj; exact List.mem_cons_of_mem _ (h.sub j hj)
  · intro q hq1 hq2 hq3 hq4 hq5
    rcases List.mem_cons.1 hq2 with e0 | hq2
    · rw [e0]; exact set_self hli
    · exact getD_set_true (h.eff q hq1 hq2 hq3 hq4 hq5)
  · intro t u hcl hu
    rw [put_tmps]
    change (if (listed.setIfInBounds i true).getD i false = true ∧ dstI ops i = some t then some v else lookT (fun j => (listed.setIfInBounds i true).getD j false) ops sl t ids env) = some u at hu
    by_cases hd : dstI ops i = some t
    · have hod : o.dst = some t := by unfold dstI at hd; rw [ho] at hd; exact hd
      rw [if_pos ⟨set_self hli, hd⟩] at hu; cases hu
      have hlt2 : t < a.tmps.size := by rw [h.size]; have := hR.dst i o ho; rw [hod] at this; simpa [okDst] using this
      exact ⟨v', by rw [hod]; simp [Act.put, hlt2], hv⟩
    · rw [if_neg (fun c => hd c.2)] at hu
      rw [lookT_congr (D' := fun j => listed.getD j false) ids env (fun j hj _ => ne j (fun e0 => by subst e0; exact hni hj))] at hu
      obtain ⟨u', h1, h2⟩ := h.tmp t u (fun l hl ht => compl_back ho (hno l hl).1 (hcl l hl ht)) hu
      refine ⟨u', ?_, h2.mono st.le⟩
      cases hod : o.dst with
      | none => exact h1
      | some d =>
        have : d ≠ t := fun e0 => by subst e0; exact hd (by unfold dstI; rw [ho]; exact hod)
        show (a.tmps.setIfInBounds d v')[t]? = _
        rw [Array.getElem?_setIfInBounds, if_neg this]; exact h1
  · intro j hj hL hn
    have e0 : j ≠ i := fun e0 => by subst e0; rw [set_self hli] at hL; cases hL
    rw [ne j e0] at hL
    have hj' : j ∈ ids := by rcases List.mem_cons.1 hj with c | c; exact absurd c e0; exact c
    obtain ⟨q, pre, post, preV, postV, u, dsj, x1, sl1, l, ds2, σ2, h1, h2, h3, h4, h5, h6, h7, h8, h9⟩ := h.good j hj' hL hn
    have hb : slotB r.anc j = false := by
      cases hb : slotB r.anc j with
      | false => rfl
      | true =>
        have := h.ahead ho hr (hid ▸ hrow.anc j hb)
        rw [hL] at this; cases this
    obtain ⟨h10, x2, sl2, l2, ds3, σ3, h11⟩ := hp _ h8 hb
    exact ⟨q, i :: pre, post, v :: preV, postV, u, dsj, x2, sl2, l2, ds3, σ3, h1, h2, h3, by rw [h4]; rfl, by rw [h5]; rfl, by simp [h6], h7, h10, h11⟩
  · intro l hl hj
    subst hl
    obtain ⟨hni', hnj⟩ := hno l rfl
    have hj' : l.jm ∈ ids := by rcases List.mem_cons.1 hj with c | c; exact absurd c.symm hnj; exact c
    rcases h.lits l rfl hj' with hc | ⟨mb, ins, g0, g1, g2, g3, g4, g5, g6, g7, g8, g9⟩
    · exact .inl (compl_on hc)
    · have hd : o.dst ≠ some l.tm := fun e => hnj (LitOk.only hA i o ho e)
      have hdI : dstI ops i ≠ some l.tm := fun e => hd (by unfold dstI at e; rw [ho] at e; exact e)
      obtain ⟨e1, e2⟩ := st.hid mb g2 g3
      refine .inr ⟨mb, ins, g0, g1, Nat.lt_of_lt_of_le g2 st.next, e1, by rw [e2]; exact g4, ?_, ?_, fun e he => (g7 e he).cons i v, g8, fun hL => ?_⟩
      · show (if true = true ∧ dstI ops i = some l.tm then some v else _) = _
        rw [if_neg (fun c => hdI c.2)]; exact g5
      · intro j q hq1 hq2 hq3
        rcases List.mem_cons.1 hq1 with rfl | hq1
        · rw [ho] at hq2; cases hq2; rw [hni'] at hq3; cases hq3
        · exact g6 j q hq1 hq2 hq3
      · rw [ne l.jm (fun e => hnj e.symm)] at hL
        obtain ⟨c, es', cl, k1, k2, k3, k4, k5, kb, k6⟩ := g9 hL
        refine ⟨c, es', cl, ?_, k2, Nat.lt_of_lt_of_le k3 st.rest.size, fun hh => k4 (st.held c k3 hh), by rw [st.frame c k3 k4]; exact k5, kb, k6.mono st.le fun e he => ?_⟩
        · rw [put_tmps]
          cases hod : o.dst with
          | none => exact k1
          | some d =>
            have : d ≠ l.tm := fun e => hd (by rw [hod, e])
            show (a.tmps.setIfInBounds d v')[l.tm]? = _
            rw [Array.getElem?_setIfInBounds, if_neg this]; exact k1
        · obtain ⟨_, q, hq, hq2⟩ := (g7 e he).isIns
          refine (ne e.1 fun e0 => ?_).symm
          rw [e0, ho] at hq; cases hq; rw [hni'] at hq2; cases hq2
  · intro q hq1 hq2 hq3 hq4
    have e0 : q.id ≠ i := fun e0 => by rw [e0, set_self hli] at hq3; cases hq3
    rw [ne q.id e0] at hq3
    have hq2' : q.id ∈ ids := by rcases List.mem_cons.1 hq2 with c | c; exact absurd c e0; exact c
    exact ((h.als q hq1 hq2' hq3 hq4).move (fun _ hp => hp) (fun b hb hn => st.hid b (h.reg _ hb).2 hn)).cons i v
end
end
end Ae
