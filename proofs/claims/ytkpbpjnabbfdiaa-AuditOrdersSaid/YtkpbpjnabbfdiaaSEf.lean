/- The engine, part f: what a drawing region holds fast; small rules. -/
import Derived.Test.YtkpbpjnabbfdiaaSEe
import Derived.OrdersHeld
namespace Go.SE
open Go

variable {C : Cx} {n : Nat} {Q : Kont} {e : Env} {H : WP} {ops : Array Oper} {rest : List Oper} {o : Oper} {k : Env → WP → Prop} {w0 w : World} {l hs : List HP}

/-! ### Small rules -/
/-- a store, the new cells said -/
theorem eo_stw (i : Nat) {t b off T : Nat} {x y : Operand} {ti : TI} {v : Value} {cs : List Value} (new : List Value) (ho : o.op = .store t x y) (hd : o.dst = none)
    (ha : ev e x = some (.pointer (some ⟨b, off, none⟩))) (hv : ev e y = some v) (ht : C.L.ti t = some ti) (hz : v.cells.size = ti.size) (h1 : v.cells.toList.all one = true)
    (hi : l[i]? = some (cells b T cs)) (hl : off + ti.size ≤ cs.length) (hnew : splice cs off v.cells.toList = new) (h : k e (S w0 (l.set i (cells b T new)))) : EO C n o Q e (S w0 l) k :=
  eo_st i ho hd ha hv ht hz h1 hi (Nat.ble_eq_true_of_le hl) (by rw [hnew]; exact h)

theorem eo_min {d : Nat} {x y : Operand} {t t' : Nat} {kd kd' : IntKind} {a b : Int} (ho : o.op = .call { callee := .builtin .min, args := #[x, y], argTypes := #[t, t'] }) (hd : o.dst = some d) (hn : Nat.ble n d = false)
    (hx : ev e x = some (.int kd a)) (hy : ev e y = some (.int kd' b)) (h : k ((d, .int kd (if b < a then b else a)) :: e) H) : EO C n o Q e H k := by
  refine eo_value hd hn (fun ac w hf hw => ?_) h
  unfold execOp
  simp only [ho, resolve, invoke, builtin, Sem.run_bind, Sem.run_pure, Result.andThen_ok, List.map_toArray, List.map_cons, List.map_nil, hf.ev hx, hf.ev hy, run_min_int2]
theorem eo_max {d : Nat} {x y : Operand} {t t' : Nat} {kd kd' : IntKind} {a b : Int} (ho : o.op = .call { callee := .builtin .max, args := #[x, y], argTypes := #[t, t'] }) (hd : o.dst = some d) (hn : Nat.ble n d = false)
    (hx : ev e x = some (.int kd a)) (hy : ev e y = some (.int kd' b)) (h : k ((d, .int kd (if b > a then b else a)) :: e) H) : EO C n o Q e H k := by
  refine eo_value hd hn (fun ac w hf hw => ?_) h
  unfold execOp
  simp only [ho, resolve, invoke, builtin, Sem.run_bind, Sem.run_pure, Result.andThen_ok, List.map_toArray, List.map_cons, List.map_nil, hf.ev hx, hf.ev hy, run_max_int2]

/-- cells, as a row -/
theorem row_of_cells {b T sz m : Nat} {cs : List Value} (hl : cs.length = m * sz) (hm : m ≤ maxLen) {h : Hp} (hp : cells b T cs h) : rowC (some (b, m)) T sz cs m h :=
  ⟨[], by simpa [cells, pt] using hp, hl, by simpa using hl, Nat.le_refl m, hm⟩

/-! ### Two ways out of a call -/
theorem el_or {l : List Oper} {H1 H2 : WP} (hH : ∀ w, H w → H1 w ∨ H2 w) (h1 : EL C n l ops Q e H1) (h2 : EL C n l ops Q e H2) : EL C n l ops Q e H :=
  ⟨fun a w hf hw => (hH w hw).elim (h1.run a w hf) (h2.run a w hf)⟩
theorem eo_call2 {c : Call} {d f : Nat} {first capt args : List Value} {α β : Type} {V1 : α → Value} {φ1 : α → Prop} {H1 : α → WP} {V2 : β → Value} {φ2 : β → Prop} {H2 : β → WP}
    (ho : o.op = .call c) (hd : o.dst = some d) (hn : Nat.ble n d = false) (hc : callee e c.callee = some (f, first, capt))
    (ha : evs e c.args.toList = some args) (hr : Real C.P f) (hs : Does C f (first ++ args ++ capt) H fun v w => (∃ x, v = V1 x ∧ φ1 x ∧ H1 x w) ∨ (∃ y, v = V2 y ∧ φ2 y ∧ H2 y w))
    (h1 : ∀ x, φ1 x → k ((d, V1 x) :: e) (H1 x)) (h2 : ∀ y, φ2 y → k ((d, V2 y) :: e) (H2 y)) : EO C n o Q e H k := by
  refine ⟨fun K hK a w hf hw => ?_⟩
  refine (eo_call (k := fun e' H' => ∀ a w, Fits n e' a → H' w → K a w) ho hd hn hc ha hr hs (fun v a w hf hw => ?_)).run K (fun _ _ h => h) a w hf hw
  rcases hw with ⟨x, rfl, hφ, hw⟩ | ⟨y, rfl, hφ, hw⟩
  · exact hK _ _ (h1 x hφ) a w hf hw
  · exact hK _ _ (h2 y hφ) a w hf hw

/-! ### The memory that stood before, read -/
/-- all that stood there -/
def old (w0 : World) : HP := fun h => ∀ (b : Nat) (o : Obj), w0.heap[b]? = some o → h b = some o
theorem S.begin (w0 : World) : S w0 [old w0] w0 :=
  ⟨rfl, rfl, rfl, Nat.le_refl _, Nat.le_refl _, fun b => w0.heap[b]?, fun _ => none, fun _ => .inr rfl, by funext b; simp [uni], fun _ _ h => h, trivial⟩
theorem S.old_cell {i : Nat} {a : Addr} {v : Value} (h : S w0 l w) (hi : l[i]? = some (old w0)) (hv : w0.cell? a = some v) : w.cell? a = some v := by
  obtain ⟨h1, h2, hd, he, hp, _⟩ := stars_focus l i _ _ h.sat hi
  unfold World.cell? at hv ⊢
  split at hv
  · rename_i c e f hb
    have h3 : w.heap[a.block]? = some (.cells c e f) := by
      have := congrFun he a.block
      simp only [uni, hp _ _ hb, Option.some_or] at this
      exact this
    rw [h3]; exact hv
  · cases hv
def ob (a : Option Addr) : Nat := (a.getD ⟨0, 0, none⟩).block
def oo (a : Option Addr) : Nat := (a.getD ⟨0, 0, none⟩).off
/-- a slice of old: 'n' elements of 'sz' cells -/
structure Sl (w0 : World) (sz : Nat) (a : Option Addr) (xs : List Value) (n : Nat) : Prop where
  len : xs.length = n * sz
  get : ∀ (j : Nat) (u : Value), xs[j]? = some u → a = some ⟨ob a, oo a, none⟩ ∧ w0.cell? ⟨ob a, oo a + j, none⟩ = some u
theorem eo_idxo {d : Nat} {x y : Operand} {kd : IntKind} {a : Option Addr} {m c t : Nat} {i : Int} {xs : List Value} {tl te : TI} {E : TypeId} (ho : o.op = .indexAddr t x y) (hd : o.dst = some d) (hn : Nat.ble n d = false)
    (hx : ev e x = some (.slice a m c)) (hy : ev e y = some (.int kd i)) (ht : C.L.ti t = some tl) (hk : tl.kind = .slice E) (hE : C.L.ti E = some te) (hs : Nat.ble 1 te.size = true) (hS : Sl w0 te.size a xs m) (hi : 0 ≤ i ∧ i < m)
    (h : k ((d, .pointer (some ⟨ob a, oo a + i.toNat * te.size, none⟩)) :: e) H) : EO C n o Q e H k := by
  have hs' := Nat.le_of_ble_eq_true hs
  have h1 : 0 < xs.length := by rw [hS.len]; exact Nat.mul_pos (by omega) (by omega)
  obtain ⟨h2, _⟩ := hS.get 0 _ (List.getElem?_eq_getElem h1)
  exact eo_idx (b := ob a) (off := oo a) (c := c) ho hd hn (by rw [hx]; exact congrArg some (congrArg (fun a => Value.slice a m c) h2)) hy ht hk hE hi h
theorem eo_ldo (i j : Nat) {d t sz m : Nat} {a : Option Addr} {x : Operand} {ti : TI} {v : Value} {xs : List Value} (ho : o.op = .load t x) (hd : o.dst = some d) (hn : Nat.ble n d = false)
    (ha : ev e x = some (.pointer (some ⟨ob a, oo a + j, none⟩))) (ht : C.L.ti t = some ti) (hk : ti.kind.agg = false) (hi : l[i]? = some (old w0)) (hS : Sl w0 sz a xs m) (hv : xs[j]? = some v)
    (h : k ((d, v) :: e) (S w0 l)) : EO C n o Q e (S w0 l) k := eo_load ho hd hn ha ht hk (fun _ hw => hw.old_cell hi (hS.get j v hv).2) h
theorem eo_ldoA (i j : Nat) {d t sz m : Nat} {a : Option Addr} {x : Operand} {ti : TI} {cs xs : List Value} (ho : o.op = .load t x) (hd : o.dst = some d) (hn : Nat.ble n d = false)
    (ha : ev e x = some (.pointer (some ⟨ob a, oo a + j, none⟩))) (ht : C.L.ti t = some ti) (hk : ti.kind.agg = true) (hi : l[i]? = some (old w0)) (hS : Sl w0 sz a xs m) (hs : cs.length = ti.size) (hv : ∀ q, q < ti.size → xs[j + q]? = cs[q]?)
    (h : k ((d, .agg cs.toArray) :: e) (S w0 l)) : EO C n o Q e (S w0 l) k :=
  eo_loadA ho hd hn ha ht hk hs (fun w hw q hq => by
    have hlt : q < cs.length := by omega
    have := hv q hq
    rw [List.getElem?_eq_getElem hlt] at this
    rw [List.getElem?_eq_getElem hlt, Nat.add_assoc]
    exact hw.old_cell hi (hS.get _ _ this).2) h

/-! ### Held -/
/-- each of 'hs' stands in 'l' -/
inductive Holds (l : List HP) : List HP → Prop where
  | nil : Holds l []
  | cons {p : HP} {hs : List HP} (i : Nat) (h : l[i]? = some p) (hr : Holds l hs) : Holds l (p :: hs)
  | weak {p q : HP} {hs : List HP} (i : Nat) (h : l[i]? = some q) (hq : ∀ h, q h → p h) (hr : Holds l hs) : Holds l (p :: hs)
theorem Holds.get {l hs : List HP} (h : Holds l hs) : ∀ {j : Nat} {p : HP}, hs[j]? = some p → ∃ (i : Nat) (q : HP), l[i]? = some q ∧ ∀ h, q h → p h := by
  induction h with
  | nil => intro j p h; simp at h
  | cons i h hr ih =>
    intro j p hj
    cases j with
    | zero => simp at hj; subst hj; exact ⟨i, _, h, fun _ h => h⟩
    | succ j => exact ih (by simpa using hj)
  | weak i h hq hr ih =>
    intro j p hj
    cases j with
    | zero => simp at hj; subst hj; exact ⟨i, _, h, hq⟩
    | succ j => exact ih (by simpa using hj)
/-- what is held: in each world of the region -/
def Held (w0 : World) (hs : List HP) (w : World) : Prop := ∃ l, S w0 l w ∧ Holds l hs
theorem held (h : Holds l hs) : ∀ w, S w0 l w → Held w0 hs w := fun _ hw => ⟨l, hw, h⟩
theorem Held.cell {j b T off : Nat} {cs : List Value} {v : Value} (h : Held w0 hs w) (hi : hs[j]? = some (cells b T cs)) (hv : cs[off]? = some v) : w.cell? ⟨b, off, none⟩ = some v := by
  obtain ⟨l, h1, h2⟩ := h
  obtain ⟨i, q, h3, hq⟩ := h2.get hi
  have hil := (List.getElem?_eq_some_iff.1 h3).1
  exact (h1.imp h3 hq).cell (i := i) (T := T) (cs := cs) (by simp [hil]) hv
theorem Held.row {j T sz m off : Nat} {r : Option (Nat × Nat)} {cs : List Value} {v : Value} (h : Held w0 hs w) (hi : hs[j]? = some (rowC r T sz cs m)) (hv : cs[off]? = some v) : w.cell? ⟨blk r, off, none⟩ = some v := by
  obtain ⟨l, h1, h2⟩ := h
  obtain ⟨i, q, h3, hq⟩ := h2.get hi
  have hil := (List.getElem?_eq_some_iff.1 h3).1
  exact (h1.imp h3 hq).row_cell (i := i) (r := r) (T := T) (sz := sz) (n := m) (xs := cs) (by simp [hil]) hv

/-- an operation that answers in each such world, and leaves it -/
structure ER (C : Cx) (n : Nat) (o : Oper) (e : Env) (I : WP) (v : Value) : Prop where
  run : ∀ a w, Fits n e a → I w → (execOp a.eval o).run C.P w = .ok (.value v) w

theorem er_load {I : WP} {t b off : Nat} {x : Operand} {ti : TI} {v : Value} (ho : o.op = .load t x)
    (ha : ev e x = some (.pointer (some ⟨b, off, none⟩))) (ht : C.L.ti t = some ti) (hk : ti.kind.agg = false) (hc : ∀ w, I w → w.cell? ⟨b, off, none⟩ = some v) : ER C n o e I v := by
  refine ⟨fun a w hf hw => ?_⟩
  unfold execOp
  rw [ho]
  simp [hf.ev ha, Instr.loadAt, Instr.sureAddr, loadVar, isAgg_run (C.ok _ _ ht), hk, hc w hw]
theorem er_loadA {I : WP} {t b off : Nat} {x : Operand} {ti : TI} {cs : List Value} (ho : o.op = .load t x)
    (ha : ev e x = some (.pointer (some ⟨b, off, none⟩))) (ht : C.L.ti t = some ti) (hk : ti.kind.agg = true) (hs : cs.length = ti.size) (hc : ∀ w, I w → ∀ j, j < ti.size → w.cell? ⟨b, off + j, none⟩ = cs[j]?) :
    ER C n o e I (.agg cs.toArray) := by
  refine ⟨fun a w hf hw => ?_⟩
  unfold execOp
  rw [ho]
  have := loadCells_run (P := C.P) (w := w) (b := b) (off := off) (c := cs) (m := ti.size) (hc w hw) (by omega)
  rw [List.take_of_length_le (by omega)] at this
  simp [hf.ev ha, Instr.loadAt, Instr.sureAddr, loadVar, isAgg_run (C.ok _ _ ht), hk, sizeOf_run (C.ok _ _ ht), this]
theorem er_ld (j : Nat) {t b off T : Nat} {x : Operand} {ti : TI} {v : Value} {cs : List Value} (ho : o.op = .load t x)
    (ha : ev e x = some (.pointer (some ⟨b, off, none⟩))) (ht : C.L.ti t = some ti) (hk : ti.kind.agg = false) (hi : hs[j]? = some (cells b T cs)) (hv : cs[off]? = some v) : ER C n o e (Held w0 hs) v :=
  er_load ho ha ht hk fun _ hw => hw.cell hi hv
theorem er_ldr (j : Nat) {t off T sz m : Nat} {r : Option (Nat × Nat)} {x : Operand} {ti : TI} {v : Value} {cs : List Value} (ho : o.op = .load t x)
    (ha : ev e x = some (.pointer (some ⟨blk r, off, none⟩))) (ht : C.L.ti t = some ti) (hk : ti.kind.agg = false) (hi : hs[j]? = some (rowC r T sz cs m)) (hv : cs[off]? = some v) : ER C n o e (Held w0 hs) v :=
  er_load ho ha ht hk fun _ hw => hw.row hi hv
theorem er_ldA (j : Nat) {t b off T : Nat} {x : Operand} {ti : TI} {cs : List Value} (ho : o.op = .load t x)
    (ha : ev e x = some (.pointer (some ⟨b, off, none⟩))) (ht : C.L.ti t = some ti) (hk : ti.kind.agg = true) (hi : hs[j]? = some (cells b T cs)) (hl : off + ti.size ≤ cs.length) :
    ER C n o e (Held w0 hs) (.agg (cellsAt cs off ti.size).toArray) :=
  er_loadA ho ha ht hk (by simp [cellsAt]; omega) (fun w hw j' hj => by
    have hlt : off + j' < cs.length := by omega
    rw [hw.cell hi (List.getElem?_eq_getElem hlt)]
    simp [cellsAt, hj, List.getElem?_drop, hlt])
theorem er_ldW (j : Nat) {t b T : Nat} {x : Operand} {ti : TI} {cs : List Value} (ho : o.op = .load t x)
    (ha : ev e x = some (.pointer (some ⟨b, 0, none⟩))) (ht : C.L.ti t = some ti) (hk : ti.kind.agg = true) (hi : hs[j]? = some (cells b T cs)) (hl : cs.length = ti.size) :
    ER C n o e (Held w0 hs) (.agg cs.toArray) :=
  er_loadA ho ha ht hk hl (fun w hw j' hj => by
    have hlt : j' < cs.length := by omega
    rw [Nat.zero_add, hw.cell hi (List.getElem?_eq_getElem hlt)]; simp [hlt])

theorem er_pnil {I : WP} {x y : Operand} {op : BinOp} {t t' : Nat} {a : Option Addr} {ti : TI} {E : TypeId} (ho : o.op = .binOp op t x y t') (hop : op = .eql ∨ op = .neq)
    (hx : ev e x = some (.pointer a)) (hy : ev e y = some (.pointer none)) (ht : C.L.ti t = some ti) (hk : ti.kind = .ptr E) : ER C n o e I (.bool (eqOr op a.isNone)) := by
  refine ⟨fun ac w hf hw => ?_⟩
  have hq := equal_ptr (a := a) (kind_ptr (C.ok _ _ ht) hk) w
  have hg : (eqGuard op t x y (.pointer a) (.pointer none)).run C.P w = .ok () w := by rcases hop with rfl | rfl <;> simp [eqGuard]
  have h1 : binOp .eql t (.pointer a) (.pointer none) = (do pure (.bool (← Op.equal t (.pointer a) (.pointer none)))) := rfl
  have h2 : binOp .neq t (.pointer a) (.pointer none) = (do pure (.bool (!(← Op.equal t (.pointer a) (.pointer none))))) := rfl
  unfold execOp
  rw [ho]
  rcases hop with rfl | rfl
  · simp only [Sem.run_bind, hf.ev hx, hf.ev hy, hg, Result.andThen_ok, h1, hq, Sem.run_pure, eqOr]
  · simp only [Sem.run_bind, hf.ev hx, hf.ev hy, hg, Result.andThen_ok, h2, hq, Sem.run_pure, eqOr]
structure EH (C : Cx) (n : Nat) (I : WP) (fuel : Nat) (listed : List Bool) (ops : Array Oper) (Q : Kont) (e : Env) (H : WP) : Prop where
  run : ∀ a w, Fits n e a → H w → wpAnyH C.P .any ops (Q.post C n) I fuel listed.toArray a w

theorem ej_held (hs : List HP) {i : Nat} {l' : List Oper} (h : EH C n (Held w0 hs) l'.length (List.replicate l'.length false) l'.toArray (.calm Q) e (S w0 l)) : EJ C n (.region i l'.toArray true) Q e (S w0 l) := by
  refine ej_draw ⟨fun a w hf hw => ?_⟩
  exact wpAny_of_held _ _ _ _ (h.run a w hf hw)

theorem eh_done {I : WP} {fuel : Nat} {listed : List Bool} (hr : Region.ready .any ops listed.toArray = []) (h : EQ C n .normal Q e H) : EH C n I fuel listed ops Q e H :=
  ⟨fun a w hf hw => wpAnyH_done hr (h.run a w hf hw) fuel⟩
/-- taken first: it hangs on no world -/
theorem eh_take {I : WP} (i : Nat) {d : Nat} {v : Value} {fuel : Nat} {listed : List Bool} {oi : Oper} {Q : Kont} (hI : ∀ w, H w → I w) (hi : ops[i]? = some oi) (hs : Region.noSelect ops = true) (hfr : Region.free .any ops listed.toArray i = true)
    (hr : (Region.ready .any ops listed.toArray).contains i = true) (hg : want ops e oi = some true) (hv : pureOp C.L e oi.op = some v) (hd : oi.dst = some d) (hn : Nat.ble n d = false)
    (h : EH C n I fuel (listed.set i true) ops (.calm Q) ((d, v) :: e) H) : EH C n I (fuel + 1) listed ops (.calm Q) e H := by
  refine ⟨fun a w hf hw => ?_⟩
  refine wpAnyH_take hi hs hfr hr (fun _ _ _ h => h) (.inl ⟨want_spec hf hg, fun w _ => pure_run C.ok hf hv w⟩) (hI w hw) ?_
  have := h.run (a.put oi.dst v) w (by rw [hd]; exact hf.put hn v) hw
  simpa using this
/-- taken first: it hangs on what is held -/
theorem eh_load {I : WP} (i : Nat) {d : Nat} {v : Value} {fuel : Nat} {listed : List Bool} {oi : Oper} {Q : Kont} (hI : ∀ w, H w → I w) (hi : ops[i]? = some oi) (hs : Region.noSelect ops = true) (hfr : Region.free .any ops listed.toArray i = true)
    (hr : (Region.ready .any ops listed.toArray).contains i = true) (hg : want ops e oi = some true) (hd : oi.dst = some d) (hn : Nat.ble n d = false) (hv : ER C n oi e I v)
    (h : EH C n I fuel (listed.set i true) ops (.calm Q) ((d, v) :: e) H) : EH C n I (fuel + 1) listed ops (.calm Q) e H := by
  refine ⟨fun a w hf hw => ?_⟩
  refine wpAnyH_take hi hs hfr hr (fun _ _ _ h => h) (.inl ⟨want_spec hf hg, fun w hw => hv.run a w hf hw⟩) (hI w hw) ?_
  have := h.run (a.put oi.dst v) w (by rw [hd]; exact hf.put hn v) hw
  simpa using this
theorem eh_skip {I : WP} (i : Nat) {d : Nat} {fuel : Nat} {listed : List Bool} {oi : Oper} {Q : Kont} (hI : ∀ w, H w → I w) (hi : ops[i]? = some oi) (hs : Region.noSelect ops = true) (hfr : Region.free .any ops listed.toArray i = true)
    (hr : (Region.ready .any ops listed.toArray).contains i = true) (hg : want ops e oi = some false) (hd : oi.dst = some d) (hn : Nat.ble n d = false)
    (h : EH C n I fuel (listed.set i true) ops (.calm Q) ((d, undef) :: e) H) : EH C n I (fuel + 1) listed ops (.calm Q) e H := by
  refine ⟨fun a w hf hw => ?_⟩
  refine wpAnyH_take (v := undef) hi hs hfr hr (fun _ _ _ h => h) (.inr ⟨want_spec hf hg, rfl⟩) (hI w hw) ?_
  have := h.run (a.put oi.dst undef) w (by rw [hd]; exact hf.put hn undef) hw
  simpa using this
/-- the ways on: each that may come up -/
structure HWay (C : Cx) (n : Nat) (I : WP) (i : Nat) (fuel : Nat) (listed : List Bool) (ops : Array Oper) (Q : Kont) (e : Env) (H : WP) : Prop where
  run : ∀ a w, Fits n e a → H w → wpOp C.P ops (Q.post C n) i (fun a' w' => I w' ∧ wpAnyH C.P .any ops (Q.post C n) I fuel (listed.set i true).toArray a' w') a w
theorem hway {I : WP} {i : Nat} {fuel : Nat} {listed : List Bool} {oi : Oper} (hi : ops[i]? = some oi) (hg : want ops e oi = some true)
    (h : EO C n oi Q e H fun e' H' => (∀ w, H' w → I w) ∧ EH C n I fuel (listed.set i true) ops Q e' H') : HWay C n I i fuel listed ops Q e H := by
  refine ⟨fun a w hf hw => ?_⟩
  unfold wpOp
  rw [hi]
  simp only [want_spec hf hg, if_true]
  exact .inl (h.run _ (fun e' H' hk a w hf hw => ⟨hk.1 w hw, hk.2.run a w hf hw⟩) a w hf hw)
theorem hway_skip {I : WP} {i d : Nat} {fuel : Nat} {listed : List Bool} {oi : Oper} (hi : ops[i]? = some oi) (hg : want ops e oi = some false) (hd : oi.dst = some d) (hn : Nat.ble n d = false) (hI : ∀ w, H w → I w)
    (h : EH C n I fuel (listed.set i true) ops Q ((d, undef) :: e) H) : HWay C n I i fuel listed ops Q e H := by
  refine ⟨fun a w hf hw => ?_⟩
  unfold wpOp
  rw [hi]
  simp only [want_spec hf hg, hd]
  exact ⟨hI w hw, h.run _ w (hf.put hn undef) hw⟩
inductive HWays (C : Cx) (n : Nat) (I : WP) (fuel : Nat) (listed : List Bool) (ops : Array Oper) (Q : Kont) (e : Env) (H : WP) : List Nat → Prop where
  | nil : HWays C n I fuel listed ops Q e H []
  | cons {i : Nat} {rs : List Nat} (h : HWay C n I i fuel listed ops Q e H) (hr : HWays C n I fuel listed ops Q e H rs) : HWays C n I fuel listed ops Q e H (i :: rs)
theorem eh_ways {I : WP} (rs : List Nat) {fuel : Nat} {listed : List Bool} (hr : Region.ready .any ops listed.toArray = rs) (hne : rs.isEmpty = false) (h : HWays C n I fuel listed ops Q e H rs) : EH C n I (fuel + 1) listed ops Q e H := by
  refine ⟨fun a w hf hw => wpAnyH_all hr (by intro h; simp [h] at hne) fun i hi => ?_⟩
  have key : ∀ rs, HWays C n I fuel listed ops Q e H rs → i ∈ rs → HWay C n I i fuel listed ops Q e H := by
    intro rs h
    induction h with
    | nil => intro hi; cases hi
    | cons h _ ih =>
      intro hi
      rcases List.mem_cons.1 hi with rfl | hi
      · exact h
      · exact ih hi
  have := (key rs h hi).run a w hf hw
  simpa using this
/-- the one way on -/
theorem eh_way {I : WP} (i : Nat) {fuel : Nat} {listed : List Bool} (hr : Region.ready .any ops listed.toArray = [i]) (h : HWay C n I i fuel listed ops Q e H) : EH C n I (fuel + 1) listed ops Q e H :=
  eh_ways [i] hr rfl (.cons h .nil)
theorem eh_split {I : WP} {fuel : Nat} {listed : List Bool} (d : Nat) {b : Bool} (hv : get e d = some (.bool b)) (h1 : b = true → EH C n I fuel listed ops Q ((d, .bool true) :: e) H) (h2 : b = false → EH C n I fuel listed ops Q ((d, .bool false) :: e) H) :
    EH C n I fuel listed ops Q e H := by
  refine ⟨fun a w hf hw => ?_⟩
  cases hb : b with
  | true => exact (h1 hb).run a w (hf.refine hv hb) hw
  | false => exact (h2 hb).run a w (hf.refine hv hb) hw
theorem eh_val {I : WP} {fuel : Nat} {listed : List Bool} (d : Nat) {v u : Value} (hv : get e d = some v) (hu : v = u) (h : EH C n I fuel listed ops Q ((d, u) :: e) H) : EH C n I fuel listed ops Q e H := by
  subst hu
  exact ⟨fun a w hf hw => h.run a w (hf.mono (le_cons hv (le_refl e))) hw⟩

/-! ### One way on, for several ways here -/
theorem eq_le {E0 : Env} {H0 : WP} (k : EQ C n .normal Q E0 H0) (he : le E0 e) (hH : ∀ w, H w → H0 w) : EQ C n .normal Q e H := ⟨fun a w hf hw => k.run a w (hf.mono he) (hH w hw)⟩
theorem eh_cont {α : Type} {I : WP} {fuel : Nat} {listed : List Bool} (E0 : α → Env) (H0 : α → WP) (h1 : (∀ x, EQ C n .normal Q (E0 x) (H0 x)) → EH C n I fuel listed ops Q e H) (h2 : ∀ x, EQ C n .normal Q (E0 x) (H0 x)) : EH C n I fuel listed ops Q e H := h1 h2
theorem S.swap {p q : HP} (h : S w0 (p :: q :: l) w) : S w0 (q :: p :: l) w := h.front (i := 1) rfl

end Go.SE
