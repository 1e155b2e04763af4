/- The engine, part d: tests against nil, structs and rows built, loads and stores in rows, regions that draw their order, results. -/
import Derived.Test.YtkpbpjnabbfdiaaSEc
namespace Go.SE
open Go

variable {C : Cx} {n : Nat} {Q : Kont} {e : Env} {H : WP} {ops : Array Oper} {rest : List Oper} {o : Oper} {k : Env → WP → Prop} {w0 w : World} {l : List HP}

/-! ### nil -/
theorem kind_ptr {P : Program} {t : TypeId} {ti : TI} (h : Has P t ti) {e : TypeId} (hk : ti.kind = .ptr e) : P.underlying t = some (.pointer e) := by
  obtain ⟨d, h1, h2⟩ := h.under
  rw [hk] at h2
  cases d <;> simp [kindOf] at h2
  rw [h1, h2]
theorem equal_slice {P : Program} {t E m c : Nat} {a : Option Addr} (hu : P.underlying t = some (.slice E)) (w : World) : (Op.equal t (.slice a m c) (.slice none 0 0)).run P w = .ok a.isNone w := by
  show (Op.equalIn (9999 + 1) t _ _).run P w = _
  rw [Op.equalIn]
  simp only [Sem.run_bind, underlying_run hu, Result.andThen_ok]
  cases a <;> rfl
theorem equal_ptr {P : Program} {t E : Nat} {a : Option Addr} (hu : P.underlying t = some (.pointer E)) (w : World) : (Op.equal t (.pointer a) (.pointer none)).run P w = .ok a.isNone w := by
  show (Op.equalIn (9999 + 1) t _ _).run P w = _
  rw [Op.equalIn]
  simp only [Sem.run_bind, underlying_run hu, Result.andThen_ok]
  cases a <;> rfl
theorem equal_bool {P : Program} {t : Nat} {a b : Bool} (hu : P.underlying t = some .bool) (w : World) : (Op.equal t (.bool a) (.bool b)).run P w = .ok (a == b) w := by
  show (Op.equalIn (9999 + 1) t _ _).run P w = _
  rw [Op.equalIn]
  simp only [Sem.run_bind, underlying_run hu, Result.andThen_ok]
  rfl
def eqOr (op : BinOp) (b : Bool) : Bool := match op with | .eql => b | _ => !b
theorem eo_eqv {d : Nat} {x y : Operand} {op : BinOp} {t t' : Nat} {v u : Value} {r : Bool} (ho : o.op = .binOp op t x y t') (hop : op = .eql ∨ op = .neq) (hd : o.dst = some d) (hn : Nat.ble n d = false)
    (hx : ev e x = some v) (hy : ev e y = some u) (hg : ∀ w, (eqGuard op t x y v u).run C.P w = .ok () w) (h1 : binOp .eql t v u = (do pure (.bool (← Op.equal t v u)))) (h2 : binOp .neq t v u = (do pure (.bool (!(← Op.equal t v u)))))
    (he : ∀ w, (Op.equal t v u).run C.P w = .ok r w) (h : k ((d, .bool (eqOr op r)) :: e) H) : EO C n o Q e H k := by
  refine eo_value hd hn (fun ac w hf hw => ?_) h
  unfold execOp
  rcases hop with rfl | rfl
  · simp only [ho, Sem.run_bind, hf.ev hx, hf.ev hy, hg w, Result.andThen_ok, h1, he w, Sem.run_pure, eqOr]
  · simp only [ho, Sem.run_bind, hf.ev hx, hf.ev hy, hg w, Result.andThen_ok, h2, he w, Sem.run_pure, eqOr]
/-- a slice against nil: is it nil? -/
theorem eo_snil {d : Nat} {x y : Operand} {op : BinOp} {t t' m c : Nat} {a : Option Addr} {ti : TI} {E : TypeId} (ho : o.op = .binOp op t x y t') (hop : op = .eql ∨ op = .neq) (hd : o.dst = some d) (hn : Nat.ble n d = false)
    (hx : ev e x = some (.slice a m c)) (hy : ev e y = some (.slice none 0 0)) (ht : C.L.ti t = some ti) (hk : ti.kind = .slice E)
    (h : k ((d, .bool (eqOr op a.isNone)) :: e) H) : EO C n o Q e H k :=
  eo_eqv ho hop hd hn hx hy (fun w => by rcases hop with rfl | rfl <;> simp [eqGuard]) rfl rfl (equal_slice (kind_slice (C.ok _ _ ht) hk)) h
/-- a pointer against nil -/
theorem eo_pnil {d : Nat} {x y : Operand} {op : BinOp} {t t' : Nat} {a : Option Addr} {ti : TI} {E : TypeId} (ho : o.op = .binOp op t x y t') (hop : op = .eql ∨ op = .neq) (hd : o.dst = some d) (hn : Nat.ble n d = false)
    (hx : ev e x = some (.pointer a)) (hy : ev e y = some (.pointer none)) (ht : C.L.ti t = some ti) (hk : ti.kind = .ptr E)
    (h : k ((d, .bool (eqOr op a.isNone)) :: e) H) : EO C n o Q e H k :=
  eo_eqv ho hop hd hn hx hy (fun w => by rcases hop with rfl | rfl <;> simp [eqGuard]) rfl rfl (equal_ptr (kind_ptr (C.ok _ _ ht) hk)) h
theorem kind_bool {P : Program} {t : TypeId} {ti : TI} (h : Has P t ti) (hk : ti.kind = .bool) : P.underlying t = some .bool := by
  obtain ⟨d, h1, h2⟩ := h.under
  rw [hk] at h2
  cases d <;> simp [kindOf] at h2
  rw [h1]
/-- two Bools -/
theorem eo_beq {d : Nat} {x y : Operand} {op : BinOp} {t t' : Nat} {a b : Bool} {ti : TI} (ho : o.op = .binOp op t x y t') (hop : op = .eql ∨ op = .neq) (hd : o.dst = some d) (hn : Nat.ble n d = false)
    (hx : ev e x = some (.bool a)) (hy : ev e y = some (.bool b)) (ht : C.L.ti t = some ti) (hk : ti.kind = .bool)
    (h : k ((d, .bool (eqOr op (a == b))) :: e) H) : EO C n o Q e H k :=
  eo_eqv ho hop hd hn hx hy (fun w => by rcases hop with rfl | rfl <;> simp [eqGuard]) rfl rfl (equal_bool (kind_bool (C.ok _ _ ht) hk)) h

/-! ### Structs and rows, built -/
def fillL (place : Nat → Option (Nat × Nat)) : List Value → List (Nat × Value) → Option (List Value)
  | cs, [] => some cs
  | cs, (i, v) :: r => match place i with
    | none => none
    | some (off, size) => bif Nat.beq v.cells.size size && Nat.ble (off + v.cells.size) cs.length then fillL place (splice cs off v.cells.toList) r else none
theorem splice_fold (vs : List Value) : ∀ (cs : List Value) (off j : Nat), (vs.zipIdx j).foldl (fun cs (c, j) => cs.setIfInBounds (off + j) c) cs.toArray = (splice cs (off + j) vs).toArray := by
  induction vs with
  | nil => intro cs off j; rfl
  | cons v r ih =>
    intro cs off j
    simp only [List.zipIdx_cons, List.foldl_cons, splice]
    have : cs.toArray.setIfInBounds (off + j) v = (cs.set (off + j) v).toArray := by simp
    rw [this, ih (cs.set (off + j) v) off (j + 1)]
    rfl
theorem fill_eq (place : Nat → Option (Nat × Nat)) : ∀ (parts : List (Nat × Value)) (cs cs' : List Value), fillL place cs parts = some cs' → Instr.fill place cs.toArray parts = some cs'.toArray := by
  intro parts
  induction parts with
  | nil => intro cs cs' h; simp only [fillL, Option.some.injEq] at h; subst h; rfl
  | cons x r ih =>
    obtain ⟨i, v⟩ := x
    intro cs cs' h
    simp only [fillL] at h
    unfold Instr.fill
    split at h
    · cases h
    · rename_i off size hp
      rw [hp]
      by_cases hb : (Nat.beq v.cells.size size && Nat.ble (off + v.cells.size) cs.length) = true
      · rw [hb] at h
        simp only [cond_true] at h
        rw [Bool.and_eq_true] at hb
        have h1 := Nat.eq_of_beq_eq_true hb.1
        have h2 := Nat.le_of_ble_eq_true hb.2
        simp only [h1, ne_eq, not_true_eq_false, decide_false, Bool.false_or, List.size_toArray, gt_iff_lt]
        rw [if_neg (by simp; omega)]
        have h3 := splice_fold v.cells.toList cs off 0
        rw [Nat.add_zero] at h3
        have h4 : (v.cells.zipIdx.foldl (fun cs (c, j) => cs.setIfInBounds (off + j) c) cs.toArray) = (splice cs off v.cells.toList).toArray := by
          rw [← h3, ← Array.foldl_toList, Array.toList_zipIdx]
        rw [h4]
        exact ih _ _ h
      · simp only [Bool.not_eq_true] at hb
        rw [hb] at h
        cases h

def evParts (e : Env) : List (Nat × Operand) → Option (List (Nat × Value))
  | [] => some []
  | (i, x) :: r => match ev e x, evParts e r with
    | some v, some l => some ((i, v) :: l)
    | _, _ => none
theorem evParts_spec {a : Act} (hf : Fits n e a) : ∀ {xs : List (Nat × Operand)} {l : List (Nat × Value)}, evParts e xs = some l → xs.map (fun (i, x) => (i, a.eval x)) = l := by
  intro xs
  induction xs with
  | nil => intro l h; simp [evParts] at h; simp [← h]
  | cons x r ih =>
    obtain ⟨i, x⟩ := x
    intro l h
    simp only [evParts] at h
    split at h
    · rename_i v l' h1 h2
      simp only [Option.some.injEq] at h
      rw [← h, List.map_cons, ih h2]
      simp only [hf.ev h1]
    · cases h
def sizesOf (L : Lay) : List (TypeId × Nat) → Option (List (Nat × Nat))
  | [] => some []
  | (t, o) :: r => match L.ti t, sizesOf L r with
    | some ti, some l => some ((o, ti.size) :: l)
    | _, _ => none

theorem places_run {P : Program} {L : Lay} (ok : L.Ok P) (w : World) : ∀ (gs : List Field) (ps : List (Nat × Nat)), sizesOf L (gs.map fun f => (f.type, f.offset)) = some ps →
    (gs.mapM fun f => (do pure (f.offset, ← sizeOf f.type) : Sem (Nat × Nat))).run P w = .ok ps w := by
  intro gs
  induction gs with
  | nil => intro ps h; simp [sizesOf] at h; subst h; simp
  | cons g gs ih =>
    intro ps h
    simp only [List.map_cons, sizesOf] at h
    split at h
    · rename_i ti l h1 h2
      simp only [Option.some.injEq] at h
      subst h
      rw [List.mapM_cons]
      simp only [Sem.run_bind, sizeOf_run (ok _ _ h1), Result.andThen_ok, Sem.run_pure, ih l h2]
    · cases h

theorem mapM_arr {P : Program} {w : World} {α β : Type} (f : α → Sem β) (xs : Array α) (ys : List β) (h : (xs.toList.mapM f).run P w = .ok ys w) : (xs.mapM f).run P w = .ok ys.toArray w := by
  rw [← Array.toList_mapM] at h
  simp only [Sem.run_map] at h
  cases hr : (xs.mapM f).run P w with
  | ok r w' =>
    simp only [hr, Result.andThen_ok, Result.ok.injEq] at h
    obtain ⟨rfl, rfl⟩ := h
    simp
  | halt _ _ => simp [hr] at h

/-- a struct, built -/
theorem eo_build {d t : Nat} {ps : Array (Nat × Operand)} {parts : List (Nat × Value)} {ti : TI} {fs : List (TypeId × Nat)} {pl : List (Nat × Nat)} {cs : List Value} (ho : o.op = .build t ps) (hd : o.dst = some d) (hn : Nat.ble n d = false)
    (ht : C.L.ti t = some ti) (hk : ti.kind = .struct fs) (hpl : sizesOf C.L fs = some pl) (hp : evParts e ps.toList = some parts) (hc : fillL (pl[·]?) ti.zero.cells.toList parts = some cs)
    (h : k ((d, .agg cs.toArray) :: e) H) : EO C n o Q e H k := by
  refine eo_value hd hn (fun ac w hf hw => ?_) h
  obtain ⟨gs, h1, h2⟩ := kind_struct (C.ok _ _ ht) hk
  have h3 := evParts_spec hf hp
  unfold execOp
  rw [ho]
  simp only [Instr.build, Sem.run_bind, zero_run (C.ok _ _ ht), Result.andThen_ok, underlying_run h1]
  rw [mapM_arr _ gs pl (places_run C.ok w gs.toList pl (by rw [h2]; exact hpl))]
  simp only [Result.andThen_ok]
  have h4 : (ps.map fun (i, x) => (i, ac.eval x)).toList = parts := by rw [Array.toList_map]; exact h3
  have h5 := fill_eq (fun i => pl[i]?) parts ti.zero.cells.toList cs hc
  simp only [Array.toArray_toList] at h5
  rw [h4]
  have h6 : Instr.fill (fun x => pl.toArray[x]?) ti.zero.cells parts = some cs.toArray := by
    rw [← h5]; congr 1; funext x; simp
  rw [h6]
  simp
/-- an array, built -/
theorem eo_buildA {d t m E : Nat} {ps : Array (Nat × Operand)} {parts : List (Nat × Value)} {ti te : TI} {cs : List Value} (ho : o.op = .build t ps) (hd : o.dst = some d) (hn : Nat.ble n d = false)
    (ht : C.L.ti t = some ti) (hk : ti.kind = .array m E) (hE : C.L.ti E = some te) (hp : evParts e ps.toList = some parts) (hc : fillL (fun i => some (i * te.size, te.size)) ti.zero.cells.toList parts = some cs)
    (h : k ((d, .agg cs.toArray) :: e) H) : EO C n o Q e H k := by
  refine eo_value hd hn (fun ac w hf hw => ?_) h
  have h3 := evParts_spec hf hp
  unfold execOp
  rw [ho]
  simp only [Instr.build, Sem.run_bind, zero_run (C.ok _ _ ht), Result.andThen_ok, underlying_run (kind_array (C.ok _ _ ht) hk), sizeOf_run (C.ok _ _ hE)]
  have h4 : (ps.map fun (i, x) => (i, ac.eval x)).toList = parts := by rw [Array.toList_map]; exact h3
  have h5 := fill_eq (fun i => some (i * te.size, te.size)) parts ti.zero.cells.toList cs hc
  simp only [Array.toArray_toList] at h5
  rw [h4, h5]
  simp

def rowZ : Nat → List Value → List Value
  | 0, _ => []
  | m + 1, z => rowZ m z ++ z
theorem rowZ_length (z : List Value) : ∀ m, (rowZ m z).length = m * z.length
  | 0 => by simp [rowZ]
  | m + 1 => by simp [rowZ, rowZ_length z m, Nat.succ_mul]
theorem rowZ_eq (z : Array Value) : ∀ m, (Array.range (m * z.size)).map (z[· % z.size]!) = (rowZ m z.toList).toArray := by
  intro m
  apply Array.toList_inj.1
  rw [Array.toList_map, Array.toList_range]
  show _ = rowZ m z.toList
  induction m with
  | zero => simp [rowZ]
  | succ m ih =>
    rw [Nat.succ_mul, List.range_add, List.map_append, ih]
    simp only [rowZ]
    congr 1
    apply List.ext_getElem
    · simp
    · intro i h1 h2
      have hi : i < z.size := by simpa using h2
      simp only [List.map_map, List.getElem_map, List.getElem_range, Function.comp]
      rw [Nat.add_comm, Nat.add_mul_mod_self_right, Nat.mod_eq_of_lt hi, getElem!_pos z i hi]
      simp
/-- a row of memory, built -/
theorem eo_buildS {d t E m : Nat} {ps : Array (Nat × Operand)} {parts : List (Nat × Value)} {ti te : TI} {cs : List Value} (ho : o.op = .buildSlice t m ps) (hd : o.dst = some d) (hn : Nat.ble n d = false)
    (ht : C.L.ti t = some ti) (hk : ti.kind = .slice E) (hE : C.L.ti E = some te) (hzs : te.zero.cells.size = te.size) (hm : Nat.ble (m * te.size) 16777216 = true) (hp : evParts e ps.toList = some parts)
    (hc : fillL (fun i => some (i * te.size, te.size)) (rowZ m te.zero.cells.toList) parts = some cs)
    (h : ∀ b, k ((d, .slice (some ⟨b, 0, none⟩) m m) :: e) (S w0 (cells b E cs :: l))) : EO C n o Q e (S w0 l) k := by
  refine eo_some hd hn (fun b => .slice (some ⟨b, 0, none⟩) m m) (fun _ => True) (fun b => S w0 (cells b E cs :: l)) (fun ac w hf hw => ?_) (fun b _ => h b)
  refine ⟨w.heap.size, w.alloc (.cells cs.toArray E), ?_, trivial, hw.alloc (.cells cs.toArray E)⟩
  have h3 := evParts_spec hf hp
  have hm' := Nat.le_of_ble_eq_true hm
  unfold execOp
  rw [ho]
  have h4 : (ps.map fun (i, x) => (i, ac.eval x)).toList = parts := by rw [Array.toList_map]; exact h3
  have h5 := fill_eq (fun i => some (i * te.size, te.size)) parts _ cs hc
  simp only [Instr.buildSlice, Sem.run_bind, underlying_run (kind_slice (C.ok _ _ ht) hk), Result.andThen_ok, sizeOf_run (C.ok _ _ hE)]
  rw [if_neg (by omega)]
  have fin : ∀ zero : Array Value, (Array.range (m * te.size)).map (zero[· % zero.size]!) = (rowZ m te.zero.cells.toList).toArray →
      ((match Instr.fill (fun i => some (i * te.size, te.size)) ((Array.range (m * te.size)).map (zero[· % zero.size]!)) (ps.map fun (i, x) => (i, ac.eval x)).toList with
        | some cells => do pure (.slice (some (← newRow E cells)) m m)
        | _ => stuck "buildSlice: a part of the wrong size" : Sem Value).run C.P w) = .ok (.slice (some ⟨w.heap.size, 0, none⟩) m m) (w.alloc (.cells cs.toArray E)) := by
    intro zero hz
    rw [hz, h4, h5]
    simp only [newRow, newObj, Sem.run_bind, Sem.run, Result.andThen_ok, Sem.run_pure]
    rfl
  by_cases hz : m * te.size = 0
  · rw [if_pos hz]
    simp only [Sem.run_bind, Sem.run_pure, Result.andThen_ok]
    exact congrArg (fun r : Result Value => r.andThen fun a w' => Result.ok (Next.value a) w') (fin #[] (by
      have hnil : rowZ m te.zero.cells.toList = [] := List.eq_nil_of_length_eq_zero (by rw [rowZ_length, Array.length_toList, hzs, hz])
      rw [hz, hnil]; simp))
  · rw [if_neg hz]
    simp only [Sem.run_bind, zero_run (C.ok _ _ hE), Sem.run_pure, Result.andThen_ok]
    exact congrArg (fun r : Result Value => r.andThen fun a w' => Result.ok (Next.value a) w') (fin te.zero.cells (by
      have := rowZ_eq te.zero.cells m
      rw [hzs] at this
      rw [hzs]
      exact this))

/-! ### Loads and stores in rows -/
theorem eo_ldr (i : Nat) {d t off T sz m : Nat} {r : Option (Nat × Nat)} {x : Operand} {ti : TI} {v : Value} {xs : List Value} (ho : o.op = .load t x) (hd : o.dst = some d) (hn : Nat.ble n d = false)
    (ha : ev e x = some (.pointer (some ⟨blk r, off, none⟩))) (ht : C.L.ti t = some ti) (hk : ti.kind.agg = false) (hi : l[i]? = some (rowC r T sz xs m)) (hv : xs[off]? = some v)
    (h : k ((d, v) :: e) (S w0 l)) : EO C n o Q e (S w0 l) k := eo_load ho hd hn ha ht hk (fun _ hw => hw.row_cell hi hv) h
theorem eo_ldrA (i : Nat) {d t off T sz m : Nat} {r : Option (Nat × Nat)} {x : Operand} {ti : TI} {cs xs : List Value} (ho : o.op = .load t x) (hd : o.dst = some d) (hn : Nat.ble n d = false)
    (ha : ev e x = some (.pointer (some ⟨blk r, off, none⟩))) (ht : C.L.ti t = some ti) (hk : ti.kind.agg = true) (hi : l[i]? = some (rowC r T sz xs m)) (hs : cs.length = ti.size) (hv : ∀ j, j < ti.size → xs[off + j]? = cs[j]?)
    (h : k ((d, .agg cs.toArray) :: e) (S w0 l)) : EO C n o Q e (S w0 l) k :=
  eo_loadA ho hd hn ha ht hk hs (fun w hw j hj => by
    have hlt : j < cs.length := by omega
    rw [List.getElem?_eq_getElem hlt]
    exact hw.row_cell hi (by rw [hv j hj, List.getElem?_eq_getElem hlt])) h
/-- a store of one cell into a row -/
theorem eo_str (i : Nat) {t off T sz m : Nat} {r : Option (Nat × Nat)} {x y : Operand} {ti : TI} {v : Value} {xs : List Value} (ho : o.op = .store t x y) (hd : o.dst = none)
    (ha : ev e x = some (.pointer (some ⟨blk r, off, none⟩))) (hv : ev e y = some v) (ht : C.L.ti t = some ti) (hz : v.cells = #[v]) (hz' : ti.size = 1) (h1 : one v = true)
    (hi : l[i]? = some (rowC r T sz xs m)) (hl : off < xs.length) (h : k e (S w0 (l.set i (rowC r T sz (xs.set off v) m)))) : EO C n o Q e (S w0 l) k := by
  refine eo_skip hd (S w0 (l.set i (rowC r T sz (xs.set off v) m))) (fun a w hf hw => ?_) h
  have hlt : xs[off]? = some xs[off] := List.getElem?_eq_getElem hl
  have hc := hw.row_cell hi hlt
  have hfz : w.frozen? ⟨blk r, off, none⟩ = false := by
    match r, hi with
    | none, hi => obtain ⟨rfl, rfl⟩ := hw.row_nil hi; simp at hl
    | some (g, c), hi =>
      obtain ⟨rest, h1, h2, h3, h4, h5⟩ := row_open hw hi
      have hil := (List.getElem?_eq_some_iff.1 hi).1
      exact h1.frozen (i := i) (cs := xs ++ rest) (List.getElem?_set_self hil)
  refine ⟨_, ?_, hw.row_set (j := off) v hi hl⟩
  unfold execOp
  rw [ho]
  simp [hf.ev ha, hf.ev hv, Instr.storeAt, Instr.sureAddr, storeVar, sizeOf_run (C.ok _ _ ht), hz, hz', storeCells, addr_add, store_run h1 hc hfz]

theorem splice_at : ∀ (vs cs pre post : List Value), cs.length = vs.length → splice (pre ++ cs ++ post) pre.length vs = pre ++ vs ++ post := by
  intro vs
  induction vs with
  | nil => intro cs pre post h; have : cs = [] := List.eq_nil_of_length_eq_zero h; subst this; rfl
  | cons v r ih =>
    intro cs pre post h
    cases cs with
    | nil => simp at h
    | cons c cs =>
      simp only [splice]
      have h1 : (pre ++ c :: cs ++ post).set pre.length v = (pre ++ [v]) ++ cs ++ post := by
        rw [List.append_assoc, List.set_append_right _ _ (Nat.le_refl _)]
        simp
      rw [h1]
      have := ih cs (pre ++ [v]) post (by simpa using h)
      simp only [List.length_append, List.length_cons, List.length_nil] at this
      rw [this]
      simp
theorem splice_all (vs cs : List Value) (h : cs.length = vs.length) : splice cs 0 vs = vs := by
  have := splice_at vs cs [] [] h
  simpa using this
/-- a whole variable, loaded -/
theorem eo_ldW (i : Nat) {d t b T : Nat} {x : Operand} {ti : TI} {cs : List Value} (ho : o.op = .load t x) (hd : o.dst = some d) (hn : Nat.ble n d = false)
    (ha : ev e x = some (.pointer (some ⟨b, 0, none⟩))) (ht : C.L.ti t = some ti) (hk : ti.kind.agg = true) (hi : l[i]? = some (cells b T cs)) (hl : cs.length = ti.size)
    (h : k ((d, .agg cs.toArray) :: e) (S w0 l)) : EO C n o Q e (S w0 l) k := by
  refine eo_ldA i ho hd hn ha ht hk hi (by omega) ?_
  have : cellsAt cs 0 ti.size = cs := by rw [cellsAt, List.drop_zero, ← hl, List.take_length]
  rw [this]; exact h
/-- a struct or an array, stored over a whole variable -/
theorem eo_stA (i : Nat) {t b T : Nat} {x y : Operand} {ti : TI} {cs vs : List Value} (ho : o.op = .store t x y) (hd : o.dst = none)
    (ha : ev e x = some (.pointer (some ⟨b, 0, none⟩))) (hv : ev e y = some (.agg vs.toArray)) (ht : C.L.ti t = some ti) (hz : vs.length = ti.size) (h1 : vs.all one = true)
    (hi : l[i]? = some (cells b T cs)) (hl : cs.length = ti.size) (h : k e (S w0 (l.set i (cells b T vs)))) : EO C n o Q e (S w0 l) k := by
  refine eo_st i ho hd ha hv ht (by simpa [Value.cells] using hz) (by simpa [Value.cells] using h1) hi (Nat.ble_eq_true_of_le (by omega)) ?_
  have : splice cs 0 (Value.agg vs.toArray).cells.toList = vs := splice_all vs cs (by omega)
  rw [this]; exact h

/-! ### A region that draws its order -/
structure EA (C : Cx) (n : Nat) (fuel : Nat) (listed : List Bool) (ops : Array Oper) (Q : Kont) (e : Env) (H : WP) : Prop where
  run : ∀ a w, Fits n e a → H w → wpAny C.P .any ops (Q.post C n) fuel listed.toArray a w

theorem ej_draw {i : Nat} {l' : List Oper} (h : EA C n l'.length (List.replicate l'.length false) l'.toArray (.calm Q) e (S w0 l)) : EJ C n (.region i l'.toArray true) Q e (S w0 l) := by
  refine ⟨fun a w hf hw => ?_⟩
  have h1 : (Code.region i l'.toArray true).wp C.P (Calm (Q.post C n)) a w := by
    refine wp_region_any C.mo ?_
    have := h.run a _ hf hw.drew
    simp only [List.size_toArray]
    rw [show Array.replicate l'.length false = (List.replicate l'.length false).toArray by simp]
    exact this
  refine Code.wp_mono (fun x a w hx => ?_) h1
  cases x <;> first | exact hx | exact hx.elim

theorem ea_done {fuel : Nat} {listed : List Bool} (hr : Region.ready .any ops listed.toArray = []) (h : EQ C n .normal Q e H) : EA C n fuel listed ops Q e H :=
  ⟨fun a w hf hw => wpAny_done hr (h.run a w hf hw) fuel⟩
/-- one that hangs on no world, taken first -/
theorem ea_take (i : Nat) {d : Nat} {v : Value} {fuel : Nat} {listed : List Bool} {oi : Oper} {Q : Kont} (hi : ops[i]? = some oi) (hs : Region.noSelect ops = true) (hfr : Region.free .any ops listed.toArray i = true)
    (hr : (Region.ready .any ops listed.toArray).contains i = true) (hg : want ops e oi = some true) (hv : pureOp C.L e oi.op = some v) (hd : oi.dst = some d) (hn : Nat.ble n d = false)
    (h : EA C n fuel (listed.set i true) ops (.calm Q) ((d, v) :: e) H) : EA C n (fuel + 1) listed ops (.calm Q) e H := by
  refine ⟨fun a w hf hw => ?_⟩
  refine wpAny_take hi hs hfr hr (fun _ _ _ h => h) (.inl ⟨want_spec hf hg, fun w => pure_run C.ok hf hv w⟩) ?_
  have := h.run (a.put oi.dst v) w (by rw [hd]; exact hf.put hn v) hw
  simpa using this
theorem ea_skip (i : Nat) {d : Nat} {fuel : Nat} {listed : List Bool} {oi : Oper} {Q : Kont} (hi : ops[i]? = some oi) (hs : Region.noSelect ops = true) (hfr : Region.free .any ops listed.toArray i = true)
    (hr : (Region.ready .any ops listed.toArray).contains i = true) (hg : want ops e oi = some false) (hd : oi.dst = some d) (hn : Nat.ble n d = false)
    (h : EA C n fuel (listed.set i true) ops (.calm Q) ((d, undef) :: e) H) : EA C n (fuel + 1) listed ops (.calm Q) e H := by
  refine ⟨fun a w hf hw => ?_⟩
  refine wpAny_take (v := undef) hi hs hfr hr (fun _ _ _ h => h) (.inr ⟨want_spec hf hg, rfl⟩) ?_
  have := h.run (a.put oi.dst undef) w (by rw [hd]; exact hf.put hn undef) hw
  simpa using this
/-- the ways on: each that may come up -/
structure Way (C : Cx) (n : Nat) (i : Nat) (fuel : Nat) (listed : List Bool) (ops : Array Oper) (Q : Kont) (e : Env) (H : WP) : Prop where
  run : ∀ a w, Fits n e a → H w → wpOp C.P ops (Q.post C n) i (wpAny C.P .any ops (Q.post C n) fuel (listed.set i true).toArray) a w
theorem way {i : Nat} {fuel : Nat} {listed : List Bool} {oi : Oper} (hi : ops[i]? = some oi) (hg : want ops e oi = some true) (h : EO C n oi Q e H fun e' H' => EA C n fuel (listed.set i true) ops Q e' H') : Way C n i fuel listed ops Q e H := by
  refine ⟨fun a w hf hw => ?_⟩
  unfold wpOp
  rw [hi]
  simp only [want_spec hf hg, if_true]
  exact .inl (h.run _ (fun e' H' hk a w hf hw => hk.run a w hf hw) a w hf hw)
theorem way_skip {i d : Nat} {fuel : Nat} {listed : List Bool} {oi : Oper} (hi : ops[i]? = some oi) (hg : want ops e oi = some false) (hd : oi.dst = some d) (hn : Nat.ble n d = false) (h : EA C n fuel (listed.set i true) ops Q ((d, undef) :: e) H) : Way C n i fuel listed ops Q e H := by
  refine ⟨fun a w hf hw => ?_⟩
  unfold wpOp
  rw [hi]
  simp only [want_spec hf hg, hd]
  exact h.run _ w (hf.put hn undef) hw
inductive Ways (C : Cx) (n : Nat) (fuel : Nat) (listed : List Bool) (ops : Array Oper) (Q : Kont) (e : Env) (H : WP) : List Nat → Prop where
  | nil : Ways C n fuel listed ops Q e H []
  | cons {i : Nat} {rs : List Nat} (h : Way C n i fuel listed ops Q e H) (hr : Ways C n fuel listed ops Q e H rs) : Ways C n fuel listed ops Q e H (i :: rs)
theorem ea_ways (rs : List Nat) {fuel : Nat} {listed : List Bool} (hr : Region.ready .any ops listed.toArray = rs) (hne : rs.isEmpty = false) (h : Ways C n fuel listed ops Q e H rs) : EA C n (fuel + 1) listed ops Q e H := by
  refine ⟨fun a w hf hw => wpAny_all hr (by intro h; simp [h] at hne) fun i hi => ?_⟩
  have key : ∀ rs, Ways C n fuel listed ops Q e H rs → i ∈ rs → Way C n i fuel listed ops Q e H := by
    intro rs h
    induction h with
    | nil => intro hi; cases hi
    | cons h _ ih =>
      intro hi
      rcases List.mem_cons.1 hi with rfl | hi
      · exact h
      · exact ih hi
  have := (key rs h hi).run a w hf hw
  simpa using this
/-- part on a Bool, ahead of a choice -/
theorem ea_split {fuel : Nat} {listed : List Bool} (d : Nat) {b : Bool} (hv : get e d = some (.bool b)) (h1 : b = true → EA C n fuel listed ops Q ((d, .bool true) :: e) H) (h2 : b = false → EA C n fuel listed ops Q ((d, .bool false) :: e) H) :
    EA C n fuel listed ops Q e H := by
  refine ⟨fun a w hf hw => ?_⟩
  cases hb : b with
  | true => exact (h1 hb).run a w (hf.refine hv hb) hw
  | false => exact (h2 hb).run a w (hf.refine hv hb) hw

/-! ### Results -/
def resT (e : Env) : List ResultVar → Option (List Value)
  | [] => some []
  | .tmp t :: r => match get e t, resT e r with
    | some v, some l => some (v :: l)
    | _, _ => none
  | _ :: _ => none
theorem resT_spec : ∀ {rs : List ResultVar} {vs : List Value}, resT e rs = some vs → RVs C H e rs vs := by
  intro rs
  induction rs with
  | nil => intro vs h; simp [resT] at h; subst h; trivial
  | cons r rs ih =>
    intro vs h
    cases r with
    | tmp t =>
      simp only [resT] at h
      split at h
      · rename_i v l' h1 h2
        simp only [Option.some.injEq] at h
        subst h
        exact ⟨h1, ih h2⟩
      · cases h
    | cell a t => simp [resT] at h
theorem eq_rett {fn : Func} {R : Value → WP} {vs : List Value} (hv : resT e fn.results.toList = some vs) (h : ∀ w, H w → R (pack vs) w) : EQ C n .ret (.done fn R) e H := eq_ret vs (resT_spec hv) h
theorem rvs_nil : RVs C H e [] [] := trivial
theorem rvs_tmp {t : Nat} {v : Value} {rs : List ResultVar} {vs : List Value} (h : get e t = some v) (hr : RVs C H e rs vs) : RVs C H e (.tmp t :: rs) (v :: vs) := ⟨h, hr⟩
theorem rvs_cell (i : Nat) {x t b T : Nat} {ti : TI} {cs : List Value} {rs : List ResultVar} {vs : List Value} (h : get e x = some (.pointer (some ⟨b, 0, none⟩))) (ht : C.L.ti t = some ti) (hk : ti.kind.agg = true)
    (hi : l[i]? = some (cells b T cs)) (hs : cs.length = ti.size) (hr : RVs C (S w0 l) e rs vs) : RVs C (S w0 l) e (.cell x t :: rs) (.agg cs.toArray :: vs) := by
  refine ⟨⟨b, ti, h, ht, fun w hw => ?_⟩, hr⟩
  have := loadCells_run (P := C.P) (w := w) (b := b) (off := 0) (c := cs) (m := ti.size) (fun j hj => by
    have hlt : j < cs.length := by omega
    rw [Nat.zero_add, List.getElem?_eq_getElem hlt]
    exact hw.cell hi (List.getElem?_eq_getElem hlt)) (by omega)
  rw [List.take_of_length_le (by omega)] at this
  simp [loadVar, isAgg_run (C.ok _ _ ht), hk, sizeOf_run (C.ok _ _ ht), this]
theorem rvs_cell1 (i : Nat) {x t b T : Nat} {ti : TI} {v : Value} {cs : List Value} {rs : List ResultVar} {vs : List Value} (h : get e x = some (.pointer (some ⟨b, 0, none⟩))) (ht : C.L.ti t = some ti) (hk : ti.kind.agg = false)
    (hi : l[i]? = some (cells b T cs)) (hs : cs[0]? = some v) (hr : RVs C (S w0 l) e rs vs) : RVs C (S w0 l) e (.cell x t :: rs) (v :: vs) := by
  refine ⟨⟨b, ti, h, ht, fun w hw => ?_⟩, hr⟩
  simp [loadVar, isAgg_run (C.ok _ _ ht), hk, hw.cell hi hs]

end Go.SE
