/- The engine, part k: rows of what has several cells each; the library's sort, as it meets the engine. -/
import Derived.Test.YtkpbpjnabbfdiaaSEj
import Derived.Shelf.SlSortCmp.WholeK
namespace Go.SE
open Go

variable {C : Cx} {w0 w : World} {l hs : List HP}

abbrev rows {α : Type} (f : α → List Value) (ss : List α) : List Value := (ss.map f).flatten
theorem rows_snoc {α : Type} (f : α → List Value) (ss : List α) (s : α) : rows f (ss ++ [s]) = rows f ss ++ f s := by simp [rows]
theorem rows_cons {α : Type} (f : α → List Value) (s : α) (ss : List α) : rows f (s :: ss) = f s ++ rows f ss := by rw [rows, List.map_cons, List.flatten_cons]
theorem rows_length {α : Type} (f : α → List Value) (k : Nat) (hf : ∀ s, (f s).length = k) (ss : List α) : (rows f ss).length = ss.length * k := by
  induction ss with
  | nil => simp [rows]
  | cons s ss ih => rw [rows_cons, List.length_append, ih, hf, List.length_cons, Nat.succ_mul]; omega
theorem rows_drop {α : Type} (f : α → List Value) (k : Nat) (hf : ∀ s, (f s).length = k) : ∀ (ss : List α) (j : Nat), (rows f ss).drop (j * k) = rows f (ss.drop j)
  | ss, 0 => by simp
  | [], j + 1 => by simp [rows]
  | s :: ss, j + 1 => by
    have ih := rows_drop f k hf ss j
    have : (j + 1) * k = (f s).length + j * k := by rw [hf, Nat.succ_mul]; omega
    rw [List.drop_succ_cons, ← ih, rows_cons, this, ← List.drop_drop, List.drop_left]
theorem rows_at {α : Type} (f : α → List Value) (k : Nat) (hf : ∀ s, (f s).length = k) (ss : List α) (j : Nat) (s : α) (h : ss[j]? = some s) : cellsAt (rows f ss) (j * k) k = f s := by
  obtain ⟨hlt, rfl⟩ := List.getElem?_eq_some_iff.1 h
  rw [cellsAt, rows_drop f k hf, List.drop_eq_getElem_cons hlt, rows_cons]
  have := hf ss[j]
  rw [List.take_append_of_le_length (by omega), List.take_of_length_le (by omega)]
theorem rows_get {α : Type} (f : α → List Value) (k : Nat) (hf : ∀ s, (f s).length = k) (ss : List α) (j q : Nat) (s : α) (h : ss[j]? = some s) (hq : q < k) : (rows f ss)[j * k + q]? = (f s)[q]? := by
  have h1 := rows_at f k hf ss j s h
  rw [← h1, cellsAt, List.getElem?_take, if_pos hq, List.getElem?_drop]

theorem flat_rows {α : Type} [Inhabited α] (f : α → List Value) (k : Nat) (hf : ∀ s, (f s).length = k) (ss : List α) : (Sort.flatK f k ss.toArray).toList = rows f ss := by
  refine List.ext_getElem? fun t => ?_
  by_cases ht : t < ss.length * k
  · have k0 : 0 < k := by rcases Nat.eq_zero_or_pos k with h | h; · subst h; simp at ht
                          · exact h
    have hj : t / k < ss.length := (Nat.div_lt_iff_lt_mul k0).2 ht
    have e : t / k * k + t % k = t := Nat.div_add_mod' t k
    have h1 := rows_get f k hf ss (t / k) (t % k) ss[t / k] (by simp [hj]) (Nat.mod_lt _ k0)
    rw [e] at h1
    have h2 := Sort.get_flatK f k ss.toArray t (by simpa using ht)
    have h3 : t < (Sort.flatK f k ss.toArray).size := by simpa using ht
    rw [getElem!_pos _ t h3] at h2
    rw [Array.getElem?_toList, Array.getElem?_eq_getElem h3, h2, h1, List.getElem?_eq_getElem (by rw [hf]; exact Nat.mod_lt _ k0)]
    rw [getElem!_pos ss.toArray (t / k) (by simpa using hj), List.getElem_toArray, getElem!_pos _ _ (by rw [hf]; exact Nat.mod_lt _ k0)]
  · rw [List.getElem?_eq_none (by simp; omega), List.getElem?_eq_none (by rw [rows_length f k hf]; omega)]

theorem put_rows {α : Type} [Inhabited α] (f : α → List Value) (k : Nat) (hf : ∀ s, (f s).length = k) (ss ss' : List α) (rest : List Value) (hl : ss'.length = ss.length) :
    Sort.putCells id 0 (Sort.flatK f k ss'.toArray) (rows f ss ++ rest).toArray = (rows f ss' ++ rest).toArray := by
  have l1 := rows_length f k hf ss
  have l2 := rows_length f k hf ss'
  rw [hl] at l2
  have h0 := flat_rows f k hf ss'
  refine Array.ext (by simp [Sort.putCells, l1, l2, hl]) fun t h1 h2 => ?_
  simp only [Sort.putCells, Array.getElem_mapIdx, Sort.size_flatK, List.size_toArray, Nat.zero_le, true_and, Nat.zero_add, Nat.sub_zero, id]
  by_cases ht : t < ss.length * k
  · rw [if_pos (by rw [hl]; exact ht)]
    have h3 : t < (Sort.flatK f k ss'.toArray).size := by simp [hl]; exact ht
    rw [getElem!_pos _ t h3]
    have h4 : (Sort.flatK f k ss'.toArray)[t]? = (rows f ss')[t]? := by rw [← h0, Array.getElem?_toList]
    rw [Array.getElem?_eq_getElem h3, List.getElem?_eq_getElem (by omega)] at h4
    have h5 : (Sort.flatK f k ss'.toArray)[t] = (rows f ss')[t]'(by omega) := by simpa using h4
    rw [h5]
    simp only [List.getElem_toArray]
    rw [List.getElem_append_left (by omega)]
  · rw [if_neg (by rw [hl]; exact ht)]
    simp only [List.getElem_toArray]
    rw [List.getElem_append_right (by omega), List.getElem_append_right (by omega)]
    congr 1; omega

theorem S.grown {W w' : World} (h : S W [old W] w') : ∃ q os', w' = Sort.grow (W.drewN q) os' := by
  refine ⟨w'.drawn - W.drawn, w'.heap.extract W.heap.size w'.heap.size, ?_⟩
  have hb : ∀ k, k < W.heap.size → w'.heap[k]? = W.heap[k]? := fun k hk => by
    obtain ⟨h1, h2, hd, he, hp, _⟩ := stars_focus [old W] 0 _ _ h.sat rfl
    have h3 := hp k _ (Array.getElem?_eq_getElem hk)
    have := congrFun he k
    rw [Array.getElem?_eq_getElem hk]
    simp only [uni, h3, Option.some_or] at this
    exact this
  have hheap : w'.heap = W.heap ++ w'.heap.extract W.heap.size w'.heap.size := by
    refine Array.ext_getElem? fun k => ?_
    rw [Array.getElem?_append]
    split
    · rename_i hk; exact hb k hk
    · rename_i hk
      rw [Array.getElem?_extract]
      have hs := h.size
      by_cases hk2 : k < w'.heap.size
      · rw [if_pos (by omega), show W.heap.size + (k - W.heap.size) = k by omega]
      · rw [if_neg (by omega), Array.getElem?_eq_none (by omega)]
  have h1 := h.os
  have h2 := h.tape
  have h3 := h.output
  have h4 := h.drawn
  cases w' with
  | mk heap tape drawn os output =>
    simp only at h1 h2 h3 h4 hheap
    subst h1; subst h2; subst h3
    simp only [Sort.grow, World.drewN, World.mk.injEq, true_and]
    exact ⟨hheap, by omega, trivial⟩

theorem S.grow (h : S w0 l w) (os : Array Obj) : S w0 l (Sort.grow w os) := by
  refine ⟨h.os, h.tape, h.output, h.drawn, Nat.le_trans h.size (by simp [Sort.grow]), ?_⟩
  have : (fun b => (Sort.grow w os).heap[b]?) = uni (fun b => w.heap[b]?) (fun b => if b < w.heap.size then none else (w.heap ++ os)[b]?) := by
    funext b
    show (w.heap ++ os)[b]? = _
    by_cases hb : b < w.heap.size
    · simp [uni, hb, Array.getElem?_append_left hb]
    · simp [uni, hb]
  rw [this]
  refine stars_up _ _ _ h.sat fun b => ?_
  by_cases hb : b < w.heap.size
  · right; simp [hb]
  · left; simp; omega
/-- a row, sorted -/
theorem S.sorted {α : Type} [Inhabited α] {i g c T k : Nat} {f : α → List Value} {ss ss' : List α} (hf : ∀ s, (f s).length = k) (hlen : ss'.length = ss.length) (h : S w0 l w) (hi : l[i]? = some (rowC (some (g, c)) T k (rows f ss) ss.length)) (m : Nat) (os : Array Obj) :
    S w0 (l.set i (rowC (some (g, c)) T k (rows f ss') ss.length)) (Sort.grow (Sort.putRowK f k (Sort.ahead w m) g 0 ss'.toArray) os) := by
  obtain ⟨rest, hS, h1, h2, h3, h4⟩ := row_open h hi
  have hil := (List.getElem?_eq_some_iff.1 hi).1
  have hg : w.heap[g]? = some (.cells (rows f ss ++ rest).toArray T (0, 0)) := hS.cells (i := i) (by simp [hil])
  have h5 := hS.turn (i := i) (b := g) (o' := .cells (rows f ss' ++ rest).toArray T (0, 0)) (w' := Sort.putRowK f k (Sort.ahead w m) g 0 ss'.toArray) (by rw [List.getElem?_set_self hil]; rfl) rfl rfl rfl (Nat.le_add_right _ _)
    (by simp [Sort.putRowK, Sort.putRow, Sort.mapBlock, Sort.ahead])
    (by
      show (w.heap.modify g _)[g]? = _
      rw [Array.getElem?_modify, if_pos rfl, hg]
      simp only [Option.map_some, Sort.onCells]
      rw [put_rows f k hf ss ss' rest hlen])
    (fun x hx => by
      show (w.heap.modify g _)[x]? = _
      rw [Array.getElem?_modify, if_neg (Ne.symm hx)])
  refine S.grow ?_ os
  have h6 := h5.imp (i := i) (p := pt g (.cells (rows f ss' ++ rest).toArray T (0, 0))) (q := rowC (some (g, c)) T k (rows f ss') ss.length) (by simp [hil]) fun h hp => by
    refine ⟨rest, hp, ?_, ?_, h3, h4⟩
    · rw [rows_length f k hf, hlen]
    · rw [List.length_append] at h2 ⊢
      rw [rows_length f k hf] at h2 ⊢
      rw [hlen]; exact h2
  simpa [List.set_set] using h6

theorem S.row_some {i : Nat} {r : Option (Nat × Nat)} {T sz n : Nat} {xs : List Value} (h : S w0 l w) (hi : l[i]? = some (rowC r T sz xs n)) (hn : 0 < n) : ∃ q, r = some q := by
  cases r with
  | none => obtain ⟨_, rfl⟩ := h.row_nil hi; omega
  | some q => exact ⟨q, rfl⟩

/-! ### Stores of several cells into a row; clear -/
theorem splice_app : ∀ (vs cs rest : List Value) (off : Nat), off + vs.length ≤ cs.length → splice (cs ++ rest) off vs = splice cs off vs ++ rest
  | [], _, _, _, _ => rfl
  | v :: vs, cs, rest, off, h => by
    simp only [List.length_cons] at h
    rw [splice, splice, List.set_append_left _ _ (by omega), splice_app vs _ _ _ (by simp; omega)]
theorem splice_take : ∀ (vs cs : List Value) (off : Nat), (splice cs off vs).take off = cs.take off
  | [], _, _ => rfl
  | v :: vs, cs, off => by
    have h1 := splice_take vs (cs.set off v) (off + 1)
    have h2 := congrArg (List.take off) h1
    rw [List.take_take, List.take_take, Nat.min_eq_left (by omega)] at h2
    rw [splice, h2, List.take_set_of_le (Nat.le_refl _)]
theorem splice_get : ∀ (vs cs : List Value) (off j : Nat), off + vs.length ≤ cs.length → (splice cs off vs)[j]? = if off ≤ j ∧ j < off + vs.length then vs[j - off]? else cs[j]?
  | [], cs, off, j, _ => by rw [if_neg (by simp only [List.length_nil]; omega)]; rfl
  | v :: vs, cs, off, j, h => by
    simp only [List.length_cons] at h ⊢
    rw [splice, splice_get vs _ _ _ (by simp; omega)]
    by_cases h1 : j = off
    · subst h1
      rw [if_neg (by omega), if_pos (by omega), List.getElem?_set_self (by omega), Nat.sub_self]; rfl
    · by_cases h2 : off + 1 ≤ j ∧ j < off + 1 + vs.length
      · rw [if_pos h2, if_pos (by omega), show j - off = (j - (off + 1)) + 1 by omega, List.getElem?_cons_succ]
      · rw [if_neg h2, if_neg (by omega), List.getElem?_set_ne (by omega)]
theorem row_stores {P : Program} {i g c T sz n : Nat} {xs : List Value} (vs : List Value) (off : Nat) (h1 : ∀ v ∈ vs, one v = true) (h : S w0 l w) (hi : l[i]? = some (rowC (some (g, c)) T sz xs n)) (hl : off + vs.length ≤ xs.length) :
    ∃ w', (storeCells ⟨g, off, none⟩ vs 0).run P w = .ok () w' ∧ S w0 (l.set i (rowC (some (g, c)) T sz (splice xs off vs) n)) w' := by
  obtain ⟨rest, hS, e1, e2, e3, e4⟩ := row_open h hi
  have hil := (List.getElem?_eq_some_iff.1 hi).1
  obtain ⟨w', h2, h3⟩ := storeCells_run (P := P) (i := i) (b := g) (T := T) vs off 0 (xs ++ rest) _ w h1 hS (by simp [hil]) (by rw [List.length_append]; omega)
  refine ⟨w', h2, ?_⟩
  rw [Nat.add_zero, splice_app _ _ _ _ hl, List.set_set] at h3
  have h4 := h3.imp (i := i) (p := cells g T (splice xs off vs ++ rest)) (q := rowC (some (g, c)) T sz (splice xs off vs) n) (by simp [hil]) fun h hp => ⟨rest, hp, by rw [splice_length]; exact e1, by rw [List.length_append, splice_length, ← List.length_append]; exact e2, e3, e4⟩
  rw [List.set_set] at h4
  exact h4
theorem rows_set {α : Type} (f : α → List Value) (k : Nat) (hf : ∀ s, (f s).length = k) (ss : List α) (j : Nat) (s : α) (hj : j < ss.length) : splice (rows f ss) (j * k) (f s) = rows f (ss.set j s) := by
  have hl := rows_length f k hf ss
  have hl2 := rows_length f k hf (ss.set j s)
  have hb : j * k + k ≤ ss.length * k := by
    have := Nat.mul_le_mul_right k (show j + 1 ≤ ss.length from hj)
    rw [Nat.add_mul, Nat.one_mul] at this; exact this
  refine List.ext_getElem? fun t => ?_
  rw [splice_get _ _ _ _ (by rw [hf, hl]; exact hb), hf]
  by_cases ht : t < ss.length * k
  · have k0 : 0 < k := by rcases Nat.eq_zero_or_pos k with h | h; · subst h; simp at ht
                          · exact h
    have hq : t / k < ss.length := (Nat.div_lt_iff_lt_mul k0).2 ht
    have e : t / k * k + t % k = t := Nat.div_add_mod' t k
    have hr := Nat.mod_lt t k0
    have hq2 : t / k < (ss.set j s).length := by simpa using hq
    have h2 := rows_get f k hf (ss.set j s) (t / k) (t % k) _ (List.getElem?_eq_getElem hq2) hr
    rw [e] at h2
    rw [h2]
    by_cases hjt : t / k = j
    · rw [if_pos (by rw [← hjt]; omega)]
      have : (ss.set j s)[t / k] = s := by rw [List.getElem_set]; rw [if_pos hjt.symm]
      rw [this]
      congr 1
      rw [← hjt]; omega
    · rw [if_neg (fun h => hjt ((Sort.blk_iff k j t k0).1 h))]
      have h3 := rows_get f k hf ss (t / k) (t % k) _ (List.getElem?_eq_getElem hq) hr
      rw [e] at h3
      have : (ss.set j s)[t / k] = ss[t / k] := by rw [List.getElem_set]; rw [if_neg (Ne.symm hjt)]
      rw [h3, this]
  · rw [if_neg (by omega), List.getElem?_eq_none (by omega), List.getElem?_eq_none (by rw [hl2, List.length_set]; omega)]

variable {n : Nat} {Q : Kont} {e : Env} {o : Oper} {k : Env → WP → Prop}
theorem eo_strA (i : Nat) {t off T sz m : Nat} {r : Option (Nat × Nat)} {x y : Operand} {ti : TI} {cs xs : List Value} (ho : o.op = .store t x y) (hd : o.dst = none)
    (ha : ev e x = some (.pointer (some ⟨blk r, off, none⟩))) (hv : ev e y = some (.agg cs.toArray)) (ht : C.L.ti t = some ti) (hz : cs.length = ti.size) (h1 : cs.all one = true)
    (hi : l[i]? = some (rowC r T sz xs m)) (hl : off + cs.length ≤ xs.length) (h0 : 0 < xs.length) (h : k e (S w0 (l.set i (rowC r T sz (splice xs off cs) m)))) : EO C n o Q e (S w0 l) k := by
  refine eo_skip hd (S w0 (l.set i (rowC r T sz (splice xs off cs) m))) (fun a w hf hw => ?_) h
  match r, hi with
  | none, hi => obtain ⟨rfl, _⟩ := hw.row_nil hi; simp at h0
  | some (g, c), hi =>
    obtain ⟨w', h2, h3⟩ := row_stores (P := C.P) cs off (fun u hu => List.all_eq_true.1 h1 u hu) hw hi hl
    refine ⟨w', ?_, h3⟩
    unfold execOp
    rw [ho]
    have ha' : a.eval x = .pointer (some ⟨g, off, none⟩) := hf.ev ha
    simp [ha', hf.ev hv, Instr.storeAt, Instr.sureAddr, storeVar, sizeOf_run (C.ok _ _ ht), Value.cells, hz, h2]
theorem eo_drop (hd : o.dst = none) {H H' : WP}
    (hr : ∀ a w, Fits n e a → H w → ∃ v w', (execOp a.eval o).run C.P w = .ok (.value v) w' ∧ H' w') (h : k e H') : EO C n o Q e H k := by
  refine ⟨fun K hK a w hf hw => ?_⟩
  obtain ⟨v, w', h1, h2⟩ := hr a w hf hw
  unfold Oper.wp
  rw [h1, Oper.upon_value, hd]
  exact hK _ _ h _ _ hf h2
theorem zeroCells_one {z : Array Value} (h : z.toList.all one = true) (m : Nat) : (Builtin.zeroCells z m).toList.length = m * z.size ∧ ∀ v ∈ (Builtin.zeroCells z m).toList, one v = true := by
  refine ⟨by simp [Builtin.zeroCells], fun v hv => ?_⟩
  simp only [Builtin.zeroCells, Array.toList_map, List.mem_map] at hv
  obtain ⟨j, hj, rfl⟩ := hv
  have hj' : j < m * z.size := by simpa using hj
  have hz : 0 < z.size := by rcases Nat.eq_zero_or_pos z.size with h | h; · rw [h] at hj'; simp at hj'
                             · exact h
  have hlt := Nat.mod_lt j hz
  rw [getElem!_pos z _ hlt]
  exact List.all_eq_true.1 h _ (by simp)
theorem eo_clear (i : Nat) {t E T sz m q g c cc : Nat} {x : Operand} {tl te : TI} {xs : List Value} {off : Nat} (ho : o.op = .call { callee := .builtin .clear, args := #[x], argTypes := #[t] }) (hd : o.dst = none)
    (hx : ev e x = some (.slice (some ⟨g, off, none⟩) q cc)) (ht : C.L.ti t = some tl) (hk : tl.kind = .slice E) (hE : C.L.ti E = some te) (h1 : te.zero.cells.toList.all one = true) (hzs : te.zero.cells.size = sz)
    (hi : l[i]? = some (rowC (some (g, c)) T sz xs m)) (hl : off + q * sz ≤ xs.length)
    (h : ∀ vs : List Value, vs.length = q * sz → k e (S w0 (l.set i (rowC (some (g, c)) T sz (splice xs off vs) m)))) : EO C n o Q e (S w0 l) k := by
  obtain ⟨z1, z2⟩ := zeroCells_one h1 q
  rw [hzs] at z1
  refine eo_drop (H' := S w0 (l.set i (rowC (some (g, c)) T sz (splice xs off (Builtin.zeroCells te.zero.cells q).toList) m))) hd (fun a w hf hw => ?_) (h _ z1)
  have hu := kind_slice (C.ok _ _ ht) hk
  rcases Nat.eq_zero_or_pos q with rfl | hq
  · refine ⟨.tuple #[], w, ?_, ?_⟩
    · unfold execOp
      simp [ho, resolve, invoke, builtin, Builtin.clear_, hf.ev hx, run_underlying hu]
    · have e0 : (Builtin.zeroCells te.zero.cells 0).toList = [] := List.eq_nil_of_length_eq_zero (by rw [z1, Nat.zero_mul])
      rw [e0]
      show S w0 (l.set i (rowC (some (g, c)) T sz xs m)) w
      rw [set_perm_front _ _ _ hi]; exact hw
  · obtain ⟨w', h2, h3⟩ := row_stores (P := C.P) (Builtin.zeroCells te.zero.cells q).toList off z2 hw hi (by rw [z1]; exact hl)
    refine ⟨.tuple #[], w', ?_, h3⟩
    obtain ⟨q', rfl⟩ : ∃ q', q = q' + 1 := ⟨q - 1, by omega⟩
    unfold execOp
    simp [ho, resolve, invoke, builtin, Builtin.clear_, hf.ev hx, run_underlying hu, zero_run (C.ok _ _ hE), h2]

theorem er_buildA {I : WP} {t m E : Nat} {ps : Array (Nat × Operand)} {parts : List (Nat × Value)} {ti te : TI} {cs : List Value} (ho : o.op = .build t ps)
    (ht : C.L.ti t = some ti) (hk : ti.kind = .array m E) (hE : C.L.ti E = some te) (hp : evParts e ps.toList = some parts) (hc : fillL (fun i => some (i * te.size, te.size)) ti.zero.cells.toList parts = some cs) :
    ER C n o e I (.agg cs.toArray) := by
  refine ⟨fun ac w hf hw => ?_⟩
  have h3 := evParts_spec hf hp
  unfold execOp
  rw [ho]
  simp only [Instr.build, Sem.run_bind, zero_run (C.ok _ _ ht), Result.andThen_ok, underlying_run (kind_array (C.ok _ _ ht) hk), sizeOf_run (C.ok _ _ hE)]
  have h4 : (ps.map fun (i, x) => (i, ac.eval x)).toList = parts := by rw [Array.toList_map]; exact h3
  have h5 := fill_eq (fun i => some (i * te.size, te.size)) parts ti.zero.cells.toList cs hc
  simp only [Array.toArray_toList] at h5
  rw [h4, h5]
  simp

end Go.SE
