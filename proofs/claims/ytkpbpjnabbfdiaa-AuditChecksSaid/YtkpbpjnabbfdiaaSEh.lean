/- The engine, part h: slices of slices, read; what is appended of them; rows made at once. -/
import Derived.Test.YtkpbpjnabbfdiaaSEf
import Derived.Laws.Slices
import Derived.Laws.MakeOwn
namespace Go.SE
open Go

variable {C : Cx} {n : Nat} {Q : Kont} {e : Env} {H : WP} {ops : Array Oper} {rest : List Oper} {o : Oper} {k : Env → WP → Prop} {w0 w : World} {l hs : List HP}

/-- a slice that can be read: 'n' elements of 'sz' cells, capacity 'c' -/
structure View (w0 : World) (l : List HP) (sz : Nat) (a : Option Addr) (xs : List Value) (n c : Nat) : Prop where
  len : xs.length = n * sz
  ok : ∀ w, S w0 l w → (n ≤ c ∧ c ≤ maxLen) ∧ ∀ (j : Nat) (u : Value), xs[j]? = some u → a = some ⟨ob a, oo a, none⟩ ∧ w.cell? ⟨ob a, oo a + j, none⟩ = some u

theorem View.cons {sz n c : Nat} {a : Option Addr} {xs : List Value} (h : View w0 l sz a xs n c) (p : HP) : View w0 (p :: l) sz a xs n c := ⟨h.len, fun w hw => h.ok w (hw.erase 0)⟩
theorem View.of_old {sz n c i : Nat} {a : Option Addr} {xs : List Value} (h : Sl w0 sz a xs n) (hc : n ≤ c ∧ c ≤ maxLen) (hi : l[i]? = some (old w0)) : View w0 l sz a xs n c :=
  ⟨h.len, fun _ hw => ⟨hc, fun j u hu => ⟨(h.get j u hu).1, hw.old_cell hi (h.get j u hu).2⟩⟩⟩
theorem View.of_cells {sz n b T i : Nat} {xs : List Value} (hi : l[i]? = some (cells b T xs)) (hl : xs.length = n * sz) (hm : n ≤ maxLen) : View w0 l sz (some ⟨b, 0, none⟩) xs n n :=
  ⟨hl, fun _ hw => ⟨⟨Nat.le_refl _, hm⟩, fun j u hu => ⟨rfl, by simp only [ob, oo, Option.getD_some, Nat.zero_add]; exact hw.cell hi hu⟩⟩⟩
theorem View.of_row {sz n T i : Nat} {r : Option (Nat × Nat)} {xs : List Value} (hi : l[i]? = some (rowC r T sz xs n)) (hl : xs.length = n * sz) : View w0 l sz (r.map fun p => ⟨p.1, 0, none⟩) xs n ((r.map (·.2)).getD 0) := by
  refine ⟨hl, fun w hw => ?_⟩
  match r, hi with
  | none, hi =>
    obtain ⟨rfl, rfl⟩ := hw.row_nil hi
    exact ⟨⟨Nat.zero_le _, Nat.zero_le _⟩, fun j u hu => by simp at hu⟩
  | some (g, c), hi =>
    obtain ⟨rest, _, _, _, h4, h5⟩ := row_open hw hi
    refine ⟨⟨h4, h5⟩, fun j u hu => ⟨rfl, ?_⟩⟩
    simp only [Option.map_some, ob, oo, Option.getD_some, Nat.zero_add]
    exact hw.row_cell hi hu

/-- the address of a part -/
def subA (a : Option Addr) (lo m sz : Nat) : Option Addr := if m = lo then a else a.map (·.add (lo * sz))
def subX (xs : List Value) (lo hi sz : Nat) : List Value := (xs.drop (lo * sz)).take ((hi - lo) * sz)
theorem View.sub {sz n c lo hi : Nat} {a : Option Addr} {xs : List Value} (h : View w0 l sz a xs n c) (h1 : lo ≤ hi) (h2 : hi ≤ n) : View w0 l sz (subA a lo c sz) (subX xs lo hi sz) (hi - lo) (c - lo) := by
  have hle : hi * sz ≤ n * sz := Nat.mul_le_mul_right _ h2
  have hsub : (hi - lo) * sz = hi * sz - lo * sz := Nat.sub_mul _ _ _
  refine ⟨?_, fun w hw => ?_⟩
  · simp only [subX, List.length_take, List.length_drop, h.len]; omega
  · obtain ⟨⟨hc, hm⟩, hg⟩ := h.ok w hw
    refine ⟨⟨by omega, by omega⟩, fun j u hu => ?_⟩
    have hlt := (List.getElem?_eq_some_iff.1 hu).1
    have hjl : j < (hi - lo) * sz := by simp only [subX, List.length_take] at hlt; omega
    have hx : xs[lo * sz + j]? = some u := by
      simp only [subX, List.getElem?_take, hjl, if_true, List.getElem?_drop] at hu
      exact hu
    obtain ⟨ha, hcell⟩ := hg _ _ hx
    have hne : ¬ c = lo := fun e => by
      have : hi - lo = 0 := by omega
      rw [this, Nat.zero_mul] at hjl; omega
    have hA : subA a lo c sz = some ⟨ob a, oo a + lo * sz, none⟩ := by
      rw [subA, if_neg hne, ha]
      simp only [Option.map_some, addr_add, ob, oo, Option.getD_some]
    rw [hA]
    refine ⟨rfl, ?_⟩
    simp only [ob, oo, Option.getD_some]
    rw [Nat.add_assoc]
    exact hcell

theorem eo_idxv {d : Nat} {x y : Operand} {kd : IntKind} {a : Option Addr} {m c t : Nat} {i : Int} {xs : List Value} {tl te : TI} {E : TypeId} (ho : o.op = .indexAddr t x y) (hd : o.dst = some d) (hn : Nat.ble n d = false)
    (hx : ev e x = some (.slice a m c)) (hy : ev e y = some (.int kd i)) (ht : C.L.ti t = some tl) (hk : tl.kind = .slice E) (hE : C.L.ti E = some te) (hs : Nat.ble 1 te.size = true) (hS : View w0 l te.size a xs m c) (hi : 0 ≤ i ∧ i < m)
    (h : k ((d, .pointer (some ⟨ob a, oo a + i.toNat * te.size, none⟩)) :: e) (S w0 l)) : EO C n o Q e (S w0 l) k := by
  have hs' := Nat.le_of_ble_eq_true hs
  have h1 : 0 < xs.length := by rw [hS.len]; exact Nat.mul_pos (by omega) (by omega)
  refine ⟨fun K hK ac w hf hw => ?_⟩
  obtain ⟨h2, _⟩ := (hS.ok w hw).2 0 _ (List.getElem?_eq_getElem h1)
  exact (eo_idx (b := ob a) (off := oo a) (c := c) ho hd hn (by rw [hx]; exact congrArg some (congrArg (fun a => Value.slice a m c) h2)) hy ht hk hE hi h).run K hK ac w hf hw
theorem eo_ldv (j : Nat) {d t sz m c : Nat} {a : Option Addr} {x : Operand} {ti : TI} {v : Value} {xs : List Value} (ho : o.op = .load t x) (hd : o.dst = some d) (hn : Nat.ble n d = false)
    (ha : ev e x = some (.pointer (some ⟨ob a, oo a + j, none⟩))) (ht : C.L.ti t = some ti) (hk : ti.kind.agg = false) (hS : View w0 l sz a xs m c) (hv : xs[j]? = some v)
    (h : k ((d, v) :: e) (S w0 l)) : EO C n o Q e (S w0 l) k := eo_load ho hd hn ha ht hk (fun w hw => ((hS.ok w hw).2 j v hv).2) h
theorem eo_ldvA (j : Nat) {d t sz m c : Nat} {a : Option Addr} {x : Operand} {ti : TI} {cs xs : List Value} (ho : o.op = .load t x) (hd : o.dst = some d) (hn : Nat.ble n d = false)
    (ha : ev e x = some (.pointer (some ⟨ob a, oo a + j, none⟩))) (ht : C.L.ti t = some ti) (hk : ti.kind.agg = true) (hS : View w0 l sz a xs m c) (hs : cs.length = ti.size) (hv : ∀ q, q < ti.size → xs[j + q]? = cs[q]?)
    (h : k ((d, .agg cs.toArray) :: e) (S w0 l)) : EO C n o Q e (S w0 l) k :=
  eo_loadA ho hd hn ha ht hk hs (fun w hw q hq => by
    have hlt : q < cs.length := by omega
    have := hv q hq
    rw [List.getElem?_eq_getElem hlt] at this
    rw [List.getElem?_eq_getElem hlt, Nat.add_assoc]
    exact ((hS.ok w hw).2 _ _ this).2) h

theorem elem_lay {t E : TypeId} {ti : TI} (ht : C.L.ti t = some ti) (hk : ti.kind = .slice E) : C.P.elem t = E := by
  simp [Program.elem, kind_slice (C.ok _ _ ht) hk]
def bound (e : Env) (z : Nat) : Option Operand → Nat → Prop
  | none, b => b = z
  | some y, b => ∃ kd, ev e y = some (.int kd (b : Int))
/-- x[lo:hi] -/
theorem eo_slice {d : Nat} {x : Operand} {lo hi : Option Operand} {t E : Nat} {tl te : TI} {a : Option Addr} {m c : Nat} {xs : List Value} (L R : Nat) (ho : o.op = .slice t x lo hi none) (hd : o.dst = some d) (hn : Nat.ble n d = false)
    (hx : ev e x = some (.slice a m c)) (hlo : bound e 0 lo L) (hhi : bound e m hi R)
    (ht : C.L.ti t = some tl) (hk : tl.kind = .slice E) (hE : C.L.ti E = some te) (hV : View w0 l te.size a xs m c) (h1 : L ≤ R) (h2 : R ≤ m)
    (h : k ((d, .slice (subA a L c te.size) (R - L) (c - L)) :: e) (S w0 l)) : EO C n o Q e (S w0 l) k := by
  refine eo_value hd hn (fun ac w hf hw => ?_) h
  obtain ⟨⟨hc, _⟩, _⟩ := hV.ok w hw
  have hel := elem_lay ht hk
  have hu : C.P.underlying t = some (.slice (C.P.elem t)) := by rw [hel]; exact kind_slice (C.ok _ _ ht) hk
  have hsz := sizeOf_run (C.ok _ _ hE) w
  unfold execOp
  rw [ho]
  simp only [Sem.run_bind, hf.ev hx, run_sliceAt_slice _ _ _ _ _ _ hu]
  have fin : ∀ (L' R' : Nat), L' = L → R' = R → ((sizeOf (C.P.elem t)).run C.P w).andThen (fun s w => Result.ok (sliced a L' R' c s) w) = Result.ok (.slice (subA a L c te.size) (R - L) (c - L)) w := by
    rintro _ _ rfl rfl
    rw [hel, hsz]
    rfl
  match lo, hi, hlo, hhi with
  | none, none, h3, h4 =>
    have h3 : L = 0 := h3
    have h4 : R = m := h4
    simp only [Option.map_none, run_slice_all w t a m c hu, fin 0 m h3.symm h4.symm, Result.andThen_ok, Sem.run_pure]
  | none, some y, h3, ⟨kd, h4⟩ =>
    have h3 : L = 0 := h3
    simp only [Option.map_none, Option.map_some, hf.ev h4, run_slice_h w t a m c hu kd (R : Int) (by omega) (by omega), fin 0 (R : Int).toNat h3.symm rfl, Result.andThen_ok, Sem.run_pure]
  | some y, none, ⟨kd, h3⟩, h4 =>
    have h4 : R = m := h4
    simp only [Option.map_none, Option.map_some, hf.ev h3, run_slice_l w t a m c hu kd (L : Int) (by omega) (by omega), fin (L : Int).toNat m rfl h4.symm, Result.andThen_ok, Sem.run_pure]
  | some y, some z, ⟨kd, h3⟩, ⟨kd', h4⟩ =>
    simp only [Option.map_none, Option.map_some, hf.ev h3, hf.ev h4, run_slice_lh w t a m c hu kd kd' (L : Int) (R : Int) (by omega) (by omega) (by omega), fin (L : Int).toNat (R : Int).toNat rfl rfl, Result.andThen_ok, Sem.run_pure]

/-- append(s, x...) of what can be read, however long -/
theorem eo_appendV (i : Nat) {d : Nat} {x y : Operand} {r : Option (Nat × Nat)} {t E n' m c : Nat} {te tl : TI} {xs news : List Value} {a : Option Addr} (ho : o.op = .call { callee := .builtin .append, args := #[x, y], argTypes := #[t, t] }) (hd : o.dst = some d) (hn : Nat.ble n d = false)
    (hx : ev e x = some (sv r n')) (hy : ev e y = some (.slice a m c)) (ht : C.L.ti t = some tl) (hk : tl.kind = .slice E) (hE : C.L.ti E = some te) (hz : te.zero.cells.size = te.size) (hs : Nat.ble 1 te.size = true)
    (hi : l[i]? = some (rowC r E te.size xs n')) (hV : View w0 l te.size a news m c) (h1 : news.all one = true)
    (hb : (n' + m) * te.bytes ≤ 140737488355328) (h63 : n' + m ≤ maxLen) (h : ∀ r', k ((d, sv r' (n' + m)) :: e) (S w0 (l.set i (rowC r' E te.size (xs ++ news) (n' + m))))) : EO C n o Q e (S w0 l) k := by
  refine ⟨fun K hK ac w hf hw => ?_⟩
  rcases Nat.eq_zero_or_pos m with rfl | hm
  · have hnil : news = [] := List.eq_nil_of_length_eq_zero (by rw [hV.len, Nat.zero_mul])
    subst hnil
    have hsame : l.set i (rowC r E te.size (xs ++ []) (n' + 0)) = l := by rw [List.append_nil, Nat.add_zero]; exact set_perm_front _ _ _ hi
    have h' := h r
    rw [hsame] at h'
    refine (eo_value (H := S w0 l) (v := sv r (n' + 0)) hd hn (fun ac w hf hw => ?_) h').run K hK ac w hf hw
    have hcap : n' ≤ (r.map (·.2)).getD 0 := by
      match r, hi with
      | none, hi => obtain ⟨_, rfl⟩ := hw.row_nil hi; exact Nat.zero_le _
      | some (g, cp), hi => obtain ⟨_, _, _, _, h4, _⟩ := row_open hw hi; exact h4
    have hu := kind_slice (C.ok _ _ ht) hk
    have hsz := sizeOf_run (C.ok _ _ hE) w
    unfold execOp
    simp only [ho, resolve, invoke, builtin, Sem.run_bind, Sem.run_pure, Result.andThen_ok, List.map_toArray, List.map_cons, List.map_nil, hf.ev hx, hf.ev hy]
    have key : (Builtin.append_ #[t, t] o.type #[sv r n', .slice a 0 c]).run C.P w = .ok (sv r (n' + 0)) w := by
      unfold Builtin.append_ sv
      simp only [List.getElem?_toArray, List.getElem?_cons_zero, List.getElem?_cons_succ, Sem.run_bind, underlying_run hu, Result.andThen_ok, hsz, Sem.run_pure, Builtin.lenOf, Nat.add_zero, if_pos hcap, Bool.false_eq_true, if_false]
      cases a with
      | none =>
        simp only [Builtin.firstCells, Bool.not_false, if_true, Sem.run_pure, Result.andThen_ok]
        cases r <;> simp [storeCells]
      | some a =>
        simp only [Builtin.firstCells, Bool.not_false, if_true, Nat.zero_mul, loadCells, loadCellsFrom, Sem.run_pure, Result.andThen_ok]
        cases r <;> simp [storeCells]
    rw [key]
    rfl
  · have h0 : 0 < news.length := by rw [hV.len]; exact Nat.mul_pos hm (Nat.le_of_ble_eq_true hs)
    obtain ⟨h2, _⟩ := (hV.ok w hw).2 0 _ (List.getElem?_eq_getElem h0)
    refine (eo_append i news (a := ⟨ob a, oo a, none⟩) (c := c) ho hd hn hx (by rw [hy]; exact congrArg some (congrArg (fun a => Value.slice a m c) h2)) ht hk hE hz hi hV.len (fun w hw j u hu => ?_) h1 hm hb h63 h).run K hK ac w hf hw
    rw [addr_add]; exact ((hV.ok w hw).2 j u hu).2

/-- '>>' of a number from 0 on, of any kind -/
theorem eo_shrN {d : Nat} {t t' : TypeId} {x y : Operand} {kx kd : IntKind} {a b : Nat} (ho : o.op = .binOp .shr t x y t') (hd : o.dst = some d) (hn : Nat.ble n d = false)
    (hx : ev e x = some (.int kx (a : Int))) (hy : ev e y = some (.int kd (b : Int))) (hb : b < kx.bits) (h : k ((d, .int kx ((a / 2 ^ b : Nat) : Int)) :: e) H) : EO C n o Q e H k := by
  refine eo_value hd hn (fun ac w hf hw => ?_) h
  unfold execOp
  rw [ho]
  simp only [Sem.run_bind, hf.ev hx, hf.ev hy, eqGuard_int, Result.andThen_ok, binOp, Op.shift, if_neg (show ¬ (b : Int) < 0 by omega)]
  have : min (b : Int).toNat kx.bits = b := by simp; omega
  simp only [this, Sem.run_pure, Result.andThen_ok]
  congr 3
  rw [Int.fdiv_eq_ediv_of_nonneg _ (by exact Int.le_of_lt (Int.pow_pos (by omega)))]
  norm_cast

/-- make([]T, m) -/
theorem eo_make {d : Nat} {x y : Operand} {t E m : Nat} {kx ky : IntKind} {tl te : TI} (ho : o.op = .makeSlice t x y) (hd : o.dst = some d) (hn : Nat.ble n d = false)
    (hx : ev e x = some (.int kx (m : Int))) (hy : ev e y = some (.int ky (m : Int))) (ht : C.L.ti t = some tl) (hk : tl.kind = .slice E) (hE : C.L.ti E = some te) (hz : te.zero.cells.size = te.size) (hm : m ≤ maxLen) (hb : te.bytes * m ≤ 281474976710656)
    (h : ∀ b, k ((d, sv (some (b, m)) m) :: e) (S w0 (rowC (some (b, m)) E te.size (rowZ m te.zero.cells.toList) m :: l))) : EO C n o Q e (S w0 l) k := by
  refine eo_some hd hn (fun b => sv (some (b, m)) m) (fun _ => True) (fun b => S w0 (rowC (some (b, m)) E te.size (rowZ m te.zero.cells.toList) m :: l)) (fun ac w hf hw => ?_) (fun b _ => h b)
  obtain ⟨ie, hie, hsz, hby, hze⟩ := (C.ok _ _ hE).info
  have hu := kind_slice (C.ok _ _ ht) hk
  have hb' : (ie.bytes : Int) * (m : Int) ≤ 281474976710656 := by
    have h2 : ((te.bytes * m : Nat) : Int) ≤ 281474976710656 := by omega
    rw [hby]; rwa [Int.natCast_mul] at h2
  have hr := run_make (P := C.P) w t E ie te.zero hu hie hze kx ky (m : Int) (m : Int) (by omega) (Int.le_refl _) hb' (by simp only [maxLen] at hm; omega)
  have hl : (rowZ m te.zero.cells.toList).length = m * te.size := by rw [rowZ_length, Array.length_toList, hz]
  have hmc : madeCells te.zero.cells ((m : Int).toNat * ie.size) = (rowZ m te.zero.cells.toList).toArray := by
    have := rowZ_eq te.zero.cells m
    rw [hz] at this
    rw [← this]
    simp only [madeCells, hsz, hz, Int.toNat_natCast]
  refine ⟨w.heap.size, w.alloc (.cells (rowZ m te.zero.cells.toList).toArray E), ?_, trivial, ?_⟩
  · unfold execOp
    rw [ho]
    simp only [Sem.run_bind, hf.ev hx, hf.ev hy, hr, Result.andThen_ok, Sem.run_pure, hmc]
    rfl
  · have h1 := hw.alloc (.cells (rowZ m te.zero.cells.toList).toArray E)
    exact h1.imp (i := 0) rfl fun h hp => row_of_cells hl hm hp

/-- a conversion that cuts -/
theorem eo_convW {d : Nat} {src dst : TypeId} {x : Operand} {kd : IntKind} {a : Int} {ti tj : TI} (kd' : IntKind) (ho : o.op = .convert src dst x) (hd : o.dst = some d) (hn : Nat.ble n d = false)
    (hx : ev e x = some (.int kd a)) (hs : C.L.ti src = some ti) (ht : C.L.ti dst = some tj) (hk : tj.kind = .int kd') (hk' : ti.kind = .int kd) (h : k ((d, .int kd' (kd'.wrap a)) :: e) H) : EO C n o Q e H k := by
  refine eo_value hd hn (fun ac w hf hw => ?_) h
  unfold execOp
  rw [ho]
  simp only [convert, Sem.run_bind, underlying_run (kind_int (C.ok _ _ hs) hk'), underlying_run (kind_int (C.ok _ _ ht) hk), hf.ev hx, Result.andThen_ok, Conv.intToInt, Sem.run_pure]
theorem er_conv {I : WP} {src dst : TypeId} {x : Operand} {kd : IntKind} {a : Int} {ti tj : TI} (kd' : IntKind) (ho : o.op = .convert src dst x)
    (hx : ev e x = some (.int kd a)) (hs : C.L.ti src = some ti) (ht : C.L.ti dst = some tj) (hk : tj.kind = .int kd') (hk' : ti.kind = .int kd) (hr : inR kd' a) : ER C n o e I (.int kd' a) := by
  refine ⟨fun ac w hf hw => ?_⟩
  unfold execOp
  rw [ho]
  simp only [convert, Sem.run_bind, underlying_run (kind_int (C.ok _ _ hs) hk'), underlying_run (kind_int (C.ok _ _ ht) hk), hf.ev hx, Result.andThen_ok, Conv.intToInt, Sem.run_pure, wrap_in hr]
theorem wrap_u8 (x : Nat) : IntKind.u8.wrap (x : Int) = ((x % 256 : Nat) : Int) := by
  simp [IntKind.wrap, IntKind.signed, IntKind.bits]

end Go.SE
