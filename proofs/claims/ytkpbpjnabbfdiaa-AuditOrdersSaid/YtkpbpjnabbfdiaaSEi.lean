/- The engine, part i: facts of the world; slices in regions that draw; a string of bytes. -/
import Derived.Test.YtkpbpjnabbfdiaaSEh
import Derived.Laws.BytesArg
open Go Go.SE
namespace Go.SE

variable {C : Cx} {n : Nat} {Q : Kont} {e : Env} {H : WP} {ops : Array Oper} {rest : List Oper} {o : Oper} {k : Env → WP → Prop} {w0 w : World} {l hs : List HP}

theorem ej_know {c : Code} {P : Prop} (hP : ∀ w, H w → P) (h : P → EJ C n c Q e H) : EJ C n c Q e H := ⟨fun a w hf hw => (h (hP w hw)).run a w hf hw⟩
theorem el_know {P : Prop} (hP : ∀ w, H w → P) (h : P → EL C n rest ops Q e H) : EL C n rest ops Q e H := ⟨fun a w hf hw => (h (hP w hw)).run a w hf hw⟩

theorem S.one {i : Nat} {p : HP} (h : S w0 l w) (hi : l[i]? = some p) : S w0 [p] w := by
  have h1 := h.front hi
  have h2 : ∀ (l : List HP), S w0 (p :: l) w → S w0 [p] w := by
    intro l
    induction l with
    | nil => exact id
    | cons q l ih => exact fun h => ih (h.erase 1)
  exact h2 _ h1
theorem View.one {sz n c i : Nat} {p : HP} {a : Option Addr} {xs : List Value} (h : View w0 [p] sz a xs n c) (hi : l[i]? = some p) : View w0 l sz a xs n c := ⟨h.len, fun w hw => h.ok w (hw.one hi)⟩
theorem Held.one {j : Nat} {p : HP} (h : Held w0 hs w) (hj : hs[j]? = some p) : S w0 [p] w := by
  obtain ⟨l, h1, h2⟩ := h
  obtain ⟨i, q, h3, hq⟩ := h2.get hj
  have hil := (List.getElem?_eq_some_iff.1 h3).1
  exact (h1.imp h3 hq).one (i := i) (by simp [hil])
theorem View.know {sz n c : Nat} {a : Option Addr} {xs : List Value} (h : View w0 l sz a xs n c) : ∀ w, S w0 l w → (n ≤ c ∧ c ≤ maxLen) ∧ (0 < xs.length → a = some ⟨ob a, oo a, none⟩) := fun w hw =>
  ⟨(h.ok w hw).1, fun hlt => ((h.ok w hw).2 0 _ (List.getElem?_eq_getElem hlt)).1⟩

/-- x[lo:hi] -/
theorem er_slice {I : WP} {x : Operand} {lo hi : Option Operand} {t E : Nat} {tl te : TI} {a : Option Addr} {m c : Nat} (L R : Nat) (ho : o.op = .slice t x lo hi none)
    (hx : ev e x = some (.slice a m c)) (hlo : bound e 0 lo L) (hhi : bound e m hi R)
    (ht : C.L.ti t = some tl) (hk : tl.kind = .slice E) (hE : C.L.ti E = some te) (hc : m ≤ c) (h1 : L ≤ R) (h2 : R ≤ m) :
    ER C n o e I (.slice (subA a L c te.size) (R - L) (c - L)) := by
  refine ⟨fun ac w hf hw => ?_⟩
  have hel := elem_lay ht hk
  have hu : C.P.underlying t = some (.slice (C.P.elem t)) := by rw [hel]; exact kind_slice (C.ok _ _ ht) hk
  have hsz := sizeOf_run (C.ok _ _ hE) w
  unfold execOp
  rw [ho]
  simp only [Sem.run_bind, hf.ev hx, run_sliceAt_slice _ _ _ _ _ _ hu]
  have fin : ∀ (L' R' : Nat), L' = L → R' = R → ((sizeOf (C.P.elem t)).run C.P w).andThen (fun s w => Result.ok (sliced a L' R' c s) w) = Result.ok (.slice (subA a L c te.size) (R - L) (c - L)) w := by
    rintro _ _ rfl rfl
    rw [hel, hsz]
    rfl
  match lo, hi, hlo, hhi with
  | none, none, h3, h4 =>
    have h3 : L = 0 := h3
    have h4 : R = m := h4
    simp only [Option.map_none, run_slice_all w t a m c hu, fin 0 m h3.symm h4.symm, Result.andThen_ok, Sem.run_pure]
  | none, some y, h3, ⟨kd, h4⟩ =>
    have h3 : L = 0 := h3
    simp only [Option.map_none, Option.map_some, hf.ev h4, run_slice_h w t a m c hu kd (R : Int) (by omega) (by omega), fin 0 (R : Int).toNat h3.symm rfl, Result.andThen_ok, Sem.run_pure]
  | some y, none, ⟨kd, h3⟩, h4 =>
    have h4 : R = m := h4
    simp only [Option.map_none, Option.map_some, hf.ev h3, run_slice_l w t a m c hu kd (L : Int) (by omega) (by omega), fin (L : Int).toNat m rfl h4.symm, Result.andThen_ok, Sem.run_pure]
  | some y, some z, ⟨kd, h3⟩, ⟨kd', h4⟩ =>
    simp only [Option.map_none, Option.map_some, hf.ev h3, hf.ev h4, run_slice_lh w t a m c hu kd kd' (L : Int) (R : Int) (by omega) (by omega) (by omega), fin (L : Int).toNat (R : Int).toNat rfl rfl, Result.andThen_ok, Sem.run_pure]

/-- x[i] of a slice -/
theorem er_idxv {I : WP} {x y : Operand} {kd : IntKind} {a : Option Addr} {m c t : Nat} {i : Int} {tl te : TI} {E : TypeId} (ho : o.op = .indexAddr t x y)
    (hx : ev e x = some (.slice a m c)) (hy : ev e y = some (.int kd i)) (ht : C.L.ti t = some tl) (hk : tl.kind = .slice E) (hE : C.L.ti E = some te) (ha : a = some ⟨ob a, oo a, none⟩) (hi : 0 ≤ i ∧ i < m) :
    ER C n o e I (.pointer (some ⟨ob a, oo a + i.toNat * te.size, none⟩)) := by
  refine ⟨fun ac w hf hw => ?_⟩
  rw [ha] at hx
  have hx' : ev e x = some (.slice (some ⟨ob a, oo a, none⟩) m c) := hx
  unfold execOp
  simp only [ho, Sem.run_bind, hf.ev hx', hf.ev hy, Instr.indexAt, asIntOf, Sem.run_pure, Result.andThen_ok, underlying_run (kind_slice (C.ok _ _ ht) hk), if_pos hi, sizeOf_run (C.ok _ _ hE), addr_add]
theorem er_ldv (j : Nat) {q : Nat} {p : HP} {t sz m c : Nat} {a : Option Addr} {x : Operand} {ti : TI} {v : Value} {xs : List Value} (ho : o.op = .load t x)
    (ha : ev e x = some (.pointer (some ⟨ob a, oo a + q, none⟩))) (ht : C.L.ti t = some ti) (hk : ti.kind.agg = false) (hj : hs[j]? = some p) (hS : View w0 [p] sz a xs m c) (hv : xs[q]? = some v) :
    ER C n o e (Held w0 hs) v := er_load ho ha ht hk fun w hw => ((hS.ok w (hw.one hj)).2 q v hv).2

theorem er_build {I : WP} {t : Nat} {ps : Array (Nat × Operand)} {parts : List (Nat × Value)} {ti : TI} {fs : List (TypeId × Nat)} {pl : List (Nat × Nat)} {cs : List Value} (ho : o.op = .build t ps)
    (ht : C.L.ti t = some ti) (hk : ti.kind = .struct fs) (hpl : sizesOf C.L fs = some pl) (hp : evParts e ps.toList = some parts) (hc : fillL (pl[·]?) ti.zero.cells.toList parts = some cs) :
    ER C n o e I (.agg cs.toArray) := by
  refine ⟨fun ac w hf hw => ?_⟩
  obtain ⟨gs, h1, h2⟩ := kind_struct (C.ok _ _ ht) hk
  have h3 := evParts_spec hf hp
  unfold execOp
  rw [ho]
  simp only [Instr.build, Sem.run_bind, zero_run (C.ok _ _ ht), Result.andThen_ok, underlying_run h1]
  rw [mapM_arr _ gs pl (places_run C.ok w gs.toList pl (by rw [h2]; exact hpl))]
  simp only [Result.andThen_ok]
  have h4 : (ps.map fun (i, x) => (i, ac.eval x)).toList = parts := by rw [Array.toList_map]; exact h3
  have h5 := fill_eq (fun i => pl[i]?) parts ti.zero.cells.toList cs hc
  simp only [Array.toArray_toList] at h5
  rw [h4]
  have h6 : Instr.fill (fun x => pl.toArray[x]?) ti.zero.cells parts = some cs.toArray := by
    rw [← h5]; congr 1; funext x; simp
  rw [h6]
  simp
theorem er_arith {I : WP} {op : BinOp} {t t' : TypeId} {x y : Operand} {kd : IntKind} {a b c : Int} (ho : o.op = .binOp op t x y t')
    (hx : ev e x = some (.int kd a)) (hy : ev e y = some (.int kd b)) (hc : arith op a b = some c) (hr : inR kd c) : ER C n o e I (.int kd c) := by
  refine ⟨fun ac w hf hw => ?_⟩
  unfold execOp
  rw [ho]
  cases op <;> simp [arith] at hc <;> subst hc <;> simp [hf.ev hx, hf.ev hy, eqGuard, binOp, Op.intArith, wrap_in hr]

/-- string(b) of a row of bytes -/
def strOf (bs : List Nat) : ByteArray := strOfNums (bs.map fun (n : Nat) => (n : Int))
theorem eo_bstr (i : Nat) {d m T : Nat} {src dst : TypeId} {x : Operand} {r : Option (Nat × Nat)} {bs : List Nat} {ti te tj : TI} {E : TypeId} (ho : o.op = .convert src dst x) (hd : o.dst = some d) (hn : Nat.ble n d = false)
    (hx : ev e x = some (sv r m)) (hs : C.L.ti src = some ti) (hk : ti.kind = .slice E) (hE : C.L.ti E = some te) (hke : te.kind = .int .u8) (ht : C.L.ti dst = some tj) (hkt : tj.kind = .str)
    (hi : l[i]? = some (rowC r T 1 (bs.map fun (n : Nat) => .int .u8 (n : Int)) m)) (h : k ((d, .string (strOf bs)) :: e) (S w0 l)) : EO C n o Q e (S w0 l) k := by
  refine eo_value hd hn (fun ac w hf hw => ?_) h
  have us := kind_slice (C.ok _ _ hs) hk
  have ue := kind_int (C.ok _ _ hE) hke
  have ut := kind_str (C.ok _ _ ht) hkt
  unfold execOp
  rw [ho]
  match r, hi with
  | none, hi =>
    obtain ⟨h1, rfl⟩ := hw.row_nil hi
    have h2 : bs = [] := by simpa using h1
    subst h2
    have h3 := run_convert_bytes_nil w src E us ue 0 0 dst ut
    have h4 : (convert src dst (sv none 0)).run C.P w = .ok (.string (strOf [])) w := h3
    simp only [Sem.run_bind, hf.ev hx, h4, Result.andThen_ok, Sem.run_pure]
  | some (g, c), hi =>
    have hl := hw.row_len hi
    have h3 := run_convert_bytes_arg w src E us ue g 0 m c (bs.map fun (n : Nat) => (n : Int)) (by simpa using hl) (fun j hj => by
      have hj' : j < bs.length := by simp at hl; omega
      have := hw.row_cell hi (j := j) (v := .int .u8 (bs[j] : Int)) (by simp [hj'])
      rw [Nat.zero_add]
      rw [show ((bs.map fun (n : Nat) => (n : Int)).getD j 0) = (bs[j] : Int) by simp [hj']]
      exact this) dst ut
    have h4 : (convert src dst (sv (some (g, c)) m)).run C.P w = .ok (.string (strOf bs)) w := h3
    simp only [Sem.run_bind, hf.ev hx, h4, Result.andThen_ok, Sem.run_pure]

theorem er_ldrA (j : Nat) {t off T sz m : Nat} {r : Option (Nat × Nat)} {x : Operand} {ti : TI} {cs xs : List Value} (ho : o.op = .load t x)
    (ha : ev e x = some (.pointer (some ⟨blk r, off, none⟩))) (ht : C.L.ti t = some ti) (hk : ti.kind.agg = true) (hi : hs[j]? = some (rowC r T sz xs m)) (hl : cs.length = ti.size) (hv : ∀ q, q < ti.size → xs[off + q]? = cs[q]?) :
    ER C n o e (Held w0 hs) (.agg cs.toArray) :=
  er_loadA ho ha ht hk hl (fun w hw q hq => by
    have hlt : q < cs.length := by omega
    have h := hv q hq
    rw [List.getElem?_eq_getElem hlt] at h ⊢
    exact hw.row hi h)
theorem er_eqA {I : WP} {x y : Operand} {op : BinOp} {t t' : Nat} {xs ys : Array Value} {r : Bool} (ho : o.op = .binOp op t x y t') (hop : op = .eql ∨ op = .neq)
    (hx : ev e x = some (.agg xs)) (hy : ev e y = some (.agg ys)) (hg : C.P.eqGuardType C.P.depth t = false) (hs : Same C 10000 t (.agg xs) (.agg ys) r) : ER C n o e I (.bool (eqOr op r)) := by
  refine ⟨fun ac w hf hw => ?_⟩
  have hq : (Op.equal t (.agg xs) (.agg ys)).run C.P w = .ok r w := hs w
  have hgd := run_eqGuard_agg (P := C.P) w op t x y xs ys hg
  have h1 : binOp .eql t (.agg xs) (.agg ys) = (do pure (.bool (← Op.equal t (.agg xs) (.agg ys)))) := rfl
  have h2 : binOp .neq t (.agg xs) (.agg ys) = (do pure (.bool (!(← Op.equal t (.agg xs) (.agg ys))))) := rfl
  unfold execOp
  rw [ho]
  rcases hop with rfl | rfl
  · simp only [Sem.run_bind, hf.ev hx, hf.ev hy, hgd, Result.andThen_ok, h1, hq, Sem.run_pure, eqOr]
  · simp only [Sem.run_bind, hf.ev hx, hf.ev hy, hgd, Result.andThen_ok, h2, hq, Sem.run_pure, eqOr]

theorem eo_er {d : Nat} {v : Value} (hd : o.dst = some d) (hn : Nat.ble n d = false) (h : ER C n o e H v) (hk : k ((d, v) :: e) H) : EO C n o Q e H k :=
  eo_value hd hn (fun a w hf hw => h.run a w hf hw) hk
theorem er_bits {I : WP} {op : BinOp} {t t' : TypeId} {x y : Operand} {a b c : Nat} (ho : o.op = .binOp op t x y t')
    (hx : ev e x = some (u64 a)) (hy : ev e y = some (u64 b)) (ha : a < 18446744073709551616) (hb : b < 18446744073709551616) (hc : bitNat op a b = some c) : ER C n o e I (u64 c) := by
  refine ⟨fun ac w hf hw => ?_⟩
  have hlt : c < 18446744073709551616 := by
    cases op <;> simp [bitNat] at hc <;> subst hc
    · exact Nat.and_lt_two_pow (n := 64) _ hb
    · exact Nat.or_lt_two_pow (n := 64) ha hb
    · exact Nat.lt_of_le_of_lt Nat.and_le_left ha
  have hwr := wrap_nat hlt
  unfold execOp
  rw [ho]
  simp only [Sem.run_bind, hf.ev hx, hf.ev hy, u64, eqGuard_int, Result.andThen_ok]
  have ea : (BitVec.ofNat 64 a).toNat = a := by rw [BitVec.toNat_ofNat]; exact Nat.mod_eq_of_lt ha
  have eb : (BitVec.ofNat 64 b).toNat = b := by rw [BitVec.toNat_ofNat]; exact Nat.mod_eq_of_lt hb
  cases op <;> simp [bitNat] at hc <;> subst hc
  · simp only [binOp, Op.intBits, ofInt64, if_neg (show ¬ (IntKind.u64 ≠ IntKind.u64) by simp)]
    show Result.ok (Next.value (Value.int IntKind.u64 (IntKind.u64.wrap (((BitVec.ofNat 64 a) &&& (BitVec.ofNat 64 b)).toNat : Nat)))) w = _
    rw [BitVec.toNat_and, ea, eb, hwr]
  · simp only [binOp, Op.intBits, ofInt64, if_neg (show ¬ (IntKind.u64 ≠ IntKind.u64) by simp)]
    show Result.ok (Next.value (Value.int IntKind.u64 (IntKind.u64.wrap (((BitVec.ofNat 64 a) ||| (BitVec.ofNat 64 b)).toNat : Nat)))) w = _
    rw [BitVec.toNat_or, ea, eb, hwr]
  · simp only [binOp, Op.intBits, ofInt64, if_neg (show ¬ (IntKind.u64 ≠ IntKind.u64) by simp)]
    show Result.ok (Next.value (Value.int IntKind.u64 (IntKind.u64.wrap (((BitVec.ofNat 64 a) &&& ~~~(BitVec.ofNat 64 b)).toNat : Nat)))) w = _
    rw [BitVec.toNat_and, ea, not64 hb, hwr]

/-- a block whose first cells are known -/
def hdO (b T : Nat) (cs : List Value) : HP := fun h => ∃ rest, h b = some (.cells (cs ++ rest).toArray T)
theorem hd_cells {b T : Nat} (cs rest : List Value) (h : Hp) (hp : cells b T (cs ++ rest) h) : hdO b T cs h := ⟨rest, hp⟩
theorem er_ldh (j : Nat) {t b off T : Nat} {x : Operand} {ti : TI} {v : Value} {cs : List Value} (ho : o.op = .load t x)
    (ha : ev e x = some (.pointer (some ⟨b, off, none⟩))) (ht : C.L.ti t = some ti) (hk : ti.kind.agg = false) (hj : hs[j]? = some (hdO b T cs)) (hv : cs[off]? = some v) : ER C n o e (Held w0 hs) v :=
  er_load ho ha ht hk fun w hw => by
    obtain ⟨rest, hS⟩ := (hw.one hj).ex (i := 0) rfl (α := List Value) (q := fun rest => cells b T (cs ++ rest)) fun h ⟨rest, hp⟩ => ⟨rest, hp⟩
    exact hS.cell (i := 0) (T := T) (cs := cs ++ rest) rfl (by rw [List.getElem?_append_left (List.getElem?_eq_some_iff.1 hv).1]; exact hv)

end Go.SE
