/- The engine, part b: what is known of the memory: a list of what is owned, apart from one another; loads, stores, new blocks; calls. -/
import Derived.Test.YtkpbpjnabbfdiaaSEa
import Derived.Below
namespace Go.SE
open Go

abbrev Hp := Nat → Option Obj
abbrev HP := Hp → Prop

def disj (h1 h2 : Hp) : Prop := ∀ b, h1 b = none ∨ h2 b = none
def uni (h1 h2 : Hp) : Hp := fun b => (h1 b).or (h2 b)

theorem uni_left {h1 h2 : Hp} {b : Nat} {o : Obj} (h : h1 b = some o) : uni h1 h2 b = some o := by simp [uni, h]
theorem uni_right {h1 h2 : Hp} {b : Nat} {o : Obj} (hd : disj h1 h2) (h : h2 b = some o) : uni h1 h2 b = some o := by
  rcases hd b with h' | h'
  · simp [uni, h', h]
  · rw [h] at h'; cases h'
theorem uni_assoc (a b c : Hp) : uni (uni a b) c = uni a (uni b c) := by
  funext x; simp [uni, Option.or_assoc]
theorem uni_comm {a b : Hp} (h : disj a b) : uni a b = uni b a := by
  funext x
  rcases h x with h' | h' <;> simp [uni, h']
theorem disj_comm {a b : Hp} (h : disj a b) : disj b a := fun x => (h x).symm
theorem disj_uni {a b c : Hp} (h1 : disj a b) (h2 : disj a c) : disj a (uni b c) := by
  intro x
  rcases h1 x with h' | h'
  · exact .inl h'
  · rcases h2 x with h'' | h''
    · exact .inl h''
    · exact .inr (by simp [uni, h', h''])
theorem disj_left {a b c : Hp} (h : disj a (uni b c)) : disj a b := by
  intro x
  rcases h x with h' | h'
  · exact .inl h'
  · right; simp [uni, Option.or_eq_none_iff] at h'; exact h'.1
theorem disj_right {a b c : Hp} (h : disj a (uni b c)) : disj a c := by
  intro x
  rcases h x with h' | h'
  · exact .inl h'
  · right; simp [uni, Option.or_eq_none_iff] at h'; exact h'.2

def star (p q : HP) : HP := fun h => ∃ h1 h2, disj h1 h2 ∧ h = uni h1 h2 ∧ p h1 ∧ q h2
def stars : List HP → HP
  | [] => fun _ => True
  | p :: r => star p (stars r)

theorem stars_up : ∀ (l : List HP) (h h' : Hp), stars l h → disj h h' → stars l (uni h h') := by
  intro l
  induction l with
  | nil => intro h h' _ _; trivial
  | cons p r ih =>
    intro h h' hs hd
    obtain ⟨a, b, hab, rfl, hp, hr⟩ := hs
    have hd' := disj_comm hd
    refine ⟨a, uni b h', disj_uni hab (disj_comm (disj_left hd')), uni_assoc _ _ _, hp, ih _ _ hr (disj_comm (disj_right hd'))⟩

theorem stars_focus : ∀ (l : List HP) (i : Nat) (p : HP) (h : Hp), stars l h → l[i]? = some p →
    ∃ h1 h2, disj h1 h2 ∧ h = uni h1 h2 ∧ p h1 ∧ stars (l.eraseIdx i) h2 ∧ ∀ (p' : HP) (h1' : Hp), disj h1' h2 → p' h1' → stars (l.set i p') (uni h1' h2) := by
  intro l
  induction l with
  | nil => intro i p h _ hi; simp at hi
  | cons q r ih =>
    intro i p h hs hi
    obtain ⟨a, b, hab, rfl, hq, hr⟩ := hs
    cases i with
    | zero =>
      simp at hi; subst hi
      exact ⟨a, b, hab, rfl, hq, hr, fun p' h1' hd hp' => ⟨h1', b, hd, rfl, hp', hr⟩⟩
    | succ i =>
      simp at hi
      obtain ⟨h1, h2, h12, rfl, hp, her, hset⟩ := ih i p b hr hi
      have ha1 := disj_left hab
      have ha2 := disj_right hab
      refine ⟨h1, uni a h2, disj_uni (disj_comm ha1) h12, ?_, hp, ⟨a, h2, ha2, rfl, hq, her⟩, ?_⟩
      · rw [← uni_assoc, uni_comm ha1, uni_assoc]
      · intro p' h1' hd hp'
        have hd1 := disj_left hd
        have hd2 := disj_right hd
        refine ⟨a, uni h1' h2, disj_uni (disj_comm hd1) ha2, ?_, hq, hset p' h1' hd2 hp'⟩
        rw [← uni_assoc, uni_comm hd1, uni_assoc]

/-- What holds of the world: w0 is the world at some beginning. -/
structure S (w0 : World) (l : List HP) (w : World) : Prop where
  os : w.os = w0.os
  tape : w.tape = w0.tape
  output : w.output = w0.output
  drawn : w0.drawn ≤ w.drawn
  size : w0.heap.size ≤ w.heap.size
  sat : stars l fun b => w.heap[b]?

def pt (b : Nat) (o : Obj) : HP := fun h => h b = some o
def cells (b : Nat) (T : TypeId) (cs : List Value) : HP := pt b (.cells cs.toArray T)

variable {w0 w : World} {l : List HP}

theorem S.get {i b : Nat} {o : Obj} (h : S w0 l w) (hi : l[i]? = some (pt b o)) : w.heap[b]? = some o := by
  obtain ⟨h1, h2, hd, he, hp, _⟩ := stars_focus l i _ _ h.sat hi
  have := congrFun he b
  rw [this]; exact uni_left hp
theorem S.lt {i b : Nat} {o : Obj} (h : S w0 l w) (hi : l[i]? = some (pt b o)) : b < w.heap.size := (Array.getElem?_eq_some_iff.1 (h.get hi)).1

theorem S.turn {w' : World} {i b : Nat} {o o' : Obj} (h : S w0 l w) (hi : l[i]? = some (pt b o)) (hos : w'.os = w.os) (htape : w'.tape = w.tape) (hout : w'.output = w.output) (hdr : w.drawn ≤ w'.drawn)
    (hsz : w'.heap.size = w.heap.size) (hb : w'.heap[b]? = some o') (hne : ∀ x, x ≠ b → w'.heap[x]? = w.heap[x]?) : S w0 (l.set i (pt b o')) w' := by
  obtain ⟨h1, h2, hd, he, hp, _, hset⟩ := stars_focus l i _ _ h.sat hi
  refine ⟨hos.trans h.os, htape.trans h.tape, hout.trans h.output, Nat.le_trans h.drawn hdr, hsz ▸ h.size, ?_⟩
  have hb2 : h2 b = none := by
    rcases hd b with h' | h'
    · rw [show h1 b = some o from hp] at h'; cases h'
    · exact h'
  have : (fun x => w'.heap[x]?) = uni (fun x => if x = b then some o' else h1 x) h2 := by
    funext x
    by_cases hx : x = b
    · subst hx; simp [uni, hb]
    · rw [hne x hx, congrFun he x]; simp [uni, hx]
  rw [this]
  refine hset _ _ ?_ (by simp [pt])
  intro x
  by_cases hx : x = b
  · subst hx; exact .inr hb2
  · simp only [if_neg hx]; exact hd x

theorem S.alloc (h : S w0 l w) (o : Obj) : S w0 (pt w.heap.size o :: l) (w.alloc o) := by
  refine ⟨h.os, h.tape, h.output, h.drawn, Nat.le_trans h.size (by simp), ?_⟩
  refine ⟨fun x => if x = w.heap.size then some o else none, fun x => w.heap[x]?, ?_, ?_, by simp [pt], h.sat⟩
  · intro x
    by_cases hx : x = w.heap.size
    · subst hx; right; simp
    · left; simp [hx]
  · funext x
    show (w.heap.push o)[x]? = _
    rw [Array.getElem?_push]
    by_cases hx : x = w.heap.size
    · subst hx; simp [uni]
    · simp [uni, hx]

theorem S.drew (h : S w0 l w) : S w0 l { w with drawn := w.drawn + 1 } := ⟨h.os, h.tape, h.output, Nat.le_succ_of_le h.drawn, h.size, h.sat⟩
theorem S.erase (h : S w0 l w) (i : Nat) : S w0 (l.eraseIdx i) w := by
  cases hi : l[i]? with
  | none => rw [List.eraseIdx_of_length_le (by simpa using hi)]; exact h
  | some p =>
    obtain ⟨h1, h2, hd, he, hp, her, _⟩ := stars_focus l i _ _ h.sat hi
    refine ⟨h.os, h.tape, h.output, h.drawn, h.size, ?_⟩
    rw [he, uni_comm hd]
    exact stars_up _ _ _ her (disj_comm hd)
theorem S.front (h : S w0 l w) {i : Nat} {p : HP} (hi : l[i]? = some p) : S w0 (p :: l.eraseIdx i) w := by
  obtain ⟨h1, h2, hd, he, hp, her, _⟩ := stars_focus l i _ _ h.sat hi
  exact ⟨h.os, h.tape, h.output, h.drawn, h.size, ⟨h1, h2, hd, he, hp, her⟩⟩
theorem S.drop : ∀ {l : List HP} (k : Nat), S w0 l w → S w0 (l.drop k) w
  | [], _, h => by simpa using h
  | _ :: _, 0, h => h
  | p :: r, k + 1, h => S.drop k (h.erase 0)
theorem S.imp {i : Nat} {p q : HP} (h : S w0 l w) (hi : l[i]? = some p) (hpq : ∀ h, p h → q h) : S w0 (l.set i q) w := by
  obtain ⟨h1, h2, hd, he, hp, her, hset⟩ := stars_focus l i _ _ h.sat hi
  exact ⟨h.os, h.tape, h.output, h.drawn, h.size, by rw [he]; exact hset _ _ hd (hpq _ hp)⟩
theorem S.ex {i : Nat} {α : Type} {p : HP} {q : α → HP} (h : S w0 l w) (hi : l[i]? = some p) (hpq : ∀ h, p h → ∃ x, q x h) : ∃ x, S w0 (l.set i (q x)) w := by
  obtain ⟨h1, h2, hd, he, hp, her, hset⟩ := stars_focus l i _ _ h.sat hi
  obtain ⟨x, hx⟩ := hpq _ hp
  exact ⟨x, h.os, h.tape, h.output, h.drawn, h.size, by rw [he]; exact hset _ _ hd hx⟩
theorem S.fact {i : Nat} {p : HP} {φ : Prop} (h : S w0 l w) (hi : l[i]? = some p) (hpq : ∀ h, p h → φ) : φ := by
  obtain ⟨h1, h2, hd, he, hp, her, hset⟩ := stars_focus l i _ _ h.sat hi
  exact hpq _ hp
/-- p is q and r, apart. -/
theorem S.split {p : HP} {qs : List HP} (h : S w0 (p :: l) w) (hp : ∀ h, p h → stars qs h) : S w0 (qs ++ l) w := by
  refine ⟨h.os, h.tape, h.output, h.drawn, h.size, ?_⟩
  obtain ⟨h1, h2, hd, he, hp', hr⟩ := h.sat
  rw [he]
  have := hp _ hp'
  clear he hp hp'
  clear h
  induction qs generalizing h1 with
  | nil => rw [uni_comm hd]; exact stars_up _ _ _ hr (disj_comm hd)
  | cons q qs ih =>
    obtain ⟨a, b, hab, rfl, hq, hqs⟩ := this
    have hd' := disj_comm hd
    exact ⟨a, uni b h2, disj_uni hab (disj_comm (disj_left hd')), uni_assoc _ _ _, hq, ih b (disj_comm (disj_right hd')) hqs⟩
theorem S.join2 {p q r : HP} (h : S w0 (q :: r :: l) w) (hp : ∀ h, star q r h → p h) : S w0 (p :: l) w := by
  refine ⟨h.os, h.tape, h.output, h.drawn, h.size, ?_⟩
  obtain ⟨h1, h2, hd, he, hq, h3, h4, hd', he', hr, hl⟩ := h.sat
  subst he'
  rw [he]
  exact ⟨uni h1 h3, h4, disj_comm (disj_uni (disj_comm (disj_right hd)) (disj_comm hd')), (uni_assoc _ _ _).symm, hp _ ⟨h1, h3, disj_left hd, rfl, hq, hr⟩, hl⟩

theorem set_perm_front {α : Type} : ∀ (l : List α) (i : Nat) (p : α), l[i]? = some p → l.set i p = l := by
  intro l i p h
  apply List.ext_getElem?
  intro j
  rw [List.getElem?_set]
  split
  · rename_i h1; subst h1
    obtain ⟨h2, h3⟩ := List.getElem?_eq_some_iff.1 h
    simp [h2, h3]
  · rfl

/-! ### Cells -/
theorem S.cells {i b : Nat} {T : TypeId} {cs : List Value} (h : S w0 l w) (hi : l[i]? = some (cells b T cs)) : w.heap[b]? = some (.cells cs.toArray T) := h.get hi
theorem S.cell {i b off : Nat} {T : TypeId} {cs : List Value} {v : Value} (h : S w0 l w) (hi : l[i]? = some (SE.cells b T cs)) (hv : cs[off]? = some v) : w.cell? ⟨b, off, none⟩ = some v := by
  simp [World.cell?, h.cells hi, hv]
theorem S.frozen {i b off : Nat} {T : TypeId} {cs : List Value} (h : S w0 l w) (hi : l[i]? = some (SE.cells b T cs)) : w.frozen? ⟨b, off, none⟩ = false := by
  simp [World.frozen?, h.cells hi]
theorem S.set {i b off : Nat} {T : TypeId} {cs : List Value} (v : Value) (h : S w0 l w) (hi : l[i]? = some (SE.cells b T cs)) : S w0 (l.set i (SE.cells b T (cs.set off v))) (w.setCell ⟨b, off, none⟩ v) := by
  have hb := h.cells hi
  have hlt := (Array.getElem?_eq_some_iff.1 hb).1
  refine h.turn (w' := w.setCell ⟨b, off, none⟩ v) hi rfl rfl rfl (Nat.le_refl _) (by simp [World.setCell]) ?_ ?_
  · simp only [World.setCell, Array.getElem?_modify, if_true, hb, Option.map_some]
    simp
  · intro x hx
    simp only [World.setCell, Array.getElem?_modify]
    rw [if_neg (fun h => hx h.symm)]

theorem addr_add (b off k : Nat) : (⟨b, off, none⟩ : Addr).add k = ⟨b, off + k, none⟩ := by
  unfold Addr.add; split
  · rename_i h; simp [h]
  · rfl

theorem loadCellsFrom_run {P : Program} {b off : Nat} {c : List Value} : ∀ (m i : Nat) (acc : Array Value), (∀ j, j < m → w.cell? ⟨b, off + i + j, none⟩ = c[i + j]?) → i + m ≤ c.length →
    (loadCellsFrom ⟨b, off, none⟩ i m acc).run P w = .ok (acc ++ ((c.drop i).take m).toArray) w := by
  intro m
  induction m with
  | zero => intro i acc _ _; simp [loadCellsFrom]
  | succ m ih =>
    intro i acc h hl
    have h0 := h 0 (by omega)
    simp only [Nat.add_zero] at h0
    have hi : i < c.length := by omega
    rw [List.getElem?_eq_getElem hi] at h0
    simp only [loadCellsFrom, Sem.run_bind, addr_add, run_load, h0, Result.andThen_ok]
    rw [ih (i + 1) (acc.push c[i]) (fun j hj => by
      have := h (j + 1) (by omega)
      rw [show off + i + (j + 1) = off + (i + 1) + j by omega, show i + (j + 1) = i + 1 + j by omega] at this
      exact this) (by omega)]
    congr 1
    rw [show c.drop i = c[i] :: c.drop (i + 1) from List.drop_eq_getElem_cons hi]
    generalize c.drop (i + 1) = dd
    generalize c[i] = ci
    apply Array.toList_inj.1
    simp

theorem loadCells_run {P : Program} {b off m : Nat} {c : List Value} (h : ∀ j, j < m → w.cell? ⟨b, off + j, none⟩ = c[j]?) (hl : m ≤ c.length) :
    (loadCells ⟨b, off, none⟩ m).run P w = .ok (c.take m).toArray w := by
  have := loadCellsFrom_run (P := P) (w := w) (b := b) (off := off) (c := c) m 0 #[] (by intro j hj; simpa using h j hj) (by omega)
  simpa [loadCells] using this

variable {C : Cx} {n : Nat} {Q : Kont} {e : Env} {H : WP} {ops : Array Oper} {rest : List Oper} {o : Oper} {k : Env → WP → Prop}

theorem eo_load {d t b off : Nat} {x : Operand} {ti : TI} {v : Value} (ho : o.op = .load t x) (hd : o.dst = some d) (hn : Nat.ble n d = false)
    (ha : ev e x = some (.pointer (some ⟨b, off, none⟩))) (ht : C.L.ti t = some ti) (hk : ti.kind.agg = false) (hc : ∀ w, H w → w.cell? ⟨b, off, none⟩ = some v)
    (h : k ((d, v) :: e) H) : EO C n o Q e H k := by
  refine eo_value hd hn (fun a w hf hw => ?_) h
  unfold execOp
  rw [ho]
  simp [hf.ev ha, Instr.loadAt, Instr.sureAddr, loadVar, isAgg_run (C.ok _ _ ht), hk, hc w hw]
theorem eo_loadA {d t b off : Nat} {x : Operand} {ti : TI} {cs : List Value} (ho : o.op = .load t x) (hd : o.dst = some d) (hn : Nat.ble n d = false)
    (ha : ev e x = some (.pointer (some ⟨b, off, none⟩))) (ht : C.L.ti t = some ti) (hk : ti.kind.agg = true) (hs : cs.length = ti.size) (hc : ∀ w, H w → ∀ j, j < ti.size → w.cell? ⟨b, off + j, none⟩ = cs[j]?)
    (h : k ((d, .agg cs.toArray) :: e) H) : EO C n o Q e H k := by
  refine eo_value hd hn (fun a w hf hw => ?_) h
  unfold execOp
  rw [ho]
  have := loadCells_run (P := C.P) (w := w) (b := b) (off := off) (c := cs) (m := ti.size) (hc w hw) (by omega)
  rw [List.take_of_length_le (by omega)] at this
  simp [hf.ev ha, Instr.loadAt, Instr.sureAddr, loadVar, isAgg_run (C.ok _ _ ht), hk, sizeOf_run (C.ok _ _ ht), this]

/-- a load of a cell that is owned -/
theorem eo_ld (i : Nat) {d t b off T : Nat} {x : Operand} {ti : TI} {v : Value} {cs : List Value} (ho : o.op = .load t x) (hd : o.dst = some d) (hn : Nat.ble n d = false)
    (ha : ev e x = some (.pointer (some ⟨b, off, none⟩))) (ht : C.L.ti t = some ti) (hk : ti.kind.agg = false) (hi : l[i]? = some (cells b T cs)) (hv : cs[off]? = some v)
    (h : k ((d, v) :: e) (S w0 l)) : EO C n o Q e (S w0 l) k := eo_load ho hd hn ha ht hk (fun _ hw => hw.cell hi hv) h
theorem eo_ldA (i : Nat) {d t b off T : Nat} {x : Operand} {ti : TI} {cs : List Value} (ho : o.op = .load t x) (hd : o.dst = some d) (hn : Nat.ble n d = false)
    (ha : ev e x = some (.pointer (some ⟨b, off, none⟩))) (ht : C.L.ti t = some ti) (hk : ti.kind.agg = true) (hi : l[i]? = some (cells b T cs)) (hl : off + ti.size ≤ cs.length)
    (h : k ((d, .agg (cellsAt cs off ti.size).toArray) :: e) (S w0 l)) : EO C n o Q e (S w0 l) k := by
  refine eo_loadA ho hd hn ha ht hk (by simp [cellsAt]; omega) (fun w hw j hj => ?_) h
  have hlt : off + j < cs.length := by omega
  rw [hw.cell hi (List.getElem?_eq_getElem hlt)]
  simp [cellsAt, hj, List.getElem?_drop, hlt]

def one : Value → Bool
  | .agg _ | .tuple _ => false
  | _ => true

theorem store_run {P : Program} {b off : Nat} {v u : Value} (h1 : one v = true) (hc : w.cell? ⟨b, off, none⟩ = some u) (hf : w.frozen? ⟨b, off, none⟩ = false) :
    (store ⟨b, off, none⟩ v).run P w = .ok () (w.setCell ⟨b, off, none⟩ v) := by
  cases v <;> simp [one] at h1 <;> simp [store, Sem.run, hc, hf]

def splice (cs : List Value) (off : Nat) : List Value → List Value
  | [] => cs
  | v :: r => splice (cs.set off v) (off + 1) r
theorem splice_length (vs : List Value) : ∀ (cs : List Value) (off : Nat), (splice cs off vs).length = cs.length := by
  induction vs with
  | nil => intro cs off; rfl
  | cons v r ih => intro cs off; simp [splice, ih]

theorem storeCells_run {P : Program} {i b T : Nat} : ∀ (vs : List Value) (off j : Nat) (cs : List Value) (l : List HP) (w : World), (∀ v ∈ vs, one v = true) → S w0 l w → l[i]? = some (cells b T cs) → off + j + vs.length ≤ cs.length →
    ∃ w', (storeCells ⟨b, off, none⟩ vs j).run P w = .ok () w' ∧ S w0 (l.set i (cells b T (splice cs (off + j) vs))) w' := by
  intro vs
  induction vs with
  | nil =>
    intro off j cs l w _ hs hi _
    refine ⟨w, by simp [storeCells], ?_⟩
    simp only [splice]
    rw [set_perm_front _ _ _ hi]; exact hs
  | cons v r ih =>
    intro off j cs l w h1 hs hi hl
    simp only [List.length_cons] at hl
    have hlt : off + j < cs.length := by omega
    have hc := hs.cell hi (List.getElem?_eq_getElem hlt)
    have hs' := hs.set (off := off + j) v hi
    obtain ⟨hil, _⟩ := List.getElem?_eq_some_iff.1 hi
    obtain ⟨w', h2, h3⟩ := ih off (j + 1) (cs.set (off + j) v) (l.set i (cells b T (cs.set (off + j) v))) _ (fun u hu => h1 u (by simp [hu])) hs' (by simp [hil]) (by simp; omega)
    refine ⟨w', ?_, ?_⟩
    · simp only [storeCells, Sem.run_bind, addr_add, store_run (h1 v (by simp)) hc (hs.frozen hi), Result.andThen_ok]
      exact h2
    · simp only [splice, List.set_set] at h3 ⊢
      rw [Nat.add_assoc]; exact h3

theorem eo_st (i : Nat) {t b off T : Nat} {x y : Operand} {ti : TI} {v : Value} {cs : List Value} (ho : o.op = .store t x y) (hd : o.dst = none)
    (ha : ev e x = some (.pointer (some ⟨b, off, none⟩))) (hv : ev e y = some v) (ht : C.L.ti t = some ti) (hz : v.cells.size = ti.size) (h1 : v.cells.toList.all one = true)
    (hi : l[i]? = some (cells b T cs)) (hl : Nat.ble (off + ti.size) cs.length = true) (h : k e (S w0 (l.set i (cells b T (splice cs off v.cells.toList))))) : EO C n o Q e (S w0 l) k := by
  refine eo_skip hd (S w0 (l.set i (cells b T (splice cs off v.cells.toList)))) (fun a w hf hw => ?_) h
  have hl' := Nat.le_of_ble_eq_true hl
  obtain ⟨w', h2, h3⟩ := storeCells_run (P := C.P) (i := i) (b := b) (T := T) v.cells.toList off 0 cs l w (fun u hu => List.all_eq_true.1 h1 u hu) hw hi (by simp; omega)
  refine ⟨w', ?_, by simpa using h3⟩
  unfold execOp
  rw [ho]
  simp [hf.ev ha, hf.ev hv, Instr.storeAt, Instr.sureAddr, storeVar, sizeOf_run (C.ok _ _ ht), hz, h2]

theorem newVar_run {P : Program} (t : TypeId) (v : Value) : (newVar t v).run P w = .ok ⟨w.heap.size, 0, none⟩ (w.alloc (.cells v.cells t)) := by
  simp only [newVar, newRow, newObj, Sem.run_bind, Sem.run, Result.andThen_ok, Sem.run_pure]
  rfl

theorem eo_alloc {d t : Nat} {ti : TI} (ho : o.op = .alloc t) (hd : o.dst = some d) (hn : Nat.ble n d = false) (ht : C.L.ti t = some ti)
    (h : ∀ b, k ((d, .pointer (some ⟨b, 0, none⟩)) :: e) (S w0 (cells b t ti.zero.cells.toList :: l))) : EO C n o Q e (S w0 l) k := by
  refine eo_some hd hn (fun b => .pointer (some ⟨b, 0, none⟩)) (fun _ => True) (fun b => S w0 (cells b t ti.zero.cells.toList :: l)) (fun a w hf hw => ?_) (fun b _ => h b)
  refine ⟨w.heap.size, w.alloc (.cells ti.zero.cells t), ?_, trivial, by simpa [cells] using hw.alloc (.cells ti.zero.cells t)⟩
  unfold execOp
  rw [ho]
  simp [Instr.alloc, zero_run (C.ok _ _ ht), newVar_run]
theorem eo_box {d t : Nat} {x : Operand} {v : Value} (ho : o.op = .box t x) (hd : o.dst = some d) (hn : Nat.ble n d = false) (hv : ev e x = some v)
    (h : ∀ b, k ((d, .pointer (some ⟨b, 0, none⟩)) :: e) (S w0 (cells b t v.cells.toList :: l))) : EO C n o Q e (S w0 l) k := by
  refine eo_some hd hn (fun b => .pointer (some ⟨b, 0, none⟩)) (fun _ => True) (fun b => S w0 (cells b t v.cells.toList :: l)) (fun a w hf hw => ?_) (fun b _ => h b)
  refine ⟨w.heap.size, w.alloc (.cells v.cells t), ?_, trivial, by simpa [cells] using hw.alloc (.cells v.cells t)⟩
  unfold execOp
  rw [ho]
  simp [Instr.box, hf.ev hv, newVar_run]

/-! ### Functions -/
def Does (C : Cx) (f : FuncId) (args : List Value) (H : WP) (R : Value → WP) : Prop :=
  ∀ w, H w → Calls C.P f args.toArray w fun x w' => ∃ v, x = .returned v ∧ R v w'


def envOf : Nat → List Value → Env
  | _, [] => []
  | i, v :: r => (i, v) :: envOf (i + 1) r

theorem get_envOf : ∀ (vs : List Value) (i t : Nat) (v : Value), get (envOf i vs) t = some v → i ≤ t ∧ vs[t - i]? = some v := by
  intro vs
  induction vs with
  | nil => intro i t v h; simp [envOf, get] at h
  | cons u r ih =>
    intro i t v h
    simp only [envOf] at h
    by_cases h1 : i = t
    · subst h1; rw [get_cons_same] at h; cases h; simp
    · rw [get_cons_ne _ _ h1] at h
      obtain ⟨h2, h3⟩ := ih (i + 1) t v h
      refine ⟨by omega, ?_⟩
      rw [show t - i = (t - (i + 1)) + 1 by omega]
      simpa using h3

theorem fn_enter {f : FuncId} {fn : Func} {c : Code} {args : List Value} {R : Value → WP} (hf : C.P.funcs[f]? = some fn) (hb : fn.body = some c) (hn : fn.ntmps = n) (ha : Nat.ble args.length n = true)
    (h : EJ C n c (.done fn R) (envOf 0 args) H) : Does C f args H R := by
  intro w hw
  refine calls_of_wp hf hb (h.run _ w ⟨?_, rfl, ?_⟩ hw)
  · have := Nat.le_of_ble_eq_true ha
    simp [hn]; omega
  · intro t v ht
    obtain ⟨_, h1⟩ := get_envOf args 0 t v ht
    simp only [Nat.sub_zero] at h1
    have hlt := (List.getElem?_eq_some_iff.1 h1).1
    rw [Array.getElem?_append_left (by simpa using hlt)]
    simpa using h1

theorem Does.mono {f : FuncId} {args : List Value} {H H' : WP} {R R' : Value → WP} (h : Does C f args H R) (hH : ∀ w, H' w → H w) (hR : ∀ v w, R v w → R' v w) : Does C f args H' R' :=
  fun w hw => (h w (hH w hw)).mono fun _ _ ⟨v, h1, h2⟩ => ⟨v, h1, hR _ _ h2⟩

/-- A result is read. -/
def RV (C : Cx) (H : WP) (e : Env) (rv : ResultVar) (v : Value) : Prop :=
  match rv with
  | .tmp t => get e t = some v
  | .cell x t => ∃ b ti, get e x = some (.pointer (some ⟨b, 0, none⟩)) ∧ C.L.ti t = some ti ∧ ∀ w, H w → (loadVar t ⟨b, 0, none⟩).run C.P w = .ok v w
def RVs (C : Cx) (H : WP) (e : Env) : List ResultVar → List Value → Prop
  | [], [] => True
  | x :: r, v :: vs => RV C H e x v ∧ RVs C H e r vs
  | _, _ => False

def pack : List Value → Value
  | [v] => v
  | vs => .tuple vs.toArray

def rvSem (a : Act) : ResultVar → Sem Value
  | .tmp t => pure (a.tmps.getD t undef)
  | .cell x t => do loadVar t (← asAddr (a.tmps.getD x undef))
theorem RV.run {a : Act} {rv : ResultVar} {v : Value} (hf : Fits n e a) (hw : H w) (h : RV C H e rv v) :
    (rvSem a rv).run C.P w = .ok v w := by
  cases rv with
  | tmp t => simp only [RV] at h; simp [rvSem, hf.slot _ _ h]
  | cell x t =>
    obtain ⟨b, ti, h1, h2, h3⟩ := h
    have := hf.slot _ _ h1
    simp [rvSem, this, asAddr, h3 w hw]

theorem results_run {fn : Func} {a : Act} {vs : List Value} (hf : Fits n e a) (hw : H w) (h : RVs C H e fn.results.toList vs) : (results fn a.tmps).run C.P w = .ok (pack vs) w := by
  have key : ∀ (rs : List ResultVar) (vs : List Value), RVs C H e rs vs →
      (rs.mapM (rvSem a)).run C.P w = .ok vs w := by
    intro rs
    induction rs with
    | nil => intro vs h; cases vs with
      | nil => simp
      | cons _ _ => exact h.elim
    | cons r rs ih => intro vs h; cases vs with
      | nil => exact h.elim
      | cons v vs =>
        obtain ⟨h1, h2⟩ := h
        rw [List.mapM_cons]
        simp only [Sem.run_bind]
        rw [RV.run hf hw h1]
        simp only [Result.andThen_ok, ih vs h2, Sem.run_pure]
  have h1 := key _ _ h
  show (do let vs ← fn.results.mapM (rvSem a); pure (if h : vs.size = 1 then vs[0] else .tuple vs) : Sem Value).run C.P w = _
  simp only [Sem.run_bind]
  rw [← Array.toList_mapM] at h1
  have h2 : ∀ (x : Sem (Array Value)), (Array.toList <$> x).run C.P w = .ok vs w → x.run C.P w = .ok vs.toArray w := by
    intro x hx
    simp only [Sem.run_map] at hx
    cases hr : x.run C.P w with
    | ok r w' =>
      simp only [hr, Result.andThen_ok, Result.ok.injEq] at hx
      obtain ⟨rfl, rfl⟩ := hx
      simp
    | halt _ _ => simp [hr] at hx
  rw [h2 _ h1]
  simp only [Result.andThen_ok, Sem.run_pure]
  congr 1
  match vs with
  | [] => rfl
  | [v] => rfl
  | _ :: _ :: _ => simp [pack]

theorem eq_ret {fn : Func} {R : Value → WP} (vs : List Value) (hv : RVs C H e fn.results.toList vs) (h : ∀ w, H w → R (pack vs) w) : EQ C n .ret (.done fn R) e H :=
  ⟨fun _ w hf hw => ⟨hf.defers, _, results_run hf hw hv, _, rfl, h w hw⟩⟩
theorem eq_end {fn : Func} {R : Value → WP} (vs : List Value) (hv : RVs C H e fn.results.toList vs) (h : ∀ w, H w → R (pack vs) w) : EQ C n .normal (.done fn R) e H :=
  ⟨fun _ w hf hw => ⟨hf.defers, _, results_run hf hw hv, _, rfl, h w hw⟩⟩

/-! ### Calls -/
theorem callFunc_run {P : Program} {f : FuncId} {fn : Func} {args : Array Value} (hf : P.funcs[f]? = some fn) (hb : fn.body.isNone = false) (hname : (fn.name == "runtime.NumGoroutine") = false) : (callFunc f args).run P w = .ok (.enter f args) w := by
  simp only [callFunc, program, Sem.run_bind, Sem.run, Result.andThen_ok, hf, hb, hname, Bool.false_eq_true, if_false, Sem.run_pure]

def callee (e : Env) : Callee → Option (FuncId × List Value × List Value)
  | .value x => match ev e x with
    | some (.func (.func f) first capt) => some (f, first.toList, capt.toList)
    | _ => none
  | _ => none

/-- the function is one of Go text -/
def Real (P : Program) (f : FuncId) : Prop := ∃ fn, P.funcs[f]? = some fn ∧ fn.body.isNone = false ∧ (fn.name == "runtime.NumGoroutine") = false

theorem eo_call {c : Call} {d f : Nat} {first capt args : List Value} {R : Value → WP} (ho : o.op = .call c) (hd : o.dst = some d) (hn : Nat.ble n d = false) (hc : callee e c.callee = some (f, first, capt))
    (ha : evs e c.args.toList = some args) (hr : Real C.P f) (hs : Does C f (first ++ args ++ capt) H R) (h : ∀ v, k ((d, v) :: e) (R v)) : EO C n o Q e H k := by
  refine ⟨fun K hK a w hf hw => ?_⟩
  unfold Oper.wp
  obtain ⟨fn, h1, h2, h3⟩ := hr
  have hx : (execOp a.eval o).run C.P w = .ok (.enter f (first ++ args ++ capt).toArray) w := by
    unfold execOp
    rw [ho]
    obtain ⟨cl, as, ts⟩ := c
    unfold callee at hc
    split at hc
    · rename_i y hcl
      split at hc
      · rename_i f' fi ca hev
        simp only [Option.some.injEq, Prod.mk.injEq] at hc
        obtain ⟨rfl, rfl, rfl⟩ := hc
        have hargs := evs_arr hf ha
        simp only at hargs
        have hcl' : cl = .value y := hcl
        subst hcl'
        simp only [resolve, Sem.run_bind, hf.ev hev, hargs, Deferred.ofValue, Sem.run_pure, Result.andThen_ok, invoke]
        rw [callFunc_run h1 h2 h3]
        congr 2
        apply Array.toList_inj.1
        simp
      · cases hc
    · cases hc
  rw [hx, Oper.upon_enter]
  refine (hs w hw).mono fun x w' ⟨v, hx, hv⟩ => ?_
  subst hx
  simp only [hd]
  exact hK _ _ (h v) _ _ (hf.put hn v) hv
theorem eo_call1 {c : Call} {d f : Nat} {first capt args : List Value} {V : Value} {H' : WP} (ho : o.op = .call c) (hd : o.dst = some d) (hn : Nat.ble n d = false) (hc : callee e c.callee = some (f, first, capt))
    (ha : evs e c.args.toList = some args) (hr : Real C.P f) (hs : Does C f (first ++ args ++ capt) H fun v w => v = V ∧ H' w) (h : k ((d, V) :: e) H') : EO C n o Q e H k := by
  refine ⟨fun K hK a w hf hw => ?_⟩
  refine (eo_call (k := fun e' H' => ∀ a w, Fits n e' a → H' w → K a w) ho hd hn hc ha hr hs (fun v a w hf hw => ?_)).run K (fun _ _ h => h) a w hf hw
  obtain ⟨rfl, hw⟩ := hw
  exact hK _ _ h a w hf hw
theorem eo_callx {c : Call} {d f : Nat} {first capt args : List Value} {α : Type} {V : α → Value} {φ : α → Prop} {H' : α → WP} (ho : o.op = .call c) (hd : o.dst = some d) (hn : Nat.ble n d = false) (hc : callee e c.callee = some (f, first, capt))
    (ha : evs e c.args.toList = some args) (hr : Real C.P f) (hs : Does C f (first ++ args ++ capt) H fun v w => ∃ x, v = V x ∧ φ x ∧ H' x w) (h : ∀ x, φ x → k ((d, V x) :: e) (H' x)) : EO C n o Q e H k := by
  refine ⟨fun K hK a w hf hw => ?_⟩
  refine (eo_call (k := fun e' H' => ∀ a w, Fits n e' a → H' w → K a w) ho hd hn hc ha hr hs (fun v a w hf hw => ?_)).run K (fun _ _ h => h) a w hf hw
  obtain ⟨x, rfl, hφ, hw⟩ := hw
  exact hK _ _ (h x hφ) a w hf hw

end Go.SE
