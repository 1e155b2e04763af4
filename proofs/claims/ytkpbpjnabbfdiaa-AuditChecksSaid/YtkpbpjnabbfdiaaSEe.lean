/- The engine, part e: arrays and structs, held against one another. -/
import Derived.Test.YtkpbpjnabbfdiaaSEd
import Derived.DeepKeys
namespace Go.SE
open Go

variable {C : Cx} {n : Nat} {Q : Kont} {e : Env} {H : WP} {ops : Array Oper} {rest : List Oper} {o : Oper} {k : Env → WP → Prop} {w0 w : World} {l : List HP}

def Same (C : Cx) (d : Nat) (t : TypeId) (x y : Value) (r : Bool) : Prop := ∀ w, (Op.equalIn d t x y).run C.P w = .ok r w

theorem same_int {d t : Nat} {k : IntKind} {a b : Int} {ti : TI} (ht : C.L.ti t = some ti) (hk : ti.kind = .int k) : Same C (d + 1) t (.int k a) (.int k b) (decide (a = b)) := fun w => by
  have h := run_equalIn_int (P := C.P) w d t k k a b (kind_int (C.ok _ _ ht) hk)
  have e : (a == b) = decide (a = b) := rfl
  rw [e] at h
  exact h
theorem same_bool {d t : Nat} {a b : Bool} {ti : TI} (ht : C.L.ti t = some ti) (hk : ti.kind = .bool) : Same C (d + 1) t (.bool a) (.bool b) (decide (a = b)) := fun w => by
  have h := run_equalIn_bool' (P := C.P) w d t a b (kind_bool (C.ok _ _ ht) hk)
  have e : (a == b) = decide (a = b) := rfl
  rw [e] at h
  exact h

theorem eqItems_run {d E c : Nat} {xs ys : Array Value} (f : Nat → Bool) : ∀ (is : List Nat) (w : World),
    (∀ i, i ∈ is → ∃ a b, (∀ w, (part E xs (i * c)).run C.P w = .ok a w) ∧ (∀ w, (part E ys (i * c)).run C.P w = .ok b w) ∧ Same C d E a b (f i)) →
    (Op.eqItems d E c xs ys is).run C.P w = .ok (is.all f) w := by
  intro is
  induction is with
  | nil => intro w _; simp [Op.eqItems]
  | cons i is ih =>
    intro w h
    obtain ⟨a, b, h1, h2, h3⟩ := h i (by simp)
    simp only [Op.eqItems, Sem.run_bind, h1 w, h2 w, h3 w, Result.andThen_ok, List.all_cons]
    cases f i
    · simp
    · simpa using ih w (fun j hj => h j (by simp [hj]))

/-- arrays of one-cell things -/
theorem same_array {α : Type} [DecidableEq α] {d t E m : Nat} {ti te : TI} (g : α → Value) {as bs : List α} (ht : C.L.ti t = some ti) (hk : ti.kind = .array m E) (hE : C.L.ti E = some te) (hs : te.size = 1) (ha : te.kind.agg = false)
    (hg : ∀ a b, Same C d E (g a) (g b) (decide (a = b))) (h1 : as.length = m) (h2 : bs.length = m) : Same C (d + 1) t (.agg (as.map g).toArray) (.agg (bs.map g).toArray) (decide (as = bs)) := by
  intro w
  obtain ⟨ie, hie, hsz, _, _⟩ := (C.ok _ _ hE).info
  have hc : C.P.cellsOf E = 1 := by simp [Program.cellsOf, hie, hsz, hs]
  rw [run_equalIn_array (P := C.P) w d _ _ (kind_array (C.ok _ _ ht) hk) hie, hc]
  by_cases hd : Nonempty α
  · obtain ⟨dflt⟩ := hd
    rw [eqItems_run (fun i => decide (as.getD i dflt = bs.getD i dflt)) (List.range m) w (fun i hi => by
      have hi' : i < m := by simpa using hi
      have e1 : partAt C.L E (as.map g) (i * 1) = some (g (as.getD i dflt)) := by
        simp only [partAt, hE, ha, Bool.false_eq_true, if_false, Nat.mul_one]
        simp [List.getD_eq_getElem?_getD, h1, hi']
      have e2 : partAt C.L E (bs.map g) (i * 1) = some (g (bs.getD i dflt)) := by
        simp only [partAt, hE, ha, Bool.false_eq_true, if_false, Nat.mul_one]
        simp [List.getD_eq_getElem?_getD, h2, hi']
      exact ⟨_, _, fun w => part_run C.ok (by simpa using e1) w, fun w => part_run C.ok (by simpa using e2) w, hg _ _⟩)]
    congr 1
    rw [Bool.eq_iff_iff, List.all_eq_true, decide_eq_true_eq]
    constructor
    · intro h
      apply List.ext_getElem (by omega)
      intro i h3 h4
      have := h i (by simp; omega)
      simpa [List.getD_eq_getElem?_getD, h3, h4] using this
    · intro h i _
      simp [h]
  · have e1 : as = [] := by cases as with | nil => rfl | cons a _ => exact absurd ⟨a⟩ hd
    have e2 : bs = [] := by cases bs with | nil => rfl | cons a _ => exact absurd ⟨a⟩ hd
    subst e1 e2
    simp at h1
    subst h1
    simp [Op.eqItems]

/-- structs, field by field -/
inductive SameF (C : Cx) (d : Nat) (xs ys : List Value) : List (TypeId × Nat) → Bool → Prop where
  | nil : SameF C d xs ys [] true
  | cons {t off : Nat} {fs : List (TypeId × Nat)} {a b : Value} {r r' : Bool} (h1 : partAt C.L t xs off = some a) (h2 : partAt C.L t ys off = some b) (h3 : Same C d t a b r) (h4 : SameF C d xs ys fs r') : SameF C d xs ys ((t, off) :: fs) (r && r')

def plainStruct (P : Program) (t : TypeId) : Bool :=
  (match P.underlying t with | some (.struct fs) => fs.toList.all fun f => f.name != "_" | _ => false) && !P.stoodInHeld t

theorem eqFields_run {d : Nat} {xs ys : List Value} : ∀ (gs : List Field) (r : Bool) (w : World), (∀ g ∈ gs, g.name ≠ "_") → SameF C d xs ys (gs.map fun f => (f.type, f.offset)) r → (Op.eqFields d xs.toArray ys.toArray gs).run C.P w = .ok r w := by
  intro gs
  induction gs with
  | nil => intro r w _ h; cases h; simp [Op.eqFields]
  | cons g gs ih =>
    intro r w hn h
    rw [List.map_cons] at h
    cases h with
    | cons h1 h2 h3 h4 =>
      simp only [Op.eqFields, if_pos (hn g (by simp)), Sem.run_bind]
      rw [part_run C.ok (by simpa using h1), Result.andThen_ok, part_run C.ok (by simpa using h2), Result.andThen_ok, h3 w, Result.andThen_ok]
      rename_i r1 r2
      cases r1
      · simp
      · simpa using ih r2 w (fun g hg => hn g (by simp [hg])) h4

theorem same_struct {d t : Nat} {ti : TI} {fs : List (TypeId × Nat)} {xs ys : List Value} {r : Bool} (ht : C.L.ti t = some ti) (hk : ti.kind = .struct fs) (hp : plainStruct C.P t = true) (h : SameF C d xs ys fs r) : Same C (d + 1) t (.agg xs.toArray) (.agg ys.toArray) r := by
  intro w
  obtain ⟨gs, h1, h2⟩ := kind_struct (C.ok _ _ ht) hk
  simp only [plainStruct, h1, Bool.and_eq_true, List.all_eq_true] at hp
  have hf : C.P.fieldsOf t = gs := by simp [Program.fieldsOf, h1]
  rw [run_equalIn_struct (P := C.P) w d t _ _ (by rw [hf]; exact h1) (by simpa using hp.2), hf]
  exact eqFields_run _ _ _ (fun g hg => by simpa using hp.1 g hg) (by rw [h2]; exact h)

theorem eo_eqA {d : Nat} {x y : Operand} {op : BinOp} {t t' : Nat} {xs ys : Array Value} {r : Bool} (ho : o.op = .binOp op t x y t') (hop : op = .eql ∨ op = .neq) (hd : o.dst = some d) (hn : Nat.ble n d = false)
    (hx : ev e x = some (.agg xs)) (hy : ev e y = some (.agg ys)) (hg : C.P.eqGuardType C.P.depth t = false) (hs : Same C 10000 t (.agg xs) (.agg ys) r)
    (h : k ((d, .bool (eqOr op r)) :: e) H) : EO C n o Q e H k :=
  eo_eqv ho hop hd hn hx hy (fun w => run_eqGuard_agg (P := C.P) w op t x y xs ys hg) rfl rfl hs h

end Go.SE
