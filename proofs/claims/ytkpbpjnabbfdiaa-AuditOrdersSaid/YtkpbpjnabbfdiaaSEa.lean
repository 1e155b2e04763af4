/- The engine, part a: a walk in which the frame is a list of what is known of its slots, and the world is hidden behind what is known of it. -/
import Derived.Calls
import Derived.Orders
import Derived.Tactics
import Derived.KernelRfl
import Derived.Laws.Sem
namespace Go.SE
open Go

/-! ### What is known of a frame -/
abbrev Env := List (Nat × Value)

def get : Env → Nat → Option Value
  | [], _ => none
  | (i, v) :: r, t => bif Nat.beq i t then some v else get r t

def ev (e : Env) : Operand → Option Value
  | .tmp t => get e t
  | .const v => some v
  | .global g => some (.pointer (some ⟨g, 0, none⟩))
  | .func f => some (.func (.func f) #[] #[])

structure Fits (n : Nat) (e : Env) (a : Act) : Prop where
  size : a.tmps.size = n
  defers : a.defers = []
  slot : ∀ t v, get e t = some v → a.tmps[t]? = some v

theorem get_cons_same (t : Nat) (v : Value) (e : Env) : get ((t, v) :: e) t = some v := by simp [get]
theorem beq_ne {i t : Nat} (h : i ≠ t) : Nat.beq i t = false := by
  cases h' : Nat.beq i t
  · rfl
  · exact absurd (Nat.eq_of_beq_eq_true h') h
theorem get_cons_ne {i t : Nat} (v : Value) (e : Env) (h : i ≠ t) : get ((i, v) :: e) t = get e t := by
  simp [get, beq_ne h]

theorem Fits.ev {n : Nat} {e : Env} {a : Act} (h : Fits n e a) {x : Operand} {v : Value} (hx : SE.ev e x = some v) : a.eval x = v := by
  cases x with
  | tmp t => simp only [SE.ev] at hx; simp [Act.eval, h.slot t v hx]
  | const u => simp [SE.ev] at hx; simp [Act.eval, hx]
  | global g => simp [SE.ev] at hx; simp [Act.eval, hx]
  | func f => simp [SE.ev] at hx; simp [Act.eval, hx]

theorem Fits.put {n : Nat} {e : Env} {a : Act} (h : Fits n e a) {d : Nat} (hd : Nat.ble n d = false) (v : Value) : Fits n ((d, v) :: e) (a.put (some d) v) := by
  have hd' : d < n := by
    rcases Nat.lt_or_ge d n with h1 | h1
    · exact h1
    · rw [Nat.ble_eq_true_of_le h1] at hd; cases hd
  refine ⟨by simp [Act.put, h.size], h.defers, fun t u hu => ?_⟩
  simp only [Act.put]
  by_cases e1 : d = t
  · subst e1
    rw [get_cons_same] at hu
    cases hu
    rw [Array.getElem?_setIfInBounds_self_of_lt (by rw [h.size]; exact hd')]
  · rw [get_cons_ne _ _ e1] at hu
    rw [Array.getElem?_setIfInBounds_ne e1]
    exact h.slot t u hu

theorem Fits.put_none {n : Nat} {e : Env} {a : Act} (h : Fits n e a) (v : Value) : Fits n e (a.put none v) := h

/-- Less may be known. -/
def le (e e' : Env) : Prop := ∀ t v, get e t = some v → get e' t = some v
theorem Fits.mono {n : Nat} {e e' : Env} {a : Act} (h : Fits n e' a) (hl : le e e') : Fits n e a := ⟨h.size, h.defers, fun t v hv => h.slot t v (hl t v hv)⟩

def keep (e : Env) (ts : List Nat) : Env := ts.filterMap fun t => (get e t).map fun v => (t, v)
theorem get_keep (e : Env) : ∀ (ts : List Nat) (t : Nat) (v : Value), get (keep e ts) t = some v → get e t = some v := by
  intro ts
  induction ts with
  | nil => intro t v h; simp [keep, get] at h
  | cons u ts ih =>
    intro t v h
    simp only [keep, List.filterMap_cons] at h
    cases hu : get e u with
    | none => simp only [hu, Option.map_none] at h; exact ih t v h
    | some w =>
      simp only [hu, Option.map_some] at h
      by_cases h1 : u = t
      · subst h1; rw [get_cons_same] at h; rw [hu]; exact h
      · rw [get_cons_ne _ _ h1] at h; exact ih t v h
theorem le_keep (e : Env) (ts : List Nat) : le (keep e ts) e := get_keep e ts
theorem le_refl (e : Env) : le e e := fun _ _ h => h
/-- le, slot by slot, by looking -/
theorem le_of (e e' : Env) (h : keep e' (e.map (·.1)) = e) : le e e' := by
  intro t v hv
  rw [← h] at hv
  exact get_keep _ _ t v hv
theorem le_nil (e : Env) : le [] e := fun t v h => by simp [get] at h
theorem le_cons {i : Nat} {v : Value} {e e' : Env} (h1 : get e' i = some v) (h2 : le e e') : le ((i, v) :: e) e' := by
  intro t u hu
  by_cases h3 : i = t
  · subst h3; rw [get_cons_same] at hu; cases hu; exact h1
  · rw [get_cons_ne _ _ h3] at hu; exact h2 t u hu

/-! ### Types -/
inductive TK where
  | int (k : IntKind) | bool | str | ptr (e : TypeId) | slice (e : TypeId) | array (n : Nat) (e : TypeId) | struct (fs : List (TypeId × Nat)) | map (k e : TypeId) | func | iface | other

def TK.agg : TK → Bool
  | .array .. | .struct .. => true
  | _ => false

def kindOf : TypeDesc → TK
  | .int k => .int k
  | .bool => .bool
  | .string => .str
  | .pointer e => .ptr e
  | .slice e => .slice e
  | .array n e => .array n e
  | .struct fs => .struct (fs.toList.map fun f => (f.type, f.offset))
  | .map k e => .map k e
  | .func .. => .func
  | .interface _ => .iface
  | _ => .other

structure TI where
  kind : TK
  size : Nat
  bytes : Nat
  zero : Value

abbrev Lay := List (Nat × TI)
def Lay.ti : Lay → Nat → Option TI
  | [], _ => none
  | (i, v) :: r, t => bif Nat.beq i t then some v else Lay.ti r t

def tiOf (P : Program) (t : TypeId) : Option (TK × Nat × Nat × Value) :=
  match P.info? t, P.underlying t with
  | some i, some d => i.zero.map fun z => (kindOf d, i.size, i.bytes, z)
  | _, _ => none

structure Has (P : Program) (t : TypeId) (ti : TI) : Prop where
  info : ∃ i, P.info? t = some i ∧ i.size = ti.size ∧ i.bytes = ti.bytes ∧ i.zero = some ti.zero
  under : ∃ d, P.underlying t = some d ∧ kindOf d = ti.kind

def Lay.Ok (P : Program) (L : Lay) : Prop := ∀ t ti, L.ti t = some ti → Has P t ti

theorem Lay.ok_of (P : Program) (L : Lay) (h : L.map (fun x => tiOf P x.1) = L.map fun x => some (x.2.kind, x.2.size, x.2.bytes, x.2.zero)) : L.Ok P := by
  induction L with
  | nil => intro t ti h; simp [Lay.ti] at h
  | cons x r ih =>
    obtain ⟨i, v⟩ := x
    simp only [List.map_cons, List.cons.injEq] at h
    obtain ⟨h1, h2⟩ := h
    intro t ti ht
    simp only [Lay.ti] at ht
    by_cases e : i = t
    · subst e
      simp at ht
      subst ht
      unfold tiOf at h1
      split at h1
      · rename_i inf d hi hd
        cases hz : inf.zero with
        | none => simp [hz] at h1
        | some z =>
          simp only [hz, Option.map_some, Option.some.injEq, Prod.mk.injEq] at h1
          exact ⟨⟨inf, hi, h1.2.1, h1.2.2.1, by rw [hz, h1.2.2.2]⟩, ⟨d, hd, h1.1⟩⟩
      · cases h1
    · rw [beq_ne e] at ht
      exact ih h2 t ti ht

structure Cx where
  P : Program
  L : Lay
  ok : L.Ok P
  mo : P.follows .mixedOrders = true

/-! ### The judgements -/
abbrev Post := Exit → Act → World → Prop
abbrev WP := World → Prop

/-- What is still to be done, as data. -/
inductive Kont : Type 1 where
  | done (fn : Func) (R : Value → WP)
  | seq (c : Code) (k : Kont)
  | block (i : Nat) (k : Kont)
  | back {α : Type} (I : α → Env) (W : α → WP) (μ : α → Nat) (x : α) (k : Kont)
  | calm (k : Kont)
  | any (Q : Post)

/-- The end of a round. -/
def Back (n : Nat) {α : Type} (I : α → Env) (W : α → WP) (μ : α → Nat) (x : α) : Act → World → Prop :=
  fun a w => ∃ y, μ y < μ x ∧ Fits n (I y) a ∧ W y w

def RetP (R : Value → WP) : Ending → World → Prop := fun x w => ∃ v, x = .returned v ∧ R v w

/-- Q, but False at a panic. -/
def Calm (Q : Post) : Post
  | .panic _, _, _ => False
  | x, a, w => Q x a w

def Kont.post (C : Cx) (n : Nat) : Kont → Post
  | .done fn R => bodyPost C.P fn (RetP R)
  | .seq c k => Exit.then (c.wp C.P (k.post C n)) (k.post C n)
  | .block i k => Exit.inBlock i (k.post C n)
  | .back I W μ x k => Exit.then (Back n I W μ x) (k.post C n)
  | .calm k => Calm (k.post C n)
  | .any Q => Q

/-- One operation, carried out. -/
structure EO (C : Cx) (n : Nat) (o : Oper) (Q : Kont) (e : Env) (H : WP) (κ : Env → WP → Prop) : Prop where
  run : ∀ K : Act → World → Prop, (∀ e' H', κ e' H' → ∀ a w, Fits n e' a → H' w → K a w) → ∀ a w, Fits n e a → H w → o.wp C.P a w K (Q.post C n)

structure EL (C : Cx) (n : Nat) (l : List Oper) (ops : Array Oper) (Q : Kont) (e : Env) (H : WP) : Prop where
  run : ∀ a w, Fits n e a → H w → wpList C.P ops (Q.post C n) l a w

structure EJ (C : Cx) (n : Nat) (c : Code) (Q : Kont) (e : Env) (H : WP) : Prop where
  run : ∀ a w, Fits n e a → H w → c.wp C.P (Q.post C n) a w

structure EQ (C : Cx) (n : Nat) (x : Exit) (Q : Kont) (e : Env) (H : WP) : Prop where
  run : ∀ a w, Fits n e a → H w → Q.post C n x a w

variable {C : Cx} {n : Nat} {Q : Kont} {e : Env} {H : WP} {ops : Array Oper} {rest : List Oper} {o : Oper}

/-! ### Control -/
theorem ej_seq {x y : Code} (h : EJ C n x (.seq y Q) e H) : EJ C n (.seq x y) Q e H := ⟨fun a w hf hw => wp_seq (h.run a w hf hw)⟩
theorem ej_skip (h : EQ C n .normal Q e H) : EJ C n .skip Q e H := ⟨fun a w hf hw => wp_skip (h.run a w hf hw)⟩
theorem ej_ret (h : EQ C n .ret Q e H) : EJ C n .ret Q e H := ⟨fun a w hf hw => wp_ret (h.run a w hf hw)⟩
theorem ej_exit {i : Nat} (h : EQ C n (.exit i) Q e H) : EJ C n (.exit i) Q e H := ⟨fun a w hf hw => wp_exit (h.run a w hf hw)⟩
theorem ej_block {i : Nat} {c : Code} (h : EJ C n c (.block i Q) e H) : EJ C n (.block i c) Q e H := ⟨fun a w hf hw => wp_block (h.run a w hf hw)⟩
theorem ej_cond {c : Operand} {x y : Code} {b : Bool} (hc : ev e c = some (.bool b)) (h1 : b = true → EJ C n x Q e H) (h2 : b = false → EJ C n y Q e H) :
    EJ C n (.cond c x y) Q e H := by
  refine ⟨fun a w hf hw => ?_⟩
  refine wp_cond (hf.ev hc) ?_
  cases b with
  | true => exact (h1 rfl).run a w hf hw
  | false => exact (h2 rfl).run a w hf hw
theorem ej_true {c : Operand} {x y : Code} (hc : ev e c = some (.bool true)) (h1 : EJ C n x Q e H) : EJ C n (.cond c x y) Q e H :=
  ⟨fun a w hf hw => wp_cond (hf.ev hc) (h1.run a w hf hw)⟩
theorem ej_false {c : Operand} {x y : Code} (hc : ev e c = some (.bool false)) (h1 : EJ C n y Q e H) : EJ C n (.cond c x y) Q e H :=
  ⟨fun a w hf hw => wp_cond (hf.ev hc) (h1.run a w hf hw)⟩
theorem ej_mono {c : Code} {e' : Env} {H' : WP} (h : EJ C n c Q e' H') (hl : le e' e) (hH : ∀ w, H w → H' w) : EJ C n c Q e H :=
  ⟨fun a w hf hw => h.run a w (hf.mono hl) (hH w hw)⟩
theorem ej_keep {c : Code} (ts : List Nat) (h : EJ C n c Q (keep e ts) H) : EJ C n c Q e H := ej_mono h (le_keep e ts) fun _ h => h
theorem eq_seq {c : Code} (h : EJ C n c Q e H) : EQ C n .normal (.seq c Q) e H := ⟨h.run⟩
theorem eq_seq_ret {c : Code} (h : EQ C n .ret Q e H) : EQ C n .ret (.seq c Q) e H := ⟨h.run⟩
theorem eq_seq_exit {c : Code} {i : Nat} (h : EQ C n (.exit i) Q e H) : EQ C n (.exit i) (.seq c Q) e H := ⟨h.run⟩
theorem eq_block {i : Nat} (h : EQ C n .normal Q e H) : EQ C n .normal (.block i Q) e H := ⟨h.run⟩
theorem eq_block_ret {i : Nat} (h : EQ C n .ret Q e H) : EQ C n .ret (.block i Q) e H := ⟨h.run⟩
theorem eq_block_exit {i : Nat} (h : EQ C n .normal Q e H) : EQ C n (.exit i) (.block i Q) e H := ⟨fun a w hf hw => by
  simp only [Kont.post, Exit.inBlock, if_true]; exact h.run a w hf hw⟩
theorem eq_block_exit_ne {i j : Nat} (hij : Nat.beq j i = false) (h : EQ C n (.exit j) Q e H) : EQ C n (.exit j) (.block i Q) e H := ⟨fun a w hf hw => by
  have hne : ¬ j = i := by intro h1; subst h1; simp at hij
  simp only [Kont.post, Exit.inBlock, if_neg hne]; exact h.run a w hf hw⟩

theorem ej_loop {α : Type} {c : Code} (I : α → Env) (W : α → WP) (μ : α → Nat) (x0 : α) (h0 : le (I x0) e) (hw0 : ∀ w, H w → W x0 w)
    (round : ∀ x, EJ C n c (.back I W μ x Q) (I x) (W x)) : EJ C n (.loop c) Q e H := by
  refine ⟨fun a w hf hw b k cs => ?_⟩
  have key : ∀ m x a w, μ x = m → Fits n (I x) a → W x w →
      ∃ e a' w', Q.post C n e a' w' ∧ Arrives C.P (lone (b.at a (.code c :: .inLoop c :: k)) cs w) b k cs e a' w' := by
    intro m
    induction m using Nat.strongRecOn with
    | _ m ih =>
      intro x a w hm hfx hwx
      obtain ⟨e, a₁, w₁, hq, harr⟩ := (round x).run a w hfx hwx b (.inLoop c :: k) cs
      cases e with
      | normal =>
        obtain ⟨y, hlt, hfy, hwy⟩ := hq
        obtain ⟨e₂, a₂, w₂, hq₂, harr₂⟩ := ih (μ y) (hm ▸ hlt) y a₁ w₁ rfl hfy hwy
        exact ⟨e₂, a₂, w₂, hq₂, .of_steps (Steps.trans harr (.one step_inLoop)) harr₂⟩
      | exit id => exact ⟨_, a₁, w₁, hq, .pass (x := .inLoop c) rfl (fun _ _ => .inl (by simp)) harr⟩
      | goto l => exact ⟨_, a₁, w₁, hq, .pass (x := .inLoop c) rfl (fun _ _ => .inl (by simp)) harr⟩
      | ret => exact ⟨_, a₁, w₁, hq, .pass (x := .inLoop c) rfl (fun _ _ => .inl (by simp)) harr⟩
      | panic ch => exact ⟨_, a₁, w₁, hq, .pass (x := .inLoop c) rfl (fun _ _ => .inl (by simp)) harr⟩
      | outgrown => exact ⟨_, a₁, w₁, hq, .pass (x := .inLoop c) rfl (fun _ _ => .inl (by simp)) harr⟩
  obtain ⟨e, a', w', hq, harr⟩ := key _ x0 a w rfl (hf.mono h0) (hw0 w hw)
  exact ⟨e, a', w', hq, .of_steps (.one step_loop) harr⟩

theorem eq_back {α : Type} {I : α → Env} {W : α → WP} {μ : α → Nat} {x : α} (y : α) (hμ : μ y < μ x) (h1 : le (I y) e) (h2 : ∀ w, H w → W y w) :
    EQ C n .normal (.back I W μ x Q) e H := ⟨fun _ w hf hw => ⟨y, hμ, hf.mono h1, h2 w hw⟩⟩
theorem eq_back_ret {α : Type} {I : α → Env} {W : α → WP} {μ : α → Nat} {x : α} (h : EQ C n .ret Q e H) : EQ C n .ret (.back I W μ x Q) e H := ⟨h.run⟩
theorem eq_back_exit {α : Type} {I : α → Env} {W : α → WP} {μ : α → Nat} {x : α} {i : Nat} (h : EQ C n (.exit i) Q e H) : EQ C n (.exit i) (.back I W μ x Q) e H := ⟨h.run⟩
theorem eq_calm (h : EQ C n .normal Q e H) : EQ C n .normal (.calm Q) e H := ⟨h.run⟩

/-! ### Regions -/
theorem ej_region {i : Nat} {l : List Oper} (h : EL C n l l.toArray Q e H) : EJ C n (.region i l.toArray false) Q e H :=
  ⟨fun a w hf hw => wp_region_lit (h.run a w hf hw)⟩
theorem el_nil (h : EQ C n .normal Q e H) : EL C n [] ops Q e H := ⟨fun a w hf hw => wpList_nil (h.run a w hf hw)⟩

def dstOf (ops : Array Oper) (j : Nat) : Option Nat := (ops[j]?).bind (·.dst)
/-- Is an operation wanted? -/
def want (ops : Array Oper) (e : Env) (o : Oper) : Option Bool :=
  match o.guard with
  | none => some true
  | some (j, b) => match dstOf ops j with
    | some d => match get e d with
      | some (.bool c) => some (c == b)
      | some (.tuple _) => some false
      | _ => none
    | none => none
theorem want_spec {a : Act} {b : Bool} (hf : Fits n e a) (h : want ops e o = some b) : Region.wanted o (yielded ops a.tmps) = b := by
  unfold want at h
  unfold Region.wanted
  split at h
  · rename_i hg; simp only [Option.some.injEq] at h; simp [hg, h]
  · rename_i j c hg
    simp only [hg]
    split at h
    · rename_i d hd
      split at h
      · rename_i v hv
        simp only [Option.some.injEq] at h
        unfold dstOf at hd
        simp only [yielded, hd, Option.bind_some, hf.slot _ _ hv]
        rw [← h]
        cases v <;> cases c <;> rfl
      · rename_i v hv
        simp only [Option.some.injEq] at h
        unfold dstOf at hd
        simp only [yielded, hd, Option.bind_some, hf.slot _ _ hv]
        rw [← h]
        rfl
      · cases h
    · cases h
theorem el_cons (hg : want ops e o = some true) (h : EO C n o Q e H fun e' H' => EL C n rest ops Q e' H') : EL C n (o :: rest) ops Q e H := by
  refine ⟨fun a w hf hw => ?_⟩
  refine wpList_step fun K hK => ?_
  rw [if_pos (want_spec hf hg)]
  exact h.run K (fun e' H' hk a w hf hw => hK a w (hk.run a w hf hw)) a w hf hw
theorem el_skip {d : Nat} (hg : want ops e o = some false) (hd : o.dst = some d) (hn : Nat.ble n d = false) (h : EL C n rest ops Q ((d, undef) :: e) H) : EL C n (o :: rest) ops Q e H := by
  refine ⟨fun a w hf hw => ?_⟩
  refine wpList_step fun K hK => ?_
  rw [if_neg (by rw [want_spec hf hg]; simp), hd]
  exact hK _ _ (h.run _ _ (hf.put hn undef) hw)
theorem el_skip_none (hg : want ops e o = some false) (hd : o.dst = none) (h : EL C n rest ops Q e H) : EL C n (o :: rest) ops Q e H := by
  refine ⟨fun a w hf hw => ?_⟩
  refine wpList_step fun K hK => ?_
  rw [if_neg (by rw [want_spec hf hg]; simp), hd]
  exact hK _ _ (h.run _ _ hf hw)
theorem Fits.refine {d : Nat} {b c : Bool} {a : Act} (hf : Fits n e a) (hv : get e d = some (.bool b)) (hb : b = c) : Fits n ((d, .bool c) :: e) a := by
  subst hb
  refine ⟨hf.size, hf.defers, fun t v h => ?_⟩
  by_cases h3 : d = t
  · subst h3; rw [get_cons_same] at h; cases h; exact hf.slot _ _ hv
  · rw [get_cons_ne _ _ h3] at h; exact hf.slot _ _ h
/-- Part on a Bool in a slot. -/
theorem el_split {l : List Oper} (d : Nat) {b : Bool} (hv : get e d = some (.bool b)) (h1 : b = true → EL C n l ops Q ((d, .bool true) :: e) H) (h2 : b = false → EL C n l ops Q ((d, .bool false) :: e) H) :
    EL C n l ops Q e H := by
  refine ⟨fun a w hf hw => ?_⟩
  cases hb : b with
  | true => exact (h1 hb).run a w (hf.refine hv hb) hw
  | false => exact (h2 hb).run a w (hf.refine hv hb) hw
theorem el_mono {l : List Oper} {e' : Env} {H' : WP} (h : EL C n l ops Q e' H') (hl : le e' e) (hH : ∀ w, H w → H' w) : EL C n l ops Q e H :=
  ⟨fun a w hf hw => h.run a w (hf.mono hl) (hH w hw)⟩

/-! ### Operations -/
section
variable {κ : Env → WP → Prop}
theorem eo_value {d : Nat} {v : Value} (hd : o.dst = some d) (hn : Nat.ble n d = false)
    (hr : ∀ a w, Fits n e a → H w → (execOp a.eval o).run C.P w = .ok (.value v) w) (h : κ ((d, v) :: e) H) : EO C n o Q e H κ := by
  refine ⟨fun K hK a w hf hw => ?_⟩
  unfold Oper.wp
  rw [hr a w hf hw, Oper.upon_value, hd]
  exact hK _ _ h _ _ (hf.put hn v) hw
/-- One whose value is known by its being there alone. -/
theorem eo_some {d : Nat} {α : Type} (hd : o.dst = some d) (hn : Nat.ble n d = false) (v : α → Value) (φ : α → Prop) (H' : α → WP)
    (hr : ∀ a w, Fits n e a → H w → ∃ x w', (execOp a.eval o).run C.P w = .ok (.value (v x)) w' ∧ φ x ∧ H' x w') (h : ∀ x, φ x → κ ((d, v x) :: e) (H' x)) : EO C n o Q e H κ := by
  refine ⟨fun K hK a w hf hw => ?_⟩
  obtain ⟨x, w', h1, h2, h3⟩ := hr a w hf hw
  unfold Oper.wp
  rw [h1, Oper.upon_value, hd]
  exact hK _ _ (h x h2) _ _ (hf.put hn _) h3
theorem eo_skip (hd : o.dst = none) (H' : WP)
    (hr : ∀ a w, Fits n e a → H w → ∃ w', (execOp a.eval o).run C.P w = .ok .skip w' ∧ H' w') (h : κ e H') : EO C n o Q e H κ := by
  refine ⟨fun K hK a w hf hw => ?_⟩
  obtain ⟨w', h1, h2⟩ := hr a w hf hw
  unfold Oper.wp
  rw [h1, Oper.upon_skip, hd]
  exact hK _ _ h _ _ hf h2
end

/-- What an operation yields that neither reads memory nor turns it. -/
def cellsAt (cs : List Value) (off m : Nat) : List Value := (cs.drop off).take m
def partAt (L : Lay) (t : TypeId) (cs : List Value) (off : Nat) : Option Value :=
  match L.ti t with
  | some ti => if ti.kind.agg then some (.agg (cellsAt cs off ti.size).toArray) else cs[off]?
  | none => none

def cmpInt (op : BinOp) (a b : Int) : Option Value :=
  match op with
  | .eql => some (.bool (decide (a = b)))
  | .neq => some (.bool (decide (¬ a = b)))
  | .lss => some (.bool (decide (a < b)))
  | .leq => some (.bool (decide (a ≤ b)))
  | .gtr => some (.bool (decide (b < a)))
  | .geq => some (.bool (decide (b ≤ a)))
  | _ => none

def evs (e : Env) : List Operand → Option (List Value)
  | [] => some []
  | x :: r => match ev e x, evs e r with
    | some v, some l => some (v :: l)
    | _, _ => none

def pureOp (L : Lay) (e : Env) : Op → Option Value
  | .move x | .assign x => ev e x
  | .pick c a b => match ev e c with
    | some (.bool true) => ev e a
    | some (.bool false) => ev e b
    | _ => none
  | .nilCheck x => match ev e x with
    | some (.pointer (some a)) => some (.pointer (some a))
    | _ => none
  | .extract t i => match ev e t with
    | some (.tuple vs) => vs.toList[i]?
    | _ => none
  | .unOp .not _ x => match ev e x with
    | some (.bool b) => some (.bool (!b))
    | _ => none
  | .binOp op _ x y _ => match ev e x, ev e y with
    | some (.int k a), some (.int k' b) => if k = k' then cmpInt op a b else none
    | some (.string a), some (.string b) => match op with
      | .eql => some (.bool (a.toList == b.toList))
      | .neq => some (.bool (!(a.toList == b.toList)))
      | _ => none
    | _, _ => none
  | .fieldAddr s x f => match ev e x, L.ti s with
    | some (.pointer (some ⟨b, off, none⟩)), some { kind := .struct fs, .. } => match fs[f]? with
      | some (t, o) => match L.ti t with
        | some ti => if ti.size = 0 then none else some (.pointer (some ⟨b, off + o, none⟩))
        | none => none
      | none => none
    | _, _ => none
  | .field s x f => match ev e x, L.ti s with
    | some (.agg cs), some { kind := .struct fs, .. } => match fs[f]? with
      | some (t, o) => partAt L t cs.toList o
      | none => none
    | _, _ => none
  | .makeFunc fn first capt => match evs e first.toList, evs e capt.toList with
    | some l, some l' => some (.func fn l.toArray l'.toArray)
    | _, _ => none
  | _ => none

theorem underlying_run {P : Program} {t : TypeId} {d : TypeDesc} (h : P.underlying t = some d) (w : World) : (underlying t).run P w = .ok d w := by
  simp only [underlying, program, Sem.run_bind]
  simp [Sem.run, h]
theorem typeInfo_run {P : Program} {t : TypeId} {i : TypeInfo} (h : P.info? t = some i) (w : World) : (typeInfo t).run P w = .ok i w := by
  simp only [typeInfo, program, Sem.run_bind]
  simp [Sem.run, h]
theorem sizeOf_run {P : Program} {t : TypeId} {ti : TI} (h : Has P t ti) (w : World) : (sizeOf t).run P w = .ok ti.size w := by
  obtain ⟨i, h1, h2, _⟩ := h.info
  simp [sizeOf, typeInfo_run h1, h2]
theorem bytes_run {P : Program} {t : TypeId} {ti : TI} (h : Has P t ti) (w : World) : ∃ i, (typeInfo t).run P w = .ok i w ∧ i.bytes = ti.bytes ∧ i.size = ti.size ∧ i.zero = some ti.zero := by
  obtain ⟨i, h1, h2, h3, h4⟩ := h.info
  exact ⟨i, typeInfo_run h1 w, h3, h2, h4⟩
theorem zero_run {P : Program} {t : TypeId} {ti : TI} (h : Has P t ti) (w : World) : (zeroValue t).run P w = .ok ti.zero w := by
  obtain ⟨i, h1, h2, h3, h4⟩ := h.info
  simp [zeroValue, typeInfo_run h1, h4]
theorem isAgg_run {P : Program} {t : TypeId} {ti : TI} (h : Has P t ti) (w : World) : (isAgg t).run P w = .ok ti.kind.agg w := by
  obtain ⟨d, h1, h2⟩ := h.under
  simp only [isAgg, Sem.run_bind, underlying_run h1, Result.andThen_ok]
  rw [← h2]
  cases d <;> rfl
theorem kind_int {P : Program} {t : TypeId} {ti : TI} (h : Has P t ti) {k : IntKind} (hk : ti.kind = .int k) : P.underlying t = some (.int k) := by
  obtain ⟨d, h1, h2⟩ := h.under
  rw [hk] at h2
  cases d <;> simp [kindOf] at h2
  rw [h1, h2]
theorem kind_struct {P : Program} {t : TypeId} {ti : TI} (h : Has P t ti) {fs : List (TypeId × Nat)} (hk : ti.kind = .struct fs) :
    ∃ gs, P.underlying t = some (.struct gs) ∧ gs.toList.map (fun f => (f.type, f.offset)) = fs := by
  obtain ⟨d, h1, h2⟩ := h.under
  rw [hk] at h2
  cases d <;> simp [kindOf] at h2
  exact ⟨_, h1, h2⟩
theorem kind_slice {P : Program} {t : TypeId} {ti : TI} (h : Has P t ti) {e : TypeId} (hk : ti.kind = .slice e) : P.underlying t = some (.slice e) := by
  obtain ⟨d, h1, h2⟩ := h.under
  rw [hk] at h2
  cases d <;> simp [kindOf] at h2
  rw [h1, h2]
theorem kind_array {P : Program} {t : TypeId} {ti : TI} (h : Has P t ti) {n : Nat} {e : TypeId} (hk : ti.kind = .array n e) : P.underlying t = some (.array n e) := by
  obtain ⟨d, h1, h2⟩ := h.under
  rw [hk] at h2
  cases d <;> simp [kindOf] at h2
  rw [h1, h2.1, h2.2]
theorem kind_map {P : Program} {t : TypeId} {ti : TI} (h : Has P t ti) {k e : TypeId} (hk : ti.kind = .map k e) : P.underlying t = some (.map k e) := by
  obtain ⟨d, h1, h2⟩ := h.under
  rw [hk] at h2
  cases d <;> simp [kindOf] at h2
  rw [h1, h2.1, h2.2]
theorem kind_str {P : Program} {t : TypeId} {ti : TI} (h : Has P t ti) (hk : ti.kind = .str) : P.underlying t = some .string := by
  obtain ⟨d, h1, h2⟩ := h.under
  rw [hk] at h2
  cases d <;> simp [kindOf] at h2
  rw [h1]

theorem part_run {P : Program} {L : Lay} (ok : L.Ok P) {t : TypeId} {cs : Array Value} {off : Nat} {v : Value} (h : partAt L t cs.toList off = some v) (w : World) : (part t cs off).run P w = .ok v w := by
  unfold partAt at h
  split at h
  · rename_i ti hti
    have hh := ok _ _ hti
    unfold part
    simp only [Sem.run_bind, isAgg_run hh, Result.andThen_ok]
    split at h
    · rename_i hg
      simp only [hg, if_true, Sem.run_bind, sizeOf_run hh, Result.andThen_ok, Sem.run_pure]
      simp only [Option.some.injEq] at h
      subst h
      congr 2
      apply Array.toList_inj.1
      simp [cellsAt, List.extract_eq_take_drop]
    · rename_i hg
      simp only [hg]
      simp at h
      simp [h]
  · cases h

theorem evs_spec {a : Act} (hf : Fits n e a) : ∀ {xs : List Operand} {l : List Value}, evs e xs = some l → xs.map a.eval = l := by
  intro xs
  induction xs with
  | nil => intro l h; simp [evs] at h; simp [← h]
  | cons x r ih =>
    intro l h
    simp only [evs] at h
    split at h
    · rename_i v l' h1 h2
      simp only [Option.some.injEq] at h
      rw [← h, List.map_cons, ih h2, hf.ev h1]
    · cases h
theorem evs_arr {a : Act} (hf : Fits n e a) {xs : Array Operand} {l : List Value} (h : evs e xs.toList = some l) : xs.map a.eval = l.toArray := by
  have := evs_spec hf h
  apply Array.toList_inj.1
  simpa using this

theorem eqGuard_int (op : BinOp) (t : TypeId) (x y : Operand) (k k' : IntKind) (a b : Int) (P : Program) (w : World) : (eqGuard op t x y (.int k a) (.int k' b)).run P w = .ok () w := by
  cases op <;> simp [eqGuard]
theorem eqGuard_bool (op : BinOp) (t : TypeId) (x y : Operand) (a b : Bool) (P : Program) (w : World) : (eqGuard op t x y (.bool a) (.bool b)).run P w = .ok () w := by
  cases op <;> simp [eqGuard]
theorem eqGuard_str (op : BinOp) (t : TypeId) (x y : Operand) (a b : ByteArray) (P : Program) (w : World) : (eqGuard op t x y (.string a) (.string b)).run P w = .ok () w := by
  cases op <;> simp [eqGuard]
theorem eqGuard_ptr (op : BinOp) (t : TypeId) (x y : Operand) (a b : Option Addr) (P : Program) (w : World) : (eqGuard op t x y (.pointer a) (.pointer b)).run P w = .ok () w := by
  cases op <;> simp [eqGuard]

theorem binOp_cmp {op : BinOp} {t : TypeId} {k : IntKind} {a b : Int} {v : Value} (h : cmpInt op a b = some v) (P : Program) (w : World) :
    (binOp op t (.int k a) (.int k b)).run P w = .ok v w := by
  cases op <;> simp [cmpInt] at h <;> subst h <;> simp [binOp, Op.intCmp] <;> (rw [Bool.eq_iff_iff]; simp)

theorem fieldAddr_run {P : Program} {L : Lay} (ok : L.Ok P) {s : TypeId} {b off f : Nat} {fs : List (TypeId × Nat)} {sz by_ : Nat} {z : Value} {t : TypeId} {o : Nat} {ti : TI}
    (h1 : L.ti s = some { kind := .struct fs, size := sz, bytes := by_, zero := z }) (h2 : fs[f]? = some (t, o)) (h3 : L.ti t = some ti) (h4 : ti.size ≠ 0) (w : World) :
    (Instr.fieldAt s (.pointer (some ⟨b, off, none⟩)) f).run P w = .ok (.pointer (some ⟨b, off + o, none⟩)) w := by
  obtain ⟨gs, h5, h6⟩ := kind_struct (ok _ _ h1) rfl
  have h7 : ∃ g, gs[f]? = some g ∧ g.type = t ∧ g.offset = o := by
    rw [← h6] at h2
    simp only [List.getElem?_map, Option.map_eq_some_iff, Prod.mk.injEq] at h2
    obtain ⟨g, h8, h9, h10⟩ := h2
    exact ⟨g, by simpa using h8, h9, h10⟩
  obtain ⟨g, h8, rfl, rfl⟩ := h7
  have hadd : (⟨b, off, none⟩ : Addr).add g.offset = ⟨b, off + g.offset, none⟩ := by
    unfold Addr.add; split
    · rename_i h; simp [h]
    · rfl
  simp only [Instr.fieldAt, Sem.run_bind, underlying_run h5, Result.andThen_ok, h8, Instr.sureAddr, Sem.run_pure, fieldPlace, sizeOf_run (ok _ _ h3), if_neg h4, hadd]

theorem pure_run {P : Program} {L : Lay} (ok : L.Ok P) {a : Act} (hf : Fits n e a) {v : Value} (h : pureOp L e o.op = some v) (w : World) :
    (execOp a.eval o).run P w = .ok (.value v) w := by
  unfold pureOp at h
  unfold execOp
  split at h
  · rename_i x hx; rw [hx]; simp [hf.ev h]
  · rename_i x hx; rw [hx]; simp [hf.ev h]
  · rename_i c x y hx; rw [hx]
    split at h
    · rename_i hc; simp [hf.ev hc, asBool, hf.ev h]
    · rename_i hc; simp [hf.ev hc, asBool, hf.ev h]
    · cases h
  · rename_i x hx; rw [hx]
    split at h
    · rename_i ad hc; simp only [Option.some.injEq] at h; simp [hf.ev hc, ← h]
    · cases h
  · rename_i t i hx; rw [hx]
    split at h
    · rename_i vs hc; simp only [hf.ev hc, Instr.extract]; simp only [Array.getElem?_toList] at h; simp [h]
    · cases h
  · rename_i t x hx; rw [hx]
    split at h
    · rename_i b hc; simp only [Option.some.injEq] at h; simp [hf.ev hc, Op.unary, ← h]
    · cases h
  · rename_i op t x y t' hx; rw [hx]
    split at h
    · rename_i k c k' d h1 h2
      split at h
      · rename_i hk; subst hk
        simp [hf.ev h1, hf.ev h2, eqGuard_int, binOp_cmp h]
      · cases h
    · rename_i c d h1 h2
      split at h
      · simp only [Option.some.injEq] at h; simp [hf.ev h1, hf.ev h2, eqGuard_str, binOp, Op.stringOp, ← h]
      · simp only [Option.some.injEq] at h; simp [hf.ev h1, hf.ev h2, eqGuard_str, binOp, Op.stringOp, ← h]
      · cases h
    · cases h
  · rename_i s x f hx; rw [hx]
    split at h
    · rename_i b off fs sz by_ z h1 h2
      split at h
      · rename_i t o' h3
        split at h
        · rename_i ti h4
          split at h
          · cases h
          · rename_i h5
            simp only [Option.some.injEq] at h
            simp only [Sem.run_bind, hf.ev h1]
            rw [fieldAddr_run ok h2 h3 h4 h5 w]
            simp [← h]
        · cases h
      · cases h
    · cases h
  · rename_i s x f hx; rw [hx]
    split at h
    · rename_i cs fs sz by_ z h1 h2
      split at h
      · rename_i t o' h3
        obtain ⟨gs, h5, h6⟩ := kind_struct (ok _ _ h2) rfl
        have h7 : ∃ g, gs[f]? = some g ∧ g.type = t ∧ g.offset = o' := by
          rw [← h6] at h3
          simp only [List.getElem?_map, Option.map_eq_some_iff, Prod.mk.injEq] at h3
          obtain ⟨g, h8, h9, h10⟩ := h3
          exact ⟨g, by simpa using h8, h9, h10⟩
        obtain ⟨g, h8, rfl, rfl⟩ := h7
        simp [hf.ev h1, Instr.field, underlying_run h5, h8, asAgg, part_run ok h]
      · cases h
    · cases h
  · rename_i fn first capt hx; rw [hx]
    split at h
    · rename_i l l' h1 h2
      simp only [Option.some.injEq] at h
      simp [Instr.makeFunc, evs_arr hf h1, evs_arr hf h2, ← h]
    · cases h
  · cases h

theorem eo_pure {κ : Env → WP → Prop} {d : Nat} {v : Value} (hv : pureOp C.L e o.op = some v) (hd : o.dst = some d) (hn : Nat.ble n d = false) (h : κ ((d, v) :: e) H) : EO C n o Q e H κ :=
  eo_value hd hn (fun _ w hf _ => pure_run C.ok hf hv w) h

end Go.SE
