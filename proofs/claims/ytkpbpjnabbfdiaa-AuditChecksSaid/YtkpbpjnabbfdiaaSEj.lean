/- The engine, part j: maps whose keys are integers. -/
import Derived.Test.YtkpbpjnabbfdiaaSEi
import Derived.Maps.RangeRun
namespace Go.SE
open Go
open Go.ChangeMaps (setBlock)
open Go.MapKept

variable {C : Cx} {n : Nat} {Q : Kont} {e : Env} {H : WP} {ops : Array Oper} {rest : List Oper} {o : Oper} {k : Env → WP → Prop} {w0 w : World} {l hs : List HP}

/-- entries that read as 'kvs': keys of kind K, unlike; stamps unlike, all ahead of the clock -/
structure Ents (K : IntKind) (kvs : List (Int × Value)) (es : List MapEntry) (clock : Nat) : Prop where
  reads : es.map (fun e => (e.key, e.val)) = kvs.map fun p => (.int K p.1, p.2)
  keys : (kvs.map (·.1)).Nodup
  borns : (es.map (·.born)).Nodup
  older : ∀ e ∈ es, e.born < clock
def mapO (b : Nat) (K : IntKind) (kvs : List (Int × Value)) : HP := fun h => ∃ es clock, h b = some (.map es.toArray clock) ∧ Ents K kvs es clock

def kput (kvs : List (Int × Value)) (x : Int) (v : Value) : List (Int × Value) :=
  if kvs.any (fun p => decide (p.1 = x)) then kvs.map (fun p => if p.1 = x then (x, v) else p) else kvs ++ [(x, v)]
def kget (kvs : List (Int × Value)) (x : Int) : Option Value := (kvs.find? fun p => decide (p.1 = x)).map (·.2)

theorem nodup_ne {l : List Int} (h : l.Nodup) {i j : Nat} (hi : i < l.length) (hj : j < l.length) (hij : i ≠ j) : l[i] ≠ l[j] := by
  rcases Nat.lt_or_ge i j with h1 | h1
  · exact (List.pairwise_iff_getElem.1 h) i j hi hj h1
  · exact fun e => (List.pairwise_iff_getElem.1 h) j i hj hi (by omega) e.symm
theorem Ents.len {K : IntKind} {kvs : List (Int × Value)} {es : List MapEntry} {clock : Nat} (h : Ents K kvs es clock) : es.length = kvs.length := by
  have := congrArg List.length h.reads; simpa using this
theorem Ents.at {K : IntKind} {kvs : List (Int × Value)} {es : List MapEntry} {clock : Nat} (h : Ents K kvs es clock) {j : Nat} {en : MapEntry} (hj : es[j]? = some en) : ∃ p, kvs[j]? = some p ∧ en.key = .int K p.1 ∧ en.val = p.2 := by
  have h1 : (es.map (fun e => (e.key, e.val)))[j]? = some (en.key, en.val) := by rw [List.getElem?_map, hj]; rfl
  rw [h.reads, List.getElem?_map] at h1
  cases hp : kvs[j]? with
  | none => rw [hp] at h1; simp at h1
  | some p =>
    rw [hp] at h1
    simp only [Option.map_some, Option.some.injEq, Prod.mk.injEq] at h1
    exact ⟨p, rfl, h1.1.symm, h1.2.symm⟩
/-- what 'findKey' answers -/
theorem find_ents {P : Program} {kt : TypeId} {K : IntKind} {kvs : List (Int × Value)} {es : List MapEntry} {clock : Nat} (hd : P.underlying kt = some (.int K)) (h : Ents K kvs es clock) (x : Int) (w : World) :
    ((Instr.findKey kt (.int K x) es).run P w = .ok none w ∧ kget kvs x = none ∧ kvs.any (fun p => decide (p.1 = x)) = false) ∨
    ∃ j p en, (Instr.findKey kt (.int K x) es).run P w = .ok (some (j, p.2)) w ∧ es[j]? = some en ∧ en.key = .int K x ∧ en.val = p.2 ∧ kvs[j]? = some p ∧ p.1 = x ∧ kget kvs x = some p.2 ∧ kvs.any (fun p => decide (p.1 = x)) = true := by
  have hks : ∀ y ∈ es, IsKey (.int K) y.key := fun y hy => by
    obtain ⟨j, hj⟩ := List.getElem?_of_mem hy
    obtain ⟨p, _, h2, _⟩ := h.at hj
    rw [h2]; rfl
  rcases findNow_spec (d := .int K) (k := .int K x) rfl es 0 hks with ⟨h1, h2⟩ | ⟨j, en, h1, h2, h3⟩
  · have hnone : ∀ p ∈ kvs, p.1 ≠ x := fun p hp e => by
      obtain ⟨j, hj⟩ := List.getElem?_of_mem hp
      have hlt : j < es.length := by rw [h.len]; exact (List.getElem?_eq_some_iff.1 hj).1
      obtain ⟨q, hq, hk, _⟩ := h.at (List.getElem?_eq_getElem hlt)
      rw [hj] at hq
      cases hq
      exact h2 _ (List.getElem_mem hlt) (by rw [hk, e])
    refine .inl ⟨run_findKey hd h1, ?_, ?_⟩
    · rw [kget, List.find?_eq_none.2 (fun p hp => by simpa using hnone p hp)]; rfl
    · simpa using hnone
  · obtain ⟨p, hp, hk, hv⟩ := h.at h2
    rw [hk] at h3
    obtain rfl : p.1 = x := by injection h3
    have hf : kvs.find? (fun q => decide (q.1 = p.1)) = some p := by
      have hnd := h.keys
      have hlt := (List.getElem?_eq_some_iff.1 hp).1
      rw [List.find?_eq_some_iff_getElem]
      refine ⟨by simp, j, hlt, by have := (List.getElem?_eq_some_iff.1 hp).2; exact this, fun i hi => ?_⟩
      have hne : (kvs.map (·.1))[i]'(by simp; omega) ≠ (kvs.map (·.1))[j]'(by simpa using hlt) := nodup_ne hnd _ _ (by omega)
      simp only [List.getElem_map] at hne
      have hpj := (List.getElem?_eq_some_iff.1 hp).2
      rw [hpj] at hne
      simpa using hne
    refine .inr ⟨j, p, en, ?_, h2, hk, hv, hp, rfl, by rw [kget, hf]; rfl, ?_⟩
    · have := run_findKey (P := P) (w := w) hd h1
      rw [Nat.zero_add, hv] at this
      exact this
    · rw [List.any_eq_true]
      exact ⟨p, List.mem_of_getElem? hp, by simp⟩

theorem Ents.push {K : IntKind} {kvs : List (Int × Value)} {es : List MapEntry} {clock : Nat} (h : Ents K kvs es clock) {x : Int} (v : Value) (hx : kvs.any (fun p => decide (p.1 = x)) = false) :
    Ents K (kput kvs x v) (es ++ [{ key := .int K x, val := v, born := clock }]) (clock + 1) := by
  rw [kput, if_neg (by rw [hx]; decide)]
  have hx' : ∀ p ∈ kvs, p.1 ≠ x := by simpa using hx
  refine ⟨by simp [h.reads], ?_, ?_, fun e he => ?_⟩
  · rw [List.map_append, List.nodup_append]
    refine ⟨h.keys, by simp, fun a ha b hb => ?_⟩
    obtain ⟨p, hp, rfl⟩ := List.mem_map.1 ha
    simp at hb; subst hb
    exact hx' p hp
  · rw [List.map_append, List.nodup_append]
    refine ⟨h.borns, by simp, fun a ha b hb => ?_⟩
    obtain ⟨p, hp, rfl⟩ := List.mem_map.1 ha
    simp at hb; subst hb
    have := h.older p hp
    omega
  · rcases List.mem_append.1 he with he | he
    · have := h.older e he; omega
    · simp at he; subst he; simp
theorem kput_set {kvs : List (Int × Value)} (hn : (kvs.map (·.1)).Nodup) {j : Nat} {p : Int × Value} (hj : kvs[j]? = some p) (v : Value) : kvs.map (fun q => if q.1 = p.1 then (p.1, v) else q) = kvs.set j (p.1, v) := by
  have hlt := (List.getElem?_eq_some_iff.1 hj).1
  have hpj := (List.getElem?_eq_some_iff.1 hj).2
  refine List.ext_getElem (by simp) fun i h1 h2 => ?_
  rw [List.getElem_map, List.getElem_set]
  by_cases hij : j = i
  · subst hij; rw [if_pos rfl, hpj, if_pos rfl]
  · rw [if_neg hij]
    have hi : i < kvs.length := by simpa using h1
    have hne : kvs[i].1 ≠ p.1 := fun e => by
      rw [← hpj] at e
      exact nodup_ne hn (i := i) (j := j) (by simpa using hi) (by simpa using hlt) (by omega) (by simpa using e)
    rw [if_neg hne]
theorem Ents.modify {K : IntKind} {kvs : List (Int × Value)} {es : List MapEntry} {clock : Nat} (h : Ents K kvs es clock) {j : Nat} {p : Int × Value} {en : MapEntry} (hp : kvs[j]? = some p) (he : es[j]? = some en) (v : Value) (hx : kvs.any (fun q => decide (q.1 = p.1)) = true) :
    Ents K (kput kvs p.1 v) (es.modify j fun e => { e with key := .int K p.1, val := v }) clock := by
  rw [kput, if_pos hx, kput_set h.keys hp]
  have hlt := (List.getElem?_eq_some_iff.1 hp).1
  have hlt' := (List.getElem?_eq_some_iff.1 he).1
  have hpj := (List.getElem?_eq_some_iff.1 hp).2
  have hej := (List.getElem?_eq_some_iff.1 he).2
  have hset : es.modify j (fun e => { e with key := .int K p.1, val := v }) = es.set j { en with key := .int K p.1, val := v } := by
    refine List.ext_getElem (by simp) fun i h1 h2 => ?_
    rw [List.getElem_modify, List.getElem_set]
    split
    · subst_vars; rw [hej]
    · rfl
  rw [hset]
  refine ⟨by rw [List.map_set, List.map_set, h.reads], ?_, ?_, fun e hm => ?_⟩
  · have : (kvs.set j (p.1, v)).map (·.1) = kvs.map (·.1) := by
      rw [List.map_set]
      refine List.ext_getElem (by simp) fun i h1 h2 => ?_
      rw [List.getElem_set]
      split
      · subst_vars; simp [hpj]
      · rfl
    rw [this]; exact h.keys
  · have : (es.set j { en with key := .int K p.1, val := v }).map (·.born) = es.map (·.born) := by
      rw [List.map_set]
      refine List.ext_getElem (by simp) fun i h1 h2 => ?_
      rw [List.getElem_set]
      split
      · subst_vars; simp [hej]
      · rfl
    rw [this]; exact h.borns
  · rcases List.mem_or_eq_of_mem_set hm with hm | rfl
    · exact h.older e hm
    · exact h.older en (hej ▸ List.getElem_mem hlt')

theorem map_open {i b : Nat} {K : IntKind} {kvs : List (Int × Value)} (h : S w0 l w) (hi : l[i]? = some (mapO b K kvs)) :
    ∃ es clock, S w0 (l.set i (pt b (.map es.toArray clock))) w ∧ Ents K kvs es clock ∧ w.heap[b]? = some (.map es.toArray clock) := by
  obtain ⟨⟨⟨es, clock⟩, hE⟩, hS⟩ := h.ex hi (α := { x : List MapEntry × Nat // Ents K kvs x.1 x.2 }) (q := fun x => pt b (.map x.1.1.toArray x.1.2)) fun h ⟨es, clock, h1, h2⟩ => ⟨⟨(es, clock), h2⟩, h1⟩
  have hil := (List.getElem?_eq_some_iff.1 hi).1
  exact ⟨es, clock, hS, hE, hS.get (i := i) (by simp [hil])⟩

theorem eo_mkmap {d t : Nat} (ho : o.op = .makeMap t none) (hd : o.dst = some d) (hn : Nat.ble n d = false) (K : IntKind)
    (h : ∀ b, k ((d, .map (some b)) :: e) (S w0 (mapO b K [] :: l))) : EO C n o Q e (S w0 l) k := by
  refine eo_some hd hn (fun b => .map (some b)) (fun _ => True) (fun b => S w0 (mapO b K [] :: l)) (fun a w hf hw => ?_) (fun b _ => h b)
  refine ⟨w.heap.size, w.alloc (.map #[] 0), ?_, trivial, ?_⟩
  · unfold execOp
    rw [ho]
    simp only [Option.map_none, Instr.makeMap, newObj, Sem.run_bind, Sem.run, Result.andThen_ok, Sem.run_pure]
    rfl
  · exact (hw.alloc (.map #[] 0)).imp (i := 0) rfl (q := mapO w.heap.size K []) fun h hp => ⟨[], 0, hp, ⟨rfl, by simp, by simp, by simp⟩⟩

def lookV (kvs : List (Int × Value)) (x : Int) (z : Value) (ok : Bool) : Value :=
  if ok then .tuple #[(kget kvs x).getD z, .bool (kget kvs x).isSome] else (kget kvs x).getD z
theorem look_run {K : IntKind} {kvs : List (Int × Value)} {es : List MapEntry} {clock b t kt et : Nat} {tl tk te : TI} {x : Int} {ok : Bool} (ht : C.L.ti t = some tl) (hk : tl.kind = .map kt et) (htk : C.L.ti kt = some tk) (hkk : tk.kind = .int K) (hte : C.L.ti et = some te)
    (hb : w.heap[b]? = some (.map es.toArray clock)) (hE : Ents K kvs es clock) : (Instr.lookup t (.map (some b)) (.int K x) ok).run C.P w = .ok (lookV kvs x te.zero ok) w := by
  have hd := kind_int (C.ok _ _ htk) hkk
  unfold Instr.lookup
  simp only [Sem.run_bind, run_underlying (kind_map (C.ok _ _ ht) hk), Result.andThen_ok, getObj, Sem.run, hb, Sem.run_pure]
  have hck : (Instr.checkKey es.toArray.isEmpty 10000 kt (.int K x)).run C.P w = .ok () w := run_checkKey (d := .int K) (k := .int K x) hd rfl _ 9999
  rw [hck]
  simp only [Result.andThen_ok]
  rcases find_ents hd hE x w with ⟨h1, h2, _⟩ | ⟨j, p, en, h1, _, _, _, _, _, h2, _⟩
  · rw [h1]
    simp only [Result.andThen_ok, Sem.run_bind, zero_run (C.ok _ _ hte), Sem.run_pure, lookV, h2]
    cases ok <;> rfl
  · rw [h1]
    simp only [Result.andThen_ok, lookV, h2]
    cases ok <;> rfl
theorem eo_lookup (i : Nat) {d b t kt et : Nat} {x y : Operand} {ok : Bool} {K : IntKind} {kvs : List (Int × Value)} {tl tk te : TI} {a : Int} (ho : o.op = .lookup t x y ok) (hd : o.dst = some d) (hn : Nat.ble n d = false)
    (hx : ev e x = some (.map (some b))) (hy : ev e y = some (.int K a)) (ht : C.L.ti t = some tl) (hk : tl.kind = .map kt et) (htk : C.L.ti kt = some tk) (hkk : tk.kind = .int K) (hte : C.L.ti et = some te)
    (hi : l[i]? = some (mapO b K kvs)) (h : k ((d, lookV kvs a te.zero ok) :: e) (S w0 l)) : EO C n o Q e (S w0 l) k := by
  refine eo_value hd hn (fun ac w hf hw => ?_) h
  obtain ⟨es, clock, _, hE, hb⟩ := map_open hw hi
  unfold execOp
  rw [ho]
  simp only [Sem.run_bind, hf.ev hx, hf.ev hy, look_run ht hk htk hkk hte hb hE, Result.andThen_ok, Sem.run_pure]
theorem er_lookup (j : Nat) {b t kt et : Nat} {x y : Operand} {ok : Bool} {K : IntKind} {kvs : List (Int × Value)} {tl tk te : TI} {a : Int} (ho : o.op = .lookup t x y ok)
    (hx : ev e x = some (.map (some b))) (hy : ev e y = some (.int K a)) (ht : C.L.ti t = some tl) (hk : tl.kind = .map kt et) (htk : C.L.ti kt = some tk) (hkk : tk.kind = .int K) (hte : C.L.ti et = some te)
    (hj : hs[j]? = some (mapO b K kvs)) : ER C n o e (Held w0 hs) (lookV kvs a te.zero ok) := by
  refine ⟨fun ac w hf hw => ?_⟩
  obtain ⟨es, clock, _, hE, hb⟩ := map_open (hw.one hj) (i := 0) rfl
  unfold execOp
  rw [ho]
  simp only [Sem.run_bind, hf.ev hx, hf.ev hy, look_run ht hk htk hkk hte hb hE, Result.andThen_ok, Sem.run_pure]

theorem eo_mapset (i : Nat) {b t kt et : Nat} {x y z : Operand} {K : IntKind} {kvs : List (Int × Value)} {tl tk : TI} {a : Int} {v : Value} (ho : o.op = .mapUpdate t x y z) (hd : o.dst = none)
    (hx : ev e x = some (.map (some b))) (hy : ev e y = some (.int K a)) (hz : ev e z = some v) (ht : C.L.ti t = some tl) (hk : tl.kind = .map kt et) (htk : C.L.ti kt = some tk) (hkk : tk.kind = .int K)
    (hi : l[i]? = some (mapO b K kvs)) (h : k e (S w0 (l.set i (mapO b K (kput kvs a v))))) : EO C n o Q e (S w0 l) k := by
  refine eo_skip hd (S w0 (l.set i (mapO b K (kput kvs a v)))) (fun ac w hf hw => ?_) h
  obtain ⟨es, clock, hS, hE, hb⟩ := map_open hw hi
  have hil := (List.getElem?_eq_some_iff.1 hi).1
  have hdk := kind_int (C.ok _ _ htk) hkk
  have fin : ∀ (es' : List MapEntry) (clock' : Nat), Ents K (kput kvs a v) es' clock' → (setObj b (.map es'.toArray clock')).run C.P w = .ok () (setBlock w b (.map es'.toArray clock')) ∧ S w0 (l.set i (mapO b K (kput kvs a v))) (setBlock w b (.map es'.toArray clock')) := by
    intro es' clock' hE'
    have hlt := (Array.getElem?_eq_some_iff.1 hb).1
    refine ⟨by simp [setObj, Sem.run, hb, setBlock], ?_⟩
    have h1 := hS.turn (i := i) (o' := .map es'.toArray clock') (w' := setBlock w b (.map es'.toArray clock')) (by simp [hil]; rfl) rfl rfl rfl (Nat.le_refl _) (by simp [setBlock]) (by simp [setBlock, hlt]) (fun x hx => by simp [setBlock, Ne.symm hx])
    have h2 := h1.imp (i := i) (p := pt b (.map es'.toArray clock')) (q := mapO b K (kput kvs a v)) (by simp [hil]) fun h hp => ⟨es', clock', hp, hE'⟩
    simpa [List.set_set] using h2
  unfold execOp
  rw [ho]
  simp only [hf.ev hx, hf.ev hy, hf.ev hz, Instr.mapUpdate, Sem.run_bind, run_underlying (kind_map (C.ok _ _ ht) hk), Result.andThen_ok, getObj, Sem.run, hb]
  have hck : (Instr.checkKey false 10000 kt (.int K a)).run C.P w = .ok () w := run_checkKey (d := .int K) (k := .int K a) hdk rfl _ 9999
  rw [hck]
  simp only [Result.andThen_ok]
  rcases find_ents hdk hE a w with ⟨h1, _, h3⟩ | ⟨j, p, en, h1, h2, h3, h4, h5, rfl, _, h7⟩
  · rw [h1]
    obtain ⟨f1, f2⟩ := fin _ _ (hE.push v h3)
    refine ⟨_, ?_, f2⟩
    simp only [Result.andThen_ok, List.push_toArray]
    rw [f1]; rfl
  · rw [h1]
    obtain ⟨f1, f2⟩ := fin _ _ (hE.modify h5 h2 v h7)
    refine ⟨_, ?_, f2⟩
    have hk1 : ((es.toArray[j]?).map (·.key)).getD (.int K p.1) = .int K p.1 := by
      rw [List.getElem?_toArray, h2]; simp [h3]
    simp only [Result.andThen_ok, Sem.run_bind, hk1]
    rw [run_keyThatStays (d := .int K) (k := .int K p.1) rfl]
    simp only [Result.andThen_ok, List.modify_toArray]
    rw [f1]; rfl

/-! ### Ranges -/
theorem S.change {w' : World} {i x : Nat} {o' : Obj} {p q : HP} (h : S w0 l w) (hi : l[i]? = some p) (hx : ∀ h, p h → (∃ o, h x = some o) ∨ w.heap[x]? = none) (hos : w'.os = w.os) (htape : w'.tape = w.tape) (hout : w'.output = w.output) (hdr : w.drawn ≤ w'.drawn)
    (hsz : w.heap.size ≤ w'.heap.size) (hb : w'.heap[x]? = some o') (hne : ∀ y, y ≠ x → w'.heap[y]? = w.heap[y]?) (hq : ∀ h, p h → q (fun y => if y = x then some o' else h y)) : S w0 (l.set i q) w' := by
  obtain ⟨h1, h2, hd, he, hp, _, hset⟩ := stars_focus l i _ _ h.sat hi
  refine ⟨hos.trans h.os, htape.trans h.tape, hout.trans h.output, Nat.le_trans h.drawn hdr, Nat.le_trans h.size hsz, ?_⟩
  have hb2 : h2 x = none := by
    rcases hx _ hp with ⟨o, ho⟩ | hnone
    · rcases hd x with h' | h'
      · rw [ho] at h'; cases h'
      · exact h'
    · have := congrFun he x
      rw [hnone] at this
      simp only [uni] at this
      cases hh : h1 x with
      | none => rw [hh] at this; simpa using this.symm
      | some o => rw [hh] at this; simp at this
  have : (fun y => w'.heap[y]?) = uni (fun y => if y = x then some o' else h1 y) h2 := by
    funext y
    by_cases hy : y = x
    · subst hy; simp [uni, hb]
    · rw [hne y hy, congrFun he y]; simp [uni, hy]
  rw [this]
  refine hset _ _ ?_ (hq _ hp)
  intro y
  by_cases hy : y = x
  · subst hy; exact .inr hb2
  · simp only [if_neg hy]; exact hd y

/-- a map that is ranged over: block b; the iterator: block r; what is still to come; the entry that came last -/
def rangeO (b r : Nat) (K : IntKind) (kvs left : List (Int × Value)) (cur : Option (Int × Value)) : HP := fun h => ∃ es clock seen, (h b = some (.map es.toArray clock) ∧ h r = some (.mapIter (some b) clock seen clock)) ∧ Ents K kvs es clock ∧
  (es.filter (fun e => !seen.contains e.born)).map (fun e => (e.key, e.val)) = left.map (fun p => (.int K p.1, p.2)) ∧ ∀ p, cur = some p → ∃ en ∈ es, (∃ s : Array Nat, seen = s.push en.born) ∧ en.key = .int K p.1 ∧ en.val = p.2

theorem eo_range (i : Nat) {d b t kt et : Nat} {x : Operand} {K : IntKind} {kvs : List (Int × Value)} {tl : TI} (ho : o.op = .range t x) (hd : o.dst = some d) (hn : Nat.ble n d = false)
    (hx : ev e x = some (.map (some b))) (ht : C.L.ti t = some tl) (hk : tl.kind = .map kt et) (hi : l[i]? = some (mapO b K kvs)) (h : ∀ r, k ((d, .pointer (some ⟨r, 0, none⟩)) :: e) (S w0 (l.set i (rangeO b r K kvs kvs none)))) : EO C n o Q e (S w0 l) k := by
  refine eo_some hd hn (fun r => .pointer (some ⟨r, 0, none⟩)) (fun _ => True) (fun r => S w0 (l.set i (rangeO b r K kvs kvs none))) (fun ac w hf hw => ?_) (fun r _ => h r)
  obtain ⟨es, clock, hS, hE, hb⟩ := map_open hw hi
  have hil := (List.getElem?_eq_some_iff.1 hi).1
  refine ⟨w.heap.size, w.alloc (.mapIter (some b) clock #[] clock), ?_, trivial, ?_⟩
  · unfold execOp
    rw [ho]
    simp only [hf.ev hx, Instr.range, Sem.run_bind, run_underlying (kind_map (C.ok _ _ ht) hk), Result.andThen_ok, getObj, Sem.run, hb, Sem.run_pure, newObj]
    rfl
  · have h1 := hS.change (i := i) (x := w.heap.size) (o' := .mapIter (some b) clock #[] clock) (w' := w.alloc (.mapIter (some b) clock #[] clock)) (p := pt b (.map es.toArray clock)) (q := rangeO b w.heap.size K kvs kvs none) (by simp [hil]) (fun _ _ => .inr (by simp)) rfl rfl rfl (Nat.le_refl _)
      (by simp) (by show (w.heap.push _)[w.heap.size]? = _; simp) (fun y hy => by
        show (w.heap.push _)[y]? = _
        rw [Array.getElem?_push, if_neg hy]) (fun h hp => by
        have hne : b ≠ w.heap.size := fun e => by rw [e] at hb; simp at hb
        refine ⟨es, clock, #[], ⟨?_, ?_⟩, hE, ?_, fun p hp => by cases hp⟩
        · simp only [if_neg hne]; exact hp
        · simp
        · rw [← hE.reads]; congr 1; exact List.filter_eq_self.2 (fun _ _ => by simp))
    simpa [List.set_set] using h1

theorem range_open {i b r : Nat} {K : IntKind} {kvs left : List (Int × Value)} {cur : Option (Int × Value)} (h : S w0 l w) (hi : l[i]? = some (rangeO b r K kvs left cur)) :
    ∃ es clock seen, S w0 (l.set i (fun h => h b = some (.map es.toArray clock) ∧ h r = some (.mapIter (some b) clock seen clock))) w ∧ Ents K kvs es clock ∧ (es.filter (fun e => !seen.contains e.born)).map (fun e => (e.key, e.val)) = left.map (fun p => (.int K p.1, p.2)) ∧
      (∀ p, cur = some p → ∃ en ∈ es, (∃ s : Array Nat, seen = s.push en.born) ∧ en.key = .int K p.1 ∧ en.val = p.2) ∧ w.heap[b]? = some (.map es.toArray clock) ∧ w.heap[r]? = some (.mapIter (some b) clock seen clock) := by
  obtain ⟨⟨⟨es, clock, seen⟩, hE, hl, hc⟩, hS⟩ := h.ex hi (α := { x : List MapEntry × Nat × Array Nat // Ents K kvs x.1 x.2.1 ∧ (x.1.filter (fun e => !x.2.2.contains e.born)).map (fun e => (e.key, e.val)) = left.map (fun p => (.int K p.1, p.2)) ∧ ∀ p, cur = some p → ∃ en ∈ x.1, (∃ s : Array Nat, x.2.2 = s.push en.born) ∧ en.key = .int K p.1 ∧ en.val = p.2 })
    (q := fun x h => h b = some (.map x.1.1.toArray x.1.2.1) ∧ h r = some (.mapIter (some b) x.1.2.1 x.1.2.2 x.1.2.1)) fun h ⟨es, clock, seen, h1, h2, h3, h4⟩ => ⟨⟨(es, clock, seen), h2, h3, h4⟩, h1⟩
  have hil := (List.getElem?_eq_some_iff.1 hi).1
  obtain ⟨f1, f2⟩ : w.heap[b]? = some (.map es.toArray clock) ∧ w.heap[r]? = some (.mapIter (some b) clock seen clock) := by
    obtain ⟨h1, h2, hd, he, hp, _, _⟩ := stars_focus _ i _ _ hS.sat (by simp [hil]; rfl)
    exact ⟨by rw [congrFun he b]; exact uni_left hp.1, by rw [congrFun he r]; exact uni_left hp.2⟩
  exact ⟨es, clock, seen, hS, hE, hl, hc, f1, f2⟩

theorem eo_next (i : Nat) {d b r : Nat} {x : Operand} {K : IntKind} {kvs left : List (Int × Value)} {cur : Option (Int × Value)} (ho : o.op = .next x false) (hd : o.dst = some d) (hn : Nat.ble n d = false)
    (hx : ev e x = some (.pointer (some ⟨r, 0, none⟩))) (hi : l[i]? = some (rangeO b r K kvs left cur)) (h0 : left = [] → k ((d, .tuple #[.bool false]) :: e) (S w0 l))
    (h1 : ∀ (j : Nat) (p : Int × Value), left[j]? = some p → k ((d, .tuple #[.bool true, .int K p.1, p.2]) :: e) (S w0 (l.set i (rangeO b r K kvs (left.eraseIdx j) (some p))))) : EO C n o Q e (S w0 l) k := by
  refine ⟨fun κ hK ac w hf hw => ?_⟩
  obtain ⟨es, clock, seen, hS, hE, hl, hc, hb, hr⟩ := range_open hw hi
  have hil := (List.getElem?_eq_some_iff.1 hi).1
  have hlen : (es.filter (fun e => !seen.contains e.born)).length = left.length := by simpa using congrArg List.length hl
  have hleft : (leftOf es.toArray seen).toList = es.filter (fun e => !seen.contains e.born) := by simp [leftOf]
  rcases run_next_at (P := C.P) w o.type r b clock clock seen es.toArray clock hr hb (by simpa using hE.older) (Nat.le_refl _) with ⟨hz, hrun⟩ | ⟨en, hen, w1, hw1, hrun⟩
  · have hnil : left = [] := List.eq_nil_of_length_eq_zero (by rw [← hlen, ← hleft, Array.length_toList]; exact hz)
    refine (eo_value (H := S w0 l) (v := .tuple #[.bool false]) hd hn (fun ac w' hf' hw' => ?_) (h0 hnil)).run κ hK ac w hf hw
    obtain ⟨es', clock', seen', _, hE', hl', _, hb', hr'⟩ := range_open hw' hi
    have hlen' : (es'.filter (fun e => !seen'.contains e.born)).length = left.length := by simpa using congrArg List.length hl'
    have hleft' : (leftOf es'.toArray seen').toList = es'.filter (fun e => !seen'.contains e.born) := by simp [leftOf]
    rcases run_next_at (P := C.P) w' o.type r b clock' clock' seen' es'.toArray clock' hr' hb' (by simpa using hE'.older) (Nat.le_refl _) with ⟨_, hrun'⟩ | ⟨en, hen, _⟩
    · unfold execOp
      rw [ho]
      simp only [hf'.ev hx, Sem.run_bind, hrun', Result.andThen_ok, Sem.run_pure]
    · rw [hleft'] at hen
      have := List.length_pos_of_mem hen
      rw [hlen', hnil] at this; simp at this
  · rw [hleft] at hen
    obtain ⟨j, hj⟩ := List.getElem?_of_mem hen
    have hjl := (List.getElem?_eq_some_iff.1 hj).1
    obtain ⟨p, hp, hk1, hv1⟩ : ∃ p, left[j]? = some p ∧ en.key = .int K p.1 ∧ en.val = p.2 := by
      have h2 : ((es.filter (fun e => !seen.contains e.born)).map (fun e => (e.key, e.val)))[j]? = some (en.key, en.val) := by rw [List.getElem?_map, hj]; rfl
      rw [hl, List.getElem?_map] at h2
      cases hp : left[j]? with
      | none => rw [hp] at h2; simp at h2
      | some p =>
        rw [hp] at h2
        simp only [Option.map_some, Option.some.injEq, Prod.mk.injEq] at h2
        exact ⟨p, rfl, h2.1.symm, h2.2.symm⟩
    have hmem : en ∈ es := (List.mem_filter.1 hen).1
    have hnew : (es.filter (fun e => !(seen.push en.born).contains e.born)) = (es.filter (fun e => !seen.contains e.born)).eraseIdx j := by
      have e1 : es.filter (fun e => !(seen.push en.born).contains e.born) = (es.filter (fun e => !seen.contains e.born)).filter (fun e => !(e.born == en.born)) := by
        rw [List.filter_filter]
        refine List.filter_congr fun e _ => ?_
        simp only [Array.contains_push, Bool.not_or, Bool.and_comm]
      rw [e1]
      have hnd : ((es.filter (fun e => !seen.contains e.born)).map (·.born)).Nodup := hE.borns.sublist (List.Sublist.map _ List.filter_sublist)
      refine ChangeMaps.filter_eq_eraseIdx (fun e => e.born == en.born) _ j _ hj (by simp) ?_
      have hnd' := List.pairwise_map.1 hnd
      refine hnd'.imp fun {x y} hxy hb => ?_
      simp only [beq_iff_eq] at hb
      exact hxy (hb.1.trans hb.2.symm)
    have hS1 : S w0 (l.set i (fun h => h b = some (.map es.toArray clock) ∧ h r = some (.mapIter (some b) clock seen clock))) w1 := by
      rcases hw1 with rfl | rfl
      · exact hS
      · exact hS.drew
    have hr1 : w1.heap[r]? = some (.mapIter (some b) clock seen clock) := by rcases hw1 with rfl | rfl <;> exact hr
    have hbr : b ≠ r := fun e => by subst e; rw [hb] at hr; cases hr
    have hlt := (Array.getElem?_eq_some_iff.1 hr1).1
    have h5 := hS1.change (i := i) (x := r) (o' := .mapIter (some b) clock (seen.push en.born) clock) (w' := setBlock w1 r (.mapIter (some b) clock (seen.push en.born) clock)) (p := fun h => h b = some (.map es.toArray clock) ∧ h r = some (.mapIter (some b) clock seen clock)) (q := rangeO b r K kvs (left.eraseIdx j) (some p)) (by simp [hil])
      (fun h hp => .inl ⟨_, hp.2⟩) rfl rfl rfl (Nat.le_refl _) (by simp [setBlock]) (by simp [setBlock, hlt]) (fun x hx => by simp [setBlock, Ne.symm hx]) (fun h hp' => by
        refine ⟨es, clock, seen.push en.born, ⟨?_, ?_⟩, hE, ?_, fun p' hp' => ?_⟩
        · simp only [if_neg hbr]; exact hp'.1
        · simp
        · rw [hnew, ChangeMaps.map_eraseIdx, hl, ← ChangeMaps.map_eraseIdx]
        · cases hp'; exact ⟨en, hmem, ⟨seen, rfl⟩, hk1, hv1⟩)
    rw [List.set_set] at h5
    unfold Oper.wp
    have hex : (execOp ac.eval o).run C.P w = .ok (.value (.tuple #[.bool true, .int K p.1, p.2])) (setBlock w1 r (.mapIter (some b) clock (seen.push en.born) clock)) := by
      unfold execOp
      rw [ho]
      simp only [hf.ev hx, Sem.run_bind, hrun, Result.andThen_ok, Sem.run_pure, hk1, hv1]
    rw [hex, Oper.upon_value, hd]
    exact hK _ _ (h1 j p hp) _ _ (hf.put hn _) h5

theorem eo_entry (i : Nat) {d b r : Nat} {x : Operand} {K : IntKind} {kvs left : List (Int × Value)} {p : Int × Value} (ho : o.op = .entry x) (hd : o.dst = some d) (hn : Nat.ble n d = false)
    (hx : ev e x = some (.pointer (some ⟨r, 0, none⟩))) (hi : l[i]? = some (rangeO b r K kvs left (some p))) (h : k ((d, .tuple #[.int K p.1, p.2]) :: e) (S w0 l)) : EO C n o Q e (S w0 l) k := by
  refine eo_value hd hn (fun ac w hf hw => ?_) h
  obtain ⟨es, clock, seen, _, hE, _, hc, hb, hr⟩ := range_open hw hi
  obtain ⟨en, hen, ⟨s, rfl⟩, hk1, hv1⟩ := hc p rfl
  have hrun := run_entry_at (P := C.P) w r b clock s es.toArray clock en hr hb (by simpa using hen) (by simpa using hE.borns)
  unfold execOp
  rw [ho]
  simp only [hf.ev hx, Sem.run_bind, hrun, Result.andThen_ok, Sem.run_pure, hk1, hv1]

theorem S.range_end {i b r : Nat} {K : IntKind} {kvs left : List (Int × Value)} {cur : Option (Int × Value)} (h : S w0 l w) (hi : l[i]? = some (rangeO b r K kvs left cur)) : S w0 (l.set i (mapO b K kvs)) w :=
  h.imp hi fun _ ⟨es, clock, _, h1, h2, _⟩ => ⟨es, clock, h1.1, h2⟩

end Go.SE
