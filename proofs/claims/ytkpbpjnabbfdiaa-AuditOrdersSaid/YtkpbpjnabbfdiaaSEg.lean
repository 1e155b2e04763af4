/- The engine, part g: a law's arguments, opened; a law's row. -/
import Derived.Test.YtkpbpjnabbfdiaaSEf
import Derived.ProofKit
import Derived.SizedLaws
import Derived.OpenShut
import Derived.ChangeCalls
import Derived.Deep.Slices
namespace Go.SE
open Go Go.ChangeShapes Go.WideShapes Go.ChangeAt Go.RowKit

/-- What is read of cells of a type. -/
def rd (L : Lay) (W : World) : Nat → TypeId → List Value → Prop
  | 0, _, _ => True
  | f + 1, t, cs => match L.ti t with
    | none => True
    | some ti => match ti.kind with
      | .int k => ∃ n, cs = [.int k n] ∧ k.min ≤ n ∧ n ≤ k.max
      | .bool => ∃ b, cs = [.bool b]
      | .str => ∃ s, cs = [.string s] ∧ s.size ≤ maxLen
      | .struct fs => cs.length = ti.size ∧ ∀ p ∈ fs, ∀ tj, L.ti p.1 = some tj → rd L W f p.1 (cellsAt cs p.2 tj.size)
      | .array m E => cs.length = ti.size ∧ ∀ te, L.ti E = some te → ∀ i, i < m → rd L W f E (cellsAt cs (i * te.size) te.size)
      | .slice E => ∀ te, L.ti E = some te → ∃ a n c xs, cs = [.slice a n c] ∧ (n ≤ c ∧ c ≤ maxLen) ∧ Sl W te.size a xs n ∧ ∀ i, i < n → rd L W f E (cellsAt xs (i * te.size) te.size)
      | _ => True

theorem cellsOf_lay {P : Program} {L : Lay} (ok : L.Ok P) {t : TypeId} {ti : TI} (h : L.ti t = some ti) : P.cellsOf t = ti.size := by
  obtain ⟨ie, hie, hsz, _, _⟩ := (ok _ _ h).info
  simp [Program.cellsOf, hie, hsz]
theorem bytesOf_lay {P : Program} {L : Lay} (ok : L.Ok P) {t : TypeId} {ti : TI} (h : L.ti t = some ti) : P.bytesOf t = ti.bytes := by
  obtain ⟨ie, hie, _, hby, _⟩ := (ok _ _ h).info
  simp [Program.bytesOf, hie, hby]

theorem flat_at (g : Nat → List Value) (z : Nat) : ∀ n, (∀ i, i < n → (g i).length = z) → ((List.range n).flatMap g).length = n * z ∧
    ∀ i, i < n → cellsAt ((List.range n).flatMap g) (i * z) z = g i := by
  intro n
  induction n with
  | zero => intro _; simp
  | succ n ih =>
    intro h
    obtain ⟨h1, h2⟩ := ih fun i hi => h i (by omega)
    have e : (List.range (n + 1)).flatMap g = (List.range n).flatMap g ++ g n := by rw [List.range_succ, List.flatMap_append]; simp
    have hn := h n (by omega)
    rw [e]
    refine ⟨by rw [List.length_append, h1, hn, Nat.succ_mul], fun i hi => ?_⟩
    rcases Nat.lt_succ_iff_lt_or_eq.1 hi with hi | rfl
    · rw [← h2 i hi]
      have hle : i * z + z ≤ n * z := by rw [← Nat.succ_mul]; exact Nat.mul_le_mul_right _ hi
      simp only [cellsAt]
      rw [List.drop_append_of_le_length (by omega), List.take_append_of_le_length (by rw [List.length_drop]; omega)]
    · simp only [cellsAt]
      rw [← h1, List.drop_left, List.take_of_length_le (by omega)]

theorem cellsAt_get {cs : List Value} {off z j : Nat} (hj : j < z) : (cellsAt cs off z)[j]? = cs[off + j]? := by
  simp [cellsAt, hj, List.getElem?_drop]

section
variable {H : Type} {enc : TypeId × Value → H} {P : Program} {L : Lay}

theorem sl_of {W : World} {a : Addr} {n z : Nat} {g : Nat → List Value} (h : ∀ i, i < n → W.cells? 0 (a.add (i * z)) z = some (g i)) : Sl W z (some a) ((List.range n).flatMap g) n := by
  have hlen : ∀ i, i < n → (g i).length = z := fun i hi => (World.cells?_some (h i hi)).2.1
  obtain ⟨h1, h2⟩ := flat_at g z n hlen
  refine ⟨h1, fun j u hu => ?_⟩
  have hlt := (List.getElem?_eq_some_iff.1 hu).1
  rw [h1] at hlt
  have hz : 0 < z := by
    rcases Nat.eq_zero_or_pos z with rfl | hz
    · simp at hlt
    · exact hz
  have hi : j / z < n := by rw [Nat.div_lt_iff_lt_mul hz]; exact hlt
  have hj : j = (j / z) * z + j % z := by rw [Nat.mul_comm]; exact (Nat.div_add_mod j z).symm
  have hm : j % z < z := Nat.mod_lt _ hz
  have key : ∀ i q u, i < n → q < z → ((List.range n).flatMap g)[i * z + q]? = some u → W.cell? ((a.add (i * z)).add q) = some u := by
    intro i q u hi hq hu
    rw [(World.cells?_some (h i hi)).2.2 q hq, ← h2 i hi, cellsAt_get hq]; exact hu
  have h0n : 0 < n := Nat.lt_of_le_of_lt (Nat.zero_le _) hi
  have hsp : a.spot = none := by
    have hx0 : 0 < ((List.range n).flatMap g).length := by rw [h1]; exact Nat.mul_pos h0n hz
    have := key 0 0 _ h0n hz (by rw [Nat.zero_mul]; exact List.getElem?_eq_getElem hx0)
    simp only [Nat.zero_mul, Addr.add, if_pos] at this
    unfold World.cell? at this
    split at this
    · split at this
      · cases this
      · rename_i h; simpa using h
    · cases this
  have ea : a = ⟨a.block, a.off, none⟩ := by cases a; simp at hsp; simp [hsp]
  refine ⟨by simp only [ob, oo, Option.getD_some]; rw [← ea], ?_⟩
  have := key (j / z) (j % z) u hi hm (by rw [← hj]; exact hu)
  rw [ea, addr_add, addr_add] at this
  simp only [ob, oo, Option.getD_some]
  rw [Nat.add_assoc, ← hj] at this
  exact this

theorem rd_of_trod (ok : L.Ok P) {W : World} {sp : Nat → Bool} {held : Bool} : ∀ (f : Nat) (t : TypeId) (cs : List Value) (x : DataW H × List MemPlace), DataW.trod enc P W 0 sp held f t cs = some x → rd L W f t cs := by
  intro f
  induction f with
  | zero => intro t cs x h; simp [rd]
  | succ f ih =>
    intro t cs x h
    simp only [rd]
    cases ht : L.ti t with
    | none => trivial
    | some ti =>
      have hok := ok _ _ ht
      simp only
      cases hk : ti.kind with
      | int k =>
        obtain ⟨n, rfl, _, hw⟩ := DataW.trod_int (kind_int hok hk) h
        simp only [Lit.wf, Bool.and_eq_true, decide_eq_true_eq] at hw
        exact ⟨n, rfl, hw⟩
      | bool =>
        obtain ⟨b, rfl, _⟩ := DataW.trod_bool (kind_bool hok hk) h
        exact ⟨b, rfl⟩
      | str =>
        obtain ⟨s, rfl, _, hs⟩ := DataW.trod_string (kind_str hok hk) h
        exact ⟨s, rfl, hs⟩
      | struct fs =>
        obtain ⟨gs, hu, hgs⟩ := kind_struct hok hk
        obtain ⟨xs, m, hm, _, hl, hx, hf⟩ := DataW.trod_struct hu h
        obtain rfl : f = m := by omega
        refine ⟨by rw [hl, cellsOf_lay ok ht], fun p hp tj hj => ?_⟩
        rw [← hgs] at hp
        obtain ⟨g, hg, rfl⟩ := List.mem_map.1 hp
        obtain ⟨i, hi, hgi⟩ := List.getElem_of_mem hg
        have h1 := hf i g (by rw [← hgi]; simp [Array.getElem?_eq_getElem (by simpa using hi)])
        have hlt : i < xs.length := by rw [hx]; simpa using hi
        rw [List.getElem?_eq_getElem hlt, cellsOf_lay ok hj] at h1
        exact ih _ _ _ h1
      | array m E =>
        obtain ⟨xs, q, hq, _, hl, hx, hf⟩ := DataW.trod_array (kind_array hok hk) h
        obtain rfl : f = q := by omega
        refine ⟨by rw [hl, cellsOf_lay ok ht], fun te hte i hi => ?_⟩
        have h1 := hf i hi
        have hlt : i < xs.length := by omega
        rw [List.getElem?_eq_getElem hlt, cellsOf_lay ok hte] at h1
        exact ih _ _ _ h1
      | slice E =>
        intro te hte
        rcases DataW.trod_slice (kind_slice hok hk) h with ⟨rfl, _⟩ | ⟨a, len, cap, elems, rest, n, hn, rfl, _, hb, hl, hm, hlen, hel, _, _⟩
        · exact ⟨none, 0, 0, [], rfl, ⟨Nat.le_refl _, Nat.zero_le _⟩, ⟨by simp, by intro j u hu; simp at hu⟩, fun i hi => absurd hi (by omega)⟩
        · obtain rfl : f = n := by omega
          have each : ∀ i, i < len → ∃ cs', W.cells? 0 (a.add (i * te.size)) te.size = some cs' ∧ rd L W f E cs' := by
            intro i hi
            have h1 := hel i hi
            have hlt : i < elems.length := by omega
            rw [List.getElem?_eq_getElem hlt, Option.bind_eq_some_iff, cellsOf_lay ok hte] at h1
            obtain ⟨cs', h2, h3⟩ := h1
            exact ⟨cs', h2, ih _ _ _ h3⟩
          obtain ⟨g, hg⟩ := Go.Deep.choose_lt each
          refine ⟨some a, len, cap, (List.range len).flatMap g, rfl, ⟨hl, hm⟩, sl_of fun i hi => (hg i hi).1, fun i hi => ?_⟩
          rw [(flat_at g te.size len fun i hi => (World.cells?_some (hg i hi).1).2.1).2 i hi]
          exact (hg i hi).2
      | _ => trivial

/-- What is known of an argument. -/
structure Arg (L : Lay) (W : World) (t : TypeId) (v : Value) : Prop where
  form : ∀ ti, L.ti t = some ti → ti.kind.agg = true → ∃ cs : List Value, v = .agg cs.toArray
  cell : ∀ ti, L.ti t = some ti → (match ti.kind with | .int _ | .bool | .str | .slice _ => True | _ => False) → v.cells = #[v]
  read : ∃ f, rd L W f t v.cells.toList ∧ 20 ≤ f
  fits : ∀ ti E te, L.ti t = some ti → ti.kind = .slice E → L.ti E = some te → ∀ a n c, v = .slice a n c → n * te.bytes ≤ reachBytes
  text : ∀ ti, L.ti t = some ti → ti.kind = .str → ∀ s, v = .string s → s.size ≤ reachBytes

def Args (L : Lay) (W : World) : List TypeId → List Value → Prop
  | [], [] => True
  | t :: ts, v :: vs => Arg L W t v ∧ Args L W ts vs
  | _, _ => False

theorem trod_more {W : World} {sp : Nat → Bool} {held : Bool} {t : TypeId} {v : Value} {d : DataW H} {ps : List MemPlace} (h : DataW.Trod enc P W 0 sp held t v d ps) : ∃ f, DataW.trod enc P W 0 sp held f t v.cells.toList = some (d, ps) ∧ 20 ≤ f := by
  obtain ⟨f, hf⟩ := h
  exact ⟨f + 20, DataW.trod_le (by omega) hf, by omega⟩

theorem arg_of (ok : L.Ok P) {W : World} {sp : Nat → Bool} {held : Bool} {r : Reach} {b0 : Nat} {t : TypeId} {v : Value} {d : DataW H} {ps : List MemPlace} (hval : Value.okWide P W r b0 t v) (h : DataW.Trod enc P W 0 sp held t v d ps)
    (hw : (d.weights P t).all (· ≤ reachBytes) = true) : Arg L W t v := by
  obtain ⟨f, hf, h20⟩ := trod_more h
  refine ⟨fun ti ht hk => ?_, fun ti ht hk => ?_, ⟨f, rd_of_trod ok _ _ _ _ hf, h20⟩, fun ti E te ht hk hE a n c hv => ?_, fun ti ht hk s hv => ?_⟩
  · have hok := ok _ _ ht
    cases hkk : ti.kind with
    | struct fs =>
      obtain ⟨gs, hu, _⟩ := kind_struct hok hkk
      obtain ⟨cs, rfl, _⟩ := okWide_struct hu hval
      exact ⟨cs.toList, by simp⟩
    | array m E =>
      have hu := kind_array hok hkk
      simp only [Value.okWide, hu] at hval
      obtain ⟨cs, rfl, _⟩ := hval
      exact ⟨cs.toList, by simp⟩
    | _ => rw [hkk] at hk; cases hk
  · have hok := ok _ _ ht
    cases hkk : ti.kind with
    | int k => obtain ⟨n, rfl⟩ := okWide_int (kind_int hok hkk) hval; rfl
    | bool => obtain ⟨n, rfl⟩ := okWide_bool (kind_bool hok hkk) hval; rfl
    | str =>
      have hu := kind_str hok hkk
      simp only [Value.okWide, hu, Cell.okWide] at hval
      cases v <;> simp_all [Cell.ok] <;> rfl
    | slice E => obtain ⟨a, n, c, rfl⟩ := okWide_slice (kind_slice hok hkk) hval; rfl
    | _ => rw [hkk] at hk; cases hk
  · subst hv
    have hu := kind_slice (ok _ _ ht) hk
    rcases DataW.trod_slice hu hf with ⟨h1, _⟩ | ⟨a', len, cap, elems, rest, q, _, h1, h2, _, _, _, hlen, _⟩
    · simp [Value.cells] at h1
      rw [h1.2.1]; omega
    · simp [Value.cells] at h1
      obtain ⟨_, rfl, _⟩ := h1
      have h3 : d = .slice (elems.map (·.1)) (rest.map (·.1)) := congrArg Prod.fst h2
      subst h3
      simp only [DataW.weights, hu, List.all_cons, Bool.and_eq_true, decide_eq_true_eq, List.length_map] at hw
      have h4 := hw.1
      rw [bytesOf_lay ok hE, hlen] at h4
      exact Nat.le_trans (Nat.mul_le_mul_right _ (Nat.le_add_right _ _)) h4
  · subst hv
    obtain ⟨s', h1, h2, _⟩ := DataW.trod_string (kind_str (ok _ _ ht) hk) hf
    simp [Value.cells] at h1
    subst h1
    have h3 : d = .lit (.string s.data.toList) := congrArg Prod.fst h2
    subst h3
    simp only [DataW.weights, List.all_cons, Bool.and_eq_true, decide_eq_true_eq, Array.length_toList] at hw
    exact hw.1

theorem args_of (ok : L.Ok P) {W : World} {sp : Nat → Bool} {held : Bool} {r : Reach} {b0 : Nat} : ∀ {ts : List TypeId} {vs : List Value} {ds : List (DataW H)} {ps : List MemPlace}, DataW.TrodAll enc P W 0 sp held ts vs ds ps →
    (∀ (j : Nat) t v, ts[j]? = some t → vs[j]? = some v → Value.okWide P W r b0 t v) → (DataW.weightsEach P ts ds).all (· ≤ reachBytes) = true → Args L W ts vs
  | [], [], _, _, _, _, _ => trivial
  | [], _ :: _, [], _, h, _, _ => h.elim
  | [], _ :: _, _ :: _, _, h, _, _ => h.elim
  | _ :: _, [], [], _, h, _, _ => h.elim
  | _ :: _, [], _ :: _, _, h, _, _ => h.elim
  | _ :: _, _ :: _, [], _, h, _, _ => h.elim
  | t :: ts, v :: vs, d :: ds, ps, h, hv, hw => by
    obtain ⟨p, q, h1, h2, _⟩ := h
    simp only [DataW.weightsEach, List.all_append, Bool.and_eq_true] at hw
    exact ⟨arg_of ok (hv 0 t v rfl rfl) h1 hw.1, args_of ok h2 (fun j t v hj hv' => hv (j + 1) t v hj hv') hw.2⟩

theorem below_of {W w : World} {l : List HP} (h : S W (old W :: l) w) : Below W.heap.size W w := by
  refine ⟨h.os, h.tape, h.output, h.size, fun k hk => ?_⟩
  obtain ⟨h1, h2, hd, he, hp, _⟩ := stars_focus (old W :: l) 0 _ _ h.sat rfl
  have h3 := hp k _ (Array.getElem?_eq_getElem hk)
  have := congrFun he k
  rw [Array.getElem?_eq_getElem hk]
  simp only [uni, h3, Option.some_or] at this
  exact this

theorem trodAll_stays (hl : laidOutB P = true) {W W' : World} (hb : Below W.heap.size W W') : ∀ {ts : List TypeId} {vs : List Value} {ds : List (DataW H)} {ps : List MemPlace}, (∀ t ∈ ts, P.readableRec t = true ∧ t < P.types.size) →
    DataW.TrodAll enc P W 0 (fun _ => true) true ts vs ds ps → (∀ x ∈ ps, x.block < W.heap.size) → ∀ (sp : Nat → Bool), (∀ p ∈ ps, sp p.block = true) → DataW.TrodAll enc P W' 0 sp true ts vs ds ps
  | [], [], [], _, _, h, _, _, _ => h
  | [], _ :: _, [], _, _, h, _, _, _ => h.elim
  | [], _ :: _, _ :: _, _, _, h, _, _, _ => h.elim
  | [], [], _ :: _, _, _, h, _, _, _ => h.elim
  | _ :: _, [], [], _, _, h, _, _, _ => h.elim
  | _ :: _, [], _ :: _, _, _, h, _, _, _ => h.elim
  | _ :: _, _ :: _, [], _, _, h, _, _, _ => h.elim
  | t :: ts, v :: vs, d :: ds, ps, hr, h, hlt, sp, hsp => by
    obtain ⟨p, q, h1, h2, rfl⟩ := h
    have ht := hr t (by simp)
    exact ⟨p, q, WideElems.Trod_stays hl ht.1 ht.2 h1 (fun x hx => hb.same (hlt x (by simp [hx]))) (fun x hx => hsp x (by simp [hx])),
      trodAll_stays hl hb (fun t h => hr t (by simp [h])) h2 (fun x hx => hlt x (by simp [hx])) sp (fun x hx => hsp x (by simp [hx])), rfl⟩

/-- what a law's row says: true; the arguments read as they did -/
structure Lawful (s : ChangeSpec) (m : Nat) : Prop where
  vars : s.vars = []
  says : ∀ (H : Type) (ds : List (DataW H)), ds.length = m → s.fn H ds = { results := [.lit (.bool true)], args := ds }

theorem law_post (hl : laidOutB P = true) {f : Func} {s : ChangeSpec} {m tb : Nat} (hs : Lawful s m) (hr : ∀ t ∈ f.params.toList, P.readableRec t = true ∧ t < P.types.size) (hm : f.params.size = m) (hres : f.resultTypes = #[tb]) (htb : P.underlying tb = some .bool)
    {apart fresh handsOn : Bool} {W W' : World} {args : Array Value} {ds gs : List (DataW H)} {before : List MemPlace} (hW : DataW.Whole enc P f.params.toList s.vars apart W args.toList ds gs before) (hb : Below W.heap.size W W') :
    s.post enc P f apart fresh handsOn false W args (.bool true) W' := by
  have hW' := hW
  obtain ⟨p, q, hA, hV, rfl, _, _⟩ := hW
  have hlen := (trodAll_length hA).2
  rw [hs.vars] at hV
  obtain ⟨rfl, rfl⟩ := trodVars_none hV
  have hsay := hs.says H ds (by rw [hlen]; simpa using hm)
  have hlt : ∀ x ∈ p, x.block < W.heap.size := fun x hx => by simpa using hW'.lt x (by simpa using hx)
  have hT : ∀ (b : Nat) (sp : Nat → Bool) (hd : Bool), DataW.TrodAll enc P W' b sp hd f.resultTypes.toList ((Value.bool true).resultList f.resultTypes.size) [.lit (.bool true)] [] := fun b sp hd => by
    rw [hres]
    exact ⟨[], [], ⟨1, by simp [DataW.trod, Value.cells, htb]⟩, rfl, rfl⟩
  refine ⟨ds, [], p ++ [], [], p, [], hW', ?_, ?_, ?_, hb.frame _, fun h => by cases h⟩
  · rw [List.append_nil, hsay]; exact hT _ _ _
  · rw [List.append_nil, hsay]; exact trodAll_stays hl hb hr hA hlt _ (fun x hx => by simpa using hlt x hx)
  · rw [List.append_nil, hsay, hs.vars]; rfl

end

/-- A law: whatever its arguments, it answers true, and leaves what stood. -/
theorem law_lifted {H : Type} {enc : TypeId × Value → H} (C : Cx) {K : Checked} (hP : K.prog = C.P) {os : Os} {f : FuncId} {fn : Func} {s : ChangeSpec} {m tb : Nat} {conds : List PathCond} {apart fresh handsOn : Bool}
    (hs : Lawful s m) (own : ownKnob K.prog.godebug = none) (started : os.Started) (noInit : K.prog.inits.idxOf? f = none) (hfn : K.prog.funcs[f]? = some fn)
    (witness : ∃ (w : World) (tape : Tape) (i : Input), w.os = os ∧ (w.forCall tape i).Shaped K.prog ∧ i.vars = [] ∧ Input.okWide K.prog (w.forCall tape i) .any w.heap.size f i ∧
      s.pre6 enc K.prog fn conds apart (w.forCall tape i).memory i.args ∧ ({} : Assume).holds K.prog (lone (Frame.enter K.prog f i.args .normal) [] (w.forCall tape i)))
    (hl : laidOutB K.prog = true) (hr : (fn.params.toList.all fun t => K.prog.readableRec t && decide (t < K.prog.types.size)) = true) (hm : fn.params.size = m) (hres : fn.resultTypes = #[tb]) (htb : K.prog.underlying tb = some .bool)
    (law : ∀ (W : World) (args : List Value), Args C.L W fn.params.toList args → Does C f args (S W [old W]) fun v w => v = .bool true ∧ S W [old W] w) :
    ReturnsInHanded {} K os f .any (s.pre6 enc K.prog fn conds apart) (s.post enc K.prog fn apart fresh handsOn false) := by
  refine returnsInHanded_of_change_sized own started noInit hfn witness ?_
  intro W base args ds gs before hval hW _ hw _
  have hok : C.L.Ok K.prog := hP ▸ C.ok
  have hr' : ∀ t ∈ fn.params.toList, K.prog.readableRec t = true ∧ t < K.prog.types.size := fun t ht => by
    have := List.all_eq_true.1 hr t ht
    simpa using this
  have hA : Args C.L W fn.params.toList args.toList := by
    obtain ⟨p, q, hA, hV, _, _, _⟩ := hW
    refine args_of hok hA (r := .any) (b0 := base) (fun j t v hj hv => hval j t v (by simpa using hj) (by simpa using hv)) ?_
    have hlen := (trodAll_length hA).2
    have key : ∀ (ts ts' : List TypeId) (ds ds' : List (DataW H)), ds.length = ts.length → (DataW.weightsEach K.prog (ts ++ ts') (ds ++ ds')).all (· ≤ reachBytes) = true → (DataW.weightsEach K.prog ts ds).all (· ≤ reachBytes) = true := by
      intro ts
      induction ts with
      | nil => intro ts' ds ds' h _; cases ds with | nil => rfl | cons _ _ => cases h
      | cons t ts ih =>
        intro ts' ds ds' h hw
        cases ds with
        | nil => cases h
        | cons d ds =>
          simp only [List.cons_append, DataW.weightsEach, List.all_append, Bool.and_eq_true] at hw ⊢
          exact ⟨hw.1, ih ts' ds ds' (by simpa using h) hw.2⟩
    exact key _ _ _ _ (by rw [hlen]) hw
  have h1 := law W args.toList hA W (S.begin W)
  rw [← hP] at h1
  have h2 : Calls K.prog f args W fun x w' => ∃ v, x = .returned v ∧ (v = .bool true ∧ S W [old W] w') := by simpa using h1
  refine h2.mono fun e W' hh => ?_
  obtain ⟨v, rfl, rfl, hw'⟩ := hh
  exact ⟨_, rfl, law_post hl hs hr' hm hres htb hW (below_of hw')⟩

/-! ### Arguments, by their shapes -/
section
variable {L : Lay} {W : World} {t E : TypeId} {ti te : TI} {cs : List Value} {f : Nat}

theorem rd_less : ∀ (f : Nat) (t : TypeId) (cs : List Value), rd L W (f + 1) t cs → rd L W f t cs := by
  intro f
  induction f with
  | zero => intro t cs _; simp [rd]
  | succ f ih =>
    intro t cs h
    unfold rd at h ⊢
    cases ht : L.ti t with
    | none => trivial
    | some ti =>
      rw [ht] at h
      simp only at h ⊢
      cases hk : ti.kind with
      | struct fs =>
        rw [hk] at h
        exact ⟨h.1, fun p hp tj hj => ih _ _ (h.2 p hp tj hj)⟩
      | array m E =>
        rw [hk] at h
        exact ⟨h.1, fun te hte i hi => ih _ _ (h.2 te hte i hi)⟩
      | slice E =>
        rw [hk] at h
        intro te hte
        obtain ⟨a, n, c, xs, h1, h2, h3, h4⟩ := h te hte
        exact ⟨a, n, c, xs, h1, h2, h3, fun i hi => ih _ _ (h4 i hi)⟩
      | int k => rw [hk] at h; exact h
      | bool => rw [hk] at h; exact h
      | str => rw [hk] at h; exact h
      | _ => trivial
theorem rd_le {f g : Nat} (hfg : f ≤ g) (h : rd L W g t cs) : rd L W f t cs := by
  induction g with
  | zero =>
    obtain rfl : f = 0 := by omega
    exact h
  | succ g ih =>
    rcases Nat.lt_or_ge f (g + 1) with hlt | hge
    · exact ih (by omega) (rd_less _ _ _ h)
    · obtain rfl : f = g + 1 := by omega
      exact h

theorem rd_int {k : IntKind} (ht : L.ti t = some ti) (hk : ti.kind = .int k) (h : rd L W (f + 1) t cs) : ∃ n, cs = [.int k n] ∧ k.min ≤ n ∧ n ≤ k.max := by
  unfold rd at h; rw [ht] at h; simp only [hk] at h; exact h
theorem rd_bool (ht : L.ti t = some ti) (hk : ti.kind = .bool) (h : rd L W (f + 1) t cs) : ∃ b, cs = [.bool b] := by
  unfold rd at h; rw [ht] at h; simp only [hk] at h; exact h
theorem rd_str (ht : L.ti t = some ti) (hk : ti.kind = .str) (h : rd L W (f + 1) t cs) : ∃ s, cs = [.string s] ∧ s.size ≤ maxLen := by
  unfold rd at h; rw [ht] at h; simp only [hk] at h; exact h
theorem rd_struct {fs : List (TypeId × Nat)} (ht : L.ti t = some ti) (hk : ti.kind = .struct fs) (h : rd L W (f + 1) t cs) : cs.length = ti.size ∧ ∀ p ∈ fs, ∀ tj, L.ti p.1 = some tj → rd L W f p.1 (cellsAt cs p.2 tj.size) := by
  unfold rd at h; rw [ht] at h; simp only [hk] at h; exact h
theorem rd_array {m : Nat} (ht : L.ti t = some ti) (hk : ti.kind = .array m E) (hE : L.ti E = some te) (h : rd L W (f + 1) t cs) : cs.length = ti.size ∧ ∀ i, i < m → rd L W f E (cellsAt cs (i * te.size) te.size) := by
  unfold rd at h; rw [ht] at h; simp only [hk] at h; exact ⟨h.1, h.2 te hE⟩
theorem rd_slice (ht : L.ti t = some ti) (hk : ti.kind = .slice E) (hE : L.ti E = some te) (h : rd L W (f + 1) t cs) :
    ∃ a n c xs, cs = [.slice a n c] ∧ (n ≤ c ∧ c ≤ maxLen) ∧ Sl W te.size a xs n ∧ ∀ i, i < n → rd L W f E (cellsAt xs (i * te.size) te.size) := by
  unfold rd at h; rw [ht] at h; simp only [hk] at h; exact h te hE

theorem chunks (z : Nat) : ∀ (n : Nat) (xs : List Value), xs.length = n * z → ∃ es : List (List Value), es.length = n ∧ es.flatten = xs ∧ ∀ i (h : i < es.length), es[i] = cellsAt xs (i * z) z := by
  intro n
  induction n with
  | zero =>
    intro xs h
    refine ⟨[], rfl, ?_, fun i h => absurd h (by simp)⟩
    rw [Nat.zero_mul] at h
    simp [List.eq_nil_of_length_eq_zero h]
  | succ n ih =>
    intro xs h
    obtain ⟨es, h1, h2, h3⟩ := ih (xs.drop z) (by rw [List.length_drop, h, Nat.succ_mul, Nat.add_sub_cancel])
    refine ⟨xs.take z :: es, by simp [h1], by simp [h2], fun i hi => ?_⟩
    cases i with
    | zero => simp [cellsAt]
    | succ i =>
      rw [List.getElem_cons_succ, h3]
      simp only [cellsAt, List.drop_drop]
      congr 2; rw [Nat.succ_mul, Nat.add_comm]
theorem all_of {α β : Type} (g : α → β) (φ : α → Prop) : ∀ (es : List β), (∀ e ∈ es, ∃ x, e = g x ∧ φ x) → ∃ xs : List α, es = xs.map g ∧ ∀ x ∈ xs, φ x := by
  intro es
  induction es with
  | nil => intro _; exact ⟨[], rfl, by simp⟩
  | cons e r ih =>
    intro h
    obtain ⟨x, rfl, hx⟩ := h e (by simp)
    obtain ⟨xs, rfl, hxs⟩ := ih fun e he => h e (by simp [he])
    refine ⟨x :: xs, rfl, fun y hy => ?_⟩
    rcases List.mem_cons.1 hy with rfl | hy
    · exact hx
    · exact hxs y hy

/-- a slice, of things that are read as 'g' says -/
theorem rd_list {α : Type} (g : α → List Value) (φ : α → Prop) (ht : L.ti t = some ti) (hk : ti.kind = .slice E) (hE : L.ti E = some te) (hg : ∀ cs, rd L W f E cs → ∃ x, cs = g x ∧ φ x) (h : rd L W (f + 1) t cs) :
    ∃ (a : Option Addr) (xs : List α) (c : Nat), cs = [.slice a xs.length c] ∧ (∀ x ∈ xs, φ x) ∧ Sl W te.size a (xs.map g).flatten xs.length ∧ (xs.length ≤ c ∧ c ≤ maxLen) := by
  obtain ⟨a, n, c, xs, h1, h2, h3, h4⟩ := rd_slice ht hk hE h
  obtain ⟨es, h5, h6, h7⟩ := chunks te.size n xs h3.len
  obtain ⟨ys, rfl, hφ⟩ := all_of g φ es fun e he => by
    obtain ⟨i, hi, rfl⟩ := List.getElem_of_mem he
    rw [h7 i hi]
    exact hg _ (h4 i (by omega))
  rw [List.length_map] at h5
  subst h5
  exact ⟨a, ys, c, h1, hφ, by rw [h6]; exact h3, h2⟩
theorem arg_list {α : Type} (g : α → List Value) (φ : α → Prop) {v : Value} (ht : L.ti t = some ti) (hk : ti.kind = .slice E) (hE : L.ti E = some te) (hg : ∀ cs, rd L W 19 E cs → ∃ x, cs = g x ∧ φ x) (h : Arg L W t v) :
    ∃ (a : Option Addr) (xs : List α) (c : Nat), v = .slice a xs.length c ∧ (∀ x ∈ xs, φ x) ∧ Sl W te.size a (xs.map g).flatten xs.length ∧ (xs.length ≤ c ∧ c ≤ maxLen) ∧ xs.length * te.bytes ≤ reachBytes := by
  obtain ⟨q, h1, h2⟩ := h.read
  have hc := h.cell ti ht (by rw [hk]; trivial)
  obtain ⟨a, xs, c, h3, h4, h5, h6⟩ := rd_list g φ ht hk hE hg (rd_le h2 h1)
  rw [hc] at h3
  have hv : v = .slice a xs.length c := by simpa using h3
  exact ⟨a, xs, c, hv, h4, h5, h6, h.fits ti E te ht hk hE _ _ _ hv⟩
theorem arg_cell {v u : Value} (ht : L.ti t = some ti) (hk : match ti.kind with | .int _ | .bool | .str | .slice _ => True | _ => False) (h : Arg L W t v) (he : v.cells.toList = [u]) : v = u := by
  rw [h.cell ti ht hk] at he; simpa using he
theorem arg_int {v : Value} {k : IntKind} (ht : L.ti t = some ti) (hk : ti.kind = .int k) (h : Arg L W t v) : ∃ n, v = .int k n ∧ k.min ≤ n ∧ n ≤ k.max := by
  obtain ⟨q, h1, h2⟩ := h.read
  obtain ⟨n, h3, h4⟩ := rd_int ht hk (rd_le h2 h1)
  exact ⟨n, arg_cell ht (by rw [hk]; trivial) h h3, h4⟩
theorem arg_bool {v : Value} (ht : L.ti t = some ti) (hk : ti.kind = .bool) (h : Arg L W t v) : ∃ b, v = .bool b := by
  obtain ⟨q, h1, h2⟩ := h.read
  obtain ⟨n, h3⟩ := rd_bool ht hk (rd_le h2 h1)
  exact ⟨n, arg_cell ht (by rw [hk]; trivial) h h3⟩
/-- a struct or an array, whose cells are read as 'g' says -/
theorem arg_agg {α : Type} (g : α → List Value) (φ : α → Prop) {v : Value} (ht : L.ti t = some ti) (hk : ti.kind.agg = true) (hg : ∀ cs, rd L W 20 t cs → ∃ x, cs = g x ∧ φ x) (h : Arg L W t v) : ∃ x, v = .agg (g x).toArray ∧ φ x := by
  obtain ⟨cs, rfl⟩ := h.form ti ht hk
  obtain ⟨q, h1, h2⟩ := h.read
  obtain ⟨x, h3, h4⟩ := hg _ (rd_le h2 h1)
  simp only [Value.cells] at h3
  exact ⟨x, by rw [← h3], h4⟩
theorem args1 {v : List Value} (h : Args L W [t] v) : ∃ x, v = [x] ∧ Arg L W t x := by
  match v, h with
  | [x], h => exact ⟨x, rfl, h.1⟩
theorem args2 {t2 : TypeId} {v : List Value} (h : Args L W [t, t2] v) : ∃ x y, v = [x, y] ∧ Arg L W t x ∧ Arg L W t2 y := by
  match v, h with
  | [x, y], h => exact ⟨x, y, rfl, h.1, h.2.1⟩
theorem args3 {t2 t3 : TypeId} {v : List Value} (h : Args L W [t, t2, t3] v) : ∃ x y z, v = [x, y, z] ∧ Arg L W t x ∧ Arg L W t2 y ∧ Arg L W t3 z := by
  match v, h with
  | [x, y, z], h => exact ⟨x, y, z, rfl, h.1, h.2.1, h.2.2.1⟩
theorem args4 {t2 t3 t4 : TypeId} {v : List Value} (h : Args L W [t, t2, t3, t4] v) : ∃ x y z u, v = [x, y, z, u] ∧ Arg L W t x ∧ Arg L W t2 y ∧ Arg L W t3 z ∧ Arg L W t4 u := by
  match v, h with
  | [x, y, z, u], h => exact ⟨x, y, z, u, rfl, h.1, h.2.1, h.2.2.1, h.2.2.2.1⟩
end

end Go.SE
