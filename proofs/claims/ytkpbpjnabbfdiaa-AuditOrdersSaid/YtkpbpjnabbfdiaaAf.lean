/- The domains, looked at. -/
import Derived.Test.YtkpbpjnabbfdiaaAe
namespace Go.Proofs.Ytkpbpjnabbfdiaa
open Go Go.SE

variable {w0 w : World} {l : List HP} {i : Nat} {r : Option (Nat × Nat)} {p : HP}

abbrev kvT (t : Th) : Int × Value := (t.id, .agg t.prog.toArray)
theorem erase_perm {α : Type} : ∀ {xs : List α} {j : Nat} {x : α}, xs[j]? = some x → (x :: xs.eraseIdx j).Perm xs
  | [], j, x, h => by simp at h
  | y :: ys, 0, x, h => by simp at h; subst h; exact List.Perm.refl _
  | y :: ys, j + 1, x, h => by
    have ih := erase_perm (xs := ys) (j := j) (x := x) (by simpa using h)
    exact (List.Perm.swap y x _).trans (ih.cons y)
theorem er_lenv {C : Cx} {n : Nat} {o : Oper} {e : Env} {I : WP} {x : Operand} {a : Option Addr} {c t m : Nat} {tl : TI} {E : TypeId} (ho : o.op = .call { callee := .builtin .len, args := #[x], argTypes := #[t] })
    (hx : ev e x = some (.slice a m c)) (ht : C.L.ti t = some tl) (hk : tl.kind = .slice E) : ER C n o e I (.int .i64 (m : Int)) := by
  refine ⟨fun ac w hf hw => ?_⟩
  unfold execOp
  simp only [ho, resolve, invoke, builtin, Sem.run_bind, Sem.run_pure, Result.andThen_ok, List.map_toArray, List.map_cons, List.map_nil, hf.ev hx]
  simp [Builtin.len_, underlying_run (kind_slice (C.ok _ _ ht) hk), goInt]
theorem el_cont {C : Cx} {n : Nat} {Q : Kont} {e : Env} {H : WP} {ops : Array Oper} {rest : List Oper} (j : Nat) (E0 : Env) (H0 : WP) (h1 : EL C n (rest.drop j) ops Q E0 H0 → EL C n rest ops Q e H) (h2 : EL C n (rest.drop j) ops Q E0 H0) : EL C n rest ops Q e H := h1 h2
theorem step_perm {α : Type} {d xs ys : List α} {j : Nat} {x : α} (h : xs[j]? = some x) (hp : (d ++ xs).Perm ys) : ((d ++ [x]) ++ xs.eraseIdx j).Perm ys := by
  rw [List.append_assoc]
  exact ((erase_perm h).append_left d).trans hp
theorem any_perm {α : Type} {xs ys : List α} (h : xs.Perm ys) (f : α → Bool) : xs.any f = ys.any f := by
  rw [Bool.eq_iff_iff, List.any_eq_true, List.any_eq_true]
  exact ⟨fun ⟨x, hx, hf⟩ => ⟨x, h.mem_iff.1 hx, hf⟩, fun ⟨x, hx, hf⟩ => ⟨x, h.mem_iff.2 hx, hf⟩⟩
theorem kv_get {left : List Th} {j : Nat} {q : Int × Value} (h : (left.map kvT)[j]? = some q) : ∃ t, left[j]? = some t ∧ q = kvT t := by
  rw [List.getElem?_map] at h
  cases hh : left[j]? with
  | none => rw [hh] at h; cases h
  | some t => rw [hh] at h; exact ⟨t, rfl, by simpa using h.symm⟩

def darkD (d : Dm) : Bool := decide (d.on = 0) || !decide (d.on &&& (18446744073709551615 ^^^ d.cores) = 0)
def someIn (ts : List Th) (k : Nat) : Bool := ts.any fun t => decide (t.dom = k)
def firstIn (ts : List Th) (k : Nat) (low : Int) : Bool := ts.any fun t => decide (t.dom = k) && decide (t.tag = low)
def domAt (aw : List Th) (d : Dm) (k : Nat) : List Fnd := (if darkD d then [⟨1, k⟩] else []) ++ (if someIn aw k && !firstIn aw k d.low then [⟨10, k⟩] else [])
def domT (aw : List Th) (ds : List Dm) : Nat → List Fnd
  | 0 => []
  | k + 1 => domT aw ds k ++ (match ds[k]? with
    | none => []
    | some d => domAt aw d k)
theorem domT_length (aw : List Th) (ds : List Dm) : ∀ k, (domT aw ds k).length ≤ 2 * k
  | 0 => by simp [domT]
  | k + 1 => by
    have h1 := domT_length aw ds k
    rw [domT, List.length_append]
    cases ds[k]? with
    | none => simp; omega
    | some d =>
      simp only [domAt, List.length_append]
      split <;> split <;> simp <;> omega
theorem if_app {α : Type} (b : Bool) (xs ys : List α) (y : α) : (if b = true then xs ++ ys ++ [y] else xs ++ ys) = xs ++ (ys ++ if b = true then [y] else []) := by cases b <;> simp

set_option maxHeartbeats 3200000 in
theorem domains_any {b : Nat} {v : Hd} {sp : List (Int × List Spot)} {aw : List Th} {out : List Fnd} {ds : List Dm} {cs : List Cr} {ts : List Th} (hl : out.length ≤ 1000000) (hi : l[i]? = some p) (hv : AuV w0 p v ds cs ts) :
    Does cx F_audit_auditor_domains [ptr b] (S w0 (auO b v sp aw out :: l)) fun r w => r = .tuple #[] ∧ S w0 (auO b v sp aw (out ++ domT aw ds ds.length) :: l) w := by
  refine fn_enter (n := N_audit_auditor_domains) fn_audit_auditor_domains rfl rfl rfl ?_
  have hnd := hv.nd
  have hf := hv.few.1
  have hV := hv.lies.d
  refine ej_exP au_open fun x hx => ?_
  (repeat (first | refine el_pure rfl rfl rfl rfl ?_ | refine ej_seq ?_ | refine ej_region ?_ | refine el_nil ?_ | refine eq_seq ?_ | refine eq_calm ?_ | refine ej_true rfl ?_ | refine ej_false rfl ?_ | refine el_skip rfl rfl rfl ?_ | refine ej_ret ?_ | refine ej_skip ?_ | refine ej_exit ?_ | refine ej_block ?_ | refine eq_seq_ret ?_ | refine eq_seq_exit ?_ | refine eq_block ?_ | refine eq_block_exit ?_ | refine eq_block_ret ?_ | refine eq_block_exit_ne rfl ?_ | refine eq_back_ret ?_ | refine eq_back_exit ?_))
  refine el_cons rfl (eo_ld 0 rfl rfl rfl rfl rfl rfl rfl rfl ?_)
  refine el_imp (au_close hx) ?_
  clear hx x
  rw [hnd]
  (repeat (first | refine el_pure rfl rfl rfl rfl ?_ | refine ej_seq ?_ | refine ej_region ?_ | refine el_nil ?_ | refine eq_seq ?_ | refine eq_calm ?_ | refine ej_true rfl ?_ | refine ej_false rfl ?_ | refine el_skip rfl rfl rfl ?_ | refine ej_ret ?_ | refine ej_skip ?_ | refine ej_exit ?_ | refine ej_block ?_ | refine eq_seq_ret ?_ | refine eq_seq_exit ?_ | refine eq_block ?_ | refine eq_block_exit ?_ | refine eq_block_ret ?_ | refine eq_block_exit_ne rfl ?_ | refine eq_back_ret ?_ | refine eq_back_exit ?_ | refine el_cons rfl (eo_lenv rfl rfl rfl rfl rfl rfl ?_) | refine el_cons rfl (eo_arith rfl rfl rfl rfl rfl rfl ⟨by omega, by omega⟩ ?_)))
  refine ej_loopP (fun k : Nat => k ≤ ds.length) (fun k => [(0, ptr b), (12, .slice v.ad ds.length v.cd), (13, int ds.length), (14, int k)]) (fun k => S w0 (auO b v sp aw (out ++ domT aw ds k) :: l)) (fun k => ds.length - k) 0 (Nat.zero_le _) (le_of _ _ rfl) ?_ ?_
  · intro w hw
    rw [domT, List.append_nil]; exact hw
  intro k hk
  (repeat (first | refine el_pure rfl rfl rfl rfl ?_ | refine ej_seq ?_ | refine ej_region ?_ | refine el_nil ?_ | refine eq_seq ?_ | refine eq_calm ?_ | refine ej_true rfl ?_ | refine ej_false rfl ?_ | refine el_skip rfl rfl rfl ?_ | refine ej_ret ?_ | refine ej_skip ?_ | refine ej_exit ?_ | refine ej_block ?_ | refine eq_seq_ret ?_ | refine eq_seq_exit ?_ | refine eq_block ?_ | refine eq_block_exit ?_ | refine eq_block_ret ?_ | refine eq_block_exit_ne rfl ?_ | refine eq_back_ret ?_ | refine eq_back_exit ?_))
  refine ej_dec rfl (fun hlt => ?_) (fun hlt => ?_)
  · have hlt' : k < ds.length := by omega
    have hx : ds[k]? = some ds[k] := by simp [hlt']
    have hdOk := hv.lies.dOk _ (List.getElem_mem hlt')
    have hdT : domT aw ds (k + 1) = domT aw ds k ++ domAt aw ds[k] k := by rw [domT, hx]
    have hdl := domT_length aw ds k
    generalize ds[k] = d at *
    have hg : ∀ j, j < 3 → (rows Dm.cells ds)[k * 3 + j]? = d.cells[j]? := fun j hj => rows_get Dm.cells 3 dm3 ds k j d hx hj
    have h1 := hdOk.cores
    have h2 := hdOk.on
    (repeat (first | refine el_pure rfl rfl rfl rfl ?_ | refine ej_seq ?_ | refine ej_region ?_ | refine el_nil ?_ | refine eq_seq ?_ | refine eq_calm ?_ | refine ej_true rfl ?_ | refine ej_false rfl ?_ | refine el_skip rfl rfl rfl ?_ | refine ej_ret ?_ | refine ej_skip ?_ | refine ej_exit ?_ | refine ej_block ?_ | refine eq_seq_ret ?_ | refine eq_seq_exit ?_ | refine eq_block ?_ | refine eq_block_exit ?_ | refine eq_block_ret ?_ | refine eq_block_exit_ne rfl ?_ | refine eq_back_ret ?_ | refine eq_back_exit ?_))
    refine el_cons rfl (eo_idxv rfl rfl rfl rfl rfl rfl rfl rfl rfl (hV.one (i := i + 1) hi) ⟨by omega, hlt⟩ ?_)
    refine el_cons rfl (eo_ldvA (k * 3) (cs := d.cells) rfl rfl rfl rfl rfl rfl (hV.one (i := i + 1) hi) rfl hg ?_)
    refine el_cons rfl (eo_alloc rfl rfl rfl rfl fun b3 => ?_)
    (repeat (first | refine el_pure rfl rfl rfl rfl ?_ | refine ej_seq ?_ | refine ej_region ?_ | refine el_nil ?_ | refine eq_seq ?_ | refine eq_calm ?_ | refine ej_true rfl ?_ | refine ej_false rfl ?_ | refine el_skip rfl rfl rfl ?_ | refine ej_ret ?_ | refine ej_skip ?_ | refine ej_exit ?_ | refine ej_block ?_ | refine eq_seq_ret ?_ | refine eq_seq_exit ?_ | refine eq_block ?_ | refine eq_block_exit ?_ | refine eq_block_ret ?_ | refine eq_block_exit_ne rfl ?_ | refine eq_back_ret ?_ | refine eq_back_exit ?_))
    refine el_cons rfl (eo_stA 0 rfl rfl rfl rfl rfl rfl rfl rfl rfl ?_)
    obtain ⟨dc, don, low⟩ := d
    have h1 : dc < 18446744073709551616 := h1
    have h2 : don < 18446744073709551616 := h2
    generalize hD : domT aw ds k = D at *
    (repeat (first | refine el_pure rfl rfl rfl rfl ?_ | refine ej_seq ?_ | refine ej_region ?_ | refine el_nil ?_ | refine eq_seq ?_ | refine eq_calm ?_ | refine ej_true rfl ?_ | refine ej_false rfl ?_ | refine el_skip rfl rfl rfl ?_ | refine ej_ret ?_ | refine ej_skip ?_ | refine ej_exit ?_ | refine ej_block ?_ | refine eq_seq_ret ?_ | refine eq_seq_exit ?_ | refine eq_block ?_ | refine eq_block_exit ?_ | refine eq_block_ret ?_ | refine eq_block_exit_ne rfl ?_ | refine eq_back_ret ?_ | refine eq_back_exit ?_))
    refine el_cons rfl (eo_ld 0 rfl rfl rfl rfl rfl rfl rfl rfl ?_)
    (repeat (first | refine el_pure rfl rfl rfl rfl ?_ | refine ej_seq ?_ | refine ej_region ?_ | refine el_nil ?_ | refine eq_seq ?_ | refine eq_calm ?_ | refine ej_true rfl ?_ | refine ej_false rfl ?_ | refine el_skip rfl rfl rfl ?_ | refine ej_ret ?_ | refine ej_skip ?_ | refine ej_exit ?_ | refine ej_block ?_ | refine eq_seq_ret ?_ | refine eq_seq_exit ?_ | refine eq_block ?_ | refine eq_block_exit ?_ | refine eq_block_ret ?_ | refine eq_block_exit_ne rfl ?_ | refine eq_back_ret ?_ | refine eq_back_exit ?_))
    refine el_cont 8 [(31, int k), (0, ptr b), (2, int k), (3, ptr b3), (12, .slice v.ad ds.length v.cd), (13, int ds.length), (14, int k), (19, ptr b), (30, .bool (darkD ⟨dc, don, low⟩))] (S w0 (cells b3 T_audit_Domain (Dm.cells ⟨dc, don, low⟩) :: auO b v sp aw (out ++ D) :: l)) (fun cont => ?_) ?_
    · by_cases h0 : don = 0
      · refine el_val 23 (u := .bool true) rfl (by simp [h0]) ?_
        (repeat (first | refine el_pure rfl rfl rfl rfl ?_ | refine ej_seq ?_ | refine ej_region ?_ | refine el_nil ?_ | refine eq_seq ?_ | refine eq_calm ?_ | refine ej_true rfl ?_ | refine ej_false rfl ?_ | refine el_skip rfl rfl rfl ?_ | refine ej_ret ?_ | refine ej_skip ?_ | refine ej_exit ?_ | refine ej_block ?_ | refine eq_seq_ret ?_ | refine eq_seq_exit ?_ | refine eq_block ?_ | refine eq_block_exit ?_ | refine eq_block_ret ?_ | refine eq_block_exit_ne rfl ?_ | refine eq_back_ret ?_ | refine eq_back_exit ?_))
        refine el_mono cont (le_cons rfl (le_cons rfl (le_cons rfl (le_cons rfl (le_cons rfl (le_cons rfl (le_cons rfl (le_cons rfl (le_cons ?_ (le_nil _))))))))))  fun w hw => hw
        show some _ = some _
        simp [darkD, h0]
      · refine el_val 23 (u := .bool false) rfl (by simp; omega) ?_
        (repeat (first | refine el_pure rfl rfl rfl rfl ?_ | refine ej_seq ?_ | refine ej_region ?_ | refine el_nil ?_ | refine eq_seq ?_ | refine eq_calm ?_ | refine ej_true rfl ?_ | refine ej_false rfl ?_ | refine el_skip rfl rfl rfl ?_ | refine ej_ret ?_ | refine ej_skip ?_ | refine ej_exit ?_ | refine ej_block ?_ | refine eq_seq_ret ?_ | refine eq_seq_exit ?_ | refine eq_block ?_ | refine eq_block_exit ?_ | refine eq_block_ret ?_ | refine eq_block_exit_ne rfl ?_ | refine eq_back_ret ?_ | refine eq_back_exit ?_))
        refine el_cons rfl (eo_ld 0 rfl rfl rfl rfl rfl rfl rfl rfl ?_)
        (repeat (first | refine el_pure rfl rfl rfl rfl ?_ | refine ej_seq ?_ | refine ej_region ?_ | refine el_nil ?_ | refine eq_seq ?_ | refine eq_calm ?_ | refine ej_true rfl ?_ | refine ej_false rfl ?_ | refine el_skip rfl rfl rfl ?_ | refine ej_ret ?_ | refine ej_skip ?_ | refine ej_exit ?_ | refine ej_block ?_ | refine eq_seq_ret ?_ | refine eq_seq_exit ?_ | refine eq_block ?_ | refine eq_block_exit ?_ | refine eq_block_ret ?_ | refine eq_block_exit_ne rfl ?_ | refine eq_back_ret ?_ | refine eq_back_exit ?_))
        refine el_cons rfl (eo_ld 0 rfl rfl rfl rfl rfl rfl rfl rfl ?_)
        refine el_cons rfl (eo_call1 rfl rfl rfl rfl rfl real_mask_Set_In (In_any _ _ h2 h1 _) ?_)
        (repeat (first | refine el_pure rfl rfl rfl rfl ?_ | refine ej_seq ?_ | refine ej_region ?_ | refine el_nil ?_ | refine eq_seq ?_ | refine eq_calm ?_ | refine ej_true rfl ?_ | refine ej_false rfl ?_ | refine el_skip rfl rfl rfl ?_ | refine ej_ret ?_ | refine ej_skip ?_ | refine ej_exit ?_ | refine ej_block ?_ | refine eq_seq_ret ?_ | refine eq_seq_exit ?_ | refine eq_block ?_ | refine eq_block_exit ?_ | refine eq_block_ret ?_ | refine eq_block_exit_ne rfl ?_ | refine eq_back_ret ?_ | refine eq_back_exit ?_))
        refine el_mono cont (le_cons rfl (le_cons rfl (le_cons rfl (le_cons rfl (le_cons rfl (le_cons rfl (le_cons rfl (le_cons rfl (le_cons ?_ (le_nil _))))))))))  fun w hw => hw
        show some _ = some _
        simp [darkD, h0]
    refine el_cons rfl (eo_call1 rfl rfl rfl rfl rfl real_audit_auditor_tell (Does.at (i := 1) rfl (tell_any (darkD ⟨dc, don, low⟩) 1 k (by rw [List.length_append]; omega))) ?_)
    rw [if_app]
    generalize hD1 : D ++ (if darkD ⟨dc, don, low⟩ = true then [(⟨1, k⟩ : Fnd)] else []) = D1
    have hD1l : D1.length ≤ 2 * k + 1 := by
      rw [← hD1, List.length_append]
      split <;> simp <;> omega
    (repeat (first | refine el_pure rfl rfl rfl rfl ?_ | refine ej_seq ?_ | refine ej_region ?_ | refine el_nil ?_ | refine eq_seq ?_ | refine eq_calm ?_ | refine ej_true rfl ?_ | refine ej_false rfl ?_ | refine el_skip rfl rfl rfl ?_ | refine ej_ret ?_ | refine ej_skip ?_ | refine ej_exit ?_ | refine ej_block ?_ | refine eq_seq_ret ?_ | refine eq_seq_exit ?_ | refine eq_block ?_ | refine eq_block_exit ?_ | refine eq_block_ret ?_ | refine eq_block_exit_ne rfl ?_ | refine eq_back_ret ?_ | refine eq_back_exit ?_))
    refine el_exP (fun w hw => au_open w (hw.front (i := 1) rfl)) fun x hx' => ?_
    refine el_cons rfl (eo_ld 0 rfl rfl rfl rfl rfl rfl rfl rfl ?_)
    refine el_cons rfl (eo_range 3 rfl rfl rfl rfl rfl rfl rfl fun r5 => ?_)
    (repeat (first | refine el_pure rfl rfl rfl rfl ?_ | refine ej_seq ?_ | refine ej_region ?_ | refine el_nil ?_ | refine eq_seq ?_ | refine eq_calm ?_ | refine ej_true rfl ?_ | refine ej_false rfl ?_ | refine el_skip rfl rfl rfl ?_ | refine ej_ret ?_ | refine ej_skip ?_ | refine ej_exit ?_ | refine ej_block ?_ | refine eq_seq_ret ?_ | refine eq_seq_exit ?_ | refine eq_block ?_ | refine eq_block_exit ?_ | refine eq_block_ret ?_ | refine eq_block_exit_ne rfl ?_ | refine eq_back_ret ?_ | refine eq_back_exit ?_))
    refine ej_loopP (α := List Th × List Th × Option (Int × Value)) (fun y => (y.1 ++ y.2.1).Perm aw) (fun y => [(0, ptr b), (2, int k), (3, ptr b3), (12, .slice v.ad ds.length v.cd), (13, int ds.length), (14, int k), (4, .bool (someIn y.1 k)), (5, .bool (firstIn y.1 k low)), (37, ptr r5)])
      (fun y => S w0 ((auL b v x aw (out ++ D1)).set 3 (rangeO x.bw r5 .i64 (aw.map kvT) (y.2.1.map kvT) y.2.2) ++ (cells b3 T_audit_Domain (Dm.cells ⟨dc, don, low⟩) :: l))) (fun y => y.2.1.length) ([], aw, none) (List.Perm.refl _) (le_of _ _ rfl) (fun w hw => hw) ?_
    rintro ⟨done, left, cur⟩ hperm
    have hperm : (done ++ left).Perm aw := hperm
    (repeat (first | refine el_pure rfl rfl rfl rfl ?_ | refine ej_seq ?_ | refine ej_region ?_ | refine el_nil ?_ | refine eq_seq ?_ | refine eq_calm ?_ | refine ej_true rfl ?_ | refine ej_false rfl ?_ | refine el_skip rfl rfl rfl ?_ | refine ej_ret ?_ | refine ej_skip ?_ | refine ej_exit ?_ | refine ej_block ?_ | refine eq_seq_ret ?_ | refine eq_seq_exit ?_ | refine eq_block ?_ | refine eq_block_exit ?_ | refine eq_block_ret ?_ | refine eq_block_exit_ne rfl ?_ | refine eq_back_ret ?_ | refine eq_back_exit ?_))
    refine el_cons rfl (eo_next 3 rfl rfl rfl rfl rfl (fun hnil => ?_) (fun j q hj => ?_))
    · have hnil : left = [] := by simpa using hnil
      subst hnil
      rw [List.append_nil] at hperm
      have e1 : someIn done k = someIn aw k := any_perm hperm _
      have e2 : firstIn done k low = firstIn aw k low := any_perm hperm _
      rw [e1, e2]
      refine el_imp (fun w hw => au_close hx' w (hw.range_end (i := 3) rfl)) ?_
      have e3 : ∀ u : Bool, u = (someIn aw k && !firstIn aw k low) → (if u = true then out ++ D1 ++ [(⟨10, k⟩ : Fnd)] else out ++ D1) = out ++ domT aw ds (k + 1) := fun u hu => by
        rw [hdT, domAt, ← hu, ← hD1, if_app, ← List.append_assoc D]
      generalize firstIn aw k low = f2 at *
      cases hs : someIn aw k with
      | false =>
        rw [hs] at e3
        (repeat (first | refine el_pure rfl rfl rfl rfl ?_ | refine ej_seq ?_ | refine ej_region ?_ | refine el_nil ?_ | refine eq_seq ?_ | refine eq_calm ?_ | refine ej_true rfl ?_ | refine ej_false rfl ?_ | refine el_skip rfl rfl rfl ?_ | refine ej_ret ?_ | refine ej_skip ?_ | refine ej_exit ?_ | refine ej_block ?_ | refine eq_seq_ret ?_ | refine eq_seq_exit ?_ | refine eq_block ?_ | refine eq_block_exit ?_ | refine eq_block_ret ?_ | refine eq_block_exit_ne rfl ?_ | refine eq_back_ret ?_ | refine eq_back_exit ?_))
        refine el_cons rfl (eo_call1 rfl rfl rfl rfl rfl real_audit_auditor_tell (tell_any _ 10 k (by rw [List.length_append]; omega)) ?_)
        (repeat (first | refine el_pure rfl rfl rfl rfl ?_ | refine ej_seq ?_ | refine ej_region ?_ | refine el_nil ?_ | refine eq_seq ?_ | refine eq_calm ?_ | refine ej_true rfl ?_ | refine ej_false rfl ?_ | refine el_skip rfl rfl rfl ?_ | refine ej_ret ?_ | refine ej_skip ?_ | refine ej_exit ?_ | refine ej_block ?_ | refine eq_seq_ret ?_ | refine eq_seq_exit ?_ | refine eq_block ?_ | refine eq_block_exit ?_ | refine eq_block_ret ?_ | refine eq_block_exit_ne rfl ?_ | refine eq_back_ret ?_ | refine eq_back_exit ?_ | refine el_cons rfl (eo_lenv rfl rfl rfl rfl rfl rfl ?_) | refine el_cons rfl (eo_arith rfl rfl rfl rfl rfl rfl ⟨by omega, by omega⟩ ?_)))
        refine eq_backP (k + 1) (by omega) (by omega) (le_of _ _ rfl) ?_
        intro w hw
        have hw := hw.erase 1
        rw [← e3 false (by simp)]; exact hw
      | true =>
        rw [hs] at e3
        (repeat (first | refine el_pure rfl rfl rfl rfl ?_ | refine ej_seq ?_ | refine ej_region ?_ | refine el_nil ?_ | refine eq_seq ?_ | refine eq_calm ?_ | refine ej_true rfl ?_ | refine ej_false rfl ?_ | refine el_skip rfl rfl rfl ?_ | refine ej_ret ?_ | refine ej_skip ?_ | refine ej_exit ?_ | refine ej_block ?_ | refine eq_seq_ret ?_ | refine eq_seq_exit ?_ | refine eq_block ?_ | refine eq_block_exit ?_ | refine eq_block_ret ?_ | refine eq_block_exit_ne rfl ?_ | refine eq_back_ret ?_ | refine eq_back_exit ?_))
        refine el_cons rfl (eo_call1 rfl rfl rfl rfl rfl real_audit_auditor_tell (tell_any _ 10 k (by rw [List.length_append]; omega)) ?_)
        (repeat (first | refine el_pure rfl rfl rfl rfl ?_ | refine ej_seq ?_ | refine ej_region ?_ | refine el_nil ?_ | refine eq_seq ?_ | refine eq_calm ?_ | refine ej_true rfl ?_ | refine ej_false rfl ?_ | refine el_skip rfl rfl rfl ?_ | refine ej_ret ?_ | refine ej_skip ?_ | refine ej_exit ?_ | refine ej_block ?_ | refine eq_seq_ret ?_ | refine eq_seq_exit ?_ | refine eq_block ?_ | refine eq_block_exit ?_ | refine eq_block_ret ?_ | refine eq_block_exit_ne rfl ?_ | refine eq_back_ret ?_ | refine eq_back_exit ?_ | refine el_cons rfl (eo_lenv rfl rfl rfl rfl rfl rfl ?_) | refine el_cons rfl (eo_arith rfl rfl rfl rfl rfl rfl ⟨by omega, by omega⟩ ?_)))
        refine eq_backP (k + 1) (by omega) (by omega) (le_of _ _ rfl) ?_
        intro w hw
        have hw := hw.erase 1
        rw [← e3 (!f2) (by simp)]; exact hw
    · obtain ⟨t, ht, rfl⟩ := kv_get hj
      have hp2 := step_perm ht hperm
      have er : (left.map kvT).eraseIdx j = (left.eraseIdx j).map kvT := by rw [ChangeMaps.map_eraseIdx]
      have hjl : j < left.length := (List.getElem?_eq_some_iff.1 ht).1
      have hlen : (left.eraseIdx j).length < left.length := by
        rw [List.length_eraseIdx_of_lt hjl]; omega
      have s1 : someIn (done ++ [t]) k = (someIn done k || decide (t.dom = k)) := by simp [someIn]
      have s2 : firstIn (done ++ [t]) k low = (firstIn done k low || (decide (t.dom = k) && decide (t.tag = low))) := by simp [firstIn]
      rw [er]
      generalize someIn done k = f1 at *
      generalize firstIn done k low = f2 at *
      obtain ⟨id, dom, mask, awake, running, core, tag, left', slice⟩ := t
      (repeat (first | refine el_pure rfl rfl rfl rfl ?_ | refine ej_seq ?_ | refine ej_region ?_ | refine el_nil ?_ | refine eq_seq ?_ | refine eq_calm ?_ | refine ej_true rfl ?_ | refine ej_false rfl ?_ | refine el_skip rfl rfl rfl ?_ | refine ej_ret ?_ | refine ej_skip ?_ | refine ej_exit ?_ | refine ej_block ?_ | refine eq_seq_ret ?_ | refine eq_seq_exit ?_ | refine eq_block ?_ | refine eq_block_exit ?_ | refine eq_block_ret ?_ | refine eq_block_exit_ne rfl ?_ | refine eq_back_ret ?_ | refine eq_back_exit ?_))
      refine el_cons rfl (eo_entry 3 rfl rfl rfl rfl rfl ?_)
      (repeat (first | refine el_pure rfl rfl rfl rfl ?_ | refine ej_seq ?_ | refine ej_region ?_ | refine el_nil ?_ | refine eq_seq ?_ | refine eq_calm ?_ | refine ej_true rfl ?_ | refine ej_false rfl ?_ | refine el_skip rfl rfl rfl ?_ | refine ej_ret ?_ | refine ej_skip ?_ | refine ej_exit ?_ | refine ej_block ?_ | refine eq_seq_ret ?_ | refine eq_seq_exit ?_ | refine eq_block ?_ | refine eq_block_exit ?_ | refine eq_block_ret ?_ | refine eq_block_exit_ne rfl ?_ | refine eq_back_ret ?_ | refine eq_back_exit ?_))
      refine el_cons rfl (eo_alloc rfl rfl rfl rfl fun b7 => ?_)
      refine el_cons rfl (eo_stA 0 rfl rfl rfl rfl rfl rfl rfl rfl rfl ?_)
      (repeat (first | refine el_pure rfl rfl rfl rfl ?_ | refine ej_seq ?_ | refine ej_region ?_ | refine el_nil ?_ | refine eq_seq ?_ | refine eq_calm ?_ | refine ej_true rfl ?_ | refine ej_false rfl ?_ | refine el_skip rfl rfl rfl ?_ | refine ej_ret ?_ | refine ej_skip ?_ | refine ej_exit ?_ | refine ej_block ?_ | refine eq_seq_ret ?_ | refine eq_seq_exit ?_ | refine eq_block ?_ | refine eq_block_exit ?_ | refine eq_block_ret ?_ | refine eq_block_exit_ne rfl ?_ | refine eq_back_ret ?_ | refine eq_back_exit ?_))
      cases f1 with
      | true =>
        (repeat (first | refine el_pure rfl rfl rfl rfl ?_ | refine ej_seq ?_ | refine ej_region ?_ | refine el_nil ?_ | refine eq_seq ?_ | refine eq_calm ?_ | refine ej_true rfl ?_ | refine ej_false rfl ?_ | refine el_skip rfl rfl rfl ?_ | refine ej_ret ?_ | refine ej_skip ?_ | refine ej_exit ?_ | refine ej_block ?_ | refine eq_seq_ret ?_ | refine eq_seq_exit ?_ | refine eq_block ?_ | refine eq_block_exit ?_ | refine eq_block_ret ?_ | refine eq_block_exit_ne rfl ?_ | refine eq_back_ret ?_ | refine eq_back_exit ?_))
        cases f2 with
        | true =>
          (repeat (first | refine el_pure rfl rfl rfl rfl ?_ | refine ej_seq ?_ | refine ej_region ?_ | refine el_nil ?_ | refine eq_seq ?_ | refine eq_calm ?_ | refine ej_true rfl ?_ | refine ej_false rfl ?_ | refine el_skip rfl rfl rfl ?_ | refine ej_ret ?_ | refine ej_skip ?_ | refine ej_exit ?_ | refine ej_block ?_ | refine eq_seq_ret ?_ | refine eq_seq_exit ?_ | refine eq_block ?_ | refine eq_block_exit ?_ | refine eq_block_ret ?_ | refine eq_block_exit_ne rfl ?_ | refine eq_back_ret ?_ | refine eq_back_exit ?_))
          refine eq_backP (done ++ [⟨id, dom, mask, awake, running, core, tag, left', slice⟩], left.eraseIdx j, some (kvT ⟨id, dom, mask, awake, running, core, tag, left', slice⟩)) hp2 hlen ?_ ?_
          · refine le_cons rfl (le_cons rfl (le_cons rfl (le_cons rfl (le_cons rfl (le_cons rfl (le_cons ?_ (le_cons ?_ (le_of _ _ rfl))))))))
            · show some _ = some (Value.bool (someIn (done ++ [_]) k))
              rw [s1]; simp
            · show some _ = some (Value.bool (firstIn (done ++ [_]) k low))
              rw [s2]; simp
          · intro w hw; exact hw.erase 0
        | false =>
          (repeat (first | refine el_pure rfl rfl rfl rfl ?_ | refine ej_seq ?_ | refine ej_region ?_ | refine el_nil ?_ | refine eq_seq ?_ | refine eq_calm ?_ | refine ej_true rfl ?_ | refine ej_false rfl ?_ | refine el_skip rfl rfl rfl ?_ | refine ej_ret ?_ | refine ej_skip ?_ | refine ej_exit ?_ | refine ej_block ?_ | refine eq_seq_ret ?_ | refine eq_seq_exit ?_ | refine eq_block ?_ | refine eq_block_exit ?_ | refine eq_block_ret ?_ | refine eq_block_exit_ne rfl ?_ | refine eq_back_ret ?_ | refine eq_back_exit ?_))
          refine el_cons rfl (eo_ld 0 rfl rfl rfl rfl rfl rfl rfl rfl ?_)
          (repeat (first | refine el_pure rfl rfl rfl rfl ?_ | refine ej_seq ?_ | refine ej_region ?_ | refine el_nil ?_ | refine eq_seq ?_ | refine eq_calm ?_ | refine ej_true rfl ?_ | refine ej_false rfl ?_ | refine el_skip rfl rfl rfl ?_ | refine ej_ret ?_ | refine ej_skip ?_ | refine ej_exit ?_ | refine ej_block ?_ | refine eq_seq_ret ?_ | refine eq_seq_exit ?_ | refine eq_block ?_ | refine eq_block_exit ?_ | refine eq_block_ret ?_ | refine eq_block_exit_ne rfl ?_ | refine eq_back_ret ?_ | refine eq_back_exit ?_))
          refine el_gdec rfl rfl (fun hd => ?_) (fun hd => ?_)
          · (repeat (first | refine el_pure rfl rfl rfl rfl ?_ | refine ej_seq ?_ | refine ej_region ?_ | refine el_nil ?_ | refine eq_seq ?_ | refine eq_calm ?_ | refine ej_true rfl ?_ | refine ej_false rfl ?_ | refine el_skip rfl rfl rfl ?_ | refine ej_ret ?_ | refine ej_skip ?_ | refine ej_exit ?_ | refine ej_block ?_ | refine eq_seq_ret ?_ | refine eq_seq_exit ?_ | refine eq_block ?_ | refine eq_block_exit ?_ | refine eq_block_ret ?_ | refine eq_block_exit_ne rfl ?_ | refine eq_back_ret ?_ | refine eq_back_exit ?_))
            refine el_cons rfl (eo_ld 0 rfl rfl rfl rfl rfl rfl rfl rfl ?_)
            (repeat (first | refine el_pure rfl rfl rfl rfl ?_ | refine ej_seq ?_ | refine ej_region ?_ | refine el_nil ?_ | refine eq_seq ?_ | refine eq_calm ?_ | refine ej_true rfl ?_ | refine ej_false rfl ?_ | refine el_skip rfl rfl rfl ?_ | refine ej_ret ?_ | refine ej_skip ?_ | refine ej_exit ?_ | refine ej_block ?_ | refine eq_seq_ret ?_ | refine eq_seq_exit ?_ | refine eq_block ?_ | refine eq_block_exit ?_ | refine eq_block_ret ?_ | refine eq_block_exit_ne rfl ?_ | refine eq_back_ret ?_ | refine eq_back_exit ?_))
            refine el_cons rfl (eo_ld 6 rfl rfl rfl rfl rfl rfl rfl rfl ?_)
            (repeat (first | refine el_pure rfl rfl rfl rfl ?_ | refine ej_seq ?_ | refine ej_region ?_ | refine el_nil ?_ | refine eq_seq ?_ | refine eq_calm ?_ | refine ej_true rfl ?_ | refine ej_false rfl ?_ | refine el_skip rfl rfl rfl ?_ | refine ej_ret ?_ | refine ej_skip ?_ | refine ej_exit ?_ | refine ej_block ?_ | refine eq_seq_ret ?_ | refine eq_seq_exit ?_ | refine eq_block ?_ | refine eq_block_exit ?_ | refine eq_block_ret ?_ | refine eq_block_exit_ne rfl ?_ | refine eq_back_ret ?_ | refine eq_back_exit ?_))
            refine eq_backP (done ++ [⟨id, dom, mask, awake, running, core, tag, left', slice⟩], left.eraseIdx j, some (kvT ⟨id, dom, mask, awake, running, core, tag, left', slice⟩)) hp2 hlen ?_ ?_
            · refine le_cons rfl (le_cons rfl (le_cons rfl (le_cons rfl (le_cons rfl (le_cons rfl (le_cons ?_ (le_cons ?_ (le_of _ _ rfl))))))))
              · show some _ = some (Value.bool (someIn (done ++ [_]) k))
                rw [s1]; simp_all
              · show some _ = some (Value.bool (firstIn (done ++ [_]) k low))
                rw [s2]; simp_all
            · intro w hw; exact hw.erase 0
          · (repeat (first | refine el_pure rfl rfl rfl rfl ?_ | refine ej_seq ?_ | refine ej_region ?_ | refine el_nil ?_ | refine eq_seq ?_ | refine eq_calm ?_ | refine ej_true rfl ?_ | refine ej_false rfl ?_ | refine el_skip rfl rfl rfl ?_ | refine ej_ret ?_ | refine ej_skip ?_ | refine ej_exit ?_ | refine ej_block ?_ | refine eq_seq_ret ?_ | refine eq_seq_exit ?_ | refine eq_block ?_ | refine eq_block_exit ?_ | refine eq_block_ret ?_ | refine eq_block_exit_ne rfl ?_ | refine eq_back_ret ?_ | refine eq_back_exit ?_))
            refine eq_backP (done ++ [⟨id, dom, mask, awake, running, core, tag, left', slice⟩], left.eraseIdx j, some (kvT ⟨id, dom, mask, awake, running, core, tag, left', slice⟩)) hp2 hlen ?_ ?_
            · refine le_cons rfl (le_cons rfl (le_cons rfl (le_cons rfl (le_cons rfl (le_cons rfl (le_cons ?_ (le_cons ?_ (le_of _ _ rfl))))))))
              · show some _ = some (Value.bool (someIn (done ++ [_]) k))
                rw [s1]; simp_all
              · show some _ = some (Value.bool (firstIn (done ++ [_]) k low))
                rw [s2]; simp_all
            · intro w hw; exact hw.erase 0
      | false =>
        (repeat (first | refine el_pure rfl rfl rfl rfl ?_ | refine ej_seq ?_ | refine ej_region ?_ | refine el_nil ?_ | refine eq_seq ?_ | refine eq_calm ?_ | refine ej_true rfl ?_ | refine ej_false rfl ?_ | refine el_skip rfl rfl rfl ?_ | refine ej_ret ?_ | refine ej_skip ?_ | refine ej_exit ?_ | refine ej_block ?_ | refine eq_seq_ret ?_ | refine eq_seq_exit ?_ | refine eq_block ?_ | refine eq_block_exit ?_ | refine eq_block_ret ?_ | refine eq_block_exit_ne rfl ?_ | refine eq_back_ret ?_ | refine eq_back_exit ?_))
        refine el_cons rfl (eo_ld 0 rfl rfl rfl rfl rfl rfl rfl rfl ?_)
        (repeat (first | refine el_pure rfl rfl rfl rfl ?_ | refine ej_seq ?_ | refine ej_region ?_ | refine el_nil ?_ | refine eq_seq ?_ | refine eq_calm ?_ | refine ej_true rfl ?_ | refine ej_false rfl ?_ | refine el_skip rfl rfl rfl ?_ | refine ej_ret ?_ | refine ej_skip ?_ | refine ej_exit ?_ | refine ej_block ?_ | refine eq_seq_ret ?_ | refine eq_seq_exit ?_ | refine eq_block ?_ | refine eq_block_exit ?_ | refine eq_block_ret ?_ | refine eq_block_exit_ne rfl ?_ | refine eq_back_ret ?_ | refine eq_back_exit ?_))
        cases f2 with
        | true =>
          (repeat (first | refine el_pure rfl rfl rfl rfl ?_ | refine ej_seq ?_ | refine ej_region ?_ | refine el_nil ?_ | refine eq_seq ?_ | refine eq_calm ?_ | refine ej_true rfl ?_ | refine ej_false rfl ?_ | refine el_skip rfl rfl rfl ?_ | refine ej_ret ?_ | refine ej_skip ?_ | refine ej_exit ?_ | refine ej_block ?_ | refine eq_seq_ret ?_ | refine eq_seq_exit ?_ | refine eq_block ?_ | refine eq_block_exit ?_ | refine eq_block_ret ?_ | refine eq_block_exit_ne rfl ?_ | refine eq_back_ret ?_ | refine eq_back_exit ?_))
          refine eq_backP (done ++ [⟨id, dom, mask, awake, running, core, tag, left', slice⟩], left.eraseIdx j, some (kvT ⟨id, dom, mask, awake, running, core, tag, left', slice⟩)) hp2 hlen ?_ ?_
          · refine le_cons rfl (le_cons rfl (le_cons rfl (le_cons rfl (le_cons rfl (le_cons rfl (le_cons ?_ (le_cons ?_ (le_of _ _ rfl))))))))
            · show some _ = some (Value.bool (someIn (done ++ [_]) k))
              rw [s1]; simp
            · show some _ = some (Value.bool (firstIn (done ++ [_]) k low))
              rw [s2]; simp
          · intro w hw; exact hw.erase 0
        | false =>
          (repeat (first | refine el_pure rfl rfl rfl rfl ?_ | refine ej_seq ?_ | refine ej_region ?_ | refine el_nil ?_ | refine eq_seq ?_ | refine eq_calm ?_ | refine ej_true rfl ?_ | refine ej_false rfl ?_ | refine el_skip rfl rfl rfl ?_ | refine ej_ret ?_ | refine ej_skip ?_ | refine ej_exit ?_ | refine ej_block ?_ | refine eq_seq_ret ?_ | refine eq_seq_exit ?_ | refine eq_block ?_ | refine eq_block_exit ?_ | refine eq_block_ret ?_ | refine eq_block_exit_ne rfl ?_ | refine eq_back_ret ?_ | refine eq_back_exit ?_))
          refine el_cons rfl (eo_ld 0 rfl rfl rfl rfl rfl rfl rfl rfl ?_)
          (repeat (first | refine el_pure rfl rfl rfl rfl ?_ | refine ej_seq ?_ | refine ej_region ?_ | refine el_nil ?_ | refine eq_seq ?_ | refine eq_calm ?_ | refine ej_true rfl ?_ | refine ej_false rfl ?_ | refine el_skip rfl rfl rfl ?_ | refine ej_ret ?_ | refine ej_skip ?_ | refine ej_exit ?_ | refine ej_block ?_ | refine eq_seq_ret ?_ | refine eq_seq_exit ?_ | refine eq_block ?_ | refine eq_block_exit ?_ | refine eq_block_ret ?_ | refine eq_block_exit_ne rfl ?_ | refine eq_back_ret ?_ | refine eq_back_exit ?_))
          refine el_gdec rfl rfl (fun hd => ?_) (fun hd => ?_)
          · (repeat (first | refine el_pure rfl rfl rfl rfl ?_ | refine ej_seq ?_ | refine ej_region ?_ | refine el_nil ?_ | refine eq_seq ?_ | refine eq_calm ?_ | refine ej_true rfl ?_ | refine ej_false rfl ?_ | refine el_skip rfl rfl rfl ?_ | refine ej_ret ?_ | refine ej_skip ?_ | refine ej_exit ?_ | refine ej_block ?_ | refine eq_seq_ret ?_ | refine eq_seq_exit ?_ | refine eq_block ?_ | refine eq_block_exit ?_ | refine eq_block_ret ?_ | refine eq_block_exit_ne rfl ?_ | refine eq_back_ret ?_ | refine eq_back_exit ?_))
            refine el_cons rfl (eo_ld 0 rfl rfl rfl rfl rfl rfl rfl rfl ?_)
            (repeat (first | refine el_pure rfl rfl rfl rfl ?_ | refine ej_seq ?_ | refine ej_region ?_ | refine el_nil ?_ | refine eq_seq ?_ | refine eq_calm ?_ | refine ej_true rfl ?_ | refine ej_false rfl ?_ | refine el_skip rfl rfl rfl ?_ | refine ej_ret ?_ | refine ej_skip ?_ | refine ej_exit ?_ | refine ej_block ?_ | refine eq_seq_ret ?_ | refine eq_seq_exit ?_ | refine eq_block ?_ | refine eq_block_exit ?_ | refine eq_block_ret ?_ | refine eq_block_exit_ne rfl ?_ | refine eq_back_ret ?_ | refine eq_back_exit ?_))
            refine el_cons rfl (eo_ld 6 rfl rfl rfl rfl rfl rfl rfl rfl ?_)
            (repeat (first | refine el_pure rfl rfl rfl rfl ?_ | refine ej_seq ?_ | refine ej_region ?_ | refine el_nil ?_ | refine eq_seq ?_ | refine eq_calm ?_ | refine ej_true rfl ?_ | refine ej_false rfl ?_ | refine el_skip rfl rfl rfl ?_ | refine ej_ret ?_ | refine ej_skip ?_ | refine ej_exit ?_ | refine ej_block ?_ | refine eq_seq_ret ?_ | refine eq_seq_exit ?_ | refine eq_block ?_ | refine eq_block_exit ?_ | refine eq_block_ret ?_ | refine eq_block_exit_ne rfl ?_ | refine eq_back_ret ?_ | refine eq_back_exit ?_))
            refine eq_backP (done ++ [⟨id, dom, mask, awake, running, core, tag, left', slice⟩], left.eraseIdx j, some (kvT ⟨id, dom, mask, awake, running, core, tag, left', slice⟩)) hp2 hlen ?_ ?_
            · refine le_cons rfl (le_cons rfl (le_cons rfl (le_cons rfl (le_cons rfl (le_cons rfl (le_cons ?_ (le_cons ?_ (le_of _ _ rfl))))))))
              · show some _ = some (Value.bool (someIn (done ++ [_]) k))
                rw [s1]; simp_all
              · show some _ = some (Value.bool (firstIn (done ++ [_]) k low))
                rw [s2]; simp_all
            · intro w hw; exact hw.erase 0
          · (repeat (first | refine el_pure rfl rfl rfl rfl ?_ | refine ej_seq ?_ | refine ej_region ?_ | refine el_nil ?_ | refine eq_seq ?_ | refine eq_calm ?_ | refine ej_true rfl ?_ | refine ej_false rfl ?_ | refine el_skip rfl rfl rfl ?_ | refine ej_ret ?_ | refine ej_skip ?_ | refine ej_exit ?_ | refine ej_block ?_ | refine eq_seq_ret ?_ | refine eq_seq_exit ?_ | refine eq_block ?_ | refine eq_block_exit ?_ | refine eq_block_ret ?_ | refine eq_block_exit_ne rfl ?_ | refine eq_back_ret ?_ | refine eq_back_exit ?_))
            refine eq_backP (done ++ [⟨id, dom, mask, awake, running, core, tag, left', slice⟩], left.eraseIdx j, some (kvT ⟨id, dom, mask, awake, running, core, tag, left', slice⟩)) hp2 hlen ?_ ?_
            · refine le_cons rfl (le_cons rfl (le_cons rfl (le_cons rfl (le_cons rfl (le_cons rfl (le_cons ?_ (le_cons ?_ (le_of _ _ rfl))))))))
              · show some _ = some (Value.bool (someIn (done ++ [_]) k))
                rw [s1]; simp_all
              · show some _ = some (Value.bool (firstIn (done ++ [_]) k low))
                rw [s2]; simp_all
            · intro w hw; exact hw.erase 0
  · obtain rfl : k = ds.length := by omega
    (repeat (first | refine el_pure rfl rfl rfl rfl ?_ | refine ej_seq ?_ | refine ej_region ?_ | refine el_nil ?_ | refine eq_seq ?_ | refine eq_calm ?_ | refine ej_true rfl ?_ | refine ej_false rfl ?_ | refine el_skip rfl rfl rfl ?_ | refine ej_ret ?_ | refine ej_skip ?_ | refine ej_exit ?_ | refine ej_block ?_ | refine eq_seq_ret ?_ | refine eq_seq_exit ?_ | refine eq_block ?_ | refine eq_block_exit ?_ | refine eq_block_ret ?_ | refine eq_block_exit_ne rfl ?_ | refine eq_back_ret ?_ | refine eq_back_exit ?_))
    exact eq_end [] rvs_nil fun w hw => ⟨rfl, hw⟩

end Go.Proofs.Ytkpbpjnabbfdiaa
