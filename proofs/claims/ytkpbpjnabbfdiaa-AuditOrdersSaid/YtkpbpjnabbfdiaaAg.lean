/- The cores, looked at. -/
import Derived.Test.YtkpbpjnabbfdiaaAf
namespace Go.Proofs.Ytkpbpjnabbfdiaa
open Go Go.SE

variable {w0 w : World} {l : List HP} {i : Nat} {r : Option (Nat × Nat)} {p : HP}

set_option maxHeartbeats 800000 in
theorem tell_raw {b : Nat} {c0 c1 c2 c3 c4 c5 : Value} {out : List Fnd} (wrong : Bool) (kind num : Int) (hl : out.length ≤ 100000000) :
    Does cx F_audit_auditor_tell [ptr b, .bool wrong, int kind, int num] (S w0 (cells b T_audit_auditor [c0, c1, c2, c3, c4, c5, sv r out.length] :: rowC r T_audit_Finding 2 (rows Fnd.cells out) out.length :: l)) fun v w =>
      ∃ r2, v = .tuple #[] ∧ True ∧ S w0 (cells b T_audit_auditor [c0, c1, c2, c3, c4, c5, sv r2 (if wrong then out ++ [⟨kind, num⟩] else out).length] :: rowC r2 T_audit_Finding 2 (rows Fnd.cells (if wrong then out ++ [⟨kind, num⟩] else out)) (if wrong then out ++ [⟨kind, num⟩] else out).length :: l) w := by
  refine fn_enter (n := N_audit_auditor_tell) fn_audit_auditor_tell rfl rfl rfl ?_
  cases wrong with
  | false =>
    (repeat (first | refine el_pure rfl rfl rfl rfl ?_ | refine ej_seq ?_ | refine ej_region ?_ | refine el_nil ?_ | refine eq_seq ?_ | refine eq_calm ?_ | refine ej_true rfl ?_ | refine ej_false rfl ?_ | refine el_skip rfl rfl rfl ?_ | refine ej_ret ?_ | refine ej_skip ?_ | refine ej_exit ?_ | refine ej_block ?_ | refine eq_seq_ret ?_ | refine eq_seq_exit ?_ | refine eq_block ?_ | refine eq_block_exit ?_ | refine eq_block_ret ?_ | refine eq_block_exit_ne rfl ?_ | refine eq_back_ret ?_ | refine eq_back_exit ?_))
    exact eq_end [] rvs_nil fun w hw => ⟨r, rfl, trivial, hw⟩
  | true =>
    (repeat (first | refine el_pure rfl rfl rfl rfl ?_ | refine ej_seq ?_ | refine ej_region ?_ | refine el_nil ?_ | refine eq_seq ?_ | refine eq_calm ?_ | refine ej_true rfl ?_ | refine ej_false rfl ?_ | refine el_skip rfl rfl rfl ?_ | refine ej_ret ?_ | refine ej_skip ?_ | refine ej_exit ?_ | refine ej_block ?_ | refine eq_seq_ret ?_ | refine eq_seq_exit ?_ | refine eq_block ?_ | refine eq_block_exit ?_ | refine eq_block_ret ?_ | refine eq_block_exit_ne rfl ?_ | refine eq_back_ret ?_ | refine eq_back_exit ?_))
    refine el_cons rfl (eo_ld 0 rfl rfl rfl rfl rfl rfl rfl rfl ?_)
    (repeat (first | refine el_pure rfl rfl rfl rfl ?_ | refine ej_seq ?_ | refine ej_region ?_ | refine el_nil ?_ | refine eq_seq ?_ | refine eq_calm ?_ | refine ej_true rfl ?_ | refine ej_false rfl ?_ | refine el_skip rfl rfl rfl ?_ | refine ej_ret ?_ | refine ej_skip ?_ | refine ej_exit ?_ | refine ej_block ?_ | refine eq_seq_ret ?_ | refine eq_seq_exit ?_ | refine eq_block ?_ | refine eq_block_exit ?_ | refine eq_block_ret ?_ | refine eq_block_exit_ne rfl ?_ | refine eq_back_ret ?_ | refine eq_back_exit ?_))
    refine el_cons rfl (eo_build (cs := Fnd.cells ⟨kind, num⟩) rfl rfl rfl rfl rfl rfl rfl rfl ?_)
    refine el_cons rfl (eo_buildS (cs := Fnd.cells ⟨kind, num⟩) rfl rfl rfl rfl rfl rfl rfl rfl rfl rfl fun b6 => ?_)
    refine el_cons rfl (eo_append 2 (r := r) (xs := rows Fnd.cells out) (n' := out.length) (Fnd.cells ⟨kind, num⟩) rfl rfl rfl rfl rfl rfl rfl rfl rfl rfl rfl (fun w hw j u hu => ?_) rfl (by decide) ?_ ?_ fun r2 => ?_)
    · rw [addr_add, Nat.zero_add]; exact hw.cell (i := 0) rfl hu
    · show (out.length + 1) * 16 ≤ 140737488355328; omega
    · show out.length + 1 ≤ 9223372036854775807; omega
    (repeat (first | refine el_pure rfl rfl rfl rfl ?_ | refine ej_seq ?_ | refine ej_region ?_ | refine el_nil ?_ | refine eq_seq ?_ | refine eq_calm ?_ | refine ej_true rfl ?_ | refine ej_false rfl ?_ | refine el_skip rfl rfl rfl ?_ | refine ej_ret ?_ | refine ej_skip ?_ | refine ej_exit ?_ | refine ej_block ?_ | refine eq_seq_ret ?_ | refine eq_seq_exit ?_ | refine eq_block ?_ | refine eq_block_exit ?_ | refine eq_block_ret ?_ | refine eq_block_exit_ne rfl ?_ | refine eq_back_ret ?_ | refine eq_back_exit ?_))
    refine el_cons rfl (eo_st 1 rfl rfl rfl rfl rfl rfl rfl rfl rfl ?_)
    (repeat (first | refine el_pure rfl rfl rfl rfl ?_ | refine ej_seq ?_ | refine ej_region ?_ | refine el_nil ?_ | refine eq_seq ?_ | refine eq_calm ?_ | refine ej_true rfl ?_ | refine ej_false rfl ?_ | refine el_skip rfl rfl rfl ?_ | refine ej_ret ?_ | refine ej_skip ?_ | refine ej_exit ?_ | refine ej_block ?_ | refine eq_seq_ret ?_ | refine eq_seq_exit ?_ | refine eq_block ?_ | refine eq_block_exit ?_ | refine eq_block_ret ?_ | refine eq_block_exit_ne rfl ?_ | refine eq_back_ret ?_ | refine eq_back_exit ?_))
    refine eq_end [] rvs_nil fun w hw => ⟨r2, rfl, trivial, ?_⟩
    have h1 := hw.erase 0
    rw [← rows_snoc] at h1
    have e : (out ++ [(⟨kind, num⟩ : Fnd)]).length = out.length + 1 := by simp
    rw [if_pos rfl, e]
    exact h1

def grpF (aw : List Th) (g : Int × List Spot) : List Fnd := (if decide (1 < g.2.length) then [⟨2, g.1⟩] else []) ++ (if !(findT aw g.1).isSome then [⟨4, g.1⟩] else [])
def offC (ds : List Dm) (c : Cr) : Bool := !onAny ds c.num && (decide (c.cur ≠ 0) || decide (0 < c.lane.length))
def coreAt (ds : List Dm) (aw : List Th) (c : Cr) : List Fnd := (if offC ds c then [⟨5, c.num⟩] else []) ++ (if turnedF aw 0 false c.lane then [⟨11, c.num⟩] else [])
theorem two_le {α : Type} (a b : Bool) (x y : α) : ((if a = true then [x] else []) ++ (if b = true then [y] else [])).length ≤ 2 := by cases a <;> cases b <;> simp
theorem flat_le {α β : Type} (f : α → List β) (h : ∀ x, (f x).length ≤ 2) (xs : List α) : (xs.map f).flatten.length ≤ 2 * xs.length := by
  induction xs with
  | nil => simp
  | cons x xs ih => have := h x; simp only [List.map_cons, List.flatten_cons, List.length_append, List.length_cons]; omega
theorem flat_snoc {α β : Type} (f : α → List β) (xs : List α) (x : α) : ((xs ++ [x]).map f).flatten = (xs.map f).flatten ++ f x := by simp
theorem grp_get {left : List Grp} {j : Nat} {q : Int × Value} (h : (left.map Grp.kv)[j]? = some q) : ∃ t, left[j]? = some t ∧ q = t.kv := by
  rw [List.getElem?_map] at h
  cases hh : left[j]? with
  | none => rw [hh] at h; cases h
  | some t => rw [hh] at h; exact ⟨t, rfl, by simpa using h.symm⟩

/-- the auditor in the midst of its spots -/
abbrev midL (b : Nat) (v : Hd) (x : Inn) (aw : List Th) (r : Option (Nat × Nat)) (out : List Fnd) (it : Nat) (left : List Grp) (cur : Option (Int × Value)) : List HP :=
  [cells b T_audit_auditor [int v.q, .slice v.ad v.nd v.cd, .slice v.ac v.nc v.cc, .slice v.at' v.nt v.ct, .map (some x.bs), .map (some x.bw), sv r out.length], rowC r T_audit_Finding 2 (rows Fnd.cells out) out.length,
   rangeO x.bs it .i64 (x.gs.map Grp.kv) (left.map Grp.kv) cur, grpsO x.gs, awO x.bw aw]

set_option maxHeartbeats 3200000 in
theorem cores_any {b : Nat} {v : Hd} {sp : List (Int × List Spot)} {aw : List Th} {out : List Fnd} {ds : List Dm} {cs : List Cr} {ts : List Th} (hl : out.length ≤ 1000000) (hsp : sp.length ≤ 1000000) (hi : l[i]? = some p) (hv : AuV w0 p v ds cs ts) :
    Does cx F_audit_auditor_cores [ptr b] (S w0 (auO b v sp aw out :: l)) fun r w => ∃ out', r = .tuple #[] ∧ (∃ done : List (Int × List Spot), done.Perm sp ∧ out' = out ++ (done.map (grpF aw)).flatten ++ (cs.map (coreAt ds aw)).flatten) ∧ S w0 (auO b v sp aw out' :: l) w := by
  refine fn_enter (n := N_audit_auditor_cores) fn_audit_auditor_cores rfl rfl rfl ?_
  refine ej_exP au_open fun x hx => ?_
  have hgl : x.gs.length = sp.length := by rw [← hx]; simp
  (repeat (first | refine el_pure rfl rfl rfl rfl ?_ | refine ej_seq ?_ | refine ej_region ?_ | refine el_nil ?_ | refine eq_seq ?_ | refine eq_calm ?_ | refine ej_true rfl ?_ | refine ej_false rfl ?_ | refine el_skip rfl rfl rfl ?_ | refine ej_ret ?_ | refine ej_skip ?_ | refine ej_exit ?_ | refine ej_block ?_ | refine eq_seq_ret ?_ | refine eq_seq_exit ?_ | refine eq_block ?_ | refine eq_block_exit ?_ | refine eq_block_ret ?_ | refine eq_block_exit_ne rfl ?_ | refine eq_back_ret ?_ | refine eq_back_exit ?_))
  refine el_cons rfl (eo_ld 0 rfl rfl rfl rfl rfl rfl rfl rfl ?_)
  refine el_cons rfl (eo_range 1 rfl rfl rfl rfl rfl rfl rfl fun r5 => ?_)
  refine el_imp (H' := S w0 (midL b v x aw x.r out r5 x.gs none ++ l)) (fun w hw => (hw.front (i := 4) rfl).front (i := 1) rfl) ?_
  (repeat (first | refine el_pure rfl rfl rfl rfl ?_ | refine ej_seq ?_ | refine ej_region ?_ | refine el_nil ?_ | refine eq_seq ?_ | refine eq_calm ?_ | refine ej_true rfl ?_ | refine ej_false rfl ?_ | refine el_skip rfl rfl rfl ?_ | refine ej_ret ?_ | refine ej_skip ?_ | refine ej_exit ?_ | refine ej_block ?_ | refine eq_seq_ret ?_ | refine eq_seq_exit ?_ | refine eq_block ?_ | refine eq_block_exit ?_ | refine eq_block_ret ?_ | refine eq_block_exit_ne rfl ?_ | refine eq_back_ret ?_ | refine eq_back_exit ?_))
  refine ej_loopP (α := List Grp × List Grp × Option (Int × Value) × Option (Nat × Nat)) (fun y => (y.1 ++ y.2.1).Perm x.gs) (fun y => [(0, ptr b), (12, ptr r5)])
    (fun y => S w0 (midL b v x aw y.2.2.2 (out ++ (y.1.map fun g => grpF aw (g.id, g.sp)).flatten) r5 y.2.1 y.2.2.1 ++ l)) (fun y => y.2.1.length) ([], x.gs, none, x.r) (List.Perm.refl _) (le_of _ _ rfl) (fun w hw => by simpa using hw) ?_
  rintro ⟨done, left, cur, r'⟩ hperm
  have hperm : (done ++ left).Perm x.gs := hperm
  have hdl : done.length ≤ sp.length := by have := hperm.length_eq; simp at this; omega
  have hfl := flat_le (fun g : Grp => grpF aw (g.id, g.sp)) (fun g => two_le _ _ _ _) done
  (repeat (first | refine el_pure rfl rfl rfl rfl ?_ | refine ej_seq ?_ | refine ej_region ?_ | refine el_nil ?_ | refine eq_seq ?_ | refine eq_calm ?_ | refine ej_true rfl ?_ | refine ej_false rfl ?_ | refine el_skip rfl rfl rfl ?_ | refine ej_ret ?_ | refine ej_skip ?_ | refine ej_exit ?_ | refine ej_block ?_ | refine eq_seq_ret ?_ | refine eq_seq_exit ?_ | refine eq_block ?_ | refine eq_block_exit ?_ | refine eq_block_ret ?_ | refine eq_block_exit_ne rfl ?_ | refine eq_back_ret ?_ | refine eq_back_exit ?_))
  refine el_cons rfl (eo_next 2 rfl rfl rfl rfl rfl (fun hnil => ?_) (fun j q hj => ?_))
  · have hnil : left = [] := by simpa using hnil
    subst hnil
    rw [List.append_nil] at hperm
    have hdone : (done.map fun g => (g.id, g.sp)).Perm sp := by rw [← hx]; exact hperm.map _
    have hD : (done.map fun g : Grp => grpF aw (g.id, g.sp)).flatten = ((done.map fun g => (g.id, g.sp)).map (grpF aw)).flatten := by rw [List.map_map]; rfl
    rw [hD] at hfl ⊢
    generalize (done.map fun g => (g.id, g.sp)) = dn at *
    have hol : (out ++ (dn.map (grpF aw)).flatten).length ≤ 4000000 := by rw [List.length_append]; omega
    have hres : ∀ (k : Nat), out ++ (dn.map (grpF aw)).flatten ++ ((cs.take k).map (coreAt ds aw)).flatten = out ++ (dn.map (grpF aw)).flatten ++ ((cs.take k).map (coreAt ds aw)).flatten := fun _ => rfl
    generalize hO : out ++ (dn.map (grpF aw)).flatten = O at *
    refine el_imp (H' := S w0 (auO b v sp aw O :: l)) (fun w hw => au_close (x := { x with r := r' }) hx w ((((((hw.range_end (i := 2) rfl).front (i := 1) rfl).front (i := 4) rfl).front (i := 4) rfl).front (i := 4) rfl).front (i := 4) rfl)) ?_
    have hnc := hv.nc
    have hfc := hv.few.2.1
    have hV := hv.lies.c
    (repeat (first | refine el_pure rfl rfl rfl rfl ?_ | refine ej_seq ?_ | refine ej_region ?_ | refine el_nil ?_ | refine eq_seq ?_ | refine eq_calm ?_ | refine ej_true rfl ?_ | refine ej_false rfl ?_ | refine el_skip rfl rfl rfl ?_ | refine ej_ret ?_ | refine ej_skip ?_ | refine ej_exit ?_ | refine ej_block ?_ | refine eq_seq_ret ?_ | refine eq_seq_exit ?_ | refine eq_block ?_ | refine eq_block_exit ?_ | refine eq_block_ret ?_ | refine eq_block_exit_ne rfl ?_ | refine eq_back_ret ?_ | refine eq_back_exit ?_))
    refine el_exP au_open fun x2 hx2 => ?_
    refine el_cons rfl (eo_ld 0 rfl rfl rfl rfl rfl rfl rfl rfl ?_)
    refine el_imp (au_close hx2) ?_
    clear hx2 x2
    rw [hnc]
    (repeat (first | refine el_pure rfl rfl rfl rfl ?_ | refine ej_seq ?_ | refine ej_region ?_ | refine el_nil ?_ | refine eq_seq ?_ | refine eq_calm ?_ | refine ej_true rfl ?_ | refine ej_false rfl ?_ | refine el_skip rfl rfl rfl ?_ | refine ej_ret ?_ | refine ej_skip ?_ | refine ej_exit ?_ | refine ej_block ?_ | refine eq_seq_ret ?_ | refine eq_seq_exit ?_ | refine eq_block ?_ | refine eq_block_exit ?_ | refine eq_block_ret ?_ | refine eq_block_exit_ne rfl ?_ | refine eq_back_ret ?_ | refine eq_back_exit ?_ | refine el_cons rfl (eo_lenv rfl rfl rfl rfl rfl rfl ?_) | refine el_cons rfl (eo_arith rfl rfl rfl rfl rfl rfl ⟨by omega, by omega⟩ ?_)))
    refine ej_loopP (fun k : Nat => k ≤ cs.length) (fun k => [(0, ptr b), (42, .slice v.ac cs.length v.cc), (43, int cs.length), (44, int k)]) (fun k => S w0 (auO b v sp aw (O ++ ((cs.take k).map (coreAt ds aw)).flatten) :: l)) (fun k => cs.length - k) 0 (Nat.zero_le _) (le_of _ _ rfl) (fun w hw => by simpa using hw) ?_
    intro k hk
    (repeat (first | refine el_pure rfl rfl rfl rfl ?_ | refine ej_seq ?_ | refine ej_region ?_ | refine el_nil ?_ | refine eq_seq ?_ | refine eq_calm ?_ | refine ej_true rfl ?_ | refine ej_false rfl ?_ | refine el_skip rfl rfl rfl ?_ | refine ej_ret ?_ | refine ej_skip ?_ | refine ej_exit ?_ | refine ej_block ?_ | refine eq_seq_ret ?_ | refine eq_seq_exit ?_ | refine eq_block ?_ | refine eq_block_exit ?_ | refine eq_block_ret ?_ | refine eq_block_exit_ne rfl ?_ | refine eq_back_ret ?_ | refine eq_back_exit ?_))
    refine ej_dec rfl (fun hlt => ?_) (fun hlt => ?_)
    · have hlt' : k < cs.length := by omega
      have hx' : cs[k]? = some cs[k] := by simp [hlt']
      have hmem := List.getElem_mem hlt'
      have hlane := hv.lies.lane _ hmem
      have hll := hv.lanes _ hmem
      have hsn : ((cs.take (k + 1)).map (coreAt ds aw)).flatten = ((cs.take k).map (coreAt ds aw)).flatten ++ coreAt ds aw cs[k] := by
        rw [List.take_succ_eq_append_getElem hlt', flat_snoc]
      have hfl2 := flat_le (coreAt ds aw) (fun g => two_le _ _ _ _) (cs.take k)
      rw [List.length_take] at hfl2
      generalize ((cs.take k).map (coreAt ds aw)).flatten = E at *
      generalize cs[k] = c at *
      have hg : ∀ j, j < 3 → (rows Cr.cells cs)[k * 3 + j]? = c.cells[j]? := fun j hj => rows_get Cr.cells 3 cr3 cs k j c hx' hj
      obtain ⟨num, cur', lane, la, lcap⟩ := c
      have hlane : View w0 [p] 1 la (ints lane) lane.length lcap := hlane
      have hll : lane.length ≤ 1000 := hll
      (repeat (first | refine el_pure rfl rfl rfl rfl ?_ | refine ej_seq ?_ | refine ej_region ?_ | refine el_nil ?_ | refine eq_seq ?_ | refine eq_calm ?_ | refine ej_true rfl ?_ | refine ej_false rfl ?_ | refine el_skip rfl rfl rfl ?_ | refine ej_ret ?_ | refine ej_skip ?_ | refine ej_exit ?_ | refine ej_block ?_ | refine eq_seq_ret ?_ | refine eq_seq_exit ?_ | refine eq_block ?_ | refine eq_block_exit ?_ | refine eq_block_ret ?_ | refine eq_block_exit_ne rfl ?_ | refine eq_back_ret ?_ | refine eq_back_exit ?_))
      refine el_cons rfl (eo_idxv rfl rfl rfl rfl rfl rfl rfl rfl rfl (hV.one (i := i + 1) hi) ⟨by omega, hlt⟩ ?_)
      refine el_cons rfl (eo_ldvA (k * 3) (cs := Cr.cells ⟨num, cur', lane, la, lcap⟩) rfl rfl rfl rfl rfl rfl (hV.one (i := i + 1) hi) rfl hg ?_)
      refine el_cons rfl (eo_alloc rfl rfl rfl rfl fun b7 => ?_)
      refine el_cons rfl (eo_stA 0 rfl rfl rfl rfl rfl rfl rfl rfl rfl ?_)
      (repeat (first | refine el_pure rfl rfl rfl rfl ?_ | refine ej_seq ?_ | refine ej_region ?_ | refine el_nil ?_ | refine eq_seq ?_ | refine eq_calm ?_ | refine ej_true rfl ?_ | refine ej_false rfl ?_ | refine el_skip rfl rfl rfl ?_ | refine ej_ret ?_ | refine ej_skip ?_ | refine ej_exit ?_ | refine ej_block ?_ | refine eq_seq_ret ?_ | refine eq_seq_exit ?_ | refine eq_block ?_ | refine eq_block_exit ?_ | refine eq_block_ret ?_ | refine eq_block_exit_ne rfl ?_ | refine eq_back_ret ?_ | refine eq_back_exit ?_))
      have hon := fun (o' : List Fnd) => Does.at (l := cells b7 T_audit_Core (Cr.cells ⟨num, cur', lane, la, lcap⟩) :: auO b v sp aw o' :: l) (i := 1) rfl (on_any (ds := ds) (cs := cs) (ts := ts) (i := i + 1) num hi hv)
      have fin9 : ∀ u : Bool, u = offC ds ⟨num, cur', lane, la, lcap⟩ → ∀ w, S w0 (cells b7 T_audit_Core (Cr.cells ⟨num, cur', lane, la, lcap⟩) :: auO b v sp aw (if u = true then O ++ E ++ [⟨5, num⟩] else O ++ E) :: l) w →
          S w0 (cells b7 T_audit_Core (Cr.cells ⟨num, cur', lane, la, lcap⟩) :: auO b v sp aw (O ++ (E ++ if offC ds ⟨num, cur', lane, la, lcap⟩ = true then [⟨5, num⟩] else [])) :: l) w := by
        intro u hu w hw
        rw [if_app] at hw
        rw [← hu]; exact hw
      have hoff : offC ds ⟨num, cur', lane, la, lcap⟩ = (!onAny ds num && (decide (cur' ≠ 0) || decide (0 < lane.length))) := rfl
      have hE1 : (E ++ if offC ds ⟨num, cur', lane, la, lcap⟩ = true then [(⟨5, num⟩ : Fnd)] else []).length ≤ 2 * k + 1 := by
        rw [List.length_append]
        split <;> simp <;> omega
      have hcore : coreAt ds aw ⟨num, cur', lane, la, lcap⟩ = (if offC ds ⟨num, cur', lane, la, lcap⟩ = true then [⟨5, num⟩] else []) ++ (if turnedF aw 0 false lane = true then [⟨11, num⟩] else []) := rfl
      refine ej_held [cells b7 T_audit_Core (Cr.cells ⟨num, cur', lane, la, lcap⟩)] ?_
      refine eh_cont (fun _ : Unit => [(0, ptr b), (7, ptr b7), (42, .slice v.ac cs.length v.cc), (43, int cs.length), (44, int k)])
        (fun _ => S w0 (cells b7 T_audit_Core (Cr.cells ⟨num, cur', lane, la, lcap⟩) :: auO b v sp aw (O ++ (E ++ if offC ds ⟨num, cur', lane, la, lcap⟩ = true then [⟨5, num⟩] else [])) :: l)) (fun cont => ?_) (fun _ => ?_)
      · generalize onAny ds num = u at hon hoff
        refine eh_take 0 (held (.cons 0 rfl .nil)) rfl (by kernel_rfl) (by kernel_rfl) (by kernel_rfl) rfl rfl rfl rfl ?_
        refine eh_take 1 (held (.cons 0 rfl .nil)) rfl (by kernel_rfl) (by kernel_rfl) (by kernel_rfl) rfl rfl rfl rfl ?_
        refine eh_take 2 (held (.cons 0 rfl .nil)) rfl (by kernel_rfl) (by kernel_rfl) (by kernel_rfl) rfl rfl rfl rfl ?_
        refine eh_load 3 (held (.cons 0 rfl .nil)) rfl (by kernel_rfl) (by kernel_rfl) (by kernel_rfl) rfl rfl rfl (er_ld 0 rfl rfl rfl rfl rfl rfl) ?_
        refine eh_take 17 (held (.cons 0 rfl .nil)) rfl (by kernel_rfl) (by kernel_rfl) (by kernel_rfl) rfl rfl rfl rfl ?_
        refine eh_load 18 (held (.cons 0 rfl .nil)) rfl (by kernel_rfl) (by kernel_rfl) (by kernel_rfl) rfl rfl rfl (er_ld 0 rfl rfl rfl rfl rfl rfl) ?_
        refine eh_way 4 (by kernel_rfl) (hway rfl rfl (eo_call1 rfl rfl rfl rfl rfl real_audit_auditor_on (hon _) ⟨held (.cons 0 rfl .nil), ?_⟩))
        cases u with
        | true =>
          refine eh_take 5 (held (.cons 0 rfl .nil)) rfl (by kernel_rfl) (by kernel_rfl) (by kernel_rfl) rfl rfl rfl rfl ?_
          refine eh_take 6 (held (.cons 0 rfl .nil)) rfl (by kernel_rfl) (by kernel_rfl) (by kernel_rfl) rfl rfl rfl rfl ?_
          refine eh_skip 7 (held (.cons 0 rfl .nil)) rfl (by kernel_rfl) (by kernel_rfl) (by kernel_rfl) rfl rfl rfl ?_
          refine eh_skip 8 (held (.cons 0 rfl .nil)) rfl (by kernel_rfl) (by kernel_rfl) (by kernel_rfl) rfl rfl rfl ?_
          refine eh_skip 9 (held (.cons 0 rfl .nil)) rfl (by kernel_rfl) (by kernel_rfl) (by kernel_rfl) rfl rfl rfl ?_
          refine eh_skip 10 (held (.cons 0 rfl .nil)) rfl (by kernel_rfl) (by kernel_rfl) (by kernel_rfl) rfl rfl rfl ?_
          refine eh_skip 11 (held (.cons 0 rfl .nil)) rfl (by kernel_rfl) (by kernel_rfl) (by kernel_rfl) rfl rfl rfl ?_
          refine eh_skip 12 (held (.cons 0 rfl .nil)) rfl (by kernel_rfl) (by kernel_rfl) (by kernel_rfl) rfl rfl rfl ?_
          refine eh_skip 13 (held (.cons 0 rfl .nil)) rfl (by kernel_rfl) (by kernel_rfl) (by kernel_rfl) rfl rfl rfl ?_
          refine eh_skip 14 (held (.cons 0 rfl .nil)) rfl (by kernel_rfl) (by kernel_rfl) (by kernel_rfl) rfl rfl rfl ?_
          refine eh_skip 15 (held (.cons 0 rfl .nil)) rfl (by kernel_rfl) (by kernel_rfl) (by kernel_rfl) rfl rfl rfl ?_
          refine eh_take 16 (held (.cons 0 rfl .nil)) rfl (by kernel_rfl) (by kernel_rfl) (by kernel_rfl) rfl rfl rfl rfl ?_
          refine eh_way 19 (by kernel_rfl) (hway rfl rfl (eo_call1 rfl rfl rfl rfl rfl real_audit_auditor_tell (Does.at (i := 1) rfl (tell_any _ 5 num (by rw [List.length_append]; omega))) ⟨held (.cons 0 rfl .nil), ?_⟩))
          refine eh_done (by kernel_rfl) (eq_le (cont ()) (le_of _ _ rfl) fun w hw => fin9 _ ?_ w hw)
          rw [hoff]; rfl
        | false =>
          refine eh_take 5 (held (.cons 0 rfl .nil)) rfl (by kernel_rfl) (by kernel_rfl) (by kernel_rfl) rfl rfl rfl rfl ?_
          refine eh_take 6 (held (.cons 0 rfl .nil)) rfl (by kernel_rfl) (by kernel_rfl) (by kernel_rfl) rfl rfl rfl rfl ?_
          refine eh_take 7 (held (.cons 0 rfl .nil)) rfl (by kernel_rfl) (by kernel_rfl) (by kernel_rfl) rfl rfl rfl rfl ?_
          refine eh_load 8 (held (.cons 0 rfl .nil)) rfl (by kernel_rfl) (by kernel_rfl) (by kernel_rfl) rfl rfl rfl (er_ld 0 rfl rfl rfl rfl rfl rfl) ?_
          refine eh_take 9 (held (.cons 0 rfl .nil)) rfl (by kernel_rfl) (by kernel_rfl) (by kernel_rfl) rfl rfl rfl rfl ?_
          by_cases hc : cur' = 0
          · refine eh_val 57 (u := .bool false) rfl (by simp [hc]) ?_
            refine eh_take 10 (held (.cons 0 rfl .nil)) rfl (by kernel_rfl) (by kernel_rfl) (by kernel_rfl) rfl rfl rfl rfl ?_
            refine eh_take 11 (held (.cons 0 rfl .nil)) rfl (by kernel_rfl) (by kernel_rfl) (by kernel_rfl) rfl rfl rfl rfl ?_
            refine eh_load 12 (held (.cons 0 rfl .nil)) rfl (by kernel_rfl) (by kernel_rfl) (by kernel_rfl) rfl rfl rfl (er_ld 0 rfl rfl rfl rfl rfl rfl) ?_
            refine eh_load 13 (held (.cons 0 rfl .nil)) rfl (by kernel_rfl) (by kernel_rfl) (by kernel_rfl) rfl rfl rfl (er_lenv rfl rfl rfl rfl) ?_
            refine eh_take 14 (held (.cons 0 rfl .nil)) rfl (by kernel_rfl) (by kernel_rfl) (by kernel_rfl) rfl rfl rfl rfl ?_
            refine eh_take 15 (held (.cons 0 rfl .nil)) rfl (by kernel_rfl) (by kernel_rfl) (by kernel_rfl) rfl rfl rfl rfl ?_
            refine eh_take 16 (held (.cons 0 rfl .nil)) rfl (by kernel_rfl) (by kernel_rfl) (by kernel_rfl) rfl rfl rfl rfl ?_
            refine eh_way 19 (by kernel_rfl) (hway rfl rfl (eo_call1 rfl rfl rfl rfl rfl real_audit_auditor_tell (Does.at (i := 1) rfl (tell_any _ 5 num (by rw [List.length_append]; omega))) ⟨held (.cons 0 rfl .nil), ?_⟩))
            refine eh_done (by kernel_rfl) (eq_le (cont ()) (le_of _ _ rfl) fun w hw => fin9 _ ?_ w hw)
            rw [hoff]; simp [hc]
          · refine eh_val 57 (u := .bool true) rfl (by simp [hc]) ?_
            refine eh_take 10 (held (.cons 0 rfl .nil)) rfl (by kernel_rfl) (by kernel_rfl) (by kernel_rfl) rfl rfl rfl rfl ?_
            refine eh_skip 11 (held (.cons 0 rfl .nil)) rfl (by kernel_rfl) (by kernel_rfl) (by kernel_rfl) rfl rfl rfl ?_
            refine eh_skip 12 (held (.cons 0 rfl .nil)) rfl (by kernel_rfl) (by kernel_rfl) (by kernel_rfl) rfl rfl rfl ?_
            refine eh_skip 13 (held (.cons 0 rfl .nil)) rfl (by kernel_rfl) (by kernel_rfl) (by kernel_rfl) rfl rfl rfl ?_
            refine eh_skip 14 (held (.cons 0 rfl .nil)) rfl (by kernel_rfl) (by kernel_rfl) (by kernel_rfl) rfl rfl rfl ?_
            refine eh_take 15 (held (.cons 0 rfl .nil)) rfl (by kernel_rfl) (by kernel_rfl) (by kernel_rfl) rfl rfl rfl rfl ?_
            refine eh_take 16 (held (.cons 0 rfl .nil)) rfl (by kernel_rfl) (by kernel_rfl) (by kernel_rfl) rfl rfl rfl rfl ?_
            refine eh_way 19 (by kernel_rfl) (hway rfl rfl (eo_call1 rfl rfl rfl rfl rfl real_audit_auditor_tell (Does.at (i := 1) rfl (tell_any _ 5 num (by rw [List.length_append]; omega))) ⟨held (.cons 0 rfl .nil), ?_⟩))
            refine eh_done (by kernel_rfl) (eq_le (cont ()) (le_of _ _ rfl) fun w hw => fin9 _ ?_ w hw)
            rw [hoff]; simp [hc]
      generalize hEe : (E ++ if offC ds ⟨num, cur', lane, la, lcap⟩ = true then [(⟨5, num⟩ : Fnd)] else []) = E1 at *
      (repeat (first | refine el_pure rfl rfl rfl rfl ?_ | refine ej_seq ?_ | refine ej_region ?_ | refine el_nil ?_ | refine eq_seq ?_ | refine eq_calm ?_ | refine ej_true rfl ?_ | refine ej_false rfl ?_ | refine el_skip rfl rfl rfl ?_ | refine ej_ret ?_ | refine ej_skip ?_ | refine ej_exit ?_ | refine ej_block ?_ | refine eq_seq_ret ?_ | refine eq_seq_exit ?_ | refine eq_block ?_ | refine eq_block_exit ?_ | refine eq_block_ret ?_ | refine eq_block_exit_ne rfl ?_ | refine eq_back_ret ?_ | refine eq_back_exit ?_))
      refine ej_held [cells b7 T_audit_Core (Cr.cells ⟨num, cur', lane, la, lcap⟩)] ?_
      refine eh_take 0 (held (.cons 0 rfl .nil)) rfl (by kernel_rfl) (by kernel_rfl) (by kernel_rfl) rfl rfl rfl rfl ?_
      refine eh_take 1 (held (.cons 0 rfl .nil)) rfl (by kernel_rfl) (by kernel_rfl) (by kernel_rfl) rfl rfl rfl rfl ?_
      refine eh_take 2 (held (.cons 0 rfl .nil)) rfl (by kernel_rfl) (by kernel_rfl) (by kernel_rfl) rfl rfl rfl rfl ?_
      refine eh_load 3 (held (.cons 0 rfl .nil)) rfl (by kernel_rfl) (by kernel_rfl) (by kernel_rfl) rfl rfl rfl (er_ld 0 rfl rfl rfl rfl rfl rfl) ?_
      refine eh_take 5 (held (.cons 0 rfl .nil)) rfl (by kernel_rfl) (by kernel_rfl) (by kernel_rfl) rfl rfl rfl rfl ?_
      refine eh_load 6 (held (.cons 0 rfl .nil)) rfl (by kernel_rfl) (by kernel_rfl) (by kernel_rfl) rfl rfl rfl (er_ld 0 rfl rfl rfl rfl rfl rfl) ?_
      refine eh_way 4 (by kernel_rfl) (hway rfl rfl (eo_call1 rfl rfl rfl rfl rfl real_audit_auditor_turned (Does.at (i := 1) rfl (turned_any (i := i + 1) lane hll hi hlane)) ⟨held (.cons 0 rfl .nil), ?_⟩))
      refine eh_way 7 (by kernel_rfl) (hway rfl rfl (eo_call1 rfl rfl rfl rfl rfl real_audit_auditor_tell (Does.at (i := 1) rfl (tell_any _ 11 num (by rw [List.length_append]; omega))) ⟨held (.cons 0 rfl .nil), ?_⟩))
      refine eh_done (by kernel_rfl) ?_
      (repeat (first | refine el_pure rfl rfl rfl rfl ?_ | refine ej_seq ?_ | refine ej_region ?_ | refine el_nil ?_ | refine eq_seq ?_ | refine eq_calm ?_ | refine ej_true rfl ?_ | refine ej_false rfl ?_ | refine el_skip rfl rfl rfl ?_ | refine ej_ret ?_ | refine ej_skip ?_ | refine ej_exit ?_ | refine ej_block ?_ | refine eq_seq_ret ?_ | refine eq_seq_exit ?_ | refine eq_block ?_ | refine eq_block_exit ?_ | refine eq_block_ret ?_ | refine eq_block_exit_ne rfl ?_ | refine eq_back_ret ?_ | refine eq_back_exit ?_ | refine el_cons rfl (eo_lenv rfl rfl rfl rfl rfl rfl ?_) | refine el_cons rfl (eo_arith rfl rfl rfl rfl rfl rfl ⟨by omega, by omega⟩ ?_)))
      refine eq_backP (k + 1) (by omega) (by omega) (le_of _ _ rfl) ?_
      intro w hw
      have hw := hw.erase 0
      have hX : O ++ ((cs.take (k + 1)).map (coreAt ds aw)).flatten = O ++ (E1 ++ if turnedF aw 0 false lane = true then [⟨11, num⟩] else []) := by
        rw [hsn, hcore, ← hEe, List.append_assoc E]
      rw [hX, ← if_app]
      exact hw
    · obtain rfl : k = cs.length := by omega
      (repeat (first | refine el_pure rfl rfl rfl rfl ?_ | refine ej_seq ?_ | refine ej_region ?_ | refine el_nil ?_ | refine eq_seq ?_ | refine eq_calm ?_ | refine ej_true rfl ?_ | refine ej_false rfl ?_ | refine el_skip rfl rfl rfl ?_ | refine ej_ret ?_ | refine ej_skip ?_ | refine ej_exit ?_ | refine ej_block ?_ | refine eq_seq_ret ?_ | refine eq_seq_exit ?_ | refine eq_block ?_ | refine eq_block_exit ?_ | refine eq_block_ret ?_ | refine eq_block_exit_ne rfl ?_ | refine eq_back_ret ?_ | refine eq_back_exit ?_))
      refine eq_end [] rvs_nil fun w hw => ⟨O ++ (cs.map (coreAt ds aw)).flatten, rfl, ⟨dn, hdone, by rw [hO]⟩, ?_⟩
      have hw : S w0 (auO b v sp aw (O ++ ((cs.take cs.length).map (coreAt ds aw)).flatten) :: l) w := hw
      rw [List.take_length] at hw
      exact hw
  · obtain ⟨g, ht, rfl⟩ := grp_get hj
    have hp2 := step_perm ht hperm
    have er : (left.map Grp.kv).eraseIdx j = (left.eraseIdx j).map Grp.kv := by rw [ChangeMaps.map_eraseIdx]
    have hjl : j < left.length := (List.getElem?_eq_some_iff.1 ht).1
    have hlen : (left.eraseIdx j).length < left.length := by
      rw [List.length_eraseIdx_of_lt hjl]; omega
    have hsn : ((done ++ [g]).map fun g => grpF aw (g.id, g.sp)).flatten = (done.map fun g => grpF aw (g.id, g.sp)).flatten ++ grpF aw (g.id, g.sp) := by simp
    rw [er]
    generalize hD : (done.map fun g => grpF aw (g.id, g.sp)).flatten = D at *
    obtain ⟨id, gr, gsp⟩ := g
    (repeat (first | refine el_pure rfl rfl rfl rfl ?_ | refine ej_seq ?_ | refine ej_region ?_ | refine el_nil ?_ | refine eq_seq ?_ | refine eq_calm ?_ | refine ej_true rfl ?_ | refine ej_false rfl ?_ | refine el_skip rfl rfl rfl ?_ | refine ej_ret ?_ | refine ej_skip ?_ | refine ej_exit ?_ | refine ej_block ?_ | refine eq_seq_ret ?_ | refine eq_seq_exit ?_ | refine eq_block ?_ | refine eq_block_exit ?_ | refine eq_block_ret ?_ | refine eq_block_exit_ne rfl ?_ | refine eq_back_ret ?_ | refine eq_back_exit ?_))
    refine el_cons rfl (eo_entry 2 rfl rfl rfl rfl rfl ?_)
    (repeat (first | refine el_pure rfl rfl rfl rfl ?_ | refine ej_seq ?_ | refine ej_region ?_ | refine el_nil ?_ | refine eq_seq ?_ | refine eq_calm ?_ | refine ej_true rfl ?_ | refine ej_false rfl ?_ | refine el_skip rfl rfl rfl ?_ | refine ej_ret ?_ | refine ej_skip ?_ | refine ej_exit ?_ | refine ej_block ?_ | refine eq_seq_ret ?_ | refine eq_seq_exit ?_ | refine eq_block ?_ | refine eq_block_exit ?_ | refine eq_block_ret ?_ | refine eq_block_exit_ne rfl ?_ | refine eq_back_ret ?_ | refine eq_back_exit ?_))
    refine el_cons rfl (eo_ld 0 rfl rfl rfl rfl rfl rfl rfl rfl ?_)
    (repeat (first | refine el_pure rfl rfl rfl rfl ?_ | refine ej_seq ?_ | refine ej_region ?_ | refine el_nil ?_ | refine eq_seq ?_ | refine eq_calm ?_ | refine ej_true rfl ?_ | refine ej_false rfl ?_ | refine el_skip rfl rfl rfl ?_ | refine ej_ret ?_ | refine ej_skip ?_ | refine ej_exit ?_ | refine ej_block ?_ | refine eq_seq_ret ?_ | refine eq_seq_exit ?_ | refine eq_block ?_ | refine eq_block_exit ?_ | refine eq_block_ret ?_ | refine eq_block_exit_ne rfl ?_ | refine eq_back_ret ?_ | refine eq_back_exit ?_))
    refine el_cons rfl (eo_lookup 4 rfl rfl rfl rfl rfl rfl rfl rfl rfl rfl rfl ?_)
    simp only [lookV, if_true, kget_aw]
    have fin : ∀ u1 u2 : Bool, u1 = decide (1 < gsp.length) → u2 = !(findT aw id).isSome → ∀ (r9 : Option (Nat × Nat)) (w : World), S w0 (midL b v x aw r9 (if u2 = true then (if u1 = true then out ++ D ++ [⟨2, id⟩] else out ++ D) ++ [⟨4, id⟩] else (if u1 = true then out ++ D ++ [⟨2, id⟩] else out ++ D)) r5 (left.eraseIdx j) (some (Grp.kv ⟨id, gr, gsp⟩)) ++ l) w →
        S w0 (midL b v x aw r9 (out ++ (((done ++ [(⟨id, gr, gsp⟩ : Grp)]).map fun g : Grp => grpF aw (g.id, g.sp)).flatten)) r5 (left.eraseIdx j) (some (Grp.kv ⟨id, gr, gsp⟩)) ++ l) w := by
      intro u1 u2 h1 h2 r9 w hw
      have e : (if u2 = true then (if u1 = true then out ++ D ++ [(⟨2, id⟩ : Fnd)] else out ++ D) ++ [⟨4, id⟩] else (if u1 = true then out ++ D ++ [⟨2, id⟩] else out ++ D)) = out ++ (((done ++ [(⟨id, gr, gsp⟩ : Grp)]).map fun g : Grp => grpF aw (g.id, g.sp)).flatten) := by
        rw [hsn, grpF, ← h1, ← h2]
        cases u1 <;> cases u2 <;> simp
      rw [← e]; exact hw
    have hlen2 : ∀ u1 : Bool, (if u1 = true then out ++ D ++ [(⟨2, id⟩ : Fnd)] else out ++ D).length ≤ 100000000 := fun u1 => by
      have : (out ++ D).length ≤ 4000000 := by rw [List.length_append]; omega
      cases u1
      · simp only [Bool.false_eq_true, if_false]; omega
      · simp only [if_true, List.length_append, List.length_singleton] at this ⊢; omega
    cases hf : findT aw id with
    | none =>
      rw [hf] at fin
      simp only [Option.map_none, Option.getD_none, Option.isSome_none]
      (repeat (first | refine el_pure rfl rfl rfl rfl ?_ | refine ej_seq ?_ | refine ej_region ?_ | refine el_nil ?_ | refine eq_seq ?_ | refine eq_calm ?_ | refine ej_true rfl ?_ | refine ej_false rfl ?_ | refine el_skip rfl rfl rfl ?_ | refine ej_ret ?_ | refine ej_skip ?_ | refine ej_exit ?_ | refine ej_block ?_ | refine eq_seq_ret ?_ | refine eq_seq_exit ?_ | refine eq_block ?_ | refine eq_block_exit ?_ | refine eq_block_ret ?_ | refine eq_block_exit_ne rfl ?_ | refine eq_back_ret ?_ | refine eq_back_exit ?_))
      refine el_cons rfl (eo_alloc rfl rfl rfl rfl fun b9 => ?_)
      refine el_cons rfl (eo_stA 0 rfl rfl rfl rfl rfl rfl rfl rfl rfl ?_)
      refine el_imp (fun w hw => hw.erase 0) ?_
      (repeat (first | refine el_pure rfl rfl rfl rfl ?_ | refine ej_seq ?_ | refine ej_region ?_ | refine el_nil ?_ | refine eq_seq ?_ | refine eq_calm ?_ | refine ej_true rfl ?_ | refine ej_false rfl ?_ | refine el_skip rfl rfl rfl ?_ | refine ej_ret ?_ | refine ej_skip ?_ | refine ej_exit ?_ | refine ej_block ?_ | refine eq_seq_ret ?_ | refine eq_seq_exit ?_ | refine eq_block ?_ | refine eq_block_exit ?_ | refine eq_block_ret ?_ | refine eq_block_exit_ne rfl ?_ | refine eq_back_ret ?_ | refine eq_back_exit ?_ | refine el_cons rfl (eo_lenv rfl rfl rfl rfl rfl rfl ?_) | refine el_cons rfl (eo_arith rfl rfl rfl rfl rfl rfl ⟨by omega, by omega⟩ ?_)))
      refine el_val 30 (u := .bool (decide (1 < gsp.length))) rfl (by congr 1; apply decide_eq_decide.2; omega) ?_
      generalize hu : decide (1 < gsp.length) = u1 at *
      (repeat (first | refine el_pure rfl rfl rfl rfl ?_ | refine ej_seq ?_ | refine ej_region ?_ | refine el_nil ?_ | refine eq_seq ?_ | refine eq_calm ?_ | refine ej_true rfl ?_ | refine ej_false rfl ?_ | refine el_skip rfl rfl rfl ?_ | refine ej_ret ?_ | refine ej_skip ?_ | refine ej_exit ?_ | refine ej_block ?_ | refine eq_seq_ret ?_ | refine eq_seq_exit ?_ | refine eq_block ?_ | refine eq_block_exit ?_ | refine eq_block_ret ?_ | refine eq_block_exit_ne rfl ?_ | refine eq_back_ret ?_ | refine eq_back_exit ?_))
      refine el_cons rfl (eo_callx rfl rfl rfl rfl rfl real_audit_auditor_tell (tell_raw u1 2 id (by rw [List.length_append]; omega)) fun r6 _ => ?_)
      (repeat (first | refine el_pure rfl rfl rfl rfl ?_ | refine ej_seq ?_ | refine ej_region ?_ | refine el_nil ?_ | refine eq_seq ?_ | refine eq_calm ?_ | refine ej_true rfl ?_ | refine ej_false rfl ?_ | refine el_skip rfl rfl rfl ?_ | refine ej_ret ?_ | refine ej_skip ?_ | refine ej_exit ?_ | refine ej_block ?_ | refine eq_seq_ret ?_ | refine eq_seq_exit ?_ | refine eq_block ?_ | refine eq_block_exit ?_ | refine eq_block_ret ?_ | refine eq_block_exit_ne rfl ?_ | refine eq_back_ret ?_ | refine eq_back_exit ?_))
      refine el_cons rfl (eo_callx rfl rfl rfl rfl rfl real_audit_auditor_tell (tell_raw true 4 id (hlen2 u1)) fun r7 _ => ?_)
      (repeat (first | refine el_pure rfl rfl rfl rfl ?_ | refine ej_seq ?_ | refine ej_region ?_ | refine el_nil ?_ | refine eq_seq ?_ | refine eq_calm ?_ | refine ej_true rfl ?_ | refine ej_false rfl ?_ | refine el_skip rfl rfl rfl ?_ | refine ej_ret ?_ | refine ej_skip ?_ | refine ej_exit ?_ | refine ej_block ?_ | refine eq_seq_ret ?_ | refine eq_seq_exit ?_ | refine eq_block ?_ | refine eq_block_exit ?_ | refine eq_block_ret ?_ | refine eq_block_exit_ne rfl ?_ | refine eq_back_ret ?_ | refine eq_back_exit ?_))
      exact eq_backP (done ++ [⟨id, gr, gsp⟩], left.eraseIdx j, some (Grp.kv ⟨id, gr, gsp⟩), r7) hp2 hlen (le_of _ _ rfl) fun w hw => fin u1 true rfl rfl r7 w hw
    | some t =>
      rw [hf] at fin
      simp only [Option.map_some, Option.getD_some, Option.isSome_some]
      (repeat (first | refine el_pure rfl rfl rfl rfl ?_ | refine ej_seq ?_ | refine ej_region ?_ | refine el_nil ?_ | refine eq_seq ?_ | refine eq_calm ?_ | refine ej_true rfl ?_ | refine ej_false rfl ?_ | refine el_skip rfl rfl rfl ?_ | refine ej_ret ?_ | refine ej_skip ?_ | refine ej_exit ?_ | refine ej_block ?_ | refine eq_seq_ret ?_ | refine eq_seq_exit ?_ | refine eq_block ?_ | refine eq_block_exit ?_ | refine eq_block_ret ?_ | refine eq_block_exit_ne rfl ?_ | refine eq_back_ret ?_ | refine eq_back_exit ?_))
      refine el_cons rfl (eo_alloc rfl rfl rfl rfl fun b9 => ?_)
      refine el_cons rfl (eo_stA 0 rfl rfl rfl rfl rfl rfl rfl rfl rfl ?_)
      refine el_imp (fun w hw => hw.erase 0) ?_
      (repeat (first | refine el_pure rfl rfl rfl rfl ?_ | refine ej_seq ?_ | refine ej_region ?_ | refine el_nil ?_ | refine eq_seq ?_ | refine eq_calm ?_ | refine ej_true rfl ?_ | refine ej_false rfl ?_ | refine el_skip rfl rfl rfl ?_ | refine ej_ret ?_ | refine ej_skip ?_ | refine ej_exit ?_ | refine ej_block ?_ | refine eq_seq_ret ?_ | refine eq_seq_exit ?_ | refine eq_block ?_ | refine eq_block_exit ?_ | refine eq_block_ret ?_ | refine eq_block_exit_ne rfl ?_ | refine eq_back_ret ?_ | refine eq_back_exit ?_ | refine el_cons rfl (eo_lenv rfl rfl rfl rfl rfl rfl ?_) | refine el_cons rfl (eo_arith rfl rfl rfl rfl rfl rfl ⟨by omega, by omega⟩ ?_)))
      refine el_val 30 (u := .bool (decide (1 < gsp.length))) rfl (by congr 1; apply decide_eq_decide.2; omega) ?_
      generalize hu : decide (1 < gsp.length) = u1 at *
      (repeat (first | refine el_pure rfl rfl rfl rfl ?_ | refine ej_seq ?_ | refine ej_region ?_ | refine el_nil ?_ | refine eq_seq ?_ | refine eq_calm ?_ | refine ej_true rfl ?_ | refine ej_false rfl ?_ | refine el_skip rfl rfl rfl ?_ | refine ej_ret ?_ | refine ej_skip ?_ | refine ej_exit ?_ | refine ej_block ?_ | refine eq_seq_ret ?_ | refine eq_seq_exit ?_ | refine eq_block ?_ | refine eq_block_exit ?_ | refine eq_block_ret ?_ | refine eq_block_exit_ne rfl ?_ | refine eq_back_ret ?_ | refine eq_back_exit ?_))
      refine el_cons rfl (eo_callx rfl rfl rfl rfl rfl real_audit_auditor_tell (tell_raw u1 2 id (by rw [List.length_append]; omega)) fun r6 _ => ?_)
      (repeat (first | refine el_pure rfl rfl rfl rfl ?_ | refine ej_seq ?_ | refine ej_region ?_ | refine el_nil ?_ | refine eq_seq ?_ | refine eq_calm ?_ | refine ej_true rfl ?_ | refine ej_false rfl ?_ | refine el_skip rfl rfl rfl ?_ | refine ej_ret ?_ | refine ej_skip ?_ | refine ej_exit ?_ | refine ej_block ?_ | refine eq_seq_ret ?_ | refine eq_seq_exit ?_ | refine eq_block ?_ | refine eq_block_exit ?_ | refine eq_block_ret ?_ | refine eq_block_exit_ne rfl ?_ | refine eq_back_ret ?_ | refine eq_back_exit ?_))
      refine el_cons rfl (eo_callx rfl rfl rfl rfl rfl real_audit_auditor_tell (tell_raw false 4 id (hlen2 u1)) fun r7 _ => ?_)
      (repeat (first | refine el_pure rfl rfl rfl rfl ?_ | refine ej_seq ?_ | refine ej_region ?_ | refine el_nil ?_ | refine eq_seq ?_ | refine eq_calm ?_ | refine ej_true rfl ?_ | refine ej_false rfl ?_ | refine el_skip rfl rfl rfl ?_ | refine ej_ret ?_ | refine ej_skip ?_ | refine ej_exit ?_ | refine ej_block ?_ | refine eq_seq_ret ?_ | refine eq_seq_exit ?_ | refine eq_block ?_ | refine eq_block_exit ?_ | refine eq_block_ret ?_ | refine eq_block_exit_ne rfl ?_ | refine eq_back_ret ?_ | refine eq_back_exit ?_))
      exact eq_backP (done ++ [⟨id, gr, gsp⟩], left.eraseIdx j, some (Grp.kv ⟨id, gr, gsp⟩), r7) hp2 hlen (le_of _ _ rfl) fun w hw => fin u1 false rfl rfl r7 w hw

end Go.Proofs.Ytkpbpjnabbfdiaa
