/- The laws: awake, the findings are the document's, and they are told in order. -/
import Derived.Test.YtkpbpjnabbfdiaaEa
namespace Go.Proofs.Ytkpbpjnabbfdiaa
open Go Go.SE

variable {w0 w : World} {l : List HP} {i : Nat} {r : Option (Nat × Nat)} {p : HP}

theorem View.zero {sz : Nat} : View w0 l sz none [] 0 0 := ⟨by simp, fun w _ => ⟨⟨Nat.le_refl _, Nat.zero_le _⟩, by simp⟩⟩

set_option maxHeartbeats 3200000 in
theorem awake_any : Does cx F_law21_awake [] (S w0 l) fun u w => u = .bool true ∧ S w0 l w := by
  refine fn_enter (n := N_law21_awake) fn_law21_awake rfl rfl rfl ?_
  (repeat (first | refine el_pure rfl rfl rfl rfl ?_ | refine ej_seq ?_ | refine ej_region ?_ | refine el_nil ?_ | refine eq_seq ?_ | refine eq_calm ?_ | refine ej_true rfl ?_ | refine ej_false rfl ?_ | refine el_skip rfl rfl rfl ?_ | refine ej_ret ?_ | refine ej_skip ?_ | refine ej_exit ?_ | refine ej_block ?_ | refine eq_seq_ret ?_ | refine eq_seq_exit ?_ | refine eq_block ?_ | refine eq_block_exit ?_ | refine eq_block_ret ?_ | refine eq_block_exit_ne rfl ?_ | refine eq_back_ret ?_ | refine eq_back_exit ?_))
  refine el_cons rfl (eo_build (cs := Cr.cells ⟨3, 9, [], none, 0⟩) rfl rfl rfl rfl rfl rfl rfl rfl ?_)
  refine el_cons rfl (eo_buildS (cs := Cr.cells ⟨3, 9, [], none, 0⟩) rfl rfl rfl rfl rfl rfl rfl rfl rfl rfl fun bc => ?_)
  refine el_cons rfl (eo_build (cs := Hd.cells ⟨0, none, 0, 0, some ⟨bc, 0, none⟩, 1, 1, none, 0, 0⟩) rfl rfl rfl rfl rfl rfl rfl rfl ?_)
  have hA : AuV w0 (cells bc T_audit_Core (Cr.cells ⟨3, 9, [], none, 0⟩)) ⟨0, none, 0, 0, some ⟨bc, 0, none⟩, 1, 1, none, 0, 0⟩ [] [⟨3, 9, [], none, 0⟩] [] :=
    ⟨⟨View.zero, View.of_cells (i := 0) (T := T_audit_Core) rfl rfl (by decide), fun x hx => by simp at hx; subst hx; exact View.zero, View.zero, by simp, by simp⟩, rfl, rfl, rfl, by simp, by simp⟩
  refine el_cons rfl (eo_callx rfl rfl rfl rfl rfl real_audit_Check (Check_any (i := 0) (by simp) (by simp) rfl hA) fun x hx => ?_)
  obtain ⟨a, c, p1, out, dn, aw'⟩ := x
  obtain ⟨hV, hp1, hp2, ho⟩ := hx
  have hdn : dn = [(9, [⟨3, true⟩])] := List.perm_singleton.1 hp1
  have haw : aw' = [] := List.perm_nil.1 hp2
  have ho : out = [⟨4, 9⟩, ⟨5, 3⟩] := by
    have ho : out = _ := ho
    rw [ho, hdn, haw]; rfl
  have hL : compactL (sortF out) = [⟨4, 9⟩, ⟨5, 3⟩] := by
    rw [found_eq (F := out) fun _ => Iff.rfl, ho]; decide
  show EL _ _ _ _ _ _ (S w0 (p1 :: _ :: l))
  have hV : View w0 [p1] 2 a (rows Fnd.cells (compactL (sortF out))) (compactL (sortF out)).length c := hV
  simp only [hL] at hV ⊢
  (repeat (first | refine el_pure rfl rfl rfl rfl ?_ | refine ej_seq ?_ | refine ej_region ?_ | refine el_nil ?_ | refine eq_seq ?_ | refine eq_calm ?_ | refine ej_true rfl ?_ | refine ej_false rfl ?_ | refine el_skip rfl rfl rfl ?_ | refine ej_ret ?_ | refine ej_skip ?_ | refine ej_exit ?_ | refine ej_block ?_ | refine eq_seq_ret ?_ | refine eq_seq_exit ?_ | refine eq_block ?_ | refine eq_block_exit ?_ | refine eq_block_ret ?_ | refine eq_block_exit_ne rfl ?_ | refine eq_back_ret ?_ | refine eq_back_exit ?_ | refine el_cons rfl (eo_lenv rfl rfl rfl rfl rfl rfl ?_) | refine el_cons rfl (eo_arith rfl rfl rfl rfl rfl rfl ⟨by omega, by omega⟩ ?_)))
  refine el_cons rfl (eo_idxv rfl rfl rfl rfl rfl rfl rfl rfl rfl (hV.one (i := 0) rfl) ⟨by decide, by decide⟩ ?_)
  refine el_cons rfl (eo_ldvA 0 (cs := Fnd.cells ⟨4, 9⟩) rfl rfl rfl rfl rfl rfl (hV.one (i := 0) rfl) rfl (fun q hq => rows_get Fnd.cells 2 fnd2 [⟨4, 9⟩, ⟨5, 3⟩] 0 q ⟨4, 9⟩ rfl hq) ?_)
  refine el_cons rfl (eo_build (cs := Fnd.cells ⟨4, 9⟩) rfl rfl rfl rfl rfl rfl rfl rfl ?_)
  refine el_cons rfl (eo_er rfl rfl (er_eqA rfl (.inl rfl) rfl rfl guard_F (same_F ⟨4, 9⟩ ⟨4, 9⟩)) ?_)
  (repeat (first | refine el_pure rfl rfl rfl rfl ?_ | refine ej_seq ?_ | refine ej_region ?_ | refine el_nil ?_ | refine eq_seq ?_ | refine eq_calm ?_ | refine ej_true rfl ?_ | refine ej_false rfl ?_ | refine el_skip rfl rfl rfl ?_ | refine ej_ret ?_ | refine ej_skip ?_ | refine ej_exit ?_ | refine ej_block ?_ | refine eq_seq_ret ?_ | refine eq_seq_exit ?_ | refine eq_block ?_ | refine eq_block_exit ?_ | refine eq_block_ret ?_ | refine eq_block_exit_ne rfl ?_ | refine eq_back_ret ?_ | refine eq_back_exit ?_))
  refine el_cons rfl (eo_idxv rfl rfl rfl rfl rfl rfl rfl rfl rfl (hV.one (i := 0) rfl) ⟨by decide, by decide⟩ ?_)
  refine el_cons rfl (eo_ldvA 2 (cs := Fnd.cells ⟨5, 3⟩) rfl rfl rfl rfl rfl rfl (hV.one (i := 0) rfl) rfl (fun q hq => rows_get Fnd.cells 2 fnd2 [⟨4, 9⟩, ⟨5, 3⟩] 1 q ⟨5, 3⟩ rfl hq) ?_)
  refine el_cons rfl (eo_build (cs := Fnd.cells ⟨5, 3⟩) rfl rfl rfl rfl rfl rfl rfl rfl ?_)
  refine el_cons rfl (eo_er rfl rfl (er_eqA rfl (.inl rfl) rfl rfl guard_F (same_F ⟨5, 3⟩ ⟨5, 3⟩)) ?_)
  (repeat (first | refine el_pure rfl rfl rfl rfl ?_ | refine ej_seq ?_ | refine ej_region ?_ | refine el_nil ?_ | refine eq_seq ?_ | refine eq_calm ?_ | refine ej_true rfl ?_ | refine ej_false rfl ?_ | refine el_skip rfl rfl rfl ?_ | refine ej_ret ?_ | refine ej_skip ?_ | refine ej_exit ?_ | refine ej_block ?_ | refine eq_seq_ret ?_ | refine eq_seq_exit ?_ | refine eq_block ?_ | refine eq_block_exit ?_ | refine eq_block_ret ?_ | refine eq_block_exit_ne rfl ?_ | refine eq_back_ret ?_ | refine eq_back_exit ?_))
  exact eq_rett rfl fun w hw => ⟨rfl, hw.drop 2⟩

/-! ### Kinds -/
abbrev InK (y : Fnd) : Prop := 1 ≤ y.kind ∧ y.kind ≤ 11
theorem one_kind {b : Bool} {k n : Int} (h : 1 ≤ k ∧ k ≤ 11) : ∀ y ∈ one1 b k n, InK y := fun y hy => by
  obtain ⟨_, rfl⟩ := mem_one.1 hy; exact h
theorem dom_kind (aw : List Th) (ds : List Dm) : ∀ k, ∀ y ∈ domT aw ds k, InK y
  | 0, y, hy => by cases hy
  | k + 1, y, hy => by
    rw [domT] at hy
    rcases List.mem_append.1 hy with hy | hy
    · exact dom_kind aw ds k y hy
    · cases h : ds[k]? with
      | none => rw [h] at hy; cases hy
      | some d =>
        rw [h] at hy
        rcases List.mem_append.1 hy with hy | hy
        · exact one_kind (b := darkD d) (k := 1) (by decide) y hy
        · exact one_kind (b := someIn aw k && !firstIn aw k d.low) (k := 10) (by decide) y hy
theorem doc_kind (ds : List Dm) (cs : List Cr) (ts : List Th) (q : Int) : ∀ y ∈ docL ds cs ts q, InK y := by
  intro y hy
  rw [docL] at hy
  simp only [List.mem_append, List.mem_flatten, List.mem_map] at hy
  rcases hy with (hy | ⟨L, ⟨c, _, rfl⟩, hy⟩) | ⟨L, ⟨t, _, rfl⟩, hy⟩
  · exact dom_kind _ _ _ y hy
  · rw [crR] at hy
    rcases List.mem_append.1 hy with hy | hy
    · rcases List.mem_append.1 hy with hy | hy
      · obtain ⟨L, hL, hy⟩ := List.mem_flatten.1 hy
        obtain ⟨id, _, rfl⟩ := List.mem_map.1 hL
        rcases List.mem_append.1 hy with hy | hy
        · exact one_kind (by decide) y hy
        · exact one_kind (by decide) y hy
      · exact one_kind (by decide) y hy
    · exact one_kind (by decide) y hy
  · rw [thK] at hy
    split at hy
    · obtain ⟨k, hk, rfl⟩ := List.mem_map.1 hy
      simp only [thR, List.mem_append, mem_k1] at hk
      show 1 ≤ k ∧ k ≤ 11
      rcases hk with ((((⟨_, rfl⟩ | ⟨_, rfl⟩) | ⟨_, rfl⟩) | ⟨_, rfl⟩) | ⟨_, rfl⟩) | ⟨_, rfl⟩ <;> decide
    · cases hy

theorem doV_of {v : Hd} {ds : List Dm} {cs : List Cr} {ts : List Th} (hv : DoL w0 p v ds cs ts) (hs : Small ds cs ts) : DoV w0 p v ds cs ts :=
  ⟨hv.lies, hv.nd, hv.nc, hv.nt, ⟨by have := hs.few.1; omega, by have := hs.few.2.1; omega, by have := hs.few.2.2; omega⟩, fun c hc => by have := (hs.lanes c hc).1; omega⟩

set_option maxHeartbeats 6400000 in
theorem AuditChecks_any {v : Hd} {ds : List Dm} {cs : List Cr} {ts : List Th} (hr : ∀ t ∈ ts, t.tag ≤ 9223372036854775807) (hi : l[i]? = some p) (hv : DoL w0 p v ds cs ts) :
    Does cx F_law21_AuditChecks [v.val] (S w0 l) fun u w => u = .bool true ∧ S w0 l w := by
  refine fn_enter (n := N_law21_AuditChecks) fn_law21_AuditChecks rfl rfl rfl ?_
  refine ej_seq (ej_region (el_cons rfl (eo_box rfl rfl rfl rfl fun b1 => ?_)))
  (repeat (first | refine el_pure rfl rfl rfl rfl ?_ | refine ej_seq ?_ | refine ej_region ?_ | refine el_nil ?_ | refine eq_seq ?_ | refine eq_calm ?_ | refine ej_true rfl ?_ | refine ej_false rfl ?_ | refine el_skip rfl rfl rfl ?_ | refine ej_ret ?_ | refine ej_skip ?_ | refine ej_exit ?_ | refine ej_block ?_ | refine eq_seq_ret ?_ | refine eq_seq_exit ?_ | refine eq_block ?_ | refine eq_block_exit ?_ | refine eq_block_ret ?_ | refine eq_block_exit_ne rfl ?_ | refine eq_back_ret ?_ | refine eq_back_exit ?_))
  refine el_cons rfl (eo_call1 rfl rfl rfl rfl rfl real_law21_awake awake_any ?_)
  (repeat (first | refine el_pure rfl rfl rfl rfl ?_ | refine ej_seq ?_ | refine ej_region ?_ | refine el_nil ?_ | refine eq_seq ?_ | refine eq_calm ?_ | refine ej_true rfl ?_ | refine ej_false rfl ?_ | refine el_skip rfl rfl rfl ?_ | refine ej_ret ?_ | refine ej_skip ?_ | refine ej_exit ?_ | refine ej_block ?_ | refine eq_seq_ret ?_ | refine eq_seq_exit ?_ | refine eq_block ?_ | refine eq_block_exit ?_ | refine eq_block_ret ?_ | refine eq_block_exit_ne rfl ?_ | refine eq_back_ret ?_ | refine eq_back_exit ?_))
  refine el_cons rfl (eo_ldW 0 rfl rfl rfl rfl rfl rfl rfl rfl ?_)
  refine el_cons rfl (eo_callx rfl rfl rfl rfl rfl real_law21_small (small_ref (i := i + 1) hi hv) fun b hb => ?_)
  cases b with
  | false =>
    (repeat (first | refine el_pure rfl rfl rfl rfl ?_ | refine ej_seq ?_ | refine ej_region ?_ | refine el_nil ?_ | refine eq_seq ?_ | refine eq_calm ?_ | refine ej_true rfl ?_ | refine ej_false rfl ?_ | refine el_skip rfl rfl rfl ?_ | refine ej_ret ?_ | refine ej_skip ?_ | refine ej_exit ?_ | refine ej_block ?_ | refine eq_seq_ret ?_ | refine eq_seq_exit ?_ | refine eq_block ?_ | refine eq_block_exit ?_ | refine eq_block_ret ?_ | refine eq_block_exit_ne rfl ?_ | refine eq_back_ret ?_ | refine eq_back_exit ?_))
    refine el_cons rfl (eo_call1 rfl rfl rfl rfl rfl real_law21_awake awake_any ?_)
    (repeat (first | refine el_pure rfl rfl rfl rfl ?_ | refine ej_seq ?_ | refine ej_region ?_ | refine el_nil ?_ | refine eq_seq ?_ | refine eq_calm ?_ | refine ej_true rfl ?_ | refine ej_false rfl ?_ | refine el_skip rfl rfl rfl ?_ | refine ej_ret ?_ | refine ej_skip ?_ | refine ej_exit ?_ | refine ej_block ?_ | refine eq_seq_ret ?_ | refine eq_seq_exit ?_ | refine eq_block ?_ | refine eq_block_exit ?_ | refine eq_block_ret ?_ | refine eq_block_exit_ne rfl ?_ | refine eq_back_ret ?_ | refine eq_back_exit ?_))
    exact eq_rett rfl fun w hw => ⟨rfl, hw.erase 0⟩
  | true =>
    have hs := hb rfl
    have hv2 := doV_of hv hs
    have htag : ∀ t ∈ ts, 0 ≤ t.tag ∧ t.tag ≤ 9223372036854775807 := fun t ht => ⟨hs.tags t ht, hr t ht⟩
    (repeat (first | refine el_pure rfl rfl rfl rfl ?_ | refine ej_seq ?_ | refine ej_region ?_ | refine el_nil ?_ | refine eq_seq ?_ | refine eq_calm ?_ | refine ej_true rfl ?_ | refine ej_false rfl ?_ | refine el_skip rfl rfl rfl ?_ | refine ej_ret ?_ | refine ej_skip ?_ | refine ej_exit ?_ | refine ej_block ?_ | refine eq_seq_ret ?_ | refine eq_seq_exit ?_ | refine eq_block ?_ | refine eq_block_exit ?_ | refine eq_block_ret ?_ | refine eq_block_exit_ne rfl ?_ | refine eq_back_ret ?_ | refine eq_back_exit ?_))
    refine ej_held [cells b1 T_ref21_V (Hd.cells v)] ?_
    refine eh_load 0 (held (.cons 0 rfl .nil)) rfl (by kernel_rfl) (by kernel_rfl) (by kernel_rfl) rfl rfl rfl (er_ldW 0 rfl rfl rfl rfl rfl rfl) ?_
    refine eh_load 3 (held (.cons 0 rfl .nil)) rfl (by kernel_rfl) (by kernel_rfl) (by kernel_rfl) rfl rfl rfl (er_ldW 0 rfl rfl rfl rfl rfl rfl) ?_
    refine eh_way 1 (by kernel_rfl) (hway rfl rfl (eo_callx rfl rfl rfl rfl rfl real_law21_Real (Real_any (i := i + 1) hi hv2) fun x hx => ⟨held (.cons 1 rfl .nil), ?_⟩))
    obtain ⟨v2, qs, p2⟩ := x
    obtain ⟨hA, hq, hqs⟩ := hx
    have hA : AuV w0 p2 v2 ds (qs.map cpyQ) ts := hA
    have hq : v2.q = v.q := hq
    have hqs : qs.map (·.1) = cs := hqs
    refine eh_way 2 (by kernel_rfl) (hway rfl rfl (eo_callx rfl rfl rfl rfl rfl real_audit_Check (Check_any (i := 0) htag hs.nodup rfl hA) fun x hx => ⟨held (.cons 2 rfl .nil), ?_⟩))
    obtain ⟨a, c, p3, out, dn, aw'⟩ := x
    obtain ⟨hV, hp1, hp2, ho⟩ := hx
    have hp1 : dn.Perm (spOf (qs.map cpyQ)) := hp1
    have hp2 : aw'.Perm (ts.filter (·.awake)) := hp2
    have hL : compactL (sortF out) = fs (docL ds cs ts v.q) := by
      have ho : out = _ := ho
      rw [ho, ← all_same hqs hp1 hp2, hq]
    have hV : View w0 [p3] 2 a (rows Fnd.cells (compactL (sortF out))) (compactL (sortF out)).length c := hV
    show EH _ _ _ _ _ _ _ _ (S w0 (p3 :: p2 :: cells b1 T_ref21_V (Hd.cells v) :: l))
    simp only [hL] at hV ⊢
    refine eh_way 4 (by kernel_rfl) (hway rfl rfl (eo_callx rfl rfl rfl rfl rfl real_ref21_Check (Check_ref (i := i + 3) htag hi hv2) fun r4 _ => ⟨held (.cons 3 rfl .nil), ?_⟩))
    refine eh_way 5 (by kernel_rfl) (hway rfl rfl (eo_call1 rfl rfl rfl rfl rfl real_law21_is (is_any (i := 1) rfl hV (j := 0) rfl) ⟨held (.cons 3 rfl .nil), ?_⟩))
    refine eh_val 16 (u := .bool true) rfl (by simp) ?_
    refine eh_take 6 (held (.cons 3 rfl .nil)) rfl (by kernel_rfl) (by kernel_rfl) (by kernel_rfl) rfl rfl rfl rfl ?_
    refine eh_way 7 (by kernel_rfl) (hway rfl rfl (eo_callx rfl rfl rfl rfl rfl real_audit_Names Names_any fun bn _ => ⟨held (.cons 3 rfl .nil), ?_⟩))
    refine eh_load 8 (held (.cons 3 rfl .nil)) rfl (by kernel_rfl) (by kernel_rfl) (by kernel_rfl) rfl rfl rfl (er_lenv rfl rfl rfl rfl) ?_
    refine eh_take 9 (held (.cons 3 rfl .nil)) rfl (by kernel_rfl) (by kernel_rfl) (by kernel_rfl) rfl rfl rfl rfl ?_
    refine eh_take 10 (held (.cons 3 rfl .nil)) rfl (by kernel_rfl) (by kernel_rfl) (by kernel_rfl) rfl rfl rfl rfl ?_
    refine eh_take 11 (held (.cons 3 rfl .nil)) rfl (by kernel_rfl) (by kernel_rfl) (by kernel_rfl) rfl rfl rfl rfl ?_
    refine eh_done (by kernel_rfl) ?_
    (repeat (first | refine el_pure rfl rfl rfl rfl ?_ | refine ej_seq ?_ | refine ej_region ?_ | refine el_nil ?_ | refine eq_seq ?_ | refine eq_calm ?_ | refine ej_true rfl ?_ | refine ej_false rfl ?_ | refine el_skip rfl rfl rfl ?_ | refine ej_ret ?_ | refine ej_skip ?_ | refine ej_exit ?_ | refine ej_block ?_ | refine eq_seq_ret ?_ | refine eq_seq_exit ?_ | refine eq_block ?_ | refine eq_block_exit ?_ | refine eq_block_ret ?_ | refine eq_block_exit_ne rfl ?_ | refine eq_back_ret ?_ | refine eq_back_exit ?_))
    exact eq_rett rfl fun w hw => ⟨rfl, hw.drop 4⟩

set_option maxHeartbeats 6400000 in
theorem AuditOrders_any {v : Hd} {ds : List Dm} {cs : List Cr} {ts : List Th} (hr : ∀ t ∈ ts, t.tag ≤ 9223372036854775807) (hi : l[i]? = some p) (hv : DoL w0 p v ds cs ts) :
    Does cx F_law21_AuditOrders [v.val] (S w0 l) fun u w => u = .bool true ∧ S w0 l w := by
  refine fn_enter (n := N_law21_AuditOrders) fn_law21_AuditOrders rfl rfl rfl ?_
  refine ej_seq (ej_region (el_cons rfl (eo_box rfl rfl rfl rfl fun b1 => ?_)))
  (repeat (first | refine el_pure rfl rfl rfl rfl ?_ | refine ej_seq ?_ | refine ej_region ?_ | refine el_nil ?_ | refine eq_seq ?_ | refine eq_calm ?_ | refine ej_true rfl ?_ | refine ej_false rfl ?_ | refine el_skip rfl rfl rfl ?_ | refine ej_ret ?_ | refine ej_skip ?_ | refine ej_exit ?_ | refine ej_block ?_ | refine eq_seq_ret ?_ | refine eq_seq_exit ?_ | refine eq_block ?_ | refine eq_block_exit ?_ | refine eq_block_ret ?_ | refine eq_block_exit_ne rfl ?_ | refine eq_back_ret ?_ | refine eq_back_exit ?_))
  refine el_cons rfl (eo_call1 rfl rfl rfl rfl rfl real_law21_awake awake_any ?_)
  (repeat (first | refine el_pure rfl rfl rfl rfl ?_ | refine ej_seq ?_ | refine ej_region ?_ | refine el_nil ?_ | refine eq_seq ?_ | refine eq_calm ?_ | refine ej_true rfl ?_ | refine ej_false rfl ?_ | refine el_skip rfl rfl rfl ?_ | refine ej_ret ?_ | refine ej_skip ?_ | refine ej_exit ?_ | refine ej_block ?_ | refine eq_seq_ret ?_ | refine eq_seq_exit ?_ | refine eq_block ?_ | refine eq_block_exit ?_ | refine eq_block_ret ?_ | refine eq_block_exit_ne rfl ?_ | refine eq_back_ret ?_ | refine eq_back_exit ?_))
  refine el_cons rfl (eo_ldW 0 rfl rfl rfl rfl rfl rfl rfl rfl ?_)
  refine el_cons rfl (eo_callx rfl rfl rfl rfl rfl real_law21_small (small_ref (i := i + 1) hi hv) fun b hb => ?_)
  cases b with
  | false =>
    (repeat (first | refine el_pure rfl rfl rfl rfl ?_ | refine ej_seq ?_ | refine ej_region ?_ | refine el_nil ?_ | refine eq_seq ?_ | refine eq_calm ?_ | refine ej_true rfl ?_ | refine ej_false rfl ?_ | refine el_skip rfl rfl rfl ?_ | refine ej_ret ?_ | refine ej_skip ?_ | refine ej_exit ?_ | refine ej_block ?_ | refine eq_seq_ret ?_ | refine eq_seq_exit ?_ | refine eq_block ?_ | refine eq_block_exit ?_ | refine eq_block_ret ?_ | refine eq_block_exit_ne rfl ?_ | refine eq_back_ret ?_ | refine eq_back_exit ?_))
    refine el_cons rfl (eo_call1 rfl rfl rfl rfl rfl real_law21_awake awake_any ?_)
    (repeat (first | refine el_pure rfl rfl rfl rfl ?_ | refine ej_seq ?_ | refine ej_region ?_ | refine el_nil ?_ | refine eq_seq ?_ | refine eq_calm ?_ | refine ej_true rfl ?_ | refine ej_false rfl ?_ | refine el_skip rfl rfl rfl ?_ | refine ej_ret ?_ | refine ej_skip ?_ | refine ej_exit ?_ | refine ej_block ?_ | refine eq_seq_ret ?_ | refine eq_seq_exit ?_ | refine eq_block ?_ | refine eq_block_exit ?_ | refine eq_block_ret ?_ | refine eq_block_exit_ne rfl ?_ | refine eq_back_ret ?_ | refine eq_back_exit ?_))
    exact eq_rett rfl fun w hw => ⟨rfl, hw.erase 0⟩
  | true =>
    have hs := hb rfl
    have hv2 := doV_of hv hs
    have htag : ∀ t ∈ ts, 0 ≤ t.tag ∧ t.tag ≤ 9223372036854775807 := fun t ht => ⟨hs.tags t ht, hr t ht⟩
    (repeat (first | refine el_pure rfl rfl rfl rfl ?_ | refine ej_seq ?_ | refine ej_region ?_ | refine el_nil ?_ | refine eq_seq ?_ | refine eq_calm ?_ | refine ej_true rfl ?_ | refine ej_false rfl ?_ | refine el_skip rfl rfl rfl ?_ | refine ej_ret ?_ | refine ej_skip ?_ | refine ej_exit ?_ | refine ej_block ?_ | refine eq_seq_ret ?_ | refine eq_seq_exit ?_ | refine eq_block ?_ | refine eq_block_exit ?_ | refine eq_block_ret ?_ | refine eq_block_exit_ne rfl ?_ | refine eq_back_ret ?_ | refine eq_back_exit ?_))
    refine el_cons rfl (eo_ldW 0 rfl rfl rfl rfl rfl rfl rfl rfl ?_)
    refine el_cons rfl (eo_callx rfl rfl rfl rfl rfl real_law21_Real (Real_any (i := i + 1) hi hv2) fun x hx => ?_)
    obtain ⟨v2, qs, p2⟩ := x
    obtain ⟨hA, hq, hqs⟩ := hx
    have hA : AuV w0 p2 v2 ds (qs.map cpyQ) ts := hA
    have hq : v2.q = v.q := hq
    have hqs : qs.map (·.1) = cs := hqs
    refine el_cons rfl (eo_callx rfl rfl rfl rfl rfl real_audit_Check (Check_any (i := 0) htag hs.nodup rfl hA) fun x hx => ?_)
    obtain ⟨a, c, p3, out, dn, aw'⟩ := x
    obtain ⟨hV, hp1, hp2, ho⟩ := hx
    have hp1 : dn.Perm (spOf (qs.map cpyQ)) := hp1
    have hp2 : aw'.Perm (ts.filter (·.awake)) := hp2
    have hL : compactL (sortF out) = fs (docL ds cs ts v.q) := by
      have ho : out = _ := ho
      rw [ho, ← all_same hqs hp1 hp2, hq]
    have hV : View w0 [p3] 2 a (rows Fnd.cells (compactL (sortF out))) (compactL (sortF out)).length c := hV
    refine el_imp (H' := S w0 (p3 :: l)) (fun w hw => ((show S w0 (p3 :: p2 :: cells b1 T_ref21_V (Hd.cells v) :: l) w from hw).erase 1).erase 1) ?_
    simp only [hL] at hV ⊢
    have hkind : ∀ y ∈ fs (docL ds cs ts v.q), InK y := fun y hy => doc_kind ds cs ts v.q y ((fs_mem _ _).1 hy)
    have hlt := fs_lt (docL ds cs ts v.q)
    generalize fs (docL ds cs ts v.q) = L at *
    refine el_know ((hV.one (i := 0) rfl).know) fun hk => ?_
    have hml : L.length ≤ 9223372036854775807 := Nat.le_trans hk.1.1 hk.1.2
    have haddr := hk.2
    rw [rows_length _ 2 fnd2] at haddr
    (repeat (first | refine el_pure rfl rfl rfl rfl ?_ | refine ej_seq ?_ | refine ej_region ?_ | refine el_nil ?_ | refine eq_seq ?_ | refine eq_calm ?_ | refine ej_true rfl ?_ | refine ej_false rfl ?_ | refine el_skip rfl rfl rfl ?_ | refine ej_ret ?_ | refine ej_skip ?_ | refine ej_exit ?_ | refine ej_block ?_ | refine eq_seq_ret ?_ | refine eq_seq_exit ?_ | refine eq_block ?_ | refine eq_block_exit ?_ | refine eq_block_ret ?_ | refine eq_block_exit_ne rfl ?_ | refine eq_back_ret ?_ | refine eq_back_exit ?_ | refine el_cons rfl (eo_lenv rfl rfl rfl rfl rfl rfl ?_) | refine el_cons rfl (eo_arith rfl rfl rfl rfl rfl rfl ⟨by omega, by omega⟩ ?_)))
    refine ej_loopP (fun k : Nat => k ≤ L.length) (fun k => [(2, .bool false), (3, .slice a L.length c), (17, .slice a L.length c), (18, int L.length), (19, int k)]) (fun _ => S w0 (p3 :: l)) (fun k => L.length - k) 0 (Nat.zero_le _) (le_of _ _ rfl) (fun w hw => hw) ?_
    intro k hk
    (repeat (first | refine el_pure rfl rfl rfl rfl ?_ | refine ej_seq ?_ | refine ej_region ?_ | refine el_nil ?_ | refine eq_seq ?_ | refine eq_calm ?_ | refine ej_true rfl ?_ | refine ej_false rfl ?_ | refine el_skip rfl rfl rfl ?_ | refine ej_ret ?_ | refine ej_skip ?_ | refine ej_exit ?_ | refine ej_block ?_ | refine eq_seq_ret ?_ | refine eq_seq_exit ?_ | refine eq_block ?_ | refine eq_block_exit ?_ | refine eq_block_ret ?_ | refine eq_block_exit_ne rfl ?_ | refine eq_back_ret ?_ | refine eq_back_exit ?_))
    refine ej_dec rfl (fun hlt2 => ?_) (fun hlt2 => ?_)
    · have hlt' : k < L.length := by omega
      have hx : L[k]? = some L[k] := by simp [hlt']
      have hkx := hkind _ (List.getElem_mem hlt')
      have hprev : ∀ m, k = m + 1 → ∀ y, L[m]? = some y → ltB y L[k] = true := by
        intro m hm y hy
        obtain ⟨h1, h2⟩ := List.getElem?_eq_some_iff.1 hy
        have := List.pairwise_iff_getElem.1 hlt m k h1 hlt' (by omega)
        rw [h2] at this
        exact this
      have haddr := haddr (by omega)
      generalize L[k] = x at *
      have hgx : ∀ q, q < 2 → (rows Fnd.cells L)[k * 2 + q]? = x.cells[q]? := fun q hq => rows_get Fnd.cells 2 fnd2 L k q x hx hq
      obtain ⟨xk, xn⟩ := x
      have hk1 : 1 ≤ xk := hkx.1
      have hk11 : xk ≤ 11 := hkx.2
      (repeat (first | refine el_pure rfl rfl rfl rfl ?_ | refine ej_seq ?_ | refine ej_region ?_ | refine el_nil ?_ | refine eq_seq ?_ | refine eq_calm ?_ | refine ej_true rfl ?_ | refine ej_false rfl ?_ | refine el_skip rfl rfl rfl ?_ | refine ej_ret ?_ | refine ej_skip ?_ | refine ej_exit ?_ | refine ej_block ?_ | refine eq_seq_ret ?_ | refine eq_seq_exit ?_ | refine eq_block ?_ | refine eq_block_exit ?_ | refine eq_block_ret ?_ | refine eq_block_exit_ne rfl ?_ | refine eq_back_ret ?_ | refine eq_back_exit ?_))
      refine el_cons rfl (eo_idxv rfl rfl rfl rfl rfl rfl rfl rfl rfl (hV.one (i := 0) rfl) ⟨by omega, hlt2⟩ ?_)
      refine el_cons rfl (eo_ldvA (k * 2) (cs := Fnd.cells ⟨xk, xn⟩) rfl rfl rfl (vaddr0 a k 2) rfl rfl (hV.one (i := 0) rfl) rfl hgx ?_)
      refine el_cons rfl (eo_alloc rfl rfl rfl rfl fun b5 => ?_)
      (repeat (first | refine el_pure rfl rfl rfl rfl ?_ | refine ej_seq ?_ | refine ej_region ?_ | refine el_nil ?_ | refine eq_seq ?_ | refine eq_calm ?_ | refine ej_true rfl ?_ | refine ej_false rfl ?_ | refine el_skip rfl rfl rfl ?_ | refine ej_ret ?_ | refine ej_skip ?_ | refine ej_exit ?_ | refine ej_block ?_ | refine eq_seq_ret ?_ | refine eq_seq_exit ?_ | refine eq_block ?_ | refine eq_block_exit ?_ | refine eq_block_ret ?_ | refine eq_block_exit_ne rfl ?_ | refine eq_back_ret ?_ | refine eq_back_exit ?_))
      refine el_cons rfl (eo_stA 0 rfl rfl rfl rfl rfl rfl rfl rfl rfl ?_)
      (repeat (first | refine el_pure rfl rfl rfl rfl ?_ | refine ej_seq ?_ | refine ej_region ?_ | refine el_nil ?_ | refine eq_seq ?_ | refine eq_calm ?_ | refine ej_true rfl ?_ | refine ej_false rfl ?_ | refine el_skip rfl rfl rfl ?_ | refine ej_ret ?_ | refine ej_skip ?_ | refine ej_exit ?_ | refine ej_block ?_ | refine eq_seq_ret ?_ | refine eq_seq_exit ?_ | refine eq_block ?_ | refine eq_block_exit ?_ | refine eq_block_ret ?_ | refine eq_block_exit_ne rfl ?_ | refine eq_back_ret ?_ | refine eq_back_exit ?_))
      refine ej_held [cells b5 T_audit_Finding (Fnd.cells ⟨xk, xn⟩)] ?_
      refine eh_take 0 (held (.cons 0 rfl .nil)) rfl (by kernel_rfl) (by kernel_rfl) (by kernel_rfl) rfl rfl rfl rfl ?_
      refine eh_load 1 (held (.cons 0 rfl .nil)) rfl (by kernel_rfl) (by kernel_rfl) (by kernel_rfl) rfl rfl rfl (er_ld 0 rfl rfl rfl rfl rfl rfl) ?_
      refine eh_take 2 (held (.cons 0 rfl .nil)) rfl (by kernel_rfl) (by kernel_rfl) (by kernel_rfl) rfl rfl rfl rfl ?_
      refine eh_val 26 (u := .bool false) rfl (by rw [decide_eq_false (by omega)]) ?_
      refine eh_take 3 (held (.cons 0 rfl .nil)) rfl (by kernel_rfl) (by kernel_rfl) (by kernel_rfl) rfl rfl rfl rfl ?_
      refine eh_take 4 (held (.cons 0 rfl .nil)) rfl (by kernel_rfl) (by kernel_rfl) (by kernel_rfl) rfl rfl rfl rfl ?_
      refine eh_load 5 (held (.cons 0 rfl .nil)) rfl (by kernel_rfl) (by kernel_rfl) (by kernel_rfl) rfl rfl rfl (er_ld 0 rfl rfl rfl rfl rfl rfl) ?_
      refine eh_way 6 (by kernel_rfl) (hway rfl rfl (eo_callx rfl rfl rfl rfl rfl real_audit_Names Names_any fun bn _ => ⟨held (.cons 0 rfl .nil), ?_⟩))
      refine eh_load 7 (held (.cons 0 rfl .nil)) rfl (by kernel_rfl) (by kernel_rfl) (by kernel_rfl) rfl rfl rfl (er_lenv rfl rfl rfl rfl) ?_
      refine eh_take 8 (held (.cons 0 rfl .nil)) rfl (by kernel_rfl) (by kernel_rfl) (by kernel_rfl) rfl rfl rfl rfl ?_
      refine eh_val 32 (u := .bool false) rfl (by congr 1; exact decide_eq_false (by omega)) ?_
      refine eh_take 9 (held (.cons 0 rfl .nil)) rfl (by kernel_rfl) (by kernel_rfl) (by kernel_rfl) rfl rfl rfl rfl ?_
      refine eh_done (by kernel_rfl) ?_
      (repeat (first | refine el_pure rfl rfl rfl rfl ?_ | refine ej_seq ?_ | refine ej_region ?_ | refine el_nil ?_ | refine eq_seq ?_ | refine eq_calm ?_ | refine ej_true rfl ?_ | refine ej_false rfl ?_ | refine el_skip rfl rfl rfl ?_ | refine ej_ret ?_ | refine ej_skip ?_ | refine ej_exit ?_ | refine ej_block ?_ | refine eq_seq_ret ?_ | refine eq_seq_exit ?_ | refine eq_block ?_ | refine eq_block_exit ?_ | refine eq_block_ret ?_ | refine eq_block_exit_ne rfl ?_ | refine eq_back_ret ?_ | refine eq_back_exit ?_))
      refine ej_held [cells b5 T_audit_Finding (Fnd.cells ⟨xk, xn⟩), p3] ?_
      refine eh_cont (fun _ : Unit => [(2, .bool false), (3, .slice a L.length c), (17, .slice a L.length c), (18, int L.length), (19, int k), (68, .bool false)]) (fun _ => S w0 (p3 :: l)) (fun cont => ?_) (fun _ => ?_)
      · cases k with
        | zero =>
          refine eh_take 0 (held (.cons 0 rfl (.cons 1 rfl .nil))) rfl (by kernel_rfl) (by kernel_rfl) (by kernel_rfl) rfl rfl rfl rfl ?_
          refine eh_take 1 (held (.cons 0 rfl (.cons 1 rfl .nil))) rfl (by kernel_rfl) (by kernel_rfl) (by kernel_rfl) rfl rfl rfl rfl ?_
          refine eh_val 35 (u := .bool false) rfl rfl ?_
          refine eh_take 2 (held (.cons 0 rfl (.cons 1 rfl .nil))) rfl (by kernel_rfl) (by kernel_rfl) (by kernel_rfl) rfl rfl rfl rfl ?_
          refine eh_skip 3 (held (.cons 0 rfl (.cons 1 rfl .nil))) rfl (by kernel_rfl) (by kernel_rfl) (by kernel_rfl) rfl rfl rfl ?_
          refine eh_skip 4 (held (.cons 0 rfl (.cons 1 rfl .nil))) rfl (by kernel_rfl) (by kernel_rfl) (by kernel_rfl) rfl rfl rfl ?_
          refine eh_skip 5 (held (.cons 0 rfl (.cons 1 rfl .nil))) rfl (by kernel_rfl) (by kernel_rfl) (by kernel_rfl) rfl rfl rfl ?_
          refine eh_skip 6 (held (.cons 0 rfl (.cons 1 rfl .nil))) rfl (by kernel_rfl) (by kernel_rfl) (by kernel_rfl) rfl rfl rfl ?_
          refine eh_skip 7 (held (.cons 0 rfl (.cons 1 rfl .nil))) rfl (by kernel_rfl) (by kernel_rfl) (by kernel_rfl) rfl rfl rfl ?_
          refine eh_skip 8 (held (.cons 0 rfl (.cons 1 rfl .nil))) rfl (by kernel_rfl) (by kernel_rfl) (by kernel_rfl) rfl rfl rfl ?_
          refine eh_skip 9 (held (.cons 0 rfl (.cons 1 rfl .nil))) rfl (by kernel_rfl) (by kernel_rfl) (by kernel_rfl) rfl rfl rfl ?_
          refine eh_skip 10 (held (.cons 0 rfl (.cons 1 rfl .nil))) rfl (by kernel_rfl) (by kernel_rfl) (by kernel_rfl) rfl rfl rfl ?_
          refine eh_skip 11 (held (.cons 0 rfl (.cons 1 rfl .nil))) rfl (by kernel_rfl) (by kernel_rfl) (by kernel_rfl) rfl rfl rfl ?_
          refine eh_skip 12 (held (.cons 0 rfl (.cons 1 rfl .nil))) rfl (by kernel_rfl) (by kernel_rfl) (by kernel_rfl) rfl rfl rfl ?_
          refine eh_skip 13 (held (.cons 0 rfl (.cons 1 rfl .nil))) rfl (by kernel_rfl) (by kernel_rfl) (by kernel_rfl) rfl rfl rfl ?_
          refine eh_skip 14 (held (.cons 0 rfl (.cons 1 rfl .nil))) rfl (by kernel_rfl) (by kernel_rfl) (by kernel_rfl) rfl rfl rfl ?_
          refine eh_skip 15 (held (.cons 0 rfl (.cons 1 rfl .nil))) rfl (by kernel_rfl) (by kernel_rfl) (by kernel_rfl) rfl rfl rfl ?_
          refine eh_skip 16 (held (.cons 0 rfl (.cons 1 rfl .nil))) rfl (by kernel_rfl) (by kernel_rfl) (by kernel_rfl) rfl rfl rfl ?_
          refine eh_skip 17 (held (.cons 0 rfl (.cons 1 rfl .nil))) rfl (by kernel_rfl) (by kernel_rfl) (by kernel_rfl) rfl rfl rfl ?_
          refine eh_skip 18 (held (.cons 0 rfl (.cons 1 rfl .nil))) rfl (by kernel_rfl) (by kernel_rfl) (by kernel_rfl) rfl rfl rfl ?_
          refine eh_skip 19 (held (.cons 0 rfl (.cons 1 rfl .nil))) rfl (by kernel_rfl) (by kernel_rfl) (by kernel_rfl) rfl rfl rfl ?_
          refine eh_skip 20 (held (.cons 0 rfl (.cons 1 rfl .nil))) rfl (by kernel_rfl) (by kernel_rfl) (by kernel_rfl) rfl rfl rfl ?_
          refine eh_skip 21 (held (.cons 0 rfl (.cons 1 rfl .nil))) rfl (by kernel_rfl) (by kernel_rfl) (by kernel_rfl) rfl rfl rfl ?_
          refine eh_skip 22 (held (.cons 0 rfl (.cons 1 rfl .nil))) rfl (by kernel_rfl) (by kernel_rfl) (by kernel_rfl) rfl rfl rfl ?_
          refine eh_skip 23 (held (.cons 0 rfl (.cons 1 rfl .nil))) rfl (by kernel_rfl) (by kernel_rfl) (by kernel_rfl) rfl rfl rfl ?_
          refine eh_skip 24 (held (.cons 0 rfl (.cons 1 rfl .nil))) rfl (by kernel_rfl) (by kernel_rfl) (by kernel_rfl) rfl rfl rfl ?_
          refine eh_skip 25 (held (.cons 0 rfl (.cons 1 rfl .nil))) rfl (by kernel_rfl) (by kernel_rfl) (by kernel_rfl) rfl rfl rfl ?_
          refine eh_skip 26 (held (.cons 0 rfl (.cons 1 rfl .nil))) rfl (by kernel_rfl) (by kernel_rfl) (by kernel_rfl) rfl rfl rfl ?_
          refine eh_skip 27 (held (.cons 0 rfl (.cons 1 rfl .nil))) rfl (by kernel_rfl) (by kernel_rfl) (by kernel_rfl) rfl rfl rfl ?_
          refine eh_skip 28 (held (.cons 0 rfl (.cons 1 rfl .nil))) rfl (by kernel_rfl) (by kernel_rfl) (by kernel_rfl) rfl rfl rfl ?_
          refine eh_skip 29 (held (.cons 0 rfl (.cons 1 rfl .nil))) rfl (by kernel_rfl) (by kernel_rfl) (by kernel_rfl) rfl rfl rfl ?_
          refine eh_skip 30 (held (.cons 0 rfl (.cons 1 rfl .nil))) rfl (by kernel_rfl) (by kernel_rfl) (by kernel_rfl) rfl rfl rfl ?_
          refine eh_skip 31 (held (.cons 0 rfl (.cons 1 rfl .nil))) rfl (by kernel_rfl) (by kernel_rfl) (by kernel_rfl) rfl rfl rfl ?_
          refine eh_skip 32 (held (.cons 0 rfl (.cons 1 rfl .nil))) rfl (by kernel_rfl) (by kernel_rfl) (by kernel_rfl) rfl rfl rfl ?_
          refine eh_skip 33 (held (.cons 0 rfl (.cons 1 rfl .nil))) rfl (by kernel_rfl) (by kernel_rfl) (by kernel_rfl) rfl rfl rfl ?_
          refine eh_take 34 (held (.cons 0 rfl (.cons 1 rfl .nil))) rfl (by kernel_rfl) (by kernel_rfl) (by kernel_rfl) rfl rfl rfl rfl ?_
          exact eh_done (by kernel_rfl) (eq_le (cont ()) (le_of _ _ rfl) fun w hw => hw.erase 0)
        | succ m =>
          have hm : m < L.length := by omega
          have hy : L[m]? = some L[m] := by simp [hm]
          have hyx := hprev m rfl _ hy
          generalize L[m] = y at *
          have hgy : ∀ q, q < 2 → (rows Fnd.cells L)[m * 2 + q]? = y.cells[q]? := fun q hq => rows_get Fnd.cells 2 fnd2 L m q y hy hq
          obtain ⟨yk, yn⟩ := y
          have hyx : yk < xk ∨ (yk = xk ∧ yn < xn) := (ltB_iff _ _).1 hyx
          refine eh_take 0 (held (.cons 0 rfl (.cons 1 rfl .nil))) rfl (by kernel_rfl) (by kernel_rfl) (by kernel_rfl) rfl rfl rfl rfl ?_
          refine eh_take 1 (held (.cons 0 rfl (.cons 1 rfl .nil))) rfl (by kernel_rfl) (by kernel_rfl) (by kernel_rfl) rfl rfl rfl rfl ?_
          refine eh_val 35 (u := .bool true) rfl (by congr 1; exact decide_eq_true (by omega)) ?_
          refine eh_take 2 (held (.cons 0 rfl (.cons 1 rfl .nil))) rfl (by kernel_rfl) (by kernel_rfl) (by kernel_rfl) rfl rfl rfl rfl ?_
          refine eh_take 3 (held (.cons 0 rfl (.cons 1 rfl .nil))) rfl (by kernel_rfl) (by kernel_rfl) (by kernel_rfl) rfl rfl rfl rfl ?_
          refine eh_take 4 (held (.cons 0 rfl (.cons 1 rfl .nil))) rfl (by kernel_rfl) (by kernel_rfl) (by kernel_rfl) rfl rfl rfl rfl ?_
          refine eh_load 5 (held (.cons 0 rfl (.cons 1 rfl .nil))) rfl (by kernel_rfl) (by kernel_rfl) (by kernel_rfl) rfl rfl rfl (er_arith rfl rfl rfl rfl ⟨by omega, by omega⟩) ?_
          refine eh_val 39 (u := int m) rfl (by congr 1; omega) ?_
          refine eh_load 6 (held (.cons 0 rfl (.cons 1 rfl .nil))) rfl (by kernel_rfl) (by kernel_rfl) (by kernel_rfl) rfl rfl rfl (er_idxv rfl rfl rfl rfl rfl rfl haddr ⟨by omega, by omega⟩) ?_
          refine eh_take 7 (held (.cons 0 rfl (.cons 1 rfl .nil))) rfl (by kernel_rfl) (by kernel_rfl) (by kernel_rfl) rfl rfl rfl rfl ?_
          refine eh_load 8 (held (.cons 0 rfl (.cons 1 rfl .nil))) rfl (by kernel_rfl) (by kernel_rfl) (by kernel_rfl) rfl rfl rfl (er_ldv 1 (q := m * 2 + 0) (v := int yk) rfl (vaddr a m 0 2) rfl rfl rfl hV (hgy 0 (by decide))) ?_
          refine eh_take 9 (held (.cons 0 rfl (.cons 1 rfl .nil))) rfl (by kernel_rfl) (by kernel_rfl) (by kernel_rfl) rfl rfl rfl rfl ?_
          refine eh_load 10 (held (.cons 0 rfl (.cons 1 rfl .nil))) rfl (by kernel_rfl) (by kernel_rfl) (by kernel_rfl) rfl rfl rfl (er_ld 0 rfl rfl rfl rfl rfl rfl) ?_
          refine eh_take 11 (held (.cons 0 rfl (.cons 1 rfl .nil))) rfl (by kernel_rfl) (by kernel_rfl) (by kernel_rfl) rfl rfl rfl rfl ?_
          refine eh_val 45 (u := .bool false) rfl (by congr 1; exact decide_eq_false (show ¬ (xk < yk) by omega)) ?_
          refine eh_take 12 (held (.cons 0 rfl (.cons 1 rfl .nil))) rfl (by kernel_rfl) (by kernel_rfl) (by kernel_rfl) rfl rfl rfl rfl ?_
          refine eh_take 13 (held (.cons 0 rfl (.cons 1 rfl .nil))) rfl (by kernel_rfl) (by kernel_rfl) (by kernel_rfl) rfl rfl rfl rfl ?_
          refine eh_take 14 (held (.cons 0 rfl (.cons 1 rfl .nil))) rfl (by kernel_rfl) (by kernel_rfl) (by kernel_rfl) rfl rfl rfl rfl ?_
          refine eh_load 15 (held (.cons 0 rfl (.cons 1 rfl .nil))) rfl (by kernel_rfl) (by kernel_rfl) (by kernel_rfl) rfl rfl rfl (er_arith rfl rfl rfl rfl ⟨by omega, by omega⟩) ?_
          refine eh_val 49 (u := int m) rfl (by congr 1; omega) ?_
          refine eh_load 16 (held (.cons 0 rfl (.cons 1 rfl .nil))) rfl (by kernel_rfl) (by kernel_rfl) (by kernel_rfl) rfl rfl rfl (er_idxv rfl rfl rfl rfl rfl rfl haddr ⟨by omega, by omega⟩) ?_
          refine eh_take 17 (held (.cons 0 rfl (.cons 1 rfl .nil))) rfl (by kernel_rfl) (by kernel_rfl) (by kernel_rfl) rfl rfl rfl rfl ?_
          refine eh_load 18 (held (.cons 0 rfl (.cons 1 rfl .nil))) rfl (by kernel_rfl) (by kernel_rfl) (by kernel_rfl) rfl rfl rfl (er_ldv 1 (q := m * 2 + 0) (v := int yk) rfl (vaddr a m 0 2) rfl rfl rfl hV (hgy 0 (by decide))) ?_
          refine eh_take 19 (held (.cons 0 rfl (.cons 1 rfl .nil))) rfl (by kernel_rfl) (by kernel_rfl) (by kernel_rfl) rfl rfl rfl rfl ?_
          refine eh_load 20 (held (.cons 0 rfl (.cons 1 rfl .nil))) rfl (by kernel_rfl) (by kernel_rfl) (by kernel_rfl) rfl rfl rfl (er_ld 0 rfl rfl rfl rfl rfl rfl) ?_
          refine eh_take 21 (held (.cons 0 rfl (.cons 1 rfl .nil))) rfl (by kernel_rfl) (by kernel_rfl) (by kernel_rfl) rfl rfl rfl rfl ?_
          by_cases he : yk = xk
          · refine eh_val 55 (u := .bool true) rfl (by congr 1; exact decide_eq_true he) ?_
            refine eh_take 22 (held (.cons 0 rfl (.cons 1 rfl .nil))) rfl (by kernel_rfl) (by kernel_rfl) (by kernel_rfl) rfl rfl rfl rfl ?_
            refine eh_take 23 (held (.cons 0 rfl (.cons 1 rfl .nil))) rfl (by kernel_rfl) (by kernel_rfl) (by kernel_rfl) rfl rfl rfl rfl ?_
            refine eh_take 24 (held (.cons 0 rfl (.cons 1 rfl .nil))) rfl (by kernel_rfl) (by kernel_rfl) (by kernel_rfl) rfl rfl rfl rfl ?_
            refine eh_load 25 (held (.cons 0 rfl (.cons 1 rfl .nil))) rfl (by kernel_rfl) (by kernel_rfl) (by kernel_rfl) rfl rfl rfl (er_arith rfl rfl rfl rfl ⟨by omega, by omega⟩) ?_
            refine eh_val 59 (u := int m) rfl (by congr 1; omega) ?_
            refine eh_load 26 (held (.cons 0 rfl (.cons 1 rfl .nil))) rfl (by kernel_rfl) (by kernel_rfl) (by kernel_rfl) rfl rfl rfl (er_idxv rfl rfl rfl rfl rfl rfl haddr ⟨by omega, by omega⟩) ?_
            refine eh_take 27 (held (.cons 0 rfl (.cons 1 rfl .nil))) rfl (by kernel_rfl) (by kernel_rfl) (by kernel_rfl) rfl rfl rfl rfl ?_
            refine eh_load 28 (held (.cons 0 rfl (.cons 1 rfl .nil))) rfl (by kernel_rfl) (by kernel_rfl) (by kernel_rfl) rfl rfl rfl (er_ldv 1 (q := m * 2 + 1) (v := int yn) rfl (vaddr a m 1 2) rfl rfl rfl hV (hgy 1 (by decide))) ?_
            refine eh_take 29 (held (.cons 0 rfl (.cons 1 rfl .nil))) rfl (by kernel_rfl) (by kernel_rfl) (by kernel_rfl) rfl rfl rfl rfl ?_
            refine eh_load 30 (held (.cons 0 rfl (.cons 1 rfl .nil))) rfl (by kernel_rfl) (by kernel_rfl) (by kernel_rfl) rfl rfl rfl (er_ld 0 rfl rfl rfl rfl rfl rfl) ?_
            refine eh_take 31 (held (.cons 0 rfl (.cons 1 rfl .nil))) rfl (by kernel_rfl) (by kernel_rfl) (by kernel_rfl) rfl rfl rfl rfl ?_
            refine eh_val 65 (u := .bool false) rfl (by congr 1; exact decide_eq_false (show ¬ (xn ≤ yn) by omega)) ?_
            refine eh_take 32 (held (.cons 0 rfl (.cons 1 rfl .nil))) rfl (by kernel_rfl) (by kernel_rfl) (by kernel_rfl) rfl rfl rfl rfl ?_
            refine eh_take 33 (held (.cons 0 rfl (.cons 1 rfl .nil))) rfl (by kernel_rfl) (by kernel_rfl) (by kernel_rfl) rfl rfl rfl rfl ?_
            refine eh_take 34 (held (.cons 0 rfl (.cons 1 rfl .nil))) rfl (by kernel_rfl) (by kernel_rfl) (by kernel_rfl) rfl rfl rfl rfl ?_
            exact eh_done (by kernel_rfl) (eq_le (cont ()) (le_of _ _ rfl) fun w hw => hw.erase 0)
          · refine eh_val 55 (u := .bool false) rfl (by congr 1; exact decide_eq_false he) ?_
            refine eh_take 22 (held (.cons 0 rfl (.cons 1 rfl .nil))) rfl (by kernel_rfl) (by kernel_rfl) (by kernel_rfl) rfl rfl rfl rfl ?_
            refine eh_skip 23 (held (.cons 0 rfl (.cons 1 rfl .nil))) rfl (by kernel_rfl) (by kernel_rfl) (by kernel_rfl) rfl rfl rfl ?_
            refine eh_skip 24 (held (.cons 0 rfl (.cons 1 rfl .nil))) rfl (by kernel_rfl) (by kernel_rfl) (by kernel_rfl) rfl rfl rfl ?_
            refine eh_skip 25 (held (.cons 0 rfl (.cons 1 rfl .nil))) rfl (by kernel_rfl) (by kernel_rfl) (by kernel_rfl) rfl rfl rfl ?_
            refine eh_skip 26 (held (.cons 0 rfl (.cons 1 rfl .nil))) rfl (by kernel_rfl) (by kernel_rfl) (by kernel_rfl) rfl rfl rfl ?_
            refine eh_skip 27 (held (.cons 0 rfl (.cons 1 rfl .nil))) rfl (by kernel_rfl) (by kernel_rfl) (by kernel_rfl) rfl rfl rfl ?_
            refine eh_skip 28 (held (.cons 0 rfl (.cons 1 rfl .nil))) rfl (by kernel_rfl) (by kernel_rfl) (by kernel_rfl) rfl rfl rfl ?_
            refine eh_skip 29 (held (.cons 0 rfl (.cons 1 rfl .nil))) rfl (by kernel_rfl) (by kernel_rfl) (by kernel_rfl) rfl rfl rfl ?_
            refine eh_skip 30 (held (.cons 0 rfl (.cons 1 rfl .nil))) rfl (by kernel_rfl) (by kernel_rfl) (by kernel_rfl) rfl rfl rfl ?_
            refine eh_skip 31 (held (.cons 0 rfl (.cons 1 rfl .nil))) rfl (by kernel_rfl) (by kernel_rfl) (by kernel_rfl) rfl rfl rfl ?_
            refine eh_take 32 (held (.cons 0 rfl (.cons 1 rfl .nil))) rfl (by kernel_rfl) (by kernel_rfl) (by kernel_rfl) rfl rfl rfl rfl ?_
            refine eh_take 33 (held (.cons 0 rfl (.cons 1 rfl .nil))) rfl (by kernel_rfl) (by kernel_rfl) (by kernel_rfl) rfl rfl rfl rfl ?_
            refine eh_take 34 (held (.cons 0 rfl (.cons 1 rfl .nil))) rfl (by kernel_rfl) (by kernel_rfl) (by kernel_rfl) rfl rfl rfl rfl ?_
            exact eh_done (by kernel_rfl) (eq_le (cont ()) (le_of _ _ rfl) fun w hw => hw.erase 0)
      (repeat (first | refine el_pure rfl rfl rfl rfl ?_ | refine ej_seq ?_ | refine ej_region ?_ | refine el_nil ?_ | refine eq_seq ?_ | refine eq_calm ?_ | refine ej_true rfl ?_ | refine ej_false rfl ?_ | refine el_skip rfl rfl rfl ?_ | refine ej_ret ?_ | refine ej_skip ?_ | refine ej_exit ?_ | refine ej_block ?_ | refine eq_seq_ret ?_ | refine eq_seq_exit ?_ | refine eq_block ?_ | refine eq_block_exit ?_ | refine eq_block_ret ?_ | refine eq_block_exit_ne rfl ?_ | refine eq_back_ret ?_ | refine eq_back_exit ?_ | refine el_cons rfl (eo_lenv rfl rfl rfl rfl rfl rfl ?_) | refine el_cons rfl (eo_arith rfl rfl rfl rfl rfl rfl ⟨by omega, by omega⟩ ?_)))
      exact eq_backP (k + 1) (by omega) (by omega) (le_of _ _ rfl) fun w hw => hw
    · (repeat (first | refine el_pure rfl rfl rfl rfl ?_ | refine ej_seq ?_ | refine ej_region ?_ | refine el_nil ?_ | refine eq_seq ?_ | refine eq_calm ?_ | refine ej_true rfl ?_ | refine ej_false rfl ?_ | refine el_skip rfl rfl rfl ?_ | refine ej_ret ?_ | refine ej_skip ?_ | refine ej_exit ?_ | refine ej_block ?_ | refine eq_seq_ret ?_ | refine eq_seq_exit ?_ | refine eq_block ?_ | refine eq_block_exit ?_ | refine eq_block_ret ?_ | refine eq_block_exit_ne rfl ?_ | refine eq_back_ret ?_ | refine eq_back_exit ?_))
      exact eq_rett rfl fun w hw => ⟨rfl, hw.erase 0⟩

end Go.Proofs.Ytkpbpjnabbfdiaa
