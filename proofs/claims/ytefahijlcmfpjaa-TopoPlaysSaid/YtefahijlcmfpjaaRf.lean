/- The program's topologies: a new one, a copy. -/
import Derived.Test.YtefahijlcmfpjaaRe
namespace Go.Proofs.Ytefahijlcmfpjaa
open Go Go.SE

variable {w0 : World} {l : List HP} {i j b : Nat} {r : Option (Nat × Nat)} {T : Topo}

theorem all_u64s (xs : List Nat) : (u64s xs).all one = true := by simp [u64s, one]

theorem Clone_any (xs : List Nat) (h0 : 0 < xs.length) (h8 : xs.length ≤ 8) (h : l[i]? = some (rowC r T_mask_Set 1 (u64s xs) xs.length)) :
    Does cx F_slices_Clone_mask_Set_mask_Set [sv r xs.length] (S w0 l) fun v w => ∃ r', v = sv r' xs.length ∧ True ∧ S w0 (rowC r' T_mask_Set 1 (u64s xs) xs.length :: l) w := by
  refine fn_enter (n := N_slices_Clone_mask_Set_mask_Set) fn_slices_Clone_mask_Set_mask_Set rfl rfl rfl ?_
  (repeat (first | refine el_pure rfl rfl rfl rfl ?_ | refine ej_seq ?_ | refine ej_region ?_ | refine el_nil ?_ | refine eq_seq ?_ | refine eq_calm ?_ | refine ej_true rfl ?_ | refine ej_false rfl ?_ | refine el_skip rfl rfl rfl ?_ | refine ej_ret ?_ | refine ej_skip ?_ | refine ej_exit ?_ | refine ej_block ?_ | refine eq_seq_ret ?_ | refine eq_seq_exit ?_ | refine eq_block ?_ | refine eq_block_exit ?_ | refine eq_block_ret ?_ | refine eq_block_exit_ne rfl ?_ | refine eq_back_ret ?_ | refine eq_back_exit ?_))
  cases r with
  | none => exact el_pre (φ := xs.length = 0) (fun w hw => ⟨(hw.row_nil h).2, hw⟩) (fun h => absurd h (by omega))
  | some gc =>
    obtain ⟨g, c⟩ := gc
    refine el_cons rfl (eo_snil rfl (.inl rfl) rfl rfl rfl rfl rfl rfl ?_)
    (repeat (first | refine el_pure rfl rfl rfl rfl ?_ | refine ej_seq ?_ | refine ej_region ?_ | refine el_nil ?_ | refine eq_seq ?_ | refine eq_calm ?_ | refine ej_true rfl ?_ | refine ej_false rfl ?_ | refine el_skip rfl rfl rfl ?_ | refine ej_ret ?_ | refine ej_skip ?_ | refine ej_exit ?_ | refine ej_block ?_ | refine eq_seq_ret ?_ | refine eq_seq_exit ?_ | refine eq_block ?_ | refine eq_block_exit ?_ | refine eq_block_ret ?_ | refine eq_block_exit_ne rfl ?_ | refine eq_back_ret ?_ | refine eq_back_exit ?_))
    refine el_cons rfl (eo_buildS rfl rfl rfl rfl rfl rfl rfl rfl rfl rfl fun b' => ?_)
    refine el_imp (H' := S w0 (rowC (some (b', 0)) T_mask_Set 1 [] 0 :: l)) (fun w hw => hw.imp (i := 0) rfl (fun h hp => row_of_cells rfl (by decide) hp)) ?_
    (repeat (first | refine el_pure rfl rfl rfl rfl ?_ | refine ej_seq ?_ | refine ej_region ?_ | refine el_nil ?_ | refine eq_seq ?_ | refine eq_calm ?_ | refine ej_true rfl ?_ | refine ej_false rfl ?_ | refine el_skip rfl rfl rfl ?_ | refine ej_ret ?_ | refine ej_skip ?_ | refine ej_exit ?_ | refine ej_block ?_ | refine eq_seq_ret ?_ | refine eq_seq_exit ?_ | refine eq_block ?_ | refine eq_block_exit ?_ | refine eq_block_ret ?_ | refine eq_block_exit_ne rfl ?_ | refine eq_back_ret ?_ | refine eq_back_exit ?_))
    refine el_cons rfl (eo_append 0 (r := some (b', 0)) (n' := 0) (u64s xs) rfl rfl rfl rfl rfl rfl rfl rfl rfl rfl (by simp) ?_ (all_u64s _) h0 ?_ ?_ fun r' => ?_)
    · intro w hw j u hu
      have := hw.row_cell (i := i + 1) h hu
      rw [addr_add, Nat.zero_add]; exact this
    · show (0 + xs.length) * 8 ≤ _; omega
    · simp only [maxLen]; omega
    (repeat (first | refine el_pure rfl rfl rfl rfl ?_ | refine ej_seq ?_ | refine ej_region ?_ | refine el_nil ?_ | refine eq_seq ?_ | refine eq_calm ?_ | refine ej_true rfl ?_ | refine ej_false rfl ?_ | refine el_skip rfl rfl rfl ?_ | refine ej_ret ?_ | refine ej_skip ?_ | refine ej_exit ?_ | refine ej_block ?_ | refine eq_seq_ret ?_ | refine eq_seq_exit ?_ | refine eq_block ?_ | refine eq_block_exit ?_ | refine eq_block_ret ?_ | refine eq_block_exit_ne rfl ?_ | refine eq_back_ret ?_ | refine eq_back_exit ?_))
    refine eq_rett rfl fun w hw => ⟨r', ?_, trivial, ?_⟩
    · simp [pack]
    · simpa using hw

def orTo (xs : List Nat) : Nat → Nat
  | 0 => 0
  | k + 1 => orTo xs k ||| xs.getD k 0
theorem orTo_lt {xs : List Nat} (h : ∀ m ∈ xs, m < 18446744073709551616) : ∀ k, orTo xs k < 18446744073709551616
  | 0 => by show 0 < 18446744073709551616; decide
  | k + 1 => by
    refine Nat.or_lt_two_pow (n := 64) (orTo_lt h k) ?_
    rw [List.getD_eq_getElem?_getD]
    cases hk : xs[k]? with
    | none => decide
    | some m => exact h _ (List.mem_of_getElem? hk)
def badM (xs : List Nat) (k : Nat) : Prop := xs.getD k 0 = 0 ∨ xs.getD k 0 &&& orTo xs k ≠ 0
open Classical in
noncomputable def topoE (xs : List Nat) : Int := if xs.length = 0 ∨ 8 < xs.length then 14 else if ∃ k, k < xs.length ∧ badM xs k then 8 else 0
def topoT (xs : List Nat) : Topo := ⟨xs, orTo xs xs.length⟩
theorem topoT_ok {xs : List Nat} (h : ∀ m ∈ xs, m < 18446744073709551616) (h8 : xs.length ≤ 8) : (topoT xs).Ok := ⟨h, orTo_lt h _, h8⟩

/-- a topology, laid anew -/
abbrev laid (b : Nat) (r : Option (Nat × Nat)) (T : Topo) (l : List HP) : List HP := cells b T_topo_Topo [sv r T.doms.length, u64 T.on] :: rowC r T_mask_Set 1 (u64s T.doms) T.doms.length :: l
theorem At.laid (b : Nat) (r : Option (Nat × Nat)) (T : Topo) (l : List HP) : At (laid b r T l) 0 1 b r T := ⟨rfl, rfl⟩

def NewR (w0 : World) (l : List HP) (xs : List Nat) (v : Value) (w : World) : Prop :=
  (topoE xs = 0 ∧ ∃ b r', v = .tuple #[ptr b, int 0] ∧ S w0 (laid b r' (topoT xs) l) w) ∨ (topoE xs ≠ 0 ∧ v = .tuple #[.pointer none, int (topoE xs)] ∧ S w0 l w)

set_option maxHeartbeats 800000 in
theorem NewT_any (xs : List Nat) (hm : ∀ m ∈ xs, m < 18446744073709551616) (h : l[i]? = some (rowC r T_mask_Set 1 (u64s xs) xs.length)) (hn : xs.length ≤ 1000) :
    Does cx F_topo_New [sv r xs.length] (S w0 l) (NewR w0 l xs) := by
  refine fn_enter (n := N_topo_New) fn_topo_New rfl rfl rfl ?_
  (repeat (first | refine el_pure rfl rfl rfl rfl ?_ | refine ej_seq ?_ | refine ej_region ?_ | refine el_nil ?_ | refine eq_seq ?_ | refine eq_calm ?_ | refine ej_true rfl ?_ | refine ej_false rfl ?_ | refine el_skip rfl rfl rfl ?_ | refine ej_ret ?_ | refine ej_skip ?_ | refine ej_exit ?_ | refine ej_block ?_ | refine eq_seq_ret ?_ | refine eq_seq_exit ?_ | refine eq_block ?_ | refine eq_block_exit ?_ | refine eq_block_ret ?_ | refine eq_block_exit_ne rfl ?_ | refine eq_back_ret ?_ | refine eq_back_exit ?_ | refine el_cons rfl (eo_lenv rfl rfl rfl rfl rfl rfl ?_) | refine el_cons rfl (eo_arith rfl rfl rfl rfl rfl rfl ⟨by omega, by omega⟩ ?_)))
  have fail : ∀ e, e ≠ 0 → topoE xs = e → ∀ w, S w0 l w → NewR w0 l xs (.tuple #[.pointer none, int e]) w := fun e he h w hw => .inr ⟨by rw [h]; exact he, by rw [h], hw⟩
  by_cases h1 : xs.length = 0
  · refine el_val 10 (u := .bool true) rfl (by simp [h1]) ?_
    (repeat (first | refine el_pure rfl rfl rfl rfl ?_ | refine ej_seq ?_ | refine ej_region ?_ | refine el_nil ?_ | refine eq_seq ?_ | refine eq_calm ?_ | refine ej_true rfl ?_ | refine ej_false rfl ?_ | refine el_skip rfl rfl rfl ?_ | refine ej_ret ?_ | refine ej_skip ?_ | refine ej_exit ?_ | refine ej_block ?_ | refine eq_seq_ret ?_ | refine eq_seq_exit ?_ | refine eq_block ?_ | refine eq_block_exit ?_ | refine eq_block_ret ?_ | refine eq_block_exit_ne rfl ?_ | refine eq_back_ret ?_ | refine eq_back_exit ?_ | refine el_cons rfl (eo_lenv rfl rfl rfl rfl rfl rfl ?_) | refine el_cons rfl (eo_arith rfl rfl rfl rfl rfl rfl ⟨by omega, by omega⟩ ?_)))
    exact eq_rett rfl fun w hw => fail 14 (by decide) (by rw [topoE, if_pos (.inl h1)]) w hw
  refine el_val 10 (u := .bool false) rfl (by rw [decide_eq_false (by omega)]) ?_
  (repeat (first | refine el_pure rfl rfl rfl rfl ?_ | refine ej_seq ?_ | refine ej_region ?_ | refine el_nil ?_ | refine eq_seq ?_ | refine eq_calm ?_ | refine ej_true rfl ?_ | refine ej_false rfl ?_ | refine el_skip rfl rfl rfl ?_ | refine ej_ret ?_ | refine ej_skip ?_ | refine ej_exit ?_ | refine ej_block ?_ | refine eq_seq_ret ?_ | refine eq_seq_exit ?_ | refine eq_block ?_ | refine eq_block_exit ?_ | refine eq_block_ret ?_ | refine eq_block_exit_ne rfl ?_ | refine eq_back_ret ?_ | refine eq_back_exit ?_ | refine el_cons rfl (eo_lenv rfl rfl rfl rfl rfl rfl ?_) | refine el_cons rfl (eo_arith rfl rfl rfl rfl rfl rfl ⟨by omega, by omega⟩ ?_)))
  refine ej_dec rfl (fun h2 => ?_) (fun h2 => ?_)
  · (repeat (first | refine el_pure rfl rfl rfl rfl ?_ | refine ej_seq ?_ | refine ej_region ?_ | refine el_nil ?_ | refine eq_seq ?_ | refine eq_calm ?_ | refine ej_true rfl ?_ | refine ej_false rfl ?_ | refine el_skip rfl rfl rfl ?_ | refine ej_ret ?_ | refine ej_skip ?_ | refine ej_exit ?_ | refine ej_block ?_ | refine eq_seq_ret ?_ | refine eq_seq_exit ?_ | refine eq_block ?_ | refine eq_block_exit ?_ | refine eq_block_ret ?_ | refine eq_block_exit_ne rfl ?_ | refine eq_back_ret ?_ | refine eq_back_exit ?_ | refine el_cons rfl (eo_lenv rfl rfl rfl rfl rfl rfl ?_) | refine el_cons rfl (eo_arith rfl rfl rfl rfl rfl rfl ⟨by omega, by omega⟩ ?_)))
    exact eq_rett rfl fun w hw => fail 14 (by decide) (by rw [topoE, if_pos (.inr (by omega))]) w hw
  have hno : ¬ (xs.length = 0 ∨ 8 < xs.length) := by omega
  have bad : ∀ k, k < xs.length → badM xs k → topoE xs = 8 := fun k hk hb => by rw [topoE, if_neg hno, if_pos ⟨k, hk, hb⟩]
  (repeat (first | refine el_pure rfl rfl rfl rfl ?_ | refine ej_seq ?_ | refine ej_region ?_ | refine el_nil ?_ | refine eq_seq ?_ | refine eq_calm ?_ | refine ej_true rfl ?_ | refine ej_false rfl ?_ | refine el_skip rfl rfl rfl ?_ | refine ej_ret ?_ | refine ej_skip ?_ | refine ej_exit ?_ | refine ej_block ?_ | refine eq_seq_ret ?_ | refine eq_seq_exit ?_ | refine eq_block ?_ | refine eq_block_exit ?_ | refine eq_block_ret ?_ | refine eq_block_exit_ne rfl ?_ | refine eq_back_ret ?_ | refine eq_back_exit ?_ | refine el_cons rfl (eo_lenv rfl rfl rfl rfl rfl rfl ?_) | refine el_cons rfl (eo_arith rfl rfl rfl rfl rfl rfl ⟨by omega, by omega⟩ ?_)))
  refine el_cons rfl (eo_callx rfl rfl rfl rfl rfl real_slices_Clone_mask_Set_mask_Set (Clone_any xs (by omega) (by omega) h) fun r' _ => ?_)
  refine el_cons rfl (eo_build (cs := [sv r' xs.length, u64 0]) rfl rfl rfl rfl rfl rfl rfl rfl ?_)
  refine el_cons rfl (eo_box rfl rfl rfl rfl fun b' => ?_)
  (repeat (first | refine el_pure rfl rfl rfl rfl ?_ | refine ej_seq ?_ | refine ej_region ?_ | refine el_nil ?_ | refine eq_seq ?_ | refine eq_calm ?_ | refine ej_true rfl ?_ | refine ej_false rfl ?_ | refine el_skip rfl rfl rfl ?_ | refine ej_ret ?_ | refine ej_skip ?_ | refine ej_exit ?_ | refine ej_block ?_ | refine eq_seq_ret ?_ | refine eq_seq_exit ?_ | refine eq_block ?_ | refine eq_block_exit ?_ | refine eq_block_ret ?_ | refine eq_block_exit_ne rfl ?_ | refine eq_back_ret ?_ | refine eq_back_exit ?_ | refine el_cons rfl (eo_lenv rfl rfl rfl rfl rfl rfl ?_) | refine el_cons rfl (eo_arith rfl rfl rfl rfl rfl rfl ⟨by omega, by omega⟩ ?_)))
  refine ej_loopP (fun k : Nat => k ≤ xs.length ∧ ∀ k', k' < k → ¬ badM xs k') (fun k => [(0, sv r xs.length), (4, ptr b'), (19, sv r xs.length), (20, int xs.length), (21, int k)])
    (fun k => S w0 (cells b' T_topo_Topo [sv r' xs.length, u64 (orTo xs k)] :: rowC r' T_mask_Set 1 (u64s xs) xs.length :: l)) (fun k => xs.length - k) 0 ⟨by omega, fun _ h => absurd h (by omega)⟩ (le_of _ _ rfl) (fun w hw => hw) ?_
  intro k hk
  obtain ⟨hk, hgood⟩ := hk
  (repeat (first | refine el_pure rfl rfl rfl rfl ?_ | refine ej_seq ?_ | refine ej_region ?_ | refine el_nil ?_ | refine eq_seq ?_ | refine eq_calm ?_ | refine ej_true rfl ?_ | refine ej_false rfl ?_ | refine el_skip rfl rfl rfl ?_ | refine ej_ret ?_ | refine ej_skip ?_ | refine ej_exit ?_ | refine ej_block ?_ | refine eq_seq_ret ?_ | refine eq_seq_exit ?_ | refine eq_block ?_ | refine eq_block_exit ?_ | refine eq_block_ret ?_ | refine eq_block_exit_ne rfl ?_ | refine eq_back_ret ?_ | refine eq_back_exit ?_))
  refine ej_dec rfl (fun h3 => ?_) (fun h3 => ?_)
  · have hkl : k < xs.length := by omega
    have hb := bad k hkl
    have hor := orTo_lt hm k
    have e1 : orTo xs (k + 1) = orTo xs k ||| xs.getD k 0 := rfl
    have hx : xs[k]? = some (xs.getD k 0) := by simp [List.getD_eq_getElem?_getD, hkl]
    have hxm : xs.getD k 0 < 18446744073709551616 := hm _ (List.mem_of_getElem? hx)
    have hnext : ¬ badM xs k → ∀ k', k' < k + 1 → ¬ badM xs k' := fun h k' h' => by
      rcases Nat.lt_succ_iff_lt_or_eq.1 h' with h' | rfl
      · exact hgood k' h'
      · exact h
    have e2 : badM xs k ↔ xs.getD k 0 = 0 ∨ xs.getD k 0 &&& orTo xs k ≠ 0 := Iff.rfl
    generalize xs.getD k 0 = m at *
    generalize orTo xs k = s at *
    (repeat (first | refine el_pure rfl rfl rfl rfl ?_ | refine ej_seq ?_ | refine ej_region ?_ | refine el_nil ?_ | refine eq_seq ?_ | refine eq_calm ?_ | refine ej_true rfl ?_ | refine ej_false rfl ?_ | refine el_skip rfl rfl rfl ?_ | refine ej_ret ?_ | refine ej_skip ?_ | refine ej_exit ?_ | refine ej_block ?_ | refine eq_seq_ret ?_ | refine eq_seq_exit ?_ | refine eq_block ?_ | refine eq_block_exit ?_ | refine eq_block_ret ?_ | refine eq_block_exit_ne rfl ?_ | refine eq_back_ret ?_ | refine eq_back_exit ?_ | refine el_cons rfl (eo_lenv rfl rfl rfl rfl rfl rfl ?_) | refine el_cons rfl (eo_arith rfl rfl rfl rfl rfl rfl ⟨by omega, by omega⟩ ?_)))
    refine el_cons rfl (eo_idxr (i + 2) rfl rfl rfl rfl rfl rfl rfl rfl h ⟨by omega, h3⟩ ?_)
    refine el_cons rfl (eo_ldr (i + 2) rfl rfl rfl rfl rfl rfl h (v := u64 m) (by simp [hx]) ?_)
    (repeat (first | refine el_pure rfl rfl rfl rfl ?_ | refine ej_seq ?_ | refine ej_region ?_ | refine el_nil ?_ | refine eq_seq ?_ | refine eq_calm ?_ | refine ej_true rfl ?_ | refine ej_false rfl ?_ | refine el_skip rfl rfl rfl ?_ | refine ej_ret ?_ | refine ej_skip ?_ | refine ej_exit ?_ | refine ej_block ?_ | refine eq_seq_ret ?_ | refine eq_seq_exit ?_ | refine eq_block ?_ | refine eq_block_exit ?_ | refine eq_block_ret ?_ | refine eq_block_exit_ne rfl ?_ | refine eq_back_ret ?_ | refine eq_back_exit ?_ | refine el_cons rfl (eo_lenv rfl rfl rfl rfl rfl rfl ?_) | refine el_cons rfl (eo_arith rfl rfl rfl rfl rfl rfl ⟨by omega, by omega⟩ ?_)))
    refine el_gdec rfl rfl (fun h4 => ?_) (fun h4 => ?_)
    · (repeat (first | refine el_pure rfl rfl rfl rfl ?_ | refine ej_seq ?_ | refine ej_region ?_ | refine el_nil ?_ | refine eq_seq ?_ | refine eq_calm ?_ | refine ej_true rfl ?_ | refine ej_false rfl ?_ | refine el_skip rfl rfl rfl ?_ | refine ej_ret ?_ | refine ej_skip ?_ | refine ej_exit ?_ | refine ej_block ?_ | refine eq_seq_ret ?_ | refine eq_seq_exit ?_ | refine eq_block ?_ | refine eq_block_exit ?_ | refine eq_block_ret ?_ | refine eq_block_exit_ne rfl ?_ | refine eq_back_ret ?_ | refine eq_back_exit ?_ | refine el_cons rfl (eo_lenv rfl rfl rfl rfl rfl rfl ?_) | refine el_cons rfl (eo_arith rfl rfl rfl rfl rfl rfl ⟨by omega, by omega⟩ ?_)))
      exact eq_rett rfl fun w hw => fail 8 (by decide) (hb (e2.2 (.inl (by omega)))) w (hw.drop 2)
    · (repeat (first | refine el_pure rfl rfl rfl rfl ?_ | refine ej_seq ?_ | refine ej_region ?_ | refine el_nil ?_ | refine eq_seq ?_ | refine eq_calm ?_ | refine ej_true rfl ?_ | refine ej_false rfl ?_ | refine el_skip rfl rfl rfl ?_ | refine ej_ret ?_ | refine ej_skip ?_ | refine ej_exit ?_ | refine ej_block ?_ | refine eq_seq_ret ?_ | refine eq_seq_exit ?_ | refine eq_block ?_ | refine eq_block_exit ?_ | refine eq_block_ret ?_ | refine eq_block_exit_ne rfl ?_ | refine eq_back_ret ?_ | refine eq_back_exit ?_ | refine el_cons rfl (eo_lenv rfl rfl rfl rfl rfl rfl ?_) | refine el_cons rfl (eo_arith rfl rfl rfl rfl rfl rfl ⟨by omega, by omega⟩ ?_)))
      refine el_cons rfl (eo_ld 0 rfl rfl rfl rfl rfl rfl rfl rfl ?_)
      refine el_cons rfl (eo_call1 rfl rfl rfl rfl rfl real_mask_Set_Meets (Meets_any _ _ hxm hor _) ?_)
      by_cases h5 : m &&& s = 0
      · rw [decide_eq_false (by simpa using h5)]
        (repeat (first | refine el_pure rfl rfl rfl rfl ?_ | refine ej_seq ?_ | refine ej_region ?_ | refine el_nil ?_ | refine eq_seq ?_ | refine eq_calm ?_ | refine ej_true rfl ?_ | refine ej_false rfl ?_ | refine el_skip rfl rfl rfl ?_ | refine ej_ret ?_ | refine ej_skip ?_ | refine ej_exit ?_ | refine ej_block ?_ | refine eq_seq_ret ?_ | refine eq_seq_exit ?_ | refine eq_block ?_ | refine eq_block_exit ?_ | refine eq_block_ret ?_ | refine eq_block_exit_ne rfl ?_ | refine eq_back_ret ?_ | refine eq_back_exit ?_ | refine el_cons rfl (eo_lenv rfl rfl rfl rfl rfl rfl ?_) | refine el_cons rfl (eo_arith rfl rfl rfl rfl rfl rfl ⟨by omega, by omega⟩ ?_)))
        refine el_cons rfl (eo_ld 0 rfl rfl rfl rfl rfl rfl rfl rfl ?_)
        (repeat (first | refine el_pure rfl rfl rfl rfl ?_ | refine ej_seq ?_ | refine ej_region ?_ | refine el_nil ?_ | refine eq_seq ?_ | refine eq_calm ?_ | refine ej_true rfl ?_ | refine ej_false rfl ?_ | refine el_skip rfl rfl rfl ?_ | refine ej_ret ?_ | refine ej_skip ?_ | refine ej_exit ?_ | refine ej_block ?_ | refine eq_seq_ret ?_ | refine eq_seq_exit ?_ | refine eq_block ?_ | refine eq_block_exit ?_ | refine eq_block_ret ?_ | refine eq_block_exit_ne rfl ?_ | refine eq_back_ret ?_ | refine eq_back_exit ?_ | refine el_cons rfl (eo_lenv rfl rfl rfl rfl rfl rfl ?_) | refine el_cons rfl (eo_arith rfl rfl rfl rfl rfl rfl ⟨by omega, by omega⟩ ?_)))
        refine el_cons rfl (eo_bits rfl rfl rfl rfl rfl hor hxm rfl ?_)
        (repeat (first | refine el_pure rfl rfl rfl rfl ?_ | refine ej_seq ?_ | refine ej_region ?_ | refine el_nil ?_ | refine eq_seq ?_ | refine eq_calm ?_ | refine ej_true rfl ?_ | refine ej_false rfl ?_ | refine el_skip rfl rfl rfl ?_ | refine ej_ret ?_ | refine ej_skip ?_ | refine ej_exit ?_ | refine ej_block ?_ | refine eq_seq_ret ?_ | refine eq_seq_exit ?_ | refine eq_block ?_ | refine eq_block_exit ?_ | refine eq_block_ret ?_ | refine eq_block_exit_ne rfl ?_ | refine eq_back_ret ?_ | refine eq_back_exit ?_ | refine el_cons rfl (eo_lenv rfl rfl rfl rfl rfl rfl ?_) | refine el_cons rfl (eo_arith rfl rfl rfl rfl rfl rfl ⟨by omega, by omega⟩ ?_)))
        refine el_cons rfl (eo_st 0 rfl rfl rfl rfl rfl rfl rfl rfl rfl ?_)
        (repeat (first | refine el_pure rfl rfl rfl rfl ?_ | refine ej_seq ?_ | refine ej_region ?_ | refine el_nil ?_ | refine eq_seq ?_ | refine eq_calm ?_ | refine ej_true rfl ?_ | refine ej_false rfl ?_ | refine el_skip rfl rfl rfl ?_ | refine ej_ret ?_ | refine ej_skip ?_ | refine ej_exit ?_ | refine ej_block ?_ | refine eq_seq_ret ?_ | refine eq_seq_exit ?_ | refine eq_block ?_ | refine eq_block_exit ?_ | refine eq_block_ret ?_ | refine eq_block_exit_ne rfl ?_ | refine eq_back_ret ?_ | refine eq_back_exit ?_ | refine el_cons rfl (eo_lenv rfl rfl rfl rfl rfl rfl ?_) | refine el_cons rfl (eo_arith rfl rfl rfl rfl rfl rfl ⟨by omega, by omega⟩ ?_)))
        refine eq_backP (k + 1) ⟨by omega, hnext (fun h => by rcases e2.1 h with h | h; exact h4 (by omega); exact h h5)⟩ (by omega) (le_of _ _ rfl) (fun w hw => ?_)
        rw [e1]; exact hw
      · rw [decide_eq_true h5]
        (repeat (first | refine el_pure rfl rfl rfl rfl ?_ | refine ej_seq ?_ | refine ej_region ?_ | refine el_nil ?_ | refine eq_seq ?_ | refine eq_calm ?_ | refine ej_true rfl ?_ | refine ej_false rfl ?_ | refine el_skip rfl rfl rfl ?_ | refine ej_ret ?_ | refine ej_skip ?_ | refine ej_exit ?_ | refine ej_block ?_ | refine eq_seq_ret ?_ | refine eq_seq_exit ?_ | refine eq_block ?_ | refine eq_block_exit ?_ | refine eq_block_ret ?_ | refine eq_block_exit_ne rfl ?_ | refine eq_back_ret ?_ | refine eq_back_exit ?_ | refine el_cons rfl (eo_lenv rfl rfl rfl rfl rfl rfl ?_) | refine el_cons rfl (eo_arith rfl rfl rfl rfl rfl rfl ⟨by omega, by omega⟩ ?_)))
        exact eq_rett rfl fun w hw => fail 8 (by decide) (hb (e2.2 (.inr h5))) w (hw.drop 2)
  · obtain rfl : k = xs.length := by omega
    have e : topoE xs = 0 := by rw [topoE, if_neg hno, if_neg (fun ⟨d, h1, h2⟩ => hgood d h1 h2)]
    (repeat (first | refine el_pure rfl rfl rfl rfl ?_ | refine ej_seq ?_ | refine ej_region ?_ | refine el_nil ?_ | refine eq_seq ?_ | refine eq_calm ?_ | refine ej_true rfl ?_ | refine ej_false rfl ?_ | refine el_skip rfl rfl rfl ?_ | refine ej_ret ?_ | refine ej_skip ?_ | refine ej_exit ?_ | refine ej_block ?_ | refine eq_seq_ret ?_ | refine eq_seq_exit ?_ | refine eq_block ?_ | refine eq_block_exit ?_ | refine eq_block_ret ?_ | refine eq_block_exit_ne rfl ?_ | refine eq_back_ret ?_ | refine eq_back_exit ?_ | refine el_cons rfl (eo_lenv rfl rfl rfl rfl rfl rfl ?_) | refine el_cons rfl (eo_arith rfl rfl rfl rfl rfl rfl ⟨by omega, by omega⟩ ?_)))
    exact eq_rett rfl fun w hw => .inl ⟨e, b', r', rfl, hw⟩

end Go.Proofs.Ytefahijlcmfpjaa
