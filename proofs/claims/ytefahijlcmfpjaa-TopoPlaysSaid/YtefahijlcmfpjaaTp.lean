/- Topologies: what the program's functions on them answer. -/
import Derived.Test.YtefahijlcmfpjaaMk
namespace Go.Proofs.Ytefahijlcmfpjaa
open Go Go.SE

abbrev ptr (b : Nat) : Value := .pointer (some ⟨b, 0, none⟩)
abbrev int (i : Int) : Value := .int .i64 i
abbrev u64s (l : List Nat) : List Value := l.map u64

/-- domains' cores, and those that are on -/
structure Topo where
  doms : List Nat
  on : Nat
structure Topo.Ok (T : Topo) : Prop where
  doms : ∀ m ∈ T.doms, m < 18446744073709551616
  on : T.on < 18446744073709551616
  few : T.doms.length ≤ 8

/-- where a topology lies: its struct, its domains' row -/
structure At (l : List HP) (i j b : Nat) (r : Option (Nat × Nat)) (T : Topo) : Prop where
  top : l[i]? = some (cells b T_topo_Topo [sv r T.doms.length, u64 T.on])
  row : l[j]? = some (rowC r T_mask_Set 1 (u64s T.doms) T.doms.length)
theorem At.cons {l : List HP} {i j b : Nat} {r : Option (Nat × Nat)} {T : Topo} (h : At l i j b r T) (p : HP) : At (p :: l) (i + 1) (j + 1) b r T := ⟨h.top, h.row⟩

variable {w0 : World} {l : List HP} {i j b : Nat} {r : Option (Nat × Nat)} {T : Topo}

def idxOf (doms : List Nat) (c : Int) : Int := match doms.findIdx? (has · c) with
  | some i => i
  | none => -1

theorem u64s_get {l : List Nat} {k : Nat} {m : Nat} (h : l[k]? = some m) : (u64s l)[k]? = some (u64 m) := by simp [h]

theorem find_some {α : Type} {p : α → Bool} {l : List α} {k : Nat} (hk : k < l.length) (hp : p l[k] = true) (hno : ∀ j (h : j < k), p (l[j]'(by omega)) = false) : l.findIdx? p = some k := by
  rw [List.findIdx?_eq_some_iff_getElem]
  exact ⟨hk, hp, fun j hj => by simp [hno j hj]⟩
theorem find_none {α : Type} {p : α → Bool} {l : List α} (hno : ∀ j (h : j < l.length), p l[j] = false) : l.findIdx? p = none := by
  rw [List.findIdx?_eq_none_iff]
  intro x hx
  obtain ⟨j, hj, rfl⟩ := List.getElem_of_mem hx
  exact hno j hj

theorem Of1_any (m : Nat) (bc : Nat) (c : Int) (k : Nat) (hm : m < 18446744073709551616) (hk : l[k]? = some (cells bc T_int [int c])) :
    Does cx F_topo_Topo_Of_1 [u64 m, ptr bc] (S w0 l) fun v w => v = .bool (has m c) ∧ S w0 l w := by
  refine fn_enter (n := N_topo_Topo_Of_1) fn_topo_Topo_Of_1 rfl rfl rfl ?_
  (repeat (first | refine el_pure rfl rfl rfl rfl ?_ | refine ej_seq ?_ | refine ej_region ?_ | refine el_nil ?_ | refine eq_seq ?_ | refine ej_true rfl ?_ | refine ej_false rfl ?_ | refine el_skip rfl rfl rfl ?_ | refine ej_ret ?_ | refine ej_skip ?_ | refine ej_exit ?_ | refine ej_block ?_ | refine eq_seq_ret ?_ | refine eq_seq_exit ?_ | refine eq_block ?_ | refine eq_block_exit ?_ | refine eq_block_ret ?_ | refine eq_block_exit_ne rfl ?_ | refine eq_back_ret ?_ | refine eq_back_exit ?_))
  refine el_cons rfl (eo_ld k rfl rfl rfl rfl rfl rfl hk rfl ?_)
  refine el_cons rfl (eo_call1 rfl rfl rfl rfl rfl real_mask_Set_Has (Has_any _ _ hm _) ?_)
  (repeat (first | refine el_pure rfl rfl rfl rfl ?_ | refine ej_seq ?_ | refine ej_region ?_ | refine el_nil ?_ | refine eq_seq ?_ | refine ej_true rfl ?_ | refine ej_false rfl ?_ | refine el_skip rfl rfl rfl ?_ | refine ej_ret ?_ | refine ej_skip ?_ | refine ej_exit ?_ | refine ej_block ?_ | refine eq_seq_ret ?_ | refine eq_seq_exit ?_ | refine eq_block ?_ | refine eq_block_exit ?_ | refine eq_block_ret ?_ | refine eq_block_exit_ne rfl ?_ | refine eq_back_ret ?_ | refine eq_back_exit ?_))
  exact eq_rett rfl fun w hw => ⟨rfl, hw⟩

theorem Index_any (doms : List Nat) (bc : Nat) (c : Int) (k : Nat) (hd : ∀ m ∈ doms, m < 18446744073709551616) (hf : doms.length ≤ 8) (hk : l[k]? = some (cells bc T_int [int c])) (hj : l[j]? = some (rowC r T_mask_Set 1 (u64s doms) doms.length)) :
    Does cx F_slices_IndexFunc_mask_Set_mask_Set [sv r doms.length, .func (.func F_topo_Topo_Of_1) #[] #[ptr bc]] (S w0 l) fun v w => v = int (idxOf doms c) ∧ S w0 l w := by
  refine fn_enter (n := N_slices_IndexFunc_mask_Set_mask_Set) fn_slices_IndexFunc_mask_Set_mask_Set rfl rfl rfl ?_
  (repeat (first | refine el_pure rfl rfl rfl rfl ?_ | refine ej_seq ?_ | refine ej_region ?_ | refine el_nil ?_ | refine eq_seq ?_ | refine ej_true rfl ?_ | refine ej_false rfl ?_ | refine el_skip rfl rfl rfl ?_ | refine ej_ret ?_ | refine ej_skip ?_ | refine ej_exit ?_ | refine ej_block ?_ | refine eq_seq_ret ?_ | refine eq_seq_exit ?_ | refine eq_block ?_ | refine eq_block_exit ?_ | refine eq_block_ret ?_ | refine eq_block_exit_ne rfl ?_ | refine eq_back_ret ?_ | refine eq_back_exit ?_))
  refine el_cons rfl (eo_lenv rfl rfl rfl rfl rfl rfl ?_)
  (repeat (first | refine el_pure rfl rfl rfl rfl ?_ | refine ej_seq ?_ | refine ej_region ?_ | refine el_nil ?_ | refine eq_seq ?_ | refine ej_true rfl ?_ | refine ej_false rfl ?_ | refine el_skip rfl rfl rfl ?_ | refine ej_ret ?_ | refine ej_skip ?_ | refine ej_exit ?_ | refine ej_block ?_ | refine eq_seq_ret ?_ | refine eq_seq_exit ?_ | refine eq_block ?_ | refine eq_block_exit ?_ | refine eq_block_ret ?_ | refine eq_block_exit_ne rfl ?_ | refine eq_back_ret ?_ | refine eq_back_exit ?_))
  refine ej_loop (α := { k : Nat // k ≤ doms.length ∧ ∀ j (h : j < k) (h' : j < doms.length), has doms[j] c = false })
    (fun k => [(0, sv r doms.length), (1, .func (.func F_topo_Topo_Of_1) #[] #[ptr bc]), (7, int doms.length), (8, int k.1)]) (fun _ => S w0 l) (fun k => doms.length - k.1) ⟨0, by omega, by intro j h; omega⟩ (le_of _ _ rfl) (fun _ h => h) ?_
  rintro ⟨q, hq, hno⟩
  (repeat (first | refine el_pure rfl rfl rfl rfl ?_ | refine ej_seq ?_ | refine ej_region ?_ | refine el_nil ?_ | refine eq_seq ?_ | refine ej_true rfl ?_ | refine ej_false rfl ?_ | refine el_skip rfl rfl rfl ?_ | refine ej_ret ?_ | refine ej_skip ?_ | refine ej_exit ?_ | refine ej_block ?_ | refine eq_seq_ret ?_ | refine eq_seq_exit ?_ | refine eq_block ?_ | refine eq_block_exit ?_ | refine eq_block_ret ?_ | refine eq_block_exit_ne rfl ?_ | refine eq_back_ret ?_ | refine eq_back_exit ?_))
  refine ej_dec rfl (fun h => ?_) (fun h => ?_)
  · have h : (q : Int) < doms.length := h
    have hq' : q < doms.length := by omega
    (repeat (first | refine el_pure rfl rfl rfl rfl ?_ | refine ej_seq ?_ | refine ej_region ?_ | refine el_nil ?_ | refine eq_seq ?_ | refine ej_true rfl ?_ | refine ej_false rfl ?_ | refine el_skip rfl rfl rfl ?_ | refine ej_ret ?_ | refine ej_skip ?_ | refine ej_exit ?_ | refine ej_block ?_ | refine eq_seq_ret ?_ | refine eq_seq_exit ?_ | refine eq_block ?_ | refine eq_block_exit ?_ | refine eq_block_ret ?_ | refine eq_block_exit_ne rfl ?_ | refine eq_back_ret ?_ | refine eq_back_exit ?_))
    refine el_cons rfl (eo_idxr j rfl rfl rfl rfl rfl rfl rfl rfl hj ⟨by omega, h⟩ ?_)
    refine el_cons rfl (eo_ldr j rfl rfl rfl rfl rfl rfl hj (v := u64 doms[q]) (by simp [hq']) ?_)
    refine el_cons rfl (eo_call1 rfl rfl rfl rfl rfl real_topo_Topo_Of_1 (Of1_any _ _ _ k (hd _ (List.getElem_mem hq')) hk) ?_)
    (repeat (first | refine el_pure rfl rfl rfl rfl ?_ | refine ej_seq ?_ | refine ej_region ?_ | refine el_nil ?_ | refine eq_seq ?_ | refine ej_true rfl ?_ | refine ej_false rfl ?_ | refine el_skip rfl rfl rfl ?_ | refine ej_ret ?_ | refine ej_skip ?_ | refine ej_exit ?_ | refine ej_block ?_ | refine eq_seq_ret ?_ | refine eq_seq_exit ?_ | refine eq_block ?_ | refine eq_block_exit ?_ | refine eq_block_ret ?_ | refine eq_block_exit_ne rfl ?_ | refine eq_back_ret ?_ | refine eq_back_exit ?_))
    refine ej_cond rfl (fun hb => ?_) (fun hb => ?_)
    · (repeat (first | refine el_pure rfl rfl rfl rfl ?_ | refine ej_seq ?_ | refine ej_region ?_ | refine el_nil ?_ | refine eq_seq ?_ | refine ej_true rfl ?_ | refine ej_false rfl ?_ | refine el_skip rfl rfl rfl ?_ | refine ej_ret ?_ | refine ej_skip ?_ | refine ej_exit ?_ | refine ej_block ?_ | refine eq_seq_ret ?_ | refine eq_seq_exit ?_ | refine eq_block ?_ | refine eq_block_exit ?_ | refine eq_block_ret ?_ | refine eq_block_exit_ne rfl ?_ | refine eq_back_ret ?_ | refine eq_back_exit ?_))
      refine eq_rett rfl fun w hw => ⟨?_, hw⟩
      simp [pack, idxOf, find_some (p := fun x => has x c) hq' hb (fun j hj => hno j hj (by omega))]
    · (repeat (first | refine el_pure rfl rfl rfl rfl ?_ | refine ej_seq ?_ | refine ej_region ?_ | refine el_nil ?_ | refine eq_seq ?_ | refine ej_true rfl ?_ | refine ej_false rfl ?_ | refine el_skip rfl rfl rfl ?_ | refine ej_ret ?_ | refine ej_skip ?_ | refine ej_exit ?_ | refine ej_block ?_ | refine eq_seq_ret ?_ | refine eq_seq_exit ?_ | refine eq_block ?_ | refine eq_block_exit ?_ | refine eq_block_ret ?_ | refine eq_block_exit_ne rfl ?_ | refine eq_back_ret ?_ | refine eq_back_exit ?_))
      refine el_cons rfl (eo_arith rfl rfl rfl rfl rfl rfl ⟨by omega, by omega⟩ ?_)
      (repeat (first | refine el_pure rfl rfl rfl rfl ?_ | refine ej_seq ?_ | refine ej_region ?_ | refine el_nil ?_ | refine eq_seq ?_ | refine ej_true rfl ?_ | refine ej_false rfl ?_ | refine el_skip rfl rfl rfl ?_ | refine ej_ret ?_ | refine ej_skip ?_ | refine ej_exit ?_ | refine ej_block ?_ | refine eq_seq_ret ?_ | refine eq_seq_exit ?_ | refine eq_block ?_ | refine eq_block_exit ?_ | refine eq_block_ret ?_ | refine eq_block_exit_ne rfl ?_ | refine eq_back_ret ?_ | refine eq_back_exit ?_))
      exact eq_back ⟨q + 1, by omega, fun j h h' => by
        by_cases e : j = q
        · subst e; exact hb
        · exact hno j (by omega) h'⟩ (by simp; omega) (le_of _ _ rfl) (fun _ h => h)
  · have h : ¬ (q : Int) < doms.length := h
    have hq' : q = doms.length := by omega
    subst hq'
    (repeat (first | refine el_pure rfl rfl rfl rfl ?_ | refine ej_seq ?_ | refine ej_region ?_ | refine el_nil ?_ | refine eq_seq ?_ | refine ej_true rfl ?_ | refine ej_false rfl ?_ | refine el_skip rfl rfl rfl ?_ | refine ej_ret ?_ | refine ej_skip ?_ | refine ej_exit ?_ | refine ej_block ?_ | refine eq_seq_ret ?_ | refine eq_seq_exit ?_ | refine eq_block ?_ | refine eq_block_exit ?_ | refine eq_block_ret ?_ | refine eq_block_exit_ne rfl ?_ | refine eq_back_ret ?_ | refine eq_back_exit ?_))
    refine eq_rett rfl fun w hw => ⟨?_, hw⟩
    simp [pack, idxOf, find_none (p := fun x => has x c) (fun j h => hno j h h)]

end Go.Proofs.Ytefahijlcmfpjaa
