/- The laws' inner functions, on: do, Is. -/
import Derived.Test.YtefahijlcmfpjaaRj
namespace Go.Proofs.Ytefahijlcmfpjaa
open Go Go.SE

variable {w0 : World} {l : List HP} {i j b : Nat} {r : Option (Nat × Nat)} {T : Topo} {t : RT}

structure Doing where
  core : Int
  up : Bool
abbrev Doing.cells (a : Doing) : List Value := [int a.core, .bool a.up]
def Topo.step (T : Topo) (a : Doing) : Topo := if a.up then T.up a.core else T.down a.core
def RT.step (t : RT) (a : Doing) : RT := if a.up then t.up a.core else t.down a.core
theorem Rel.step (h : Rel T t) (a : Doing) : Rel (T.step a) (t.step a) := by
  unfold Topo.step RT.step; split
  · exact h.up _
  · exact h.down _

set_option maxHeartbeats 1600000 in
theorem do_any (a : Doing) (h : At l i j b r T) (hR : Rel T t) : Does cx F_law05_do [ptr b, t.val, .agg a.cells.toArray] (S w0 l) fun v w => v = .tuple #[(t.step a).val, .bool true] ∧ S w0 (topoSet l i b r (T.step a)) w := by
  refine fn_enter (n := N_law05_do) fn_law05_do rfl rfl rfl ?_
  obtain ⟨c, up⟩ := a
  refine ej_seq (ej_region (el_cons rfl (eo_box rfl rfl rfl rfl fun b4 => el_cons rfl (eo_box rfl rfl rfl rfl fun b5 => el_cons rfl (eo_alloc rfl rfl rfl rfl fun b6 => ?_)))))
  refine el_imp (H' := S w0 (cells b6 T_ref05_T (RT.cells RT.none) :: cells b5 T_law05_Act [int c, .bool up] :: cells b4 T_ref05_T t.cells :: l)) (fun w hw => by rw [RT.none, ← zero_T]; exact hw) ?_
  (repeat (first | refine el_pure rfl rfl rfl rfl ?_ | refine ej_seq ?_ | refine ej_region ?_ | refine el_nil ?_ | refine eq_seq ?_ | refine eq_calm ?_ | refine ej_true rfl ?_ | refine ej_false rfl ?_ | refine el_skip rfl rfl rfl ?_ | refine ej_ret ?_ | refine ej_skip ?_ | refine ej_exit ?_ | refine ej_block ?_ | refine eq_seq_ret ?_ | refine eq_seq_exit ?_ | refine eq_block ?_ | refine eq_block_exit ?_ | refine eq_block_ret ?_ | refine eq_block_exit_ne rfl ?_ | refine eq_back_ret ?_ | refine eq_back_exit ?_))
  refine el_cons rfl (eo_ld 1 rfl rfl rfl rfl rfl rfl rfl rfl ?_)
  cases up with
  | true =>
    have hE := hR.upE c
    have hr := hR.up c
    have ht : t.step ⟨c, true⟩ = t.up c := rfl
    have hT : T.step ⟨c, true⟩ = T.up c := rfl
    rw [ht, hT]
    (repeat (first | refine el_pure rfl rfl rfl rfl ?_ | refine ej_seq ?_ | refine ej_region ?_ | refine el_nil ?_ | refine eq_seq ?_ | refine eq_calm ?_ | refine ej_true rfl ?_ | refine ej_false rfl ?_ | refine el_skip rfl rfl rfl ?_ | refine ej_ret ?_ | refine ej_skip ?_ | refine ej_exit ?_ | refine ej_block ?_ | refine eq_seq_ret ?_ | refine eq_seq_exit ?_ | refine eq_block ?_ | refine eq_block_exit ?_ | refine eq_block_ret ?_ | refine eq_block_exit_ne rfl ?_ | refine eq_back_ret ?_ | refine eq_back_exit ?_))
    refine el_cons rfl (eo_ldW 2 rfl rfl rfl rfl rfl rfl rfl hR.okR.len ?_)
    (repeat (first | refine el_pure rfl rfl rfl rfl ?_ | refine ej_seq ?_ | refine ej_region ?_ | refine el_nil ?_ | refine eq_seq ?_ | refine eq_calm ?_ | refine ej_true rfl ?_ | refine ej_false rfl ?_ | refine el_skip rfl rfl rfl ?_ | refine ej_ret ?_ | refine ej_skip ?_ | refine ej_exit ?_ | refine ej_block ?_ | refine eq_seq_ret ?_ | refine eq_seq_exit ?_ | refine eq_block ?_ | refine eq_block_exit ?_ | refine eq_block_ret ?_ | refine eq_block_exit_ne rfl ?_ | refine eq_back_ret ?_ | refine eq_back_exit ?_))
    refine el_cons rfl (eo_ld 1 rfl rfl rfl rfl rfl rfl rfl rfl ?_)
    refine el_cons rfl (eo_call1 rfl rfl rfl rfl rfl real_ref05_Up (Up_ref t c hR.okR) ?_)
    rw [hE]
    have hlen := hr.okR.len
    have hone := (t.up c).one
    generalize t.up c = u at *
    (repeat (first | refine el_pure rfl rfl rfl rfl ?_ | refine ej_seq ?_ | refine ej_region ?_ | refine el_nil ?_ | refine eq_seq ?_ | refine eq_calm ?_ | refine ej_true rfl ?_ | refine ej_false rfl ?_ | refine el_skip rfl rfl rfl ?_ | refine ej_ret ?_ | refine ej_skip ?_ | refine ej_exit ?_ | refine ej_block ?_ | refine eq_seq_ret ?_ | refine eq_seq_exit ?_ | refine eq_block ?_ | refine eq_block_exit ?_ | refine eq_block_ret ?_ | refine eq_block_exit_ne rfl ?_ | refine eq_back_ret ?_ | refine eq_back_exit ?_))
    refine el_cons rfl (eo_alloc rfl rfl rfl rfl fun b8 => ?_)
    refine el_cons rfl (eo_stA 0 rfl rfl rfl rfl rfl hlen hone rfl rfl ?_)
    (repeat (first | refine el_pure rfl rfl rfl rfl ?_ | refine ej_seq ?_ | refine ej_region ?_ | refine el_nil ?_ | refine eq_seq ?_ | refine eq_calm ?_ | refine ej_true rfl ?_ | refine ej_false rfl ?_ | refine el_skip rfl rfl rfl ?_ | refine ej_ret ?_ | refine ej_skip ?_ | refine ej_exit ?_ | refine ej_block ?_ | refine eq_seq_ret ?_ | refine eq_seq_exit ?_ | refine eq_block ?_ | refine eq_block_exit ?_ | refine eq_block_ret ?_ | refine eq_block_exit_ne rfl ?_ | refine eq_back_ret ?_ | refine eq_back_exit ?_))
    refine ej_held [cells b8 T_ref05_T u.cells, cells b5 T_law05_Act [int c, .bool true]] ?_
    refine eh_take 1 (held (.cons 0 rfl (.cons 2 rfl .nil))) rfl (by kernel_rfl) (by kernel_rfl) (by kernel_rfl) rfl rfl rfl rfl ?_
    refine eh_take 2 (held (.cons 0 rfl (.cons 2 rfl .nil))) rfl (by kernel_rfl) (by kernel_rfl) (by kernel_rfl) rfl rfl rfl rfl ?_
    refine eh_take 5 (held (.cons 0 rfl (.cons 2 rfl .nil))) rfl (by kernel_rfl) (by kernel_rfl) (by kernel_rfl) rfl rfl rfl rfl ?_
    refine eh_load 0 (held (.cons 0 rfl (.cons 2 rfl .nil))) rfl (by kernel_rfl) (by kernel_rfl) (by kernel_rfl) rfl rfl rfl (er_ldW 0 rfl rfl rfl rfl rfl hlen) ?_
    refine eh_load 3 (held (.cons 0 rfl (.cons 2 rfl .nil))) rfl (by kernel_rfl) (by kernel_rfl) (by kernel_rfl) rfl rfl rfl (er_ld 1 rfl rfl rfl rfl rfl rfl) ?_
    refine eh_way 4 (by kernel_rfl) (hway rfl rfl (eo_call1 rfl rfl rfl rfl rfl real_topo_Topo_Up (Up_any c ((((h.cons _).cons _).cons _).cons _) hR.okT) ⟨held (.cons 0 rfl (.cons 2 rfl .nil)), ?_⟩))
    refine eh_take 6 (held (.cons 0 rfl (.cons 2 rfl .nil))) rfl (by kernel_rfl) (by kernel_rfl) (by kernel_rfl) rfl rfl rfl rfl ?_
    refine eh_val 27 (u := .bool true) rfl (by simp) ?_
    refine eh_way 7 (by kernel_rfl) (hway rfl rfl (eo_stA 1 rfl rfl rfl rfl rfl hlen hone rfl RT.none_ok.len ⟨held (.cons 0 rfl (.cons 2 rfl .nil)), ?_⟩))
    refine eh_take 8 (held (.cons 0 rfl (.cons 2 rfl .nil))) rfl (by kernel_rfl) (by kernel_rfl) (by kernel_rfl) rfl rfl rfl rfl ?_
    refine eh_done (by kernel_rfl) ?_
    (repeat (first | refine el_pure rfl rfl rfl rfl ?_ | refine ej_seq ?_ | refine ej_region ?_ | refine el_nil ?_ | refine eq_seq ?_ | refine eq_calm ?_ | refine ej_true rfl ?_ | refine ej_false rfl ?_ | refine el_skip rfl rfl rfl ?_ | refine ej_ret ?_ | refine ej_skip ?_ | refine ej_exit ?_ | refine ej_block ?_ | refine eq_seq_ret ?_ | refine eq_seq_exit ?_ | refine eq_block ?_ | refine eq_block_exit ?_ | refine eq_block_ret ?_ | refine eq_block_exit_ne rfl ?_ | refine eq_back_ret ?_ | refine eq_back_exit ?_))
    exact eq_ret _ (rvs_cell 1 rfl rfl rfl rfl hlen (rvs_tmp rfl rvs_nil)) fun w hw => ⟨rfl, hw.drop 4⟩
  | false =>
    have hE := hR.downE c
    have hr := hR.down c
    have ht : t.step ⟨c, false⟩ = t.down c := rfl
    have hT : T.step ⟨c, false⟩ = T.down c := rfl
    rw [ht, hT]
    (repeat (first | refine el_pure rfl rfl rfl rfl ?_ | refine ej_seq ?_ | refine ej_region ?_ | refine el_nil ?_ | refine eq_seq ?_ | refine eq_calm ?_ | refine ej_true rfl ?_ | refine ej_false rfl ?_ | refine el_skip rfl rfl rfl ?_ | refine ej_ret ?_ | refine ej_skip ?_ | refine ej_exit ?_ | refine ej_block ?_ | refine eq_seq_ret ?_ | refine eq_seq_exit ?_ | refine eq_block ?_ | refine eq_block_exit ?_ | refine eq_block_ret ?_ | refine eq_block_exit_ne rfl ?_ | refine eq_back_ret ?_ | refine eq_back_exit ?_))
    refine el_cons rfl (eo_ldW 2 rfl rfl rfl rfl rfl rfl rfl hR.okR.len ?_)
    (repeat (first | refine el_pure rfl rfl rfl rfl ?_ | refine ej_seq ?_ | refine ej_region ?_ | refine el_nil ?_ | refine eq_seq ?_ | refine eq_calm ?_ | refine ej_true rfl ?_ | refine ej_false rfl ?_ | refine el_skip rfl rfl rfl ?_ | refine ej_ret ?_ | refine ej_skip ?_ | refine ej_exit ?_ | refine ej_block ?_ | refine eq_seq_ret ?_ | refine eq_seq_exit ?_ | refine eq_block ?_ | refine eq_block_exit ?_ | refine eq_block_ret ?_ | refine eq_block_exit_ne rfl ?_ | refine eq_back_ret ?_ | refine eq_back_exit ?_))
    refine el_cons rfl (eo_ld 1 rfl rfl rfl rfl rfl rfl rfl rfl ?_)
    refine el_cons rfl (eo_call1 rfl rfl rfl rfl rfl real_ref05_Down (Down_ref t c hR.okR) ?_)
    rw [hE]
    have hlen := hr.okR.len
    have hone := (t.down c).one
    generalize t.down c = u at *
    (repeat (first | refine el_pure rfl rfl rfl rfl ?_ | refine ej_seq ?_ | refine ej_region ?_ | refine el_nil ?_ | refine eq_seq ?_ | refine eq_calm ?_ | refine ej_true rfl ?_ | refine ej_false rfl ?_ | refine el_skip rfl rfl rfl ?_ | refine ej_ret ?_ | refine ej_skip ?_ | refine ej_exit ?_ | refine ej_block ?_ | refine eq_seq_ret ?_ | refine eq_seq_exit ?_ | refine eq_block ?_ | refine eq_block_exit ?_ | refine eq_block_ret ?_ | refine eq_block_exit_ne rfl ?_ | refine eq_back_ret ?_ | refine eq_back_exit ?_))
    refine el_cons rfl (eo_alloc rfl rfl rfl rfl fun b8 => ?_)
    refine el_cons rfl (eo_stA 0 rfl rfl rfl rfl rfl hlen hone rfl rfl ?_)
    (repeat (first | refine el_pure rfl rfl rfl rfl ?_ | refine ej_seq ?_ | refine ej_region ?_ | refine el_nil ?_ | refine eq_seq ?_ | refine eq_calm ?_ | refine ej_true rfl ?_ | refine ej_false rfl ?_ | refine el_skip rfl rfl rfl ?_ | refine ej_ret ?_ | refine ej_skip ?_ | refine ej_exit ?_ | refine ej_block ?_ | refine eq_seq_ret ?_ | refine eq_seq_exit ?_ | refine eq_block ?_ | refine eq_block_exit ?_ | refine eq_block_ret ?_ | refine eq_block_exit_ne rfl ?_ | refine eq_back_ret ?_ | refine eq_back_exit ?_))
    refine ej_held [cells b8 T_ref05_T u.cells, cells b5 T_law05_Act [int c, .bool false]] ?_
    refine eh_take 1 (held (.cons 0 rfl (.cons 2 rfl .nil))) rfl (by kernel_rfl) (by kernel_rfl) (by kernel_rfl) rfl rfl rfl rfl ?_
    refine eh_take 2 (held (.cons 0 rfl (.cons 2 rfl .nil))) rfl (by kernel_rfl) (by kernel_rfl) (by kernel_rfl) rfl rfl rfl rfl ?_
    refine eh_take 5 (held (.cons 0 rfl (.cons 2 rfl .nil))) rfl (by kernel_rfl) (by kernel_rfl) (by kernel_rfl) rfl rfl rfl rfl ?_
    refine eh_load 0 (held (.cons 0 rfl (.cons 2 rfl .nil))) rfl (by kernel_rfl) (by kernel_rfl) (by kernel_rfl) rfl rfl rfl (er_ldW 0 rfl rfl rfl rfl rfl hlen) ?_
    refine eh_load 3 (held (.cons 0 rfl (.cons 2 rfl .nil))) rfl (by kernel_rfl) (by kernel_rfl) (by kernel_rfl) rfl rfl rfl (er_ld 1 rfl rfl rfl rfl rfl rfl) ?_
    refine eh_way 4 (by kernel_rfl) (hway rfl rfl (eo_call1 rfl rfl rfl rfl rfl real_topo_Topo_Down (Down_any c ((((h.cons _).cons _).cons _).cons _) hR.okT) ⟨held (.cons 0 rfl (.cons 2 rfl .nil)), ?_⟩))
    refine eh_take 6 (held (.cons 0 rfl (.cons 2 rfl .nil))) rfl (by kernel_rfl) (by kernel_rfl) (by kernel_rfl) rfl rfl rfl rfl ?_
    refine eh_val 41 (u := .bool true) rfl (by simp) ?_
    refine eh_way 7 (by kernel_rfl) (hway rfl rfl (eo_stA 1 rfl rfl rfl rfl rfl hlen hone rfl RT.none_ok.len ⟨held (.cons 0 rfl (.cons 2 rfl .nil)), ?_⟩))
    refine eh_take 8 (held (.cons 0 rfl (.cons 2 rfl .nil))) rfl (by kernel_rfl) (by kernel_rfl) (by kernel_rfl) rfl rfl rfl rfl ?_
    refine eh_done (by kernel_rfl) ?_
    (repeat (first | refine el_pure rfl rfl rfl rfl ?_ | refine ej_seq ?_ | refine ej_region ?_ | refine el_nil ?_ | refine eq_seq ?_ | refine eq_calm ?_ | refine ej_true rfl ?_ | refine ej_false rfl ?_ | refine el_skip rfl rfl rfl ?_ | refine ej_ret ?_ | refine ej_skip ?_ | refine ej_exit ?_ | refine ej_block ?_ | refine eq_seq_ret ?_ | refine eq_seq_exit ?_ | refine eq_block ?_ | refine eq_block_exit ?_ | refine eq_block_ret ?_ | refine eq_block_exit_ne rfl ?_ | refine eq_back_ret ?_ | refine eq_back_exit ?_))
    exact eq_ret _ (rvs_cell 1 rfl rfl rfl rfl hlen (rvs_tmp rfl rvs_nil)) fun w hw => ⟨rfl, hw.drop 4⟩

end Go.Proofs.Ytefahijlcmfpjaa
