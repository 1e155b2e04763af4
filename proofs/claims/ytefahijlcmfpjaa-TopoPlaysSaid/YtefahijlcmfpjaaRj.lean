/- The laws' inner functions: Open, do. -/
import Derived.Test.YtefahijlcmfpjaaRi
namespace Go.Proofs.Ytefahijlcmfpjaa
open Go Go.SE

variable {w0 : World} {l : List HP} {i j b : Nat} {r : Option (Nat × Nat)} {T : Topo} {t : RT}

theorem newT_ok (L : List (List Bool)) : (newT L).Ok := by
  unfold newT; split
  · exact domsTo_ok _ _
  · exact RT.none_ok

/-- masks that a law is given: they stood before -/
structure Masks (w0 : World) (l : List HP) (i : Nat) (a : Option Addr) (xs : List Nat) : Prop where
  lt : ∀ m ∈ xs, m < 18446744073709551616
  sl : Sl w0 1 a (u64s xs) xs.length
  old : l[i]? = some (old w0)
  fits : xs.length * 8 ≤ 140737488351232
theorem Masks.cons {a : Option Addr} {xs : List Nat} (h : Masks w0 l i a xs) (p : HP) : Masks w0 (p :: l) (i + 1) a xs := ⟨h.lt, h.sl, h.old, h.fits⟩

theorem NewT2_any (xs : List Nat) (hm : ∀ m ∈ xs, m < 18446744073709551616) (h : l[i]? = some (rowC r T_mask_Set 1 (u64s xs) xs.length)) (hn : xs.length ≤ 1000) :
    Does cx F_topo_New [sv r xs.length] (S w0 l) fun v w => (∃ x : Nat × Option (Nat × Nat), v = .tuple #[ptr x.1, int 0] ∧ topoE xs = 0 ∧ S w0 (laid x.1 x.2 (topoT xs) l) w) ∨ (∃ _ : Unit, v = .tuple #[.pointer none, int (topoE xs)] ∧ topoE xs ≠ 0 ∧ S w0 l w) :=
  (NewT_any xs hm h hn).mono (fun _ h => h) fun v w h => by
    rcases h with ⟨h0, b, r', h1, h2⟩ | ⟨h0, h1, h2⟩
    · exact .inl ⟨(b, r'), h1, h0, h2⟩
    · exact .inr ⟨(), h1, h0, h2⟩

theorem NewR_any (xs : List Nat) (h : l[i]? = some (rowC r T_ref01_Set 64 (flat (bitsLs xs)) xs.length)) :
    Does cx F_ref05_New [sv r xs.length] (S w0 l) fun v w => v = .tuple #[(newT (bitsLs xs)).val, int (newE (bitsLs xs))] ∧ S w0 l w := by
  have e : (bitsLs xs).length = xs.length := by simp
  have := New_ref (w0 := w0) (l := l) (i := i) (r := r) (bitsLs xs) ⟨by simp [bitsL_length]⟩ (by rw [e]; exact h)
  rw [e] at this
  exact this

set_option maxHeartbeats 1600000 in
theorem Open_any {a : Option Addr} {c : Nat} (xs : List Nat) (hM : Masks w0 l i a xs) :
    Does cx F_law05_Open [.slice a xs.length c] (S w0 l) fun v w => (∃ x : Nat × Option (Nat × Nat), v = .tuple #[ptr x.1, (newT (bitsLs xs)).val, .bool true] ∧ (xs.length ≤ 20 ∧ topoE xs = 0) ∧ S w0 (laid x.1 x.2 (topoT xs) l) w)
      ∨ (∃ t : RT, v = .tuple #[.pointer none, t.val, .bool false] ∧ (t.Ok ∧ (xs.length ≤ 20 → topoE xs ≠ 0)) ∧ S w0 l w) := by
  have hfits := hM.fits
  refine fn_enter (n := N_law05_Open) fn_law05_Open rfl rfl rfl ?_
  (repeat (first | refine el_pure rfl rfl rfl rfl ?_ | refine ej_seq ?_ | refine ej_region ?_ | refine el_nil ?_ | refine eq_seq ?_ | refine eq_calm ?_ | refine ej_true rfl ?_ | refine ej_false rfl ?_ | refine el_skip rfl rfl rfl ?_ | refine ej_ret ?_ | refine ej_skip ?_ | refine ej_exit ?_ | refine ej_block ?_ | refine eq_seq_ret ?_ | refine eq_seq_exit ?_ | refine eq_block ?_ | refine eq_block_exit ?_ | refine eq_block_ret ?_ | refine eq_block_exit_ne rfl ?_ | refine eq_back_ret ?_ | refine eq_back_exit ?_))
  refine el_cons rfl (eo_alloc rfl rfl rfl rfl fun b3 => ?_)
  refine el_imp (H' := S w0 (cells b3 T_ref05_T (RT.cells RT.none) :: l)) (fun w hw => by rw [RT.none, ← zero_T]; exact hw) ?_
  (repeat (first | refine el_pure rfl rfl rfl rfl ?_ | refine ej_seq ?_ | refine ej_region ?_ | refine el_nil ?_ | refine eq_seq ?_ | refine eq_calm ?_ | refine ej_true rfl ?_ | refine ej_false rfl ?_ | refine el_skip rfl rfl rfl ?_ | refine ej_ret ?_ | refine ej_skip ?_ | refine ej_exit ?_ | refine ej_block ?_ | refine eq_seq_ret ?_ | refine eq_seq_exit ?_ | refine eq_block ?_ | refine eq_block_exit ?_ | refine eq_block_ret ?_ | refine eq_block_exit_ne rfl ?_ | refine eq_back_ret ?_ | refine eq_back_exit ?_ | refine el_cons rfl (eo_lenv rfl rfl rfl rfl rfl rfl ?_) | refine el_cons rfl (eo_arith rfl rfl rfl rfl rfl rfl ⟨by omega, by omega⟩ ?_)))
  refine ej_loopP (α := Nat × Option (Nat × Nat)) (fun x => x.1 ≤ xs.length) (fun x => [(0, .slice a xs.length c), (3, ptr b3), (5, sv x.2 x.1), (12, .slice a xs.length c), (13, int xs.length), (14, int x.1)])
    (fun x => S w0 (rowC x.2 T_mask_Set 1 (u64s (xs.take x.1)) x.1 :: cells b3 T_ref05_T (RT.cells RT.none) :: l)) (fun x => xs.length - x.1) (0, none) (by simp) (le_of _ _ rfl) ?_ ?_
  · exact fun w hw => hw.row_new
  rintro ⟨k, r'⟩ hk
  have hk : k ≤ xs.length := hk
  (repeat (first | refine el_pure rfl rfl rfl rfl ?_ | refine ej_seq ?_ | refine ej_region ?_ | refine el_nil ?_ | refine eq_seq ?_ | refine eq_calm ?_ | refine ej_true rfl ?_ | refine ej_false rfl ?_ | refine el_skip rfl rfl rfl ?_ | refine ej_ret ?_ | refine ej_skip ?_ | refine ej_exit ?_ | refine ej_block ?_ | refine eq_seq_ret ?_ | refine eq_seq_exit ?_ | refine eq_block ?_ | refine eq_block_exit ?_ | refine eq_block_ret ?_ | refine eq_block_exit_ne rfl ?_ | refine eq_back_ret ?_ | refine eq_back_exit ?_))
  refine ej_dec rfl (fun h => ?_) (fun h => ?_)
  · have h : (k : Int) < xs.length := h
    have hk1 : k < xs.length := by omega
    have hx : xs[k]? = some xs[k] := by simp [hk1]
    have e1 : u64s (xs.take (k + 1)) = u64s (xs.take k) ++ [u64 xs[k]] := by
      simp only [u64s, List.take_succ_eq_append_getElem hk1, List.map_append, List.map_cons, List.map_nil]
    generalize xs[k] = m at *
    (repeat (first | refine el_pure rfl rfl rfl rfl ?_ | refine ej_seq ?_ | refine ej_region ?_ | refine el_nil ?_ | refine eq_seq ?_ | refine eq_calm ?_ | refine ej_true rfl ?_ | refine ej_false rfl ?_ | refine el_skip rfl rfl rfl ?_ | refine ej_ret ?_ | refine ej_skip ?_ | refine ej_exit ?_ | refine ej_block ?_ | refine eq_seq_ret ?_ | refine eq_seq_exit ?_ | refine eq_block ?_ | refine eq_block_exit ?_ | refine eq_block_ret ?_ | refine eq_block_exit_ne rfl ?_ | refine eq_back_ret ?_ | refine eq_back_exit ?_ | refine el_cons rfl (eo_lenv rfl rfl rfl rfl rfl rfl ?_) | refine el_cons rfl (eo_arith rfl rfl rfl rfl rfl rfl ⟨by omega, by omega⟩ ?_)))
    refine el_cons rfl (eo_idxo rfl rfl rfl rfl rfl rfl rfl rfl rfl hM.sl ⟨by omega, h⟩ ?_)
    refine el_cons rfl (eo_ldo (i + 2) k rfl rfl rfl ?_ rfl rfl hM.old hM.sl (v := u64 m) (by simp [hx]) ?_)
    · show some _ = _; simp
    (repeat (first | refine el_pure rfl rfl rfl rfl ?_ | refine ej_seq ?_ | refine ej_region ?_ | refine el_nil ?_ | refine eq_seq ?_ | refine eq_calm ?_ | refine ej_true rfl ?_ | refine ej_false rfl ?_ | refine el_skip rfl rfl rfl ?_ | refine ej_ret ?_ | refine ej_skip ?_ | refine ej_exit ?_ | refine ej_block ?_ | refine eq_seq_ret ?_ | refine eq_seq_exit ?_ | refine eq_block ?_ | refine eq_block_exit ?_ | refine eq_block_ret ?_ | refine eq_block_exit_ne rfl ?_ | refine eq_back_ret ?_ | refine eq_back_exit ?_ | refine el_cons rfl (eo_lenv rfl rfl rfl rfl rfl rfl ?_) | refine el_cons rfl (eo_arith rfl rfl rfl rfl rfl rfl ⟨by omega, by omega⟩ ?_)))
    refine el_cons rfl (eo_buildS rfl rfl rfl rfl rfl rfl rfl rfl rfl rfl fun b' => ?_)
    refine el_cons rfl (eo_append 1 [u64 m] rfl rfl rfl rfl rfl rfl rfl rfl rfl rfl rfl (fun w hw j u hu => ?_) rfl (by decide) ?_ ?_ fun r2 => ?_)
    · rw [addr_add, Nat.zero_add]; exact hw.cell (i := 0) rfl hu
    · show (k + 1) * 8 ≤ 140737488355328; omega
    · show k + 1 ≤ 9223372036854775807; omega
    (repeat (first | refine el_pure rfl rfl rfl rfl ?_ | refine ej_seq ?_ | refine ej_region ?_ | refine el_nil ?_ | refine eq_seq ?_ | refine eq_calm ?_ | refine ej_true rfl ?_ | refine ej_false rfl ?_ | refine el_skip rfl rfl rfl ?_ | refine ej_ret ?_ | refine ej_skip ?_ | refine ej_exit ?_ | refine ej_block ?_ | refine eq_seq_ret ?_ | refine eq_seq_exit ?_ | refine eq_block ?_ | refine eq_block_exit ?_ | refine eq_block_ret ?_ | refine eq_block_exit_ne rfl ?_ | refine eq_back_ret ?_ | refine eq_back_exit ?_ | refine el_cons rfl (eo_lenv rfl rfl rfl rfl rfl rfl ?_) | refine el_cons rfl (eo_arith rfl rfl rfl rfl rfl rfl ⟨by omega, by omega⟩ ?_)))
    refine eq_backP (k + 1, r2) (by show k + 1 ≤ xs.length; omega) (by show xs.length - (k + 1) < xs.length - k; omega) (le_of _ _ rfl) ?_
    intro w hw
    show S w0 (rowC r2 T_mask_Set 1 (u64s (xs.take (k + 1))) (k + 1) :: cells b3 T_ref05_T (RT.cells RT.none) :: l) w
    rw [e1]
    exact hw.erase 0
  · have h : ¬ (k : Int) < xs.length := h
    obtain rfl : k = xs.length := by omega
    refine ej_imp' (H' := S w0 (rowC r' T_mask_Set 1 (u64s xs) xs.length :: cells b3 T_ref05_T (RT.cells RT.none) :: l)) (fun w hw => by simpa using hw) ?_
    (repeat (first | refine el_pure rfl rfl rfl rfl ?_ | refine ej_seq ?_ | refine ej_region ?_ | refine el_nil ?_ | refine eq_seq ?_ | refine eq_calm ?_ | refine ej_true rfl ?_ | refine ej_false rfl ?_ | refine el_skip rfl rfl rfl ?_ | refine ej_ret ?_ | refine ej_skip ?_ | refine ej_exit ?_ | refine ej_block ?_ | refine eq_seq_ret ?_ | refine eq_seq_exit ?_ | refine eq_block ?_ | refine eq_block_exit ?_ | refine eq_block_ret ?_ | refine eq_block_exit_ne rfl ?_ | refine eq_back_ret ?_ | refine eq_back_exit ?_ | refine el_cons rfl (eo_lenv rfl rfl rfl rfl rfl rfl ?_) | refine el_cons rfl (eo_arith rfl rfl rfl rfl rfl rfl ⟨by omega, by omega⟩ ?_)))
    refine ej_dec rfl (fun h2 => ?_) (fun h2 => ?_)
    · (repeat (first | refine el_pure rfl rfl rfl rfl ?_ | refine ej_seq ?_ | refine ej_region ?_ | refine el_nil ?_ | refine eq_seq ?_ | refine eq_calm ?_ | refine ej_true rfl ?_ | refine ej_false rfl ?_ | refine el_skip rfl rfl rfl ?_ | refine ej_ret ?_ | refine ej_skip ?_ | refine ej_exit ?_ | refine ej_block ?_ | refine eq_seq_ret ?_ | refine eq_seq_exit ?_ | refine eq_block ?_ | refine eq_block_exit ?_ | refine eq_block_ret ?_ | refine eq_block_exit_ne rfl ?_ | refine eq_back_ret ?_ | refine eq_back_exit ?_ | refine el_cons rfl (eo_lenv rfl rfl rfl rfl rfl rfl ?_) | refine el_cons rfl (eo_arith rfl rfl rfl rfl rfl rfl ⟨by omega, by omega⟩ ?_)))
      refine el_cons rfl (eo_build (cs := RT.cells RT.none) rfl rfl rfl rfl rfl rfl rfl (by rw [RT.none, ← zero_T]; rfl) ?_)
      (repeat (first | refine el_pure rfl rfl rfl rfl ?_ | refine ej_seq ?_ | refine ej_region ?_ | refine el_nil ?_ | refine eq_seq ?_ | refine eq_calm ?_ | refine ej_true rfl ?_ | refine ej_false rfl ?_ | refine el_skip rfl rfl rfl ?_ | refine ej_ret ?_ | refine ej_skip ?_ | refine ej_exit ?_ | refine ej_block ?_ | refine eq_seq_ret ?_ | refine eq_seq_exit ?_ | refine eq_block ?_ | refine eq_block_exit ?_ | refine eq_block_ret ?_ | refine eq_block_exit_ne rfl ?_ | refine eq_back_ret ?_ | refine eq_back_exit ?_ | refine el_cons rfl (eo_lenv rfl rfl rfl rfl rfl rfl ?_) | refine el_cons rfl (eo_arith rfl rfl rfl rfl rfl rfl ⟨by omega, by omega⟩ ?_)))
      refine el_cons rfl (eo_stA 1 rfl rfl rfl rfl rfl RT.none_ok.len (RT.one _) rfl RT.none_ok.len ?_)
      (repeat (first | refine el_pure rfl rfl rfl rfl ?_ | refine ej_seq ?_ | refine ej_region ?_ | refine el_nil ?_ | refine eq_seq ?_ | refine eq_calm ?_ | refine ej_true rfl ?_ | refine ej_false rfl ?_ | refine el_skip rfl rfl rfl ?_ | refine ej_ret ?_ | refine ej_skip ?_ | refine ej_exit ?_ | refine ej_block ?_ | refine eq_seq_ret ?_ | refine eq_seq_exit ?_ | refine eq_block ?_ | refine eq_block_exit ?_ | refine eq_block_ret ?_ | refine eq_block_exit_ne rfl ?_ | refine eq_back_ret ?_ | refine eq_back_exit ?_ | refine el_cons rfl (eo_lenv rfl rfl rfl rfl rfl rfl ?_) | refine el_cons rfl (eo_arith rfl rfl rfl rfl rfl rfl ⟨by omega, by omega⟩ ?_)))
      exact eq_ret _ (rvs_tmp rfl (rvs_cell 1 rfl rfl rfl rfl RT.none_ok.len (rvs_tmp rfl rvs_nil))) fun w hw => .inr ⟨RT.none, rfl, ⟨RT.none_ok, fun h => absurd h2 (by omega)⟩, hw.drop 2⟩
    have h20 : xs.length ≤ 20 := by omega
    (repeat (first | refine el_pure rfl rfl rfl rfl ?_ | refine ej_seq ?_ | refine ej_region ?_ | refine el_nil ?_ | refine eq_seq ?_ | refine eq_calm ?_ | refine ej_true rfl ?_ | refine ej_false rfl ?_ | refine el_skip rfl rfl rfl ?_ | refine ej_ret ?_ | refine ej_skip ?_ | refine ej_exit ?_ | refine ej_block ?_ | refine eq_seq_ret ?_ | refine eq_seq_exit ?_ | refine eq_block ?_ | refine eq_block_exit ?_ | refine eq_block_ret ?_ | refine eq_block_exit_ne rfl ?_ | refine eq_back_ret ?_ | refine eq_back_exit ?_ | refine el_cons rfl (eo_lenv rfl rfl rfl rfl rfl rfl ?_) | refine el_cons rfl (eo_arith rfl rfl rfl rfl rfl rfl ⟨by omega, by omega⟩ ?_)))
    refine el_cons rfl (eo_call2 rfl rfl rfl rfl rfl real_topo_New (NewT2_any xs hM.lt (i := 0) rfl (by omega)) (fun x h0 => ?_) (fun _ h0 => ?_))
    · obtain ⟨bt, rt⟩ := x
      (repeat (first | refine el_pure rfl rfl rfl rfl ?_ | refine ej_seq ?_ | refine ej_region ?_ | refine el_nil ?_ | refine eq_seq ?_ | refine eq_calm ?_ | refine ej_true rfl ?_ | refine ej_false rfl ?_ | refine el_skip rfl rfl rfl ?_ | refine ej_ret ?_ | refine ej_skip ?_ | refine ej_exit ?_ | refine ej_block ?_ | refine eq_seq_ret ?_ | refine eq_seq_exit ?_ | refine eq_block ?_ | refine eq_block_exit ?_ | refine eq_block_ret ?_ | refine eq_block_exit_ne rfl ?_ | refine eq_back_ret ?_ | refine eq_back_exit ?_ | refine el_cons rfl (eo_lenv rfl rfl rfl rfl rfl rfl ?_) | refine el_cons rfl (eo_arith rfl rfl rfl rfl rfl rfl ⟨by omega, by omega⟩ ?_)))
      refine el_cons rfl (eo_callx rfl rfl rfl rfl rfl real_law05_Sets (Sets_any (i := i + 4) xs hM.lt hM.sl hM.old h20) fun r2 _ => ?_)
      refine el_cons rfl (eo_call1 rfl rfl rfl rfl rfl real_ref05_New (NewR_any (i := 0) xs rfl) ?_)
      rw [new_E hM.lt, h0]
      have hok := newT_ok (bitsLs xs)
      generalize newT (bitsLs xs) = t at *
      (repeat (first | refine el_pure rfl rfl rfl rfl ?_ | refine ej_seq ?_ | refine ej_region ?_ | refine el_nil ?_ | refine eq_seq ?_ | refine eq_calm ?_ | refine ej_true rfl ?_ | refine ej_false rfl ?_ | refine el_skip rfl rfl rfl ?_ | refine ej_ret ?_ | refine ej_skip ?_ | refine ej_exit ?_ | refine ej_block ?_ | refine eq_seq_ret ?_ | refine eq_seq_exit ?_ | refine eq_block ?_ | refine eq_block_exit ?_ | refine eq_block_ret ?_ | refine eq_block_exit_ne rfl ?_ | refine eq_back_ret ?_ | refine eq_back_exit ?_ | refine el_cons rfl (eo_lenv rfl rfl rfl rfl rfl rfl ?_) | refine el_cons rfl (eo_arith rfl rfl rfl rfl rfl rfl ⟨by omega, by omega⟩ ?_)))
      refine el_cons rfl (eo_alloc rfl rfl rfl rfl fun b10 => ?_)
      refine el_cons rfl (eo_stA 0 rfl rfl rfl rfl rfl hok.len t.one rfl rfl ?_)
      (repeat (first | refine el_pure rfl rfl rfl rfl ?_ | refine ej_seq ?_ | refine ej_region ?_ | refine el_nil ?_ | refine eq_seq ?_ | refine eq_calm ?_ | refine ej_true rfl ?_ | refine ej_false rfl ?_ | refine el_skip rfl rfl rfl ?_ | refine ej_ret ?_ | refine ej_skip ?_ | refine ej_exit ?_ | refine ej_block ?_ | refine eq_seq_ret ?_ | refine eq_seq_exit ?_ | refine eq_block ?_ | refine eq_block_exit ?_ | refine eq_block_ret ?_ | refine eq_block_exit_ne rfl ?_ | refine eq_back_ret ?_ | refine eq_back_exit ?_ | refine el_cons rfl (eo_lenv rfl rfl rfl rfl rfl rfl ?_) | refine el_cons rfl (eo_arith rfl rfl rfl rfl rfl rfl ⟨by omega, by omega⟩ ?_)))
      refine ej_held [cells b10 T_ref05_T t.cells] ?_
      refine eh_take 0 (held (.cons 0 rfl .nil)) rfl (by kernel_rfl) (by kernel_rfl) (by kernel_rfl) rfl rfl rfl rfl ?_
      refine eh_take 2 (held (.cons 0 rfl .nil)) rfl (by kernel_rfl) (by kernel_rfl) (by kernel_rfl) rfl rfl rfl rfl ?_
      refine eh_take 3 (held (.cons 0 rfl .nil)) rfl (by kernel_rfl) (by kernel_rfl) (by kernel_rfl) rfl rfl rfl rfl ?_
      refine eh_take 4 (held (.cons 0 rfl .nil)) rfl (by kernel_rfl) (by kernel_rfl) (by kernel_rfl) rfl rfl rfl rfl ?_
      refine eh_take 5 (held (.cons 0 rfl .nil)) rfl (by kernel_rfl) (by kernel_rfl) (by kernel_rfl) rfl rfl rfl rfl ?_
      refine eh_take 6 (held (.cons 0 rfl .nil)) rfl (by kernel_rfl) (by kernel_rfl) (by kernel_rfl) rfl rfl rfl rfl ?_
      refine eh_take 7 (held (.cons 0 rfl .nil)) rfl (by kernel_rfl) (by kernel_rfl) (by kernel_rfl) rfl rfl rfl rfl ?_
      refine eh_take 8 (held (.cons 0 rfl .nil)) rfl (by kernel_rfl) (by kernel_rfl) (by kernel_rfl) rfl rfl rfl rfl ?_
      refine eh_take 9 (held (.cons 0 rfl .nil)) rfl (by kernel_rfl) (by kernel_rfl) (by kernel_rfl) rfl rfl rfl rfl ?_
      refine eh_load 10 (held (.cons 0 rfl .nil)) rfl (by kernel_rfl) (by kernel_rfl) (by kernel_rfl) rfl rfl rfl (er_pnil rfl (.inr rfl) rfl rfl rfl rfl) ?_
      refine eh_take 11 (held (.cons 0 rfl .nil)) rfl (by kernel_rfl) (by kernel_rfl) (by kernel_rfl) rfl rfl rfl rfl ?_
      refine eh_take 12 (held (.cons 0 rfl .nil)) rfl (by kernel_rfl) (by kernel_rfl) (by kernel_rfl) rfl rfl rfl rfl ?_
      refine eh_load 1 (held (.cons 0 rfl .nil)) rfl (by kernel_rfl) (by kernel_rfl) (by kernel_rfl) rfl rfl rfl (er_ldW 0 rfl rfl rfl rfl rfl hok.len) ?_
      refine eh_way 13 (by kernel_rfl) (hway rfl rfl (eo_stA 5 rfl rfl rfl rfl rfl hok.len t.one rfl RT.none_ok.len ⟨held (.cons 0 rfl .nil), ?_⟩))
      refine eh_take 14 (held (.cons 0 rfl .nil)) rfl (by kernel_rfl) (by kernel_rfl) (by kernel_rfl) rfl rfl rfl rfl ?_
      refine eh_done (by kernel_rfl) ?_
      (repeat (first | refine el_pure rfl rfl rfl rfl ?_ | refine ej_seq ?_ | refine ej_region ?_ | refine el_nil ?_ | refine eq_seq ?_ | refine eq_calm ?_ | refine ej_true rfl ?_ | refine ej_false rfl ?_ | refine el_skip rfl rfl rfl ?_ | refine ej_ret ?_ | refine ej_skip ?_ | refine ej_exit ?_ | refine ej_block ?_ | refine eq_seq_ret ?_ | refine eq_seq_exit ?_ | refine eq_block ?_ | refine eq_block_exit ?_ | refine eq_block_ret ?_ | refine eq_block_exit_ne rfl ?_ | refine eq_back_ret ?_ | refine eq_back_exit ?_))
      refine eq_ret _ (rvs_tmp rfl (rvs_cell 5 rfl rfl rfl rfl hok.len (rvs_tmp rfl rvs_nil))) fun w hw => .inl ⟨(bt, rt), rfl, ⟨h20, rfl⟩, ?_⟩
      exact ((hw.drop 2).erase 2).erase 2
    · generalize topoE xs = E at *
      (repeat (first | refine el_pure rfl rfl rfl rfl ?_ | refine ej_seq ?_ | refine ej_region ?_ | refine el_nil ?_ | refine eq_seq ?_ | refine eq_calm ?_ | refine ej_true rfl ?_ | refine ej_false rfl ?_ | refine el_skip rfl rfl rfl ?_ | refine ej_ret ?_ | refine ej_skip ?_ | refine ej_exit ?_ | refine ej_block ?_ | refine eq_seq_ret ?_ | refine eq_seq_exit ?_ | refine eq_block ?_ | refine eq_block_exit ?_ | refine eq_block_ret ?_ | refine eq_block_exit_ne rfl ?_ | refine eq_back_ret ?_ | refine eq_back_exit ?_ | refine el_cons rfl (eo_lenv rfl rfl rfl rfl rfl rfl ?_) | refine el_cons rfl (eo_arith rfl rfl rfl rfl rfl rfl ⟨by omega, by omega⟩ ?_)))
      refine el_cons rfl (eo_callx rfl rfl rfl rfl rfl real_law05_Sets (Sets_any (i := i + 2) xs hM.lt hM.sl hM.old h20) fun r2 _ => ?_)
      refine el_cons rfl (eo_call1 rfl rfl rfl rfl rfl real_ref05_New (NewR_any (i := 0) xs rfl) ?_)
      have hok := newT_ok (bitsLs xs)
      generalize newT (bitsLs xs) = t at *
      generalize newE (bitsLs xs) = E' at *
      (repeat (first | refine el_pure rfl rfl rfl rfl ?_ | refine ej_seq ?_ | refine ej_region ?_ | refine el_nil ?_ | refine eq_seq ?_ | refine eq_calm ?_ | refine ej_true rfl ?_ | refine ej_false rfl ?_ | refine el_skip rfl rfl rfl ?_ | refine ej_ret ?_ | refine ej_skip ?_ | refine ej_exit ?_ | refine ej_block ?_ | refine eq_seq_ret ?_ | refine eq_seq_exit ?_ | refine eq_block ?_ | refine eq_block_exit ?_ | refine eq_block_ret ?_ | refine eq_block_exit_ne rfl ?_ | refine eq_back_ret ?_ | refine eq_back_exit ?_ | refine el_cons rfl (eo_lenv rfl rfl rfl rfl rfl rfl ?_) | refine el_cons rfl (eo_arith rfl rfl rfl rfl rfl rfl ⟨by omega, by omega⟩ ?_)))
      refine el_cons rfl (eo_alloc rfl rfl rfl rfl fun b10 => ?_)
      refine el_cons rfl (eo_stA 0 rfl rfl rfl rfl rfl hok.len t.one rfl rfl ?_)
      (repeat (first | refine el_pure rfl rfl rfl rfl ?_ | refine ej_seq ?_ | refine ej_region ?_ | refine el_nil ?_ | refine eq_seq ?_ | refine eq_calm ?_ | refine ej_true rfl ?_ | refine ej_false rfl ?_ | refine el_skip rfl rfl rfl ?_ | refine ej_ret ?_ | refine ej_skip ?_ | refine ej_exit ?_ | refine ej_block ?_ | refine eq_seq_ret ?_ | refine eq_seq_exit ?_ | refine eq_block ?_ | refine eq_block_exit ?_ | refine eq_block_ret ?_ | refine eq_block_exit_ne rfl ?_ | refine eq_back_ret ?_ | refine eq_back_exit ?_ | refine el_cons rfl (eo_lenv rfl rfl rfl rfl rfl rfl ?_) | refine el_cons rfl (eo_arith rfl rfl rfl rfl rfl rfl ⟨by omega, by omega⟩ ?_)))
      refine ej_held [cells b10 T_ref05_T t.cells] ?_
      refine eh_take 0 (held (.cons 0 rfl .nil)) rfl (by kernel_rfl) (by kernel_rfl) (by kernel_rfl) rfl rfl rfl rfl ?_
      refine eh_take 2 (held (.cons 0 rfl .nil)) rfl (by kernel_rfl) (by kernel_rfl) (by kernel_rfl) rfl rfl rfl rfl ?_
      refine eh_take 3 (held (.cons 0 rfl .nil)) rfl (by kernel_rfl) (by kernel_rfl) (by kernel_rfl) rfl rfl rfl rfl ?_
      refine eh_val 41 (u := .bool false) rfl (by rw [decide_eq_false h0]) ?_
      refine eh_take 4 (held (.cons 0 rfl .nil)) rfl (by kernel_rfl) (by kernel_rfl) (by kernel_rfl) rfl rfl rfl rfl ?_
      refine eh_skip 5 (held (.cons 0 rfl .nil)) rfl (by kernel_rfl) (by kernel_rfl) (by kernel_rfl) rfl rfl rfl ?_
      refine eh_skip 6 (held (.cons 0 rfl .nil)) rfl (by kernel_rfl) (by kernel_rfl) (by kernel_rfl) rfl rfl rfl ?_
      refine eh_take 7 (held (.cons 0 rfl .nil)) rfl (by kernel_rfl) (by kernel_rfl) (by kernel_rfl) rfl rfl rfl rfl ?_
      refine eh_take 8 (held (.cons 0 rfl .nil)) rfl (by kernel_rfl) (by kernel_rfl) (by kernel_rfl) rfl rfl rfl rfl ?_
      refine eh_skip 9 (held (.cons 0 rfl .nil)) rfl (by kernel_rfl) (by kernel_rfl) (by kernel_rfl) rfl rfl rfl ?_
      refine eh_skip 10 (held (.cons 0 rfl .nil)) rfl (by kernel_rfl) (by kernel_rfl) (by kernel_rfl) rfl rfl rfl ?_
      refine eh_take 11 (held (.cons 0 rfl .nil)) rfl (by kernel_rfl) (by kernel_rfl) (by kernel_rfl) rfl rfl rfl rfl ?_
      refine eh_take 12 (held (.cons 0 rfl .nil)) rfl (by kernel_rfl) (by kernel_rfl) (by kernel_rfl) rfl rfl rfl rfl ?_
      refine eh_load 1 (held (.cons 0 rfl .nil)) rfl (by kernel_rfl) (by kernel_rfl) (by kernel_rfl) rfl rfl rfl (er_ldW 0 rfl rfl rfl rfl rfl hok.len) ?_
      refine eh_way 13 (by kernel_rfl) (hway rfl rfl (eo_stA 3 rfl rfl rfl rfl rfl hok.len t.one rfl RT.none_ok.len ⟨held (.cons 0 rfl .nil), ?_⟩))
      refine eh_take 14 (held (.cons 0 rfl .nil)) rfl (by kernel_rfl) (by kernel_rfl) (by kernel_rfl) rfl rfl rfl rfl ?_
      refine eh_done (by kernel_rfl) ?_
      (repeat (first | refine el_pure rfl rfl rfl rfl ?_ | refine ej_seq ?_ | refine ej_region ?_ | refine el_nil ?_ | refine eq_seq ?_ | refine eq_calm ?_ | refine ej_true rfl ?_ | refine ej_false rfl ?_ | refine el_skip rfl rfl rfl ?_ | refine ej_ret ?_ | refine ej_skip ?_ | refine ej_exit ?_ | refine ej_block ?_ | refine eq_seq_ret ?_ | refine eq_seq_exit ?_ | refine eq_block ?_ | refine eq_block_exit ?_ | refine eq_block_ret ?_ | refine eq_block_exit_ne rfl ?_ | refine eq_back_ret ?_ | refine eq_back_exit ?_))
      refine eq_ret _ (rvs_tmp rfl (rvs_cell 3 rfl rfl rfl rfl hok.len (rvs_tmp rfl rvs_nil))) fun w hw => .inr ⟨t, rfl, ⟨hok, fun _ => h0⟩, ?_⟩
      exact hw.drop 4

end Go.Proofs.Ytefahijlcmfpjaa
