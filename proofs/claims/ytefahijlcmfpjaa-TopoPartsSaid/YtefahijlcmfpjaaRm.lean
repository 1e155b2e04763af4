/- The laws: TopoNews. -/
import Derived.Test.YtefahijlcmfpjaaRl
namespace Go.Proofs.Ytefahijlcmfpjaa
open Go Go.SE

variable {w0 : World} {l : List HP} {i j b : Nat} {r : Option (Nat × Nat)} {T : Topo} {t : RT}

theorem part_doms (h : t.Ok) : SE.partAt lay 25 t.cells 1 = some (.agg (ints t.doms).toArray) := by
  have : cellsAt t.cells 1 64 = ints t.doms := by
    simp only [cellsAt, RT.cells, List.drop_succ_cons, List.drop_zero]
    exact List.take_left' (by simp [h.doms])
  rw [← this]; rfl
theorem part_on (h : t.Ok) : SE.partAt lay 27 t.cells 65 = some (setV t.on) := by
  have : cellsAt t.cells 65 64 = bools t.on := by
    simp only [cellsAt, RT.cells, List.drop_succ_cons]
    rw [List.drop_left' (by simp [h.doms]), List.take_of_length_le (by simp [h.on])]
  rw [setV, ← this]; rfl
theorem guard_T : cx.P.eqGuardType cx.P.depth T_ref05_T = false := by kernel_rfl
theorem plain_T : plainStruct cx.P T_ref05_T = true := by kernel_rfl
theorem same_T (h : t.Ok) : Same cx 10000 T_ref05_T t.val t.val true := by
  have e : true = (decide (t.many = t.many) && (decide (t.doms = t.doms) && (decide (t.on = t.on) && true))) := by simp
  rw [e]
  refine same_struct (C := cx) (d := 9999) (fs := [(3, 0), (25, 1), (27, 65)]) rfl rfl plain_T (.cons rfl rfl (same_int rfl rfl) (.cons (part_doms h) (part_doms h) ?_ (.cons (part_on h) (part_on h) ?_ .nil)))
  · exact same_array (C := cx) (d := 9998) (Value.int .i64) rfl rfl rfl rfl rfl (fun _ _ => same_int rfl rfl) h.doms h.doms
  · exact same_array (C := cx) (d := 9998) Value.bool rfl rfl rfl rfl rfl (fun _ _ => same_bool rfl rfl) h.on h.on

set_option maxHeartbeats 1600000 in
theorem News_any {a : Option Addr} {c : Nat} (xs : List Nat) (hM : Masks w0 l i a xs) : Does cx F_law05_TopoNews [.slice a xs.length c] (S w0 l) fun v w => v = .bool true ∧ S w0 l w := by
  have hfits := hM.fits
  refine fn_enter (n := N_law05_TopoNews) fn_law05_TopoNews rfl rfl rfl ?_
  (repeat (first | refine el_pure rfl rfl rfl rfl ?_ | refine ej_seq ?_ | refine ej_region ?_ | refine el_nil ?_ | refine eq_seq ?_ | refine eq_calm ?_ | refine ej_true rfl ?_ | refine ej_false rfl ?_ | refine el_skip rfl rfl rfl ?_ | refine ej_ret ?_ | refine ej_skip ?_ | refine ej_exit ?_ | refine ej_block ?_ | refine eq_seq_ret ?_ | refine eq_seq_exit ?_ | refine eq_block ?_ | refine eq_block_exit ?_ | refine eq_block_ret ?_ | refine eq_block_exit_ne rfl ?_ | refine eq_back_ret ?_ | refine eq_back_exit ?_))
  refine el_cons rfl (eo_call1 rfl rfl rfl rfl rfl real_law05_awake awake_any ?_)
  (repeat (first | refine el_pure rfl rfl rfl rfl ?_ | refine ej_seq ?_ | refine ej_region ?_ | refine el_nil ?_ | refine eq_seq ?_ | refine eq_calm ?_ | refine ej_true rfl ?_ | refine ej_false rfl ?_ | refine el_skip rfl rfl rfl ?_ | refine ej_ret ?_ | refine ej_skip ?_ | refine ej_exit ?_ | refine ej_block ?_ | refine eq_seq_ret ?_ | refine eq_seq_exit ?_ | refine eq_block ?_ | refine eq_block_exit ?_ | refine eq_block_ret ?_ | refine eq_block_exit_ne rfl ?_ | refine eq_back_ret ?_ | refine eq_back_exit ?_ | refine el_cons rfl (eo_lenv rfl rfl rfl rfl rfl rfl ?_) | refine el_cons rfl (eo_arith rfl rfl rfl rfl rfl rfl ⟨by omega, by omega⟩ ?_)))
  refine ej_dec rfl (fun h1 => ?_) (fun h1 => ?_)
  · (repeat (first | refine el_pure rfl rfl rfl rfl ?_ | refine ej_seq ?_ | refine ej_region ?_ | refine el_nil ?_ | refine eq_seq ?_ | refine eq_calm ?_ | refine ej_true rfl ?_ | refine ej_false rfl ?_ | refine el_skip rfl rfl rfl ?_ | refine ej_ret ?_ | refine ej_skip ?_ | refine ej_exit ?_ | refine ej_block ?_ | refine eq_seq_ret ?_ | refine eq_seq_exit ?_ | refine eq_block ?_ | refine eq_block_exit ?_ | refine eq_block_ret ?_ | refine eq_block_exit_ne rfl ?_ | refine eq_back_ret ?_ | refine eq_back_exit ?_))
    refine el_cons rfl (eo_call1 rfl rfl rfl rfl rfl real_law05_awake awake_any ?_)
    (repeat (first | refine el_pure rfl rfl rfl rfl ?_ | refine ej_seq ?_ | refine ej_region ?_ | refine el_nil ?_ | refine eq_seq ?_ | refine eq_calm ?_ | refine ej_true rfl ?_ | refine ej_false rfl ?_ | refine el_skip rfl rfl rfl ?_ | refine ej_ret ?_ | refine ej_skip ?_ | refine ej_exit ?_ | refine ej_block ?_ | refine eq_seq_ret ?_ | refine eq_seq_exit ?_ | refine eq_block ?_ | refine eq_block_exit ?_ | refine eq_block_ret ?_ | refine eq_block_exit_ne rfl ?_ | refine eq_back_ret ?_ | refine eq_back_exit ?_))
    exact eq_rett rfl fun w hw => ⟨rfl, hw⟩
  have h20 : xs.length ≤ 20 := by omega
  (repeat (first | refine el_pure rfl rfl rfl rfl ?_ | refine ej_seq ?_ | refine ej_region ?_ | refine el_nil ?_ | refine eq_seq ?_ | refine eq_calm ?_ | refine ej_true rfl ?_ | refine ej_false rfl ?_ | refine el_skip rfl rfl rfl ?_ | refine ej_ret ?_ | refine ej_skip ?_ | refine ej_exit ?_ | refine ej_block ?_ | refine eq_seq_ret ?_ | refine eq_seq_exit ?_ | refine eq_block ?_ | refine eq_block_exit ?_ | refine eq_block_ret ?_ | refine eq_block_exit_ne rfl ?_ | refine eq_back_ret ?_ | refine eq_back_exit ?_))
  refine el_cons rfl (eo_call2 rfl rfl rfl rfl rfl real_law05_Open (Open_any xs hM) (fun x h0 => ?_) (fun t h0 => ?_))
  · obtain ⟨bt, rt⟩ := x
    obtain ⟨_, h0⟩ := h0
    have hR := new_T hM.lt h0
    have hat := At.laid bt rt (topoT xs) l
    have hok := newT_ok (bitsLs xs)
    (repeat (first | refine el_pure rfl rfl rfl rfl ?_ | refine ej_seq ?_ | refine ej_region ?_ | refine el_nil ?_ | refine eq_seq ?_ | refine eq_calm ?_ | refine ej_true rfl ?_ | refine ej_false rfl ?_ | refine el_skip rfl rfl rfl ?_ | refine ej_ret ?_ | refine ej_skip ?_ | refine ej_exit ?_ | refine ej_block ?_ | refine eq_seq_ret ?_ | refine eq_seq_exit ?_ | refine eq_block ?_ | refine eq_block_exit ?_ | refine eq_block_ret ?_ | refine eq_block_exit_ne rfl ?_ | refine eq_back_ret ?_ | refine eq_back_exit ?_))
    refine el_cons rfl (eo_alloc rfl rfl rfl rfl fun b4 => ?_)
    (repeat (first | refine el_pure rfl rfl rfl rfl ?_ | refine ej_seq ?_ | refine ej_region ?_ | refine el_nil ?_ | refine eq_seq ?_ | refine eq_calm ?_ | refine ej_true rfl ?_ | refine ej_false rfl ?_ | refine el_skip rfl rfl rfl ?_ | refine ej_ret ?_ | refine ej_skip ?_ | refine ej_exit ?_ | refine ej_block ?_ | refine eq_seq_ret ?_ | refine eq_seq_exit ?_ | refine eq_block ?_ | refine eq_block_exit ?_ | refine eq_block_ret ?_ | refine eq_block_exit_ne rfl ?_ | refine eq_back_ret ?_ | refine eq_back_exit ?_))
    refine el_cons rfl (eo_stA 0 rfl rfl rfl rfl rfl hok.len (RT.one _) rfl rfl ?_)
    (repeat (first | refine el_pure rfl rfl rfl rfl ?_ | refine ej_seq ?_ | refine ej_region ?_ | refine el_nil ?_ | refine eq_seq ?_ | refine eq_calm ?_ | refine ej_true rfl ?_ | refine ej_false rfl ?_ | refine el_skip rfl rfl rfl ?_ | refine ej_ret ?_ | refine ej_skip ?_ | refine ej_exit ?_ | refine ej_block ?_ | refine eq_seq_ret ?_ | refine eq_seq_exit ?_ | refine eq_block ?_ | refine eq_block_exit ?_ | refine eq_block_ret ?_ | refine eq_block_exit_ne rfl ?_ | refine eq_back_ret ?_ | refine eq_back_exit ?_))
    refine el_cons rfl (eo_callx rfl rfl rfl rfl rfl real_law05_Sets (Sets_any (i := i + 3) xs hM.lt hM.sl hM.old h20) fun r2 _ => ?_)
    refine el_cons rfl (eo_call1 rfl rfl rfl rfl rfl real_ref05_New (NewR_any (i := 0) xs rfl) ?_)
    rw [new_E hM.lt, h0]
    generalize newT (bitsLs xs) = t at *
    (repeat (first | refine el_pure rfl rfl rfl rfl ?_ | refine ej_seq ?_ | refine ej_region ?_ | refine el_nil ?_ | refine eq_seq ?_ | refine eq_calm ?_ | refine ej_true rfl ?_ | refine ej_false rfl ?_ | refine el_skip rfl rfl rfl ?_ | refine ej_ret ?_ | refine ej_skip ?_ | refine ej_exit ?_ | refine ej_block ?_ | refine eq_seq_ret ?_ | refine eq_seq_exit ?_ | refine eq_block ?_ | refine eq_block_exit ?_ | refine eq_block_ret ?_ | refine eq_block_exit_ne rfl ?_ | refine eq_back_ret ?_ | refine eq_back_exit ?_))
    refine el_cons rfl (eo_alloc rfl rfl rfl rfl fun b6 => ?_)
    refine el_cons rfl (eo_stA 0 rfl rfl rfl rfl rfl hok.len (RT.one _) rfl rfl ?_)
    (repeat (first | refine el_pure rfl rfl rfl rfl ?_ | refine ej_seq ?_ | refine ej_region ?_ | refine el_nil ?_ | refine eq_seq ?_ | refine eq_calm ?_ | refine ej_true rfl ?_ | refine ej_false rfl ?_ | refine el_skip rfl rfl rfl ?_ | refine ej_ret ?_ | refine ej_skip ?_ | refine ej_exit ?_ | refine ej_block ?_ | refine eq_seq_ret ?_ | refine eq_seq_exit ?_ | refine eq_block ?_ | refine eq_block_exit ?_ | refine eq_block_ret ?_ | refine eq_block_exit_ne rfl ?_ | refine eq_back_ret ?_ | refine eq_back_exit ?_ | refine el_cons rfl (eo_lenv rfl rfl rfl rfl rfl rfl ?_) | refine el_cons rfl (eo_arith rfl rfl rfl rfl rfl rfl ⟨by omega, by omega⟩ ?_)))
    refine ej_loopP (α := Nat × Option (Nat × Nat)) (fun x => x.1 ≤ xs.length) (fun x => [(3, ptr bt), (4, ptr b4), (5, .bool true), (6, ptr b6), (7, int 0), (8, sv x.2 x.1), (33, .slice a xs.length c), (34, int xs.length), (35, int x.1)])
      (fun x => S w0 (rowC x.2 T_mask_Set 1 (u64s (xs.take x.1)) x.1 :: cells b6 T_ref05_T t.cells :: rowC r2 T_ref01_Set 64 (flat (bitsLs xs)) xs.length :: cells b4 T_ref05_T t.cells :: laid bt rt (topoT xs) l)) (fun x => xs.length - x.1) (0, none) (by simp) (le_of _ _ rfl) ?_ ?_
    · exact fun w hw => hw.row_new
    rintro ⟨k, r'⟩ hk
    have hk : k ≤ xs.length := hk
    (repeat (first | refine el_pure rfl rfl rfl rfl ?_ | refine ej_seq ?_ | refine ej_region ?_ | refine el_nil ?_ | refine eq_seq ?_ | refine eq_calm ?_ | refine ej_true rfl ?_ | refine ej_false rfl ?_ | refine el_skip rfl rfl rfl ?_ | refine ej_ret ?_ | refine ej_skip ?_ | refine ej_exit ?_ | refine ej_block ?_ | refine eq_seq_ret ?_ | refine eq_seq_exit ?_ | refine eq_block ?_ | refine eq_block_exit ?_ | refine eq_block_ret ?_ | refine eq_block_exit_ne rfl ?_ | refine eq_back_ret ?_ | refine eq_back_exit ?_))
    refine ej_dec rfl (fun h => ?_) (fun h => ?_)
    · have h : (k : Int) < xs.length := h
      have hk1 : k < xs.length := by omega
      have hx : xs[k]? = some xs[k] := by simp [hk1]
      have e1 : u64s (xs.take (k + 1)) = u64s (xs.take k) ++ [u64 xs[k]] := by
        simp only [u64s, List.take_succ_eq_append_getElem hk1, List.map_append, List.map_cons, List.map_nil]
      generalize xs[k] = m at *
      (repeat (first | refine el_pure rfl rfl rfl rfl ?_ | refine ej_seq ?_ | refine ej_region ?_ | refine el_nil ?_ | refine eq_seq ?_ | refine eq_calm ?_ | refine ej_true rfl ?_ | refine ej_false rfl ?_ | refine el_skip rfl rfl rfl ?_ | refine ej_ret ?_ | refine ej_skip ?_ | refine ej_exit ?_ | refine ej_block ?_ | refine eq_seq_ret ?_ | refine eq_seq_exit ?_ | refine eq_block ?_ | refine eq_block_exit ?_ | refine eq_block_ret ?_ | refine eq_block_exit_ne rfl ?_ | refine eq_back_ret ?_ | refine eq_back_exit ?_ | refine el_cons rfl (eo_lenv rfl rfl rfl rfl rfl rfl ?_) | refine el_cons rfl (eo_arith rfl rfl rfl rfl rfl rfl ⟨by omega, by omega⟩ ?_)))
      refine el_cons rfl (eo_idxo rfl rfl rfl rfl rfl rfl rfl rfl rfl hM.sl ⟨by omega, h⟩ ?_)
      refine el_cons rfl (eo_ldo (i + 6) k rfl rfl rfl ?_ rfl rfl hM.old hM.sl (v := u64 m) (by simp [hx]) ?_)
      · show some _ = _; simp
      (repeat (first | refine el_pure rfl rfl rfl rfl ?_ | refine ej_seq ?_ | refine ej_region ?_ | refine el_nil ?_ | refine eq_seq ?_ | refine eq_calm ?_ | refine ej_true rfl ?_ | refine ej_false rfl ?_ | refine el_skip rfl rfl rfl ?_ | refine ej_ret ?_ | refine ej_skip ?_ | refine ej_exit ?_ | refine ej_block ?_ | refine eq_seq_ret ?_ | refine eq_seq_exit ?_ | refine eq_block ?_ | refine eq_block_exit ?_ | refine eq_block_ret ?_ | refine eq_block_exit_ne rfl ?_ | refine eq_back_ret ?_ | refine eq_back_exit ?_ | refine el_cons rfl (eo_lenv rfl rfl rfl rfl rfl rfl ?_) | refine el_cons rfl (eo_arith rfl rfl rfl rfl rfl rfl ⟨by omega, by omega⟩ ?_)))
      refine el_cons rfl (eo_buildS rfl rfl rfl rfl rfl rfl rfl rfl rfl rfl fun b' => ?_)
      refine el_cons rfl (eo_append 1 [u64 m] rfl rfl rfl rfl rfl rfl rfl rfl rfl rfl rfl (fun w hw j u hu => ?_) rfl (by decide) ?_ ?_ fun r3 => ?_)
      · rw [addr_add, Nat.zero_add]; exact hw.cell (i := 0) rfl hu
      · show (k + 1) * 8 ≤ 140737488355328; omega
      · show k + 1 ≤ 9223372036854775807; omega
      (repeat (first | refine el_pure rfl rfl rfl rfl ?_ | refine ej_seq ?_ | refine ej_region ?_ | refine el_nil ?_ | refine eq_seq ?_ | refine eq_calm ?_ | refine ej_true rfl ?_ | refine ej_false rfl ?_ | refine el_skip rfl rfl rfl ?_ | refine ej_ret ?_ | refine ej_skip ?_ | refine ej_exit ?_ | refine ej_block ?_ | refine eq_seq_ret ?_ | refine eq_seq_exit ?_ | refine eq_block ?_ | refine eq_block_exit ?_ | refine eq_block_ret ?_ | refine eq_block_exit_ne rfl ?_ | refine eq_back_ret ?_ | refine eq_back_exit ?_ | refine el_cons rfl (eo_lenv rfl rfl rfl rfl rfl rfl ?_) | refine el_cons rfl (eo_arith rfl rfl rfl rfl rfl rfl ⟨by omega, by omega⟩ ?_)))
      refine eq_backP (k + 1, r3) (by show k + 1 ≤ xs.length; omega) (by show xs.length - (k + 1) < xs.length - k; omega) (le_of _ _ rfl) ?_
      intro w hw
      show S w0 (rowC r3 T_mask_Set 1 (u64s (xs.take (k + 1))) (k + 1) :: cells b6 T_ref05_T t.cells :: rowC r2 T_ref01_Set 64 (flat (bitsLs xs)) xs.length :: cells b4 T_ref05_T t.cells :: laid bt rt (topoT xs) l) w
      rw [e1]
      exact hw.erase 0
    have h : ¬ (k : Int) < xs.length := h
    obtain rfl : k = xs.length := by omega
    refine ej_imp' (H' := S w0 (rowC r' T_mask_Set 1 (u64s xs) xs.length :: cells b6 T_ref05_T t.cells :: rowC r2 T_ref01_Set 64 (flat (bitsLs xs)) xs.length :: cells b4 T_ref05_T t.cells :: laid bt rt (topoT xs) l)) (fun w hw => by simpa using hw) ?_
    (repeat (first | refine el_pure rfl rfl rfl rfl ?_ | refine ej_seq ?_ | refine ej_region ?_ | refine el_nil ?_ | refine eq_seq ?_ | refine eq_calm ?_ | refine ej_true rfl ?_ | refine ej_false rfl ?_ | refine el_skip rfl rfl rfl ?_ | refine ej_ret ?_ | refine ej_skip ?_ | refine ej_exit ?_ | refine ej_block ?_ | refine eq_seq_ret ?_ | refine eq_seq_exit ?_ | refine eq_block ?_ | refine eq_block_exit ?_ | refine eq_block_ret ?_ | refine eq_block_exit_ne rfl ?_ | refine eq_back_ret ?_ | refine eq_back_exit ?_ | refine el_cons rfl (eo_lenv rfl rfl rfl rfl rfl rfl ?_) | refine el_cons rfl (eo_arith rfl rfl rfl rfl rfl rfl ⟨by omega, by omega⟩ ?_)))
    refine el_cons rfl (eo_ldW 3 rfl rfl rfl rfl rfl rfl rfl hok.len ?_)
    refine el_cons rfl (eo_ldW 1 rfl rfl rfl rfl rfl rfl rfl hok.len ?_)
    refine el_cons rfl (eo_eqA rfl (.inl rfl) rfl rfl rfl rfl guard_T (same_T hok) ?_)
    (repeat (first | refine el_pure rfl rfl rfl rfl ?_ | refine ej_seq ?_ | refine ej_region ?_ | refine el_nil ?_ | refine eq_seq ?_ | refine eq_calm ?_ | refine ej_true rfl ?_ | refine ej_false rfl ?_ | refine el_skip rfl rfl rfl ?_ | refine ej_ret ?_ | refine ej_skip ?_ | refine ej_exit ?_ | refine ej_block ?_ | refine eq_seq_ret ?_ | refine eq_seq_exit ?_ | refine eq_block ?_ | refine eq_block_exit ?_ | refine eq_block_ret ?_ | refine eq_block_exit_ne rfl ?_ | refine eq_back_ret ?_ | refine eq_back_exit ?_ | refine el_cons rfl (eo_lenv rfl rfl rfl rfl rfl rfl ?_) | refine el_cons rfl (eo_arith rfl rfl rfl rfl rfl rfl ⟨by omega, by omega⟩ ?_)))
    refine el_cons rfl (eo_ldW 3 rfl rfl rfl rfl rfl rfl rfl hok.len ?_)
    refine el_cons rfl (eo_call1 rfl rfl rfl rfl rfl real_law05_Is (Is_any (i := 4) (j := 5) (T := topoT xs) ⟨rfl, rfl⟩ hR) ?_)
    (repeat (first | refine el_pure rfl rfl rfl rfl ?_ | refine ej_seq ?_ | refine ej_region ?_ | refine el_nil ?_ | refine eq_seq ?_ | refine eq_calm ?_ | refine ej_true rfl ?_ | refine ej_false rfl ?_ | refine el_skip rfl rfl rfl ?_ | refine ej_ret ?_ | refine ej_skip ?_ | refine ej_exit ?_ | refine ej_block ?_ | refine eq_seq_ret ?_ | refine eq_seq_exit ?_ | refine eq_block ?_ | refine eq_block_exit ?_ | refine eq_block_ret ?_ | refine eq_block_exit_ne rfl ?_ | refine eq_back_ret ?_ | refine eq_back_exit ?_ | refine el_cons rfl (eo_lenv rfl rfl rfl rfl rfl rfl ?_) | refine el_cons rfl (eo_arith rfl rfl rfl rfl rfl rfl ⟨by omega, by omega⟩ ?_)))
    exact eq_rett rfl fun w hw => ⟨rfl, hw.drop 6⟩
  · obtain ⟨hok, h0⟩ := h0
    have h0 := h0 h20
    (repeat (first | refine el_pure rfl rfl rfl rfl ?_ | refine ej_seq ?_ | refine ej_region ?_ | refine el_nil ?_ | refine eq_seq ?_ | refine eq_calm ?_ | refine ej_true rfl ?_ | refine ej_false rfl ?_ | refine el_skip rfl rfl rfl ?_ | refine ej_ret ?_ | refine ej_skip ?_ | refine ej_exit ?_ | refine ej_block ?_ | refine eq_seq_ret ?_ | refine eq_seq_exit ?_ | refine eq_block ?_ | refine eq_block_exit ?_ | refine eq_block_ret ?_ | refine eq_block_exit_ne rfl ?_ | refine eq_back_ret ?_ | refine eq_back_exit ?_))
    refine el_cons rfl (eo_alloc rfl rfl rfl rfl fun b4 => ?_)
    (repeat (first | refine el_pure rfl rfl rfl rfl ?_ | refine ej_seq ?_ | refine ej_region ?_ | refine el_nil ?_ | refine eq_seq ?_ | refine eq_calm ?_ | refine ej_true rfl ?_ | refine ej_false rfl ?_ | refine el_skip rfl rfl rfl ?_ | refine ej_ret ?_ | refine ej_skip ?_ | refine ej_exit ?_ | refine ej_block ?_ | refine eq_seq_ret ?_ | refine eq_seq_exit ?_ | refine eq_block ?_ | refine eq_block_exit ?_ | refine eq_block_ret ?_ | refine eq_block_exit_ne rfl ?_ | refine eq_back_ret ?_ | refine eq_back_exit ?_))
    refine el_cons rfl (eo_stA 0 rfl rfl rfl rfl rfl hok.len (RT.one _) rfl rfl ?_)
    (repeat (first | refine el_pure rfl rfl rfl rfl ?_ | refine ej_seq ?_ | refine ej_region ?_ | refine el_nil ?_ | refine eq_seq ?_ | refine eq_calm ?_ | refine ej_true rfl ?_ | refine ej_false rfl ?_ | refine el_skip rfl rfl rfl ?_ | refine ej_ret ?_ | refine ej_skip ?_ | refine ej_exit ?_ | refine ej_block ?_ | refine eq_seq_ret ?_ | refine eq_seq_exit ?_ | refine eq_block ?_ | refine eq_block_exit ?_ | refine eq_block_ret ?_ | refine eq_block_exit_ne rfl ?_ | refine eq_back_ret ?_ | refine eq_back_exit ?_))
    refine el_cons rfl (eo_callx rfl rfl rfl rfl rfl real_law05_Sets (Sets_any (i := i + 1) xs hM.lt hM.sl hM.old h20) fun r2 _ => ?_)
    refine el_cons rfl (eo_call1 rfl rfl rfl rfl rfl real_ref05_New (NewR_any (i := 0) xs rfl) ?_)
    have hok2 := newT_ok (bitsLs xs)
    have hNew := @NewT2_any w0
    rw [new_E hM.lt]
    generalize newT (bitsLs xs) = u at *
    have hE : ∃ E, E = topoE xs := ⟨_, rfl⟩
    obtain ⟨E, hE⟩ := hE
    rw [← hE] at h0 ⊢
    (repeat (first | refine el_pure rfl rfl rfl rfl ?_ | refine ej_seq ?_ | refine ej_region ?_ | refine el_nil ?_ | refine eq_seq ?_ | refine eq_calm ?_ | refine ej_true rfl ?_ | refine ej_false rfl ?_ | refine el_skip rfl rfl rfl ?_ | refine ej_ret ?_ | refine ej_skip ?_ | refine ej_exit ?_ | refine ej_block ?_ | refine eq_seq_ret ?_ | refine eq_seq_exit ?_ | refine eq_block ?_ | refine eq_block_exit ?_ | refine eq_block_ret ?_ | refine eq_block_exit_ne rfl ?_ | refine eq_back_ret ?_ | refine eq_back_exit ?_))
    refine el_cons rfl (eo_alloc rfl rfl rfl rfl fun b6 => ?_)
    refine el_cons rfl (eo_stA 0 rfl rfl rfl rfl rfl hok2.len (RT.one _) rfl rfl ?_)
    (repeat (first | refine el_pure rfl rfl rfl rfl ?_ | refine ej_seq ?_ | refine ej_region ?_ | refine el_nil ?_ | refine eq_seq ?_ | refine eq_calm ?_ | refine ej_true rfl ?_ | refine ej_false rfl ?_ | refine el_skip rfl rfl rfl ?_ | refine ej_ret ?_ | refine ej_skip ?_ | refine ej_exit ?_ | refine ej_block ?_ | refine eq_seq_ret ?_ | refine eq_seq_exit ?_ | refine eq_block ?_ | refine eq_block_exit ?_ | refine eq_block_ret ?_ | refine eq_block_exit_ne rfl ?_ | refine eq_back_ret ?_ | refine eq_back_exit ?_ | refine el_cons rfl (eo_lenv rfl rfl rfl rfl rfl rfl ?_) | refine el_cons rfl (eo_arith rfl rfl rfl rfl rfl rfl ⟨by omega, by omega⟩ ?_)))
    refine ej_loopP (α := Nat × Option (Nat × Nat)) (fun x => x.1 ≤ xs.length) (fun x => [(4, ptr b4), (6, ptr b6), (7, int E), (8, sv x.2 x.1), (33, .slice a xs.length c), (34, int xs.length), (35, int x.1)])
      (fun x => S w0 (rowC x.2 T_mask_Set 1 (u64s (xs.take x.1)) x.1 :: cells b6 T_ref05_T u.cells :: rowC r2 T_ref01_Set 64 (flat (bitsLs xs)) xs.length :: cells b4 T_ref05_T t.cells :: l)) (fun x => xs.length - x.1) (0, none) (by simp) (le_of _ _ rfl) ?_ ?_
    · exact fun w hw => hw.row_new
    rintro ⟨k, r'⟩ hk
    have hk : k ≤ xs.length := hk
    (repeat (first | refine el_pure rfl rfl rfl rfl ?_ | refine ej_seq ?_ | refine ej_region ?_ | refine el_nil ?_ | refine eq_seq ?_ | refine eq_calm ?_ | refine ej_true rfl ?_ | refine ej_false rfl ?_ | refine el_skip rfl rfl rfl ?_ | refine ej_ret ?_ | refine ej_skip ?_ | refine ej_exit ?_ | refine ej_block ?_ | refine eq_seq_ret ?_ | refine eq_seq_exit ?_ | refine eq_block ?_ | refine eq_block_exit ?_ | refine eq_block_ret ?_ | refine eq_block_exit_ne rfl ?_ | refine eq_back_ret ?_ | refine eq_back_exit ?_))
    refine ej_dec rfl (fun h => ?_) (fun h => ?_)
    · have h : (k : Int) < xs.length := h
      have hk1 : k < xs.length := by omega
      have hx : xs[k]? = some xs[k] := by simp [hk1]
      have e1 : u64s (xs.take (k + 1)) = u64s (xs.take k) ++ [u64 xs[k]] := by
        simp only [u64s, List.take_succ_eq_append_getElem hk1, List.map_append, List.map_cons, List.map_nil]
      generalize xs[k] = m at *
      (repeat (first | refine el_pure rfl rfl rfl rfl ?_ | refine ej_seq ?_ | refine ej_region ?_ | refine el_nil ?_ | refine eq_seq ?_ | refine eq_calm ?_ | refine ej_true rfl ?_ | refine ej_false rfl ?_ | refine el_skip rfl rfl rfl ?_ | refine ej_ret ?_ | refine ej_skip ?_ | refine ej_exit ?_ | refine ej_block ?_ | refine eq_seq_ret ?_ | refine eq_seq_exit ?_ | refine eq_block ?_ | refine eq_block_exit ?_ | refine eq_block_ret ?_ | refine eq_block_exit_ne rfl ?_ | refine eq_back_ret ?_ | refine eq_back_exit ?_ | refine el_cons rfl (eo_lenv rfl rfl rfl rfl rfl rfl ?_) | refine el_cons rfl (eo_arith rfl rfl rfl rfl rfl rfl ⟨by omega, by omega⟩ ?_)))
      refine el_cons rfl (eo_idxo rfl rfl rfl rfl rfl rfl rfl rfl rfl hM.sl ⟨by omega, h⟩ ?_)
      refine el_cons rfl (eo_ldo (i + 4) k rfl rfl rfl ?_ rfl rfl hM.old hM.sl (v := u64 m) (by simp [hx]) ?_)
      · show some _ = _; simp
      (repeat (first | refine el_pure rfl rfl rfl rfl ?_ | refine ej_seq ?_ | refine ej_region ?_ | refine el_nil ?_ | refine eq_seq ?_ | refine eq_calm ?_ | refine ej_true rfl ?_ | refine ej_false rfl ?_ | refine el_skip rfl rfl rfl ?_ | refine ej_ret ?_ | refine ej_skip ?_ | refine ej_exit ?_ | refine ej_block ?_ | refine eq_seq_ret ?_ | refine eq_seq_exit ?_ | refine eq_block ?_ | refine eq_block_exit ?_ | refine eq_block_ret ?_ | refine eq_block_exit_ne rfl ?_ | refine eq_back_ret ?_ | refine eq_back_exit ?_ | refine el_cons rfl (eo_lenv rfl rfl rfl rfl rfl rfl ?_) | refine el_cons rfl (eo_arith rfl rfl rfl rfl rfl rfl ⟨by omega, by omega⟩ ?_)))
      refine el_cons rfl (eo_buildS rfl rfl rfl rfl rfl rfl rfl rfl rfl rfl fun b' => ?_)
      refine el_cons rfl (eo_append 1 [u64 m] rfl rfl rfl rfl rfl rfl rfl rfl rfl rfl rfl (fun w hw j u hu => ?_) rfl (by decide) ?_ ?_ fun r3 => ?_)
      · rw [addr_add, Nat.zero_add]; exact hw.cell (i := 0) rfl hu
      · show (k + 1) * 8 ≤ 140737488355328; omega
      · show k + 1 ≤ 9223372036854775807; omega
      (repeat (first | refine el_pure rfl rfl rfl rfl ?_ | refine ej_seq ?_ | refine ej_region ?_ | refine el_nil ?_ | refine eq_seq ?_ | refine eq_calm ?_ | refine ej_true rfl ?_ | refine ej_false rfl ?_ | refine el_skip rfl rfl rfl ?_ | refine ej_ret ?_ | refine ej_skip ?_ | refine ej_exit ?_ | refine ej_block ?_ | refine eq_seq_ret ?_ | refine eq_seq_exit ?_ | refine eq_block ?_ | refine eq_block_exit ?_ | refine eq_block_ret ?_ | refine eq_block_exit_ne rfl ?_ | refine eq_back_ret ?_ | refine eq_back_exit ?_ | refine el_cons rfl (eo_lenv rfl rfl rfl rfl rfl rfl ?_) | refine el_cons rfl (eo_arith rfl rfl rfl rfl rfl rfl ⟨by omega, by omega⟩ ?_)))
      refine eq_backP (k + 1, r3) (by show k + 1 ≤ xs.length; omega) (by show xs.length - (k + 1) < xs.length - k; omega) (le_of _ _ rfl) ?_
      intro w hw
      show S w0 (rowC r3 T_mask_Set 1 (u64s (xs.take (k + 1))) (k + 1) :: cells b6 T_ref05_T u.cells :: rowC r2 T_ref01_Set 64 (flat (bitsLs xs)) xs.length :: cells b4 T_ref05_T t.cells :: l) w
      rw [e1]
      exact hw.erase 0
    have h : ¬ (k : Int) < xs.length := h
    obtain rfl : k = xs.length := by omega
    refine ej_imp' (H' := S w0 (rowC r' T_mask_Set 1 (u64s xs) xs.length :: cells b6 T_ref05_T u.cells :: rowC r2 T_ref01_Set 64 (flat (bitsLs xs)) xs.length :: cells b4 T_ref05_T t.cells :: l)) (fun w hw => by simpa using hw) ?_
    (repeat (first | refine el_pure rfl rfl rfl rfl ?_ | refine ej_seq ?_ | refine ej_region ?_ | refine el_nil ?_ | refine eq_seq ?_ | refine eq_calm ?_ | refine ej_true rfl ?_ | refine ej_false rfl ?_ | refine el_skip rfl rfl rfl ?_ | refine ej_ret ?_ | refine ej_skip ?_ | refine ej_exit ?_ | refine ej_block ?_ | refine eq_seq_ret ?_ | refine eq_seq_exit ?_ | refine eq_block ?_ | refine eq_block_exit ?_ | refine eq_block_ret ?_ | refine eq_block_exit_ne rfl ?_ | refine eq_back_ret ?_ | refine eq_back_exit ?_ | refine el_cons rfl (eo_lenv rfl rfl rfl rfl rfl rfl ?_) | refine el_cons rfl (eo_arith rfl rfl rfl rfl rfl rfl ⟨by omega, by omega⟩ ?_)))
    refine ej_dec rfl (fun _ => ?_) (fun h => absurd h0 h)
    (repeat (first | refine el_pure rfl rfl rfl rfl ?_ | refine ej_seq ?_ | refine ej_region ?_ | refine el_nil ?_ | refine eq_seq ?_ | refine eq_calm ?_ | refine ej_true rfl ?_ | refine ej_false rfl ?_ | refine el_skip rfl rfl rfl ?_ | refine ej_ret ?_ | refine ej_skip ?_ | refine ej_exit ?_ | refine ej_block ?_ | refine eq_seq_ret ?_ | refine eq_seq_exit ?_ | refine eq_block ?_ | refine eq_block_exit ?_ | refine eq_block_ret ?_ | refine eq_block_exit_ne rfl ?_ | refine eq_back_ret ?_ | refine eq_back_exit ?_ | refine el_cons rfl (eo_lenv rfl rfl rfl rfl rfl rfl ?_) | refine el_cons rfl (eo_arith rfl rfl rfl rfl rfl rfl ⟨by omega, by omega⟩ ?_)))
    refine el_cons rfl (eo_call2 rfl rfl rfl rfl rfl real_topo_New (NewT2_any xs hM.lt (i := 0) rfl (by omega)) (fun x h1 => absurd (hE.trans h1) h0) (fun _ h1 => ?_))
    rw [← hE]
    (repeat (first | refine el_pure rfl rfl rfl rfl ?_ | refine ej_seq ?_ | refine ej_region ?_ | refine el_nil ?_ | refine eq_seq ?_ | refine eq_calm ?_ | refine ej_true rfl ?_ | refine ej_false rfl ?_ | refine el_skip rfl rfl rfl ?_ | refine ej_ret ?_ | refine ej_skip ?_ | refine ej_exit ?_ | refine ej_block ?_ | refine eq_seq_ret ?_ | refine eq_seq_exit ?_ | refine eq_block ?_ | refine eq_block_exit ?_ | refine eq_block_ret ?_ | refine eq_block_exit_ne rfl ?_ | refine eq_back_ret ?_ | refine eq_back_exit ?_ | refine el_cons rfl (eo_lenv rfl rfl rfl rfl rfl rfl ?_) | refine el_cons rfl (eo_arith rfl rfl rfl rfl rfl rfl ⟨by omega, by omega⟩ ?_)))
    refine el_val 54 (u := .bool true) rfl (by simp) ?_
    (repeat (first | refine el_pure rfl rfl rfl rfl ?_ | refine ej_seq ?_ | refine ej_region ?_ | refine el_nil ?_ | refine eq_seq ?_ | refine eq_calm ?_ | refine ej_true rfl ?_ | refine ej_false rfl ?_ | refine el_skip rfl rfl rfl ?_ | refine ej_ret ?_ | refine ej_skip ?_ | refine ej_exit ?_ | refine ej_block ?_ | refine eq_seq_ret ?_ | refine eq_seq_exit ?_ | refine eq_block ?_ | refine eq_block_exit ?_ | refine eq_block_ret ?_ | refine eq_block_exit_ne rfl ?_ | refine eq_back_ret ?_ | refine eq_back_exit ?_ | refine el_cons rfl (eo_lenv rfl rfl rfl rfl rfl rfl ?_) | refine el_cons rfl (eo_arith rfl rfl rfl rfl rfl rfl ⟨by omega, by omega⟩ ?_)))
    refine el_cons rfl (eo_pnil rfl (.inl rfl) rfl rfl rfl rfl rfl rfl ?_)
    (repeat (first | refine el_pure rfl rfl rfl rfl ?_ | refine ej_seq ?_ | refine ej_region ?_ | refine el_nil ?_ | refine eq_seq ?_ | refine eq_calm ?_ | refine ej_true rfl ?_ | refine ej_false rfl ?_ | refine el_skip rfl rfl rfl ?_ | refine ej_ret ?_ | refine ej_skip ?_ | refine ej_exit ?_ | refine ej_block ?_ | refine eq_seq_ret ?_ | refine eq_seq_exit ?_ | refine eq_block ?_ | refine eq_block_exit ?_ | refine eq_block_ret ?_ | refine eq_block_exit_ne rfl ?_ | refine eq_back_ret ?_ | refine eq_back_exit ?_ | refine el_cons rfl (eo_lenv rfl rfl rfl rfl rfl rfl ?_) | refine el_cons rfl (eo_arith rfl rfl rfl rfl rfl rfl ⟨by omega, by omega⟩ ?_)))
    exact eq_rett rfl fun w hw => ⟨rfl, hw.drop 4⟩

end Go.Proofs.Ytefahijlcmfpjaa
