/- The laws' small functions: sets, a topology opened, whether the program plays. -/
import Derived.Test.YtefahijlcmfpjaaRf
namespace Go.Proofs.Ytefahijlcmfpjaa
open Go Go.SE

variable {w0 : World} {l : List HP} {i j b : Nat} {r : Option (Nat × Nat)} {T : Topo}

theorem Copy_any (h : At l i j b r T) : Does cx F_topo_Topo_Copy [ptr b] (S w0 l) fun v w => ∃ b', v = ptr b' ∧ True ∧ S w0 (cells b' T_topo_Topo [sv r T.doms.length, u64 T.on] :: l) w := by
  refine fn_enter (n := N_topo_Topo_Copy) fn_topo_Topo_Copy rfl rfl rfl ?_
  (repeat (first | refine el_pure rfl rfl rfl rfl ?_ | refine ej_seq ?_ | refine ej_region ?_ | refine el_nil ?_ | refine eq_seq ?_ | refine eq_calm ?_ | refine ej_true rfl ?_ | refine ej_false rfl ?_ | refine el_skip rfl rfl rfl ?_ | refine ej_ret ?_ | refine ej_skip ?_ | refine ej_exit ?_ | refine ej_block ?_ | refine eq_seq_ret ?_ | refine eq_seq_exit ?_ | refine eq_block ?_ | refine eq_block_exit ?_ | refine eq_block_ret ?_ | refine eq_block_exit_ne rfl ?_ | refine eq_back_ret ?_ | refine eq_back_exit ?_))
  refine ej_held [cells b T_topo_Topo [sv r T.doms.length, u64 T.on]] ?_
  refine eh_take 0 (held (.cons i h.top .nil)) rfl (by kernel_rfl) (by kernel_rfl) (by kernel_rfl) rfl rfl rfl rfl ?_
  refine eh_take 1 (held (.cons i h.top .nil)) rfl (by kernel_rfl) (by kernel_rfl) (by kernel_rfl) rfl rfl rfl rfl ?_
  refine eh_take 2 (held (.cons i h.top .nil)) rfl (by kernel_rfl) (by kernel_rfl) (by kernel_rfl) rfl rfl rfl rfl ?_
  refine eh_take 4 (held (.cons i h.top .nil)) rfl (by kernel_rfl) (by kernel_rfl) (by kernel_rfl) rfl rfl rfl rfl ?_
  refine eh_take 5 (held (.cons i h.top .nil)) rfl (by kernel_rfl) (by kernel_rfl) (by kernel_rfl) rfl rfl rfl rfl ?_
  refine eh_take 6 (held (.cons i h.top .nil)) rfl (by kernel_rfl) (by kernel_rfl) (by kernel_rfl) rfl rfl rfl rfl ?_
  refine eh_load 3 (held (.cons i h.top .nil)) rfl (by kernel_rfl) (by kernel_rfl) (by kernel_rfl) rfl rfl rfl (er_ld 0 rfl rfl rfl rfl rfl rfl) ?_
  refine eh_load 7 (held (.cons i h.top .nil)) rfl (by kernel_rfl) (by kernel_rfl) (by kernel_rfl) rfl rfl rfl (er_ld 0 rfl rfl rfl rfl rfl rfl) ?_
  refine eh_way 8 (by kernel_rfl) (hway rfl rfl (eo_build (cs := [sv r T.doms.length, u64 T.on]) rfl rfl rfl rfl rfl rfl rfl rfl ⟨held (.cons i h.top .nil), ?_⟩))
  refine eh_way 9 (by kernel_rfl) (hway rfl rfl (eo_box rfl rfl rfl rfl fun b' => ⟨held (.cons (i + 1) h.top .nil), ?_⟩))
  refine eh_take 10 (held (.cons (i + 1) h.top .nil)) rfl (by kernel_rfl) (by kernel_rfl) (by kernel_rfl) rfl rfl rfl rfl ?_
  refine eh_done (by kernel_rfl) ?_
  (repeat (first | refine el_pure rfl rfl rfl rfl ?_ | refine ej_seq ?_ | refine ej_region ?_ | refine el_nil ?_ | refine eq_seq ?_ | refine eq_calm ?_ | refine ej_true rfl ?_ | refine ej_false rfl ?_ | refine el_skip rfl rfl rfl ?_ | refine ej_ret ?_ | refine ej_skip ?_ | refine ej_exit ?_ | refine ej_block ?_ | refine eq_seq_ret ?_ | refine eq_seq_exit ?_ | refine eq_block ?_ | refine eq_block_exit ?_ | refine eq_block_ret ?_ | refine eq_block_exit_ne rfl ?_ | refine eq_back_ret ?_ | refine eq_back_exit ?_))
  exact eq_rett rfl fun w hw => ⟨b', rfl, trivial, hw⟩

theorem awake_E : topoE [3, 4] = 0 := by
  rw [topoE, if_neg (by decide), if_neg]
  rintro ⟨k, hk, h⟩
  have hk : k < 2 := hk
  rcases h with h | h <;> (rcases (by omega : k = 0 ∨ k = 1) with rfl | rfl <;> revert h <;> decide)
theorem awake_T : topoT [3, 4] = ⟨[3, 4], 7⟩ := rfl


theorem awake_any : Does cx F_law05_awake [] (S w0 l) fun v w => v = .bool true ∧ S w0 l w := by
  refine fn_enter (n := N_law05_awake) fn_law05_awake rfl rfl rfl ?_
  (repeat (first | refine el_pure rfl rfl rfl rfl ?_ | refine ej_seq ?_ | refine ej_region ?_ | refine el_nil ?_ | refine eq_seq ?_ | refine eq_calm ?_ | refine ej_true rfl ?_ | refine ej_false rfl ?_ | refine el_skip rfl rfl rfl ?_ | refine ej_ret ?_ | refine ej_skip ?_ | refine ej_exit ?_ | refine ej_block ?_ | refine eq_seq_ret ?_ | refine eq_seq_exit ?_ | refine eq_block ?_ | refine eq_block_exit ?_ | refine eq_block_ret ?_ | refine eq_block_exit_ne rfl ?_ | refine eq_back_ret ?_ | refine eq_back_exit ?_))
  refine el_cons rfl (eo_buildS (cs := u64s [3, 4]) rfl rfl rfl rfl rfl rfl rfl rfl rfl rfl fun b' => ?_)
  refine el_imp (H' := S w0 (rowC (some (b', 2)) T_mask_Set 1 (u64s [3, 4]) 2 :: l)) (fun w hw => hw.imp (i := 0) rfl (fun h hp => row_of_cells rfl (by decide) hp)) ?_
  refine el_cons rfl (eo_callx (α := Nat × Option (Nat × Nat)) (V := fun x => .tuple #[ptr x.1, int 0]) (φ := fun _ => True) (H' := fun x => S w0 (laid x.1 x.2 ⟨[3, 4], 7⟩ (rowC (some (b', 2)) T_mask_Set 1 (u64s [3, 4]) 2 :: l)))
    rfl rfl rfl rfl rfl real_topo_New ((NewT_any (i := 0) (r := some (b', 2)) [3, 4] (by simp) rfl (by decide)).mono (fun _ h => h) (fun v w h => ?_)) fun x _ => ?_)
  · rcases h with ⟨_, b, r', h1, h2⟩ | ⟨h1, _⟩
    · exact ⟨(b, r'), h1, trivial, h2⟩
    · exact absurd awake_E h1
  obtain ⟨b, r'⟩ := x
  have hat := At.laid b r' ⟨[3, 4], 7⟩ (rowC (some (b', 2)) T_mask_Set 1 (u64s [3, 4]) 2 :: l)
  have ok : Topo.Ok ⟨[3, 4], 7⟩ := ⟨by simp, by decide, by decide⟩
  (repeat (first | refine el_pure rfl rfl rfl rfl ?_ | refine ej_seq ?_ | refine ej_region ?_ | refine el_nil ?_ | refine eq_seq ?_ | refine eq_calm ?_ | refine ej_true rfl ?_ | refine ej_false rfl ?_ | refine el_skip rfl rfl rfl ?_ | refine ej_ret ?_ | refine ej_skip ?_ | refine ej_exit ?_ | refine ej_block ?_ | refine eq_seq_ret ?_ | refine eq_seq_exit ?_ | refine eq_block ?_ | refine eq_block_exit ?_ | refine eq_block_ret ?_ | refine eq_block_exit_ne rfl ?_ | refine eq_back_ret ?_ | refine eq_back_exit ?_ | refine el_cons rfl (eo_lenv rfl rfl rfl rfl rfl rfl ?_) | refine el_cons rfl (eo_arith rfl rfl rfl rfl rfl rfl ⟨by omega, by omega⟩ ?_)))
  refine el_cons rfl (eo_pnil rfl (.inr rfl) rfl rfl rfl rfl rfl rfl ?_)
  (repeat (first | refine el_pure rfl rfl rfl rfl ?_ | refine ej_seq ?_ | refine ej_region ?_ | refine el_nil ?_ | refine eq_seq ?_ | refine eq_calm ?_ | refine ej_true rfl ?_ | refine ej_false rfl ?_ | refine el_skip rfl rfl rfl ?_ | refine ej_ret ?_ | refine ej_skip ?_ | refine ej_exit ?_ | refine ej_block ?_ | refine eq_seq_ret ?_ | refine eq_seq_exit ?_ | refine eq_block ?_ | refine eq_block_exit ?_ | refine eq_block_ret ?_ | refine eq_block_exit_ne rfl ?_ | refine eq_back_ret ?_ | refine eq_back_exit ?_ | refine el_cons rfl (eo_lenv rfl rfl rfl rfl rfl rfl ?_) | refine el_cons rfl (eo_arith rfl rfl rfl rfl rfl rfl ⟨by omega, by omega⟩ ?_)))
  refine el_cons rfl (eo_call1 rfl rfl rfl rfl rfl real_topo_Topo_Down (Down_any 2 hat ok) ?_)
  rw [show Topo.downE ⟨[3, 4], 7⟩ 2 = 9 by decide, show Topo.down ⟨[3, 4], 7⟩ 2 = ⟨[3, 4], 7⟩ by rfl, topoSet_same hat]
  (repeat (first | refine el_pure rfl rfl rfl rfl ?_ | refine ej_seq ?_ | refine ej_region ?_ | refine el_nil ?_ | refine eq_seq ?_ | refine eq_calm ?_ | refine ej_true rfl ?_ | refine ej_false rfl ?_ | refine el_skip rfl rfl rfl ?_ | refine ej_ret ?_ | refine ej_skip ?_ | refine ej_exit ?_ | refine ej_block ?_ | refine eq_seq_ret ?_ | refine eq_seq_exit ?_ | refine eq_block ?_ | refine eq_block_exit ?_ | refine eq_block_ret ?_ | refine eq_block_exit_ne rfl ?_ | refine eq_back_ret ?_ | refine eq_back_exit ?_ | refine el_cons rfl (eo_lenv rfl rfl rfl rfl rfl rfl ?_) | refine el_cons rfl (eo_arith rfl rfl rfl rfl rfl rfl ⟨by omega, by omega⟩ ?_)))
  refine el_cons rfl (eo_call1 rfl rfl rfl rfl rfl real_topo_Topo_Down (Down_any 1 hat ok) ?_)
  rw [show Topo.downE ⟨[3, 4], 7⟩ 1 = 0 by decide, show Topo.down ⟨[3, 4], 7⟩ 1 = ⟨[3, 4], 5⟩ by rfl]
  have hat2 := At.laid b r' ⟨[3, 4], 5⟩ (rowC (some (b', 2)) T_mask_Set 1 (u64s [3, 4]) 2 :: l)
  have ok2 : Topo.Ok ⟨[3, 4], 5⟩ := ⟨by simp, by decide, by decide⟩
  (repeat (first | refine el_pure rfl rfl rfl rfl ?_ | refine ej_seq ?_ | refine ej_region ?_ | refine el_nil ?_ | refine eq_seq ?_ | refine eq_calm ?_ | refine ej_true rfl ?_ | refine ej_false rfl ?_ | refine el_skip rfl rfl rfl ?_ | refine ej_ret ?_ | refine ej_skip ?_ | refine ej_exit ?_ | refine ej_block ?_ | refine eq_seq_ret ?_ | refine eq_seq_exit ?_ | refine eq_block ?_ | refine eq_block_exit ?_ | refine eq_block_ret ?_ | refine eq_block_exit_ne rfl ?_ | refine eq_back_ret ?_ | refine eq_back_exit ?_ | refine el_cons rfl (eo_lenv rfl rfl rfl rfl rfl rfl ?_) | refine el_cons rfl (eo_arith rfl rfl rfl rfl rfl rfl ⟨by omega, by omega⟩ ?_)))
  refine el_cons rfl (eo_call1 rfl rfl rfl rfl rfl real_topo_Topo_On (On_any 1 hat2 ok2) ?_)
  rw [show has 5 1 = false by decide]
  (repeat (first | refine el_pure rfl rfl rfl rfl ?_ | refine ej_seq ?_ | refine ej_region ?_ | refine el_nil ?_ | refine eq_seq ?_ | refine eq_calm ?_ | refine ej_true rfl ?_ | refine ej_false rfl ?_ | refine el_skip rfl rfl rfl ?_ | refine ej_ret ?_ | refine ej_skip ?_ | refine ej_exit ?_ | refine ej_block ?_ | refine eq_seq_ret ?_ | refine eq_seq_exit ?_ | refine eq_block ?_ | refine eq_block_exit ?_ | refine eq_block_ret ?_ | refine eq_block_exit_ne rfl ?_ | refine eq_back_ret ?_ | refine eq_back_exit ?_ | refine el_cons rfl (eo_lenv rfl rfl rfl rfl rfl rfl ?_) | refine el_cons rfl (eo_arith rfl rfl rfl rfl rfl rfl ⟨by omega, by omega⟩ ?_)))
  refine el_cons rfl (eo_call1 rfl rfl rfl rfl rfl real_topo_Topo_Domains (Domains_any hat2) ?_)
  (repeat (first | refine el_pure rfl rfl rfl rfl ?_ | refine ej_seq ?_ | refine ej_region ?_ | refine el_nil ?_ | refine eq_seq ?_ | refine eq_calm ?_ | refine ej_true rfl ?_ | refine ej_false rfl ?_ | refine el_skip rfl rfl rfl ?_ | refine ej_ret ?_ | refine ej_skip ?_ | refine ej_exit ?_ | refine ej_block ?_ | refine eq_seq_ret ?_ | refine eq_seq_exit ?_ | refine eq_block ?_ | refine eq_block_exit ?_ | refine eq_block_ret ?_ | refine eq_block_exit_ne rfl ?_ | refine eq_back_ret ?_ | refine eq_back_exit ?_ | refine el_cons rfl (eo_lenv rfl rfl rfl rfl rfl rfl ?_) | refine el_cons rfl (eo_arith rfl rfl rfl rfl rfl rfl ⟨by omega, by omega⟩ ?_)))
  exact eq_rett rfl fun w hw => ⟨rfl, hw.drop 3⟩

theorem flat_snoc (L : List (List Bool)) (s : List Bool) : flat (L ++ [s]) = flat L ++ bools s := by simp [flat]
abbrev bitsLs (xs : List Nat) : List (List Bool) := xs.map bitsL
theorem fill_set (bs : List Bool) (hb : bs.length = 64) : fillL (fun i => some (i * 64, 64)) (List.replicate 64 (Value.bool false)) [(0, setV bs)] = some (bools bs) := by
  have h1 : Nat.beq (setV bs).cells.size 64 = true := by simp [Value.cells, hb]
  have h2 : Nat.ble (0 * 64 + (setV bs).cells.size) (List.replicate 64 (Value.bool false)).length = true := by simp [Value.cells, hb]
  have h3 : splice (List.replicate 64 (Value.bool false)) (0 * 64) (setV bs).cells.toList = bools bs := splice_all _ _ (by simp [Value.cells, hb])
  simp only [fillL, h1, h2, h3, Bool.and_self, cond_true]

theorem Sets_any {a : Option Addr} {c : Nat} (xs : List Nat) (hm : ∀ m ∈ xs, m < 18446744073709551616) (hS : Sl w0 1 a (u64s xs) xs.length) (hold : l[i]? = some (old w0)) (h20 : xs.length ≤ 20) :
    Does cx F_law05_Sets [.slice a xs.length c] (S w0 l) fun v w => ∃ r', v = sv r' xs.length ∧ True ∧ S w0 (rowC r' T_ref01_Set 64 (flat (bitsLs xs)) xs.length :: l) w := by
  refine fn_enter (n := N_law05_Sets) fn_law05_Sets rfl rfl rfl ?_
  (repeat (first | refine el_pure rfl rfl rfl rfl ?_ | refine ej_seq ?_ | refine ej_region ?_ | refine el_nil ?_ | refine eq_seq ?_ | refine eq_calm ?_ | refine ej_true rfl ?_ | refine ej_false rfl ?_ | refine el_skip rfl rfl rfl ?_ | refine ej_ret ?_ | refine ej_skip ?_ | refine ej_exit ?_ | refine ej_block ?_ | refine eq_seq_ret ?_ | refine eq_seq_exit ?_ | refine eq_block ?_ | refine eq_block_exit ?_ | refine eq_block_ret ?_ | refine eq_block_exit_ne rfl ?_ | refine eq_back_ret ?_ | refine eq_back_exit ?_ | refine el_cons rfl (eo_lenv rfl rfl rfl rfl rfl rfl ?_) | refine el_cons rfl (eo_arith rfl rfl rfl rfl rfl rfl ⟨by omega, by omega⟩ ?_)))
  refine ej_loopP (α := Nat × Option (Nat × Nat)) (fun x => x.1 ≤ xs.length) (fun x => [(3, sv x.2 x.1), (6, .slice a xs.length c), (7, int xs.length), (8, int x.1)])
    (fun x => S w0 (rowC x.2 T_ref01_Set 64 (flat (bitsLs (xs.take x.1))) x.1 :: l)) (fun x => xs.length - x.1) (0, none) (by simp) (le_of _ _ rfl) ?_ ?_
  · exact fun w hw => hw.row_new
  rintro ⟨k, r'⟩ hk
  have hk : k ≤ xs.length := hk
  (repeat (first | refine el_pure rfl rfl rfl rfl ?_ | refine ej_seq ?_ | refine ej_region ?_ | refine el_nil ?_ | refine eq_seq ?_ | refine eq_calm ?_ | refine ej_true rfl ?_ | refine ej_false rfl ?_ | refine el_skip rfl rfl rfl ?_ | refine ej_ret ?_ | refine ej_skip ?_ | refine ej_exit ?_ | refine ej_block ?_ | refine eq_seq_ret ?_ | refine eq_seq_exit ?_ | refine eq_block ?_ | refine eq_block_exit ?_ | refine eq_block_ret ?_ | refine eq_block_exit_ne rfl ?_ | refine eq_back_ret ?_ | refine eq_back_exit ?_))
  refine ej_dec rfl (fun h => ?_) (fun h => ?_)
  · have h : (k : Int) < xs.length := h
    have hk1 : k < xs.length := by omega
    have hx : xs[k]? = some xs[k] := by simp [hk1]
    have hxm := hm _ (List.getElem_mem hk1)
    have e1 : bitsLs (xs.take (k + 1)) = bitsLs (xs.take k) ++ [bitsL xs[k]] := by
      simp only [bitsLs, List.take_succ_eq_append_getElem hk1, List.map_append, List.map_cons, List.map_nil]
    generalize xs[k] = m at *
    (repeat (first | refine el_pure rfl rfl rfl rfl ?_ | refine ej_seq ?_ | refine ej_region ?_ | refine el_nil ?_ | refine eq_seq ?_ | refine eq_calm ?_ | refine ej_true rfl ?_ | refine ej_false rfl ?_ | refine el_skip rfl rfl rfl ?_ | refine ej_ret ?_ | refine ej_skip ?_ | refine ej_exit ?_ | refine ej_block ?_ | refine eq_seq_ret ?_ | refine eq_seq_exit ?_ | refine eq_block ?_ | refine eq_block_exit ?_ | refine eq_block_ret ?_ | refine eq_block_exit_ne rfl ?_ | refine eq_back_ret ?_ | refine eq_back_exit ?_ | refine el_cons rfl (eo_lenv rfl rfl rfl rfl rfl rfl ?_) | refine el_cons rfl (eo_arith rfl rfl rfl rfl rfl rfl ⟨by omega, by omega⟩ ?_)))
    refine el_cons rfl (eo_idxo rfl rfl rfl rfl rfl rfl rfl rfl rfl hS ⟨by omega, h⟩ ?_)
    refine el_cons rfl (eo_ldo (i + 1) k rfl rfl rfl ?_ rfl rfl hold hS (v := u64 m) (by simp [hx]) ?_)
    · show some _ = _; simp
    (repeat (first | refine el_pure rfl rfl rfl rfl ?_ | refine ej_seq ?_ | refine ej_region ?_ | refine el_nil ?_ | refine eq_seq ?_ | refine eq_calm ?_ | refine ej_true rfl ?_ | refine ej_false rfl ?_ | refine el_skip rfl rfl rfl ?_ | refine ej_ret ?_ | refine ej_skip ?_ | refine ej_exit ?_ | refine ej_block ?_ | refine eq_seq_ret ?_ | refine eq_seq_exit ?_ | refine eq_block ?_ | refine eq_block_exit ?_ | refine eq_block_ret ?_ | refine eq_block_exit_ne rfl ?_ | refine eq_back_ret ?_ | refine eq_back_exit ?_ | refine el_cons rfl (eo_lenv rfl rfl rfl rfl rfl rfl ?_) | refine el_cons rfl (eo_arith rfl rfl rfl rfl rfl rfl ⟨by omega, by omega⟩ ?_)))
    refine el_cons rfl (eo_call1 rfl rfl rfl rfl rfl real_ref01_Bits (Bits_any m hxm) ?_)
    refine el_cons rfl (eo_buildS rfl rfl rfl rfl rfl rfl rfl rfl rfl (fill_set _ (bitsL_length m)) fun b' => ?_)
    refine el_cons rfl (eo_append 1 (bools (bitsL m)) rfl rfl rfl rfl rfl rfl rfl rfl rfl rfl (by simp [bitsL_length]) (fun w hw j u hu => ?_) (all_bools _) (by decide) ?_ ?_ fun r2 => ?_)
    · rw [addr_add, Nat.zero_add]; exact hw.cell (i := 0) rfl hu
    · show (k + 1) * 64 ≤ 140737488355328; omega
    · show k + 1 ≤ 9223372036854775807; omega
    (repeat (first | refine el_pure rfl rfl rfl rfl ?_ | refine ej_seq ?_ | refine ej_region ?_ | refine el_nil ?_ | refine eq_seq ?_ | refine eq_calm ?_ | refine ej_true rfl ?_ | refine ej_false rfl ?_ | refine el_skip rfl rfl rfl ?_ | refine ej_ret ?_ | refine ej_skip ?_ | refine ej_exit ?_ | refine ej_block ?_ | refine eq_seq_ret ?_ | refine eq_seq_exit ?_ | refine eq_block ?_ | refine eq_block_exit ?_ | refine eq_block_ret ?_ | refine eq_block_exit_ne rfl ?_ | refine eq_back_ret ?_ | refine eq_back_exit ?_ | refine el_cons rfl (eo_lenv rfl rfl rfl rfl rfl rfl ?_) | refine el_cons rfl (eo_arith rfl rfl rfl rfl rfl rfl ⟨by omega, by omega⟩ ?_)))
    refine eq_backP (k + 1, r2) (by show k + 1 ≤ xs.length; omega) (by show xs.length - (k + 1) < xs.length - k; omega) (le_of _ _ rfl) ?_
    intro w hw
    show S w0 (rowC r2 T_ref01_Set 64 (flat (bitsLs (xs.take (k + 1)))) (k + 1) :: l) w
    rw [e1, flat_snoc]
    exact hw.erase 0
  · have h : ¬ (k : Int) < xs.length := h
    obtain rfl : k = xs.length := by omega
    (repeat (first | refine el_pure rfl rfl rfl rfl ?_ | refine ej_seq ?_ | refine ej_region ?_ | refine el_nil ?_ | refine eq_seq ?_ | refine eq_calm ?_ | refine ej_true rfl ?_ | refine ej_false rfl ?_ | refine el_skip rfl rfl rfl ?_ | refine ej_ret ?_ | refine ej_skip ?_ | refine ej_exit ?_ | refine ej_block ?_ | refine eq_seq_ret ?_ | refine eq_seq_exit ?_ | refine eq_block ?_ | refine eq_block_exit ?_ | refine eq_block_ret ?_ | refine eq_block_exit_ne rfl ?_ | refine eq_back_ret ?_ | refine eq_back_exit ?_ | refine el_cons rfl (eo_lenv rfl rfl rfl rfl rfl rfl ?_) | refine el_cons rfl (eo_arith rfl rfl rfl rfl rfl rfl ⟨by omega, by omega⟩ ?_)))
    exact eq_rett rfl fun w hw => ⟨r', rfl, trivial, by simpa using hw⟩

end Go.Proofs.Ytefahijlcmfpjaa
