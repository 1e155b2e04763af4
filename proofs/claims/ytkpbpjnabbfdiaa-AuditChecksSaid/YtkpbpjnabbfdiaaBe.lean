/- The document's audit: masks, low domains. -/
import Derived.Test.YtkpbpjnabbfdiaaBd
namespace Go.Proofs.Ytkpbpjnabbfdiaa
open Go Go.SE

variable {w0 w : World} {l : List HP} {i : Nat} {r : Option (Nat × Nat)} {p : HP}

theorem zeroB : fillL (fun i => some (i * 1, 1)) (TI.zero ⟨.array 64 4, 64, 64, .agg (List.toArray (List.replicate 64 (Value.bool false)))⟩).cells.toList [] = some (bools (bitsL 0)) := by
  rw [← falses_bits, ← rep_bool]; rfl
theorem has_zero (c : Int) : has 0 c = false := by simp [has]
set_option maxHeartbeats 6400000 in
theorem masked_ref {v : Hd} {ds : List Dm} {cs : List Cr} {ts : List Th} (t : Th) (d : Dm) (hm : t.mask < 18446744073709551616) (hd : domOf ds t.dom = some d) (hi : l[i]? = some p) (hv : DoV w0 p v ds cs ts) :
    Does cx F_ref21_masked [v.val, .agg t.doc.toArray] (S w0 l) fun u w => u = .bool (has (effM d t.mask) t.core) ∧ S w0 l w := by
  refine fn_enter (n := N_ref21_masked) fn_ref21_masked rfl rfl rfl ?_
  refine ej_seq (ej_region (el_cons rfl (eo_box rfl rfl rfl rfl fun b2 => el_cons rfl (eo_box rfl rfl rfl rfl fun b3 => ?_))))
  obtain ⟨q, ad, nd, cd, ac, nc, cc, at', nt, ct⟩ := v
  obtain rfl : nd = ds.length := hv.nd
  have hV := hv.lies.d
  obtain ⟨tid, dom, mask, awake, running, core, tag, left, slice⟩ := t
  have hm : mask < 18446744073709551616 := hm
  have hd : domOf ds dom = some d := hd
  have hdom : 0 ≤ dom ∧ dom < ds.length := by
    by_cases h : 0 ≤ dom ∧ dom < ds.length
    · exact h
    · rw [domOf, if_neg h] at hd; cases hd
  rw [domOf, if_pos hdom] at hd
  obtain ⟨k, rfl⟩ := Int.eq_ofNat_of_zero_le hdom.1
  rw [Int.toNat_natCast] at hd
  have hdk := hv.lies.dOk d (List.mem_of_getElem? hd)
  have hg : ∀ j, j < 3 → (rows Dm.cells ds)[k * 3 + j]? = d.cells[j]? := fun j hj => rows_get Dm.cells 3 dm3 ds k j d hd hj
  obtain ⟨dc, don, low⟩ := d
  have h1 : dc < 18446744073709551616 := hdk.cores
  have h2 : don < 18446744073709551616 := hdk.on
  have heff : effM ⟨dc, don, low⟩ mask = if mask &&& dc = 0 then 0 else if (mask &&& dc) &&& (dc &&& don) = 0 then dc &&& don else (mask &&& dc) &&& (dc &&& don) := rfl
  (repeat (first | refine el_pure rfl rfl rfl rfl ?_ | refine ej_seq ?_ | refine ej_region ?_ | refine el_nil ?_ | refine eq_seq ?_ | refine eq_calm ?_ | refine ej_true rfl ?_ | refine ej_false rfl ?_ | refine el_skip rfl rfl rfl ?_ | refine ej_ret ?_ | refine ej_skip ?_ | refine ej_exit ?_ | refine ej_block ?_ | refine eq_seq_ret ?_ | refine eq_seq_exit ?_ | refine eq_block ?_ | refine eq_block_exit ?_ | refine eq_block_ret ?_ | refine eq_block_exit_ne rfl ?_ | refine eq_back_ret ?_ | refine eq_back_exit ?_))
  refine el_cons rfl (eo_ld 1 rfl rfl rfl rfl rfl rfl rfl rfl ?_)
  (repeat (first | refine el_pure rfl rfl rfl rfl ?_ | refine ej_seq ?_ | refine ej_region ?_ | refine el_nil ?_ | refine eq_seq ?_ | refine eq_calm ?_ | refine ej_true rfl ?_ | refine ej_false rfl ?_ | refine el_skip rfl rfl rfl ?_ | refine ej_ret ?_ | refine ej_skip ?_ | refine ej_exit ?_ | refine ej_block ?_ | refine eq_seq_ret ?_ | refine eq_seq_exit ?_ | refine eq_block ?_ | refine eq_block_exit ?_ | refine eq_block_ret ?_ | refine eq_block_exit_ne rfl ?_ | refine eq_back_ret ?_ | refine eq_back_exit ?_))
  refine el_cons rfl (eo_ld 0 rfl rfl rfl rfl rfl rfl rfl rfl ?_)
  refine el_cons rfl (eo_idxv rfl rfl rfl rfl rfl rfl rfl rfl rfl (hV.one (i := i + 2) hi) hdom ?_)
  refine el_cons rfl (eo_ldvA (k * 3) (cs := Dm.cells ⟨dc, don, low⟩) rfl rfl rfl (vaddr0 ad k 3) rfl rfl (hV.one (i := i + 2) hi) rfl hg ?_)
  refine el_cons rfl (eo_alloc rfl rfl rfl rfl fun b5 => ?_)
  refine el_cons rfl (eo_stA 0 rfl rfl rfl rfl rfl rfl rfl rfl rfl ?_)
  (repeat (first | refine el_pure rfl rfl rfl rfl ?_ | refine ej_seq ?_ | refine ej_region ?_ | refine el_nil ?_ | refine eq_seq ?_ | refine eq_calm ?_ | refine ej_true rfl ?_ | refine ej_false rfl ?_ | refine el_skip rfl rfl rfl ?_ | refine ej_ret ?_ | refine ej_skip ?_ | refine ej_exit ?_ | refine ej_block ?_ | refine eq_seq_ret ?_ | refine eq_seq_exit ?_ | refine eq_block ?_ | refine eq_block_exit ?_ | refine eq_block_ret ?_ | refine eq_block_exit_ne rfl ?_ | refine eq_back_ret ?_ | refine eq_back_exit ?_))
  refine ej_held [cells b5 T_ref21_D (Dm.cells ⟨dc, don, low⟩), cells b3 T_ref21_T (Th.doc ⟨tid, k, mask, awake, running, core, tag, left, slice⟩)] ?_
  refine eh_cont (fun b6 : Nat => [(3, ptr b3), (5, ptr b5), (6, ptr b6)]) (fun b6 => S w0 (cells b6 T_ref01_Set (bools (bitsL (mask &&& dc))) :: cells b5 T_ref21_D (Dm.cells ⟨dc, don, low⟩) :: cells b3 T_ref21_T (Th.doc ⟨tid, k, mask, awake, running, core, tag, left, slice⟩) :: cells b2 T_ref21_V (Hd.cells ⟨q, ad, ds.length, cd, ac, nc, cc, at', nt, ct⟩) :: l)) (fun cont => ?_) (fun b6 => ?_)
  · refine eh_take 0 (held (.cons 0 rfl (.cons 1 rfl .nil))) rfl (by kernel_rfl) (by kernel_rfl) (by kernel_rfl) rfl rfl rfl rfl ?_
    refine eh_load 1 (held (.cons 0 rfl (.cons 1 rfl .nil))) rfl (by kernel_rfl) (by kernel_rfl) (by kernel_rfl) rfl rfl rfl (er_ld 1 rfl rfl rfl rfl rfl rfl) ?_
    refine eh_take 3 (held (.cons 0 rfl (.cons 1 rfl .nil))) rfl (by kernel_rfl) (by kernel_rfl) (by kernel_rfl) rfl rfl rfl rfl ?_
    refine eh_load 4 (held (.cons 0 rfl (.cons 1 rfl .nil))) rfl (by kernel_rfl) (by kernel_rfl) (by kernel_rfl) rfl rfl rfl (er_ld 0 rfl rfl rfl rfl rfl rfl) ?_
    refine eh_ways [2, 7] (by kernel_rfl) rfl (.cons (hway rfl rfl (eo_call1 rfl rfl rfl rfl rfl real_ref01_Bits (Bits_any mask hm) ⟨held (.cons 0 rfl (.cons 1 rfl .nil)), ?_⟩)) (.cons (hway rfl rfl (eo_alloc rfl rfl rfl rfl fun b6 => ⟨held (.cons 1 rfl (.cons 2 rfl .nil)), ?_⟩)) .nil))
    · skip
      refine eh_ways [5, 7] (by kernel_rfl) rfl (.cons (hway rfl rfl (eo_call1 rfl rfl rfl rfl rfl real_ref01_Bits (Bits_any dc h1) ⟨held (.cons 0 rfl (.cons 1 rfl .nil)), ?_⟩)) (.cons (hway rfl rfl (eo_alloc rfl rfl rfl rfl fun b6 => ⟨held (.cons 1 rfl (.cons 2 rfl .nil)), ?_⟩)) .nil))
      · skip
        refine eh_ways [6, 7] (by kernel_rfl) rfl (.cons (hway rfl rfl (eo_call1 rfl rfl rfl rfl rfl real_ref01_Both (Both_any _ _ (bitsL_length mask) (bitsL_length dc)) ⟨held (.cons 0 rfl (.cons 1 rfl .nil)), ?_⟩)) (.cons (hway rfl rfl (eo_alloc rfl rfl rfl rfl fun b6 => ⟨held (.cons 1 rfl (.cons 2 rfl .nil)), ?_⟩)) .nil))
        · skip
          refine eh_way 7 (by kernel_rfl) (hway rfl rfl (eo_alloc rfl rfl rfl rfl fun b6 => ⟨held (.cons 1 rfl (.cons 2 rfl .nil)), ?_⟩))
          refine eh_way 8 (by kernel_rfl) (hway rfl rfl (eo_stA 0 rfl rfl rfl rfl rfl (by show (bools (both (bitsL mask) (bitsL dc))).length = 64; rw [List.length_map]; exact both_length _ _ (bitsL_length mask) (bitsL_length dc)) (all_bools _) rfl (by show (bools falses).length = 64; simp [falses_length]) ⟨held (.cons 1 rfl (.cons 2 rfl .nil)), ?_⟩))
          refine eh_done (by kernel_rfl) (eq_le (cont b6) (le_of _ _ rfl) fun w hw => by rw [← both_bits]; exact hw)
        · skip
          refine eh_way 6 (by kernel_rfl) (hway rfl rfl (eo_call1 rfl rfl rfl rfl rfl real_ref01_Both (Both_any _ _ (bitsL_length mask) (bitsL_length dc)) ⟨held (.cons 1 rfl (.cons 2 rfl .nil)), ?_⟩))
          refine eh_way 8 (by kernel_rfl) (hway rfl rfl (eo_stA 0 rfl rfl rfl rfl rfl (by show (bools (both (bitsL mask) (bitsL dc))).length = 64; rw [List.length_map]; exact both_length _ _ (bitsL_length mask) (bitsL_length dc)) (all_bools _) rfl (by show (bools falses).length = 64; simp [falses_length]) ⟨held (.cons 1 rfl (.cons 2 rfl .nil)), ?_⟩))
          refine eh_done (by kernel_rfl) (eq_le (cont b6) (le_of _ _ rfl) fun w hw => by rw [← both_bits]; exact hw)
      · skip
        refine eh_way 5 (by kernel_rfl) (hway rfl rfl (eo_call1 rfl rfl rfl rfl rfl real_ref01_Bits (Bits_any dc h1) ⟨held (.cons 1 rfl (.cons 2 rfl .nil)), ?_⟩))
        refine eh_way 6 (by kernel_rfl) (hway rfl rfl (eo_call1 rfl rfl rfl rfl rfl real_ref01_Both (Both_any _ _ (bitsL_length mask) (bitsL_length dc)) ⟨held (.cons 1 rfl (.cons 2 rfl .nil)), ?_⟩))
        refine eh_way 8 (by kernel_rfl) (hway rfl rfl (eo_stA 0 rfl rfl rfl rfl rfl (by show (bools (both (bitsL mask) (bitsL dc))).length = 64; rw [List.length_map]; exact both_length _ _ (bitsL_length mask) (bitsL_length dc)) (all_bools _) rfl (by show (bools falses).length = 64; simp [falses_length]) ⟨held (.cons 1 rfl (.cons 2 rfl .nil)), ?_⟩))
        refine eh_done (by kernel_rfl) (eq_le (cont b6) (le_of _ _ rfl) fun w hw => by rw [← both_bits]; exact hw)
    · skip
      refine eh_way 2 (by kernel_rfl) (hway rfl rfl (eo_call1 rfl rfl rfl rfl rfl real_ref01_Bits (Bits_any mask hm) ⟨held (.cons 1 rfl (.cons 2 rfl .nil)), ?_⟩))
      refine eh_way 5 (by kernel_rfl) (hway rfl rfl (eo_call1 rfl rfl rfl rfl rfl real_ref01_Bits (Bits_any dc h1) ⟨held (.cons 1 rfl (.cons 2 rfl .nil)), ?_⟩))
      refine eh_way 6 (by kernel_rfl) (hway rfl rfl (eo_call1 rfl rfl rfl rfl rfl real_ref01_Both (Both_any _ _ (bitsL_length mask) (bitsL_length dc)) ⟨held (.cons 1 rfl (.cons 2 rfl .nil)), ?_⟩))
      refine eh_way 8 (by kernel_rfl) (hway rfl rfl (eo_stA 0 rfl rfl rfl rfl rfl (by show (bools (both (bitsL mask) (bitsL dc))).length = 64; rw [List.length_map]; exact both_length _ _ (bitsL_length mask) (bitsL_length dc)) (all_bools _) rfl (by show (bools falses).length = 64; simp [falses_length]) ⟨held (.cons 1 rfl (.cons 2 rfl .nil)), ?_⟩))
      refine eh_done (by kernel_rfl) (eq_le (cont b6) (le_of _ _ rfl) fun w hw => by rw [← both_bits]; exact hw)
  (repeat (first | refine el_pure rfl rfl rfl rfl ?_ | refine ej_seq ?_ | refine ej_region ?_ | refine el_nil ?_ | refine eq_seq ?_ | refine eq_calm ?_ | refine ej_true rfl ?_ | refine ej_false rfl ?_ | refine el_skip rfl rfl rfl ?_ | refine ej_ret ?_ | refine ej_skip ?_ | refine ej_exit ?_ | refine ej_block ?_ | refine eq_seq_ret ?_ | refine eq_seq_exit ?_ | refine eq_block ?_ | refine eq_block_exit ?_ | refine eq_block_ret ?_ | refine eq_block_exit_ne rfl ?_ | refine eq_back_ret ?_ | refine eq_back_exit ?_))
  refine el_cons rfl (eo_ldW 0 rfl rfl rfl rfl rfl rfl rfl (lenB _) ?_)
  refine el_cons rfl (eo_buildA (cs := bools (bitsL 0)) rfl rfl rfl rfl rfl rfl rfl zeroB ?_)
  refine el_cons rfl (eo_eqA rfl (.inl rfl) rfl rfl rfl rfl guard_B (same_B (mask &&& dc) 0 (and_lt hm) (by decide)) ?_)
  refine el_val 24 (u := .bool (decide (mask &&& dc = 0))) rfl rfl ?_
  (repeat (first | refine el_pure rfl rfl rfl rfl ?_ | refine ej_seq ?_ | refine ej_region ?_ | refine el_nil ?_ | refine eq_seq ?_ | refine eq_calm ?_ | refine ej_true rfl ?_ | refine ej_false rfl ?_ | refine el_skip rfl rfl rfl ?_ | refine ej_ret ?_ | refine ej_skip ?_ | refine ej_exit ?_ | refine ej_block ?_ | refine eq_seq_ret ?_ | refine eq_seq_exit ?_ | refine eq_block ?_ | refine eq_block_exit ?_ | refine eq_block_ret ?_ | refine eq_block_exit_ne rfl ?_ | refine eq_back_ret ?_ | refine eq_back_exit ?_))
  refine ej_dec rfl (fun h0 => ?_) (fun h0 => ?_)
  · (repeat (first | refine el_pure rfl rfl rfl rfl ?_ | refine ej_seq ?_ | refine ej_region ?_ | refine el_nil ?_ | refine eq_seq ?_ | refine eq_calm ?_ | refine ej_true rfl ?_ | refine ej_false rfl ?_ | refine el_skip rfl rfl rfl ?_ | refine ej_ret ?_ | refine ej_skip ?_ | refine ej_exit ?_ | refine ej_block ?_ | refine eq_seq_ret ?_ | refine eq_seq_exit ?_ | refine eq_block ?_ | refine eq_block_exit ?_ | refine eq_block_ret ?_ | refine eq_block_exit_ne rfl ?_ | refine eq_back_ret ?_ | refine eq_back_exit ?_))
    refine eq_rett rfl fun w hw => ⟨?_, hw.drop 4⟩
    show Value.bool false = .bool (has (effM ⟨dc, don, low⟩ mask) core)
    rw [heff, if_pos h0, has_zero]
  · rw [if_neg h0] at heff
    (repeat (first | refine el_pure rfl rfl rfl rfl ?_ | refine ej_seq ?_ | refine ej_region ?_ | refine el_nil ?_ | refine eq_seq ?_ | refine eq_calm ?_ | refine ej_true rfl ?_ | refine ej_false rfl ?_ | refine el_skip rfl rfl rfl ?_ | refine ej_ret ?_ | refine ej_skip ?_ | refine ej_exit ?_ | refine ej_block ?_ | refine eq_seq_ret ?_ | refine eq_seq_exit ?_ | refine eq_block ?_ | refine eq_block_exit ?_ | refine eq_block_ret ?_ | refine eq_block_exit_ne rfl ?_ | refine eq_back_ret ?_ | refine eq_back_exit ?_))
    refine ej_imp' (H' := S w0 (cells b5 T_ref21_D (Dm.cells ⟨dc, don, low⟩) :: cells b6 T_ref01_Set (bools (bitsL (mask &&& dc))) :: cells b3 T_ref21_T (Th.doc ⟨tid, k, mask, awake, running, core, tag, left, slice⟩) :: cells b2 T_ref21_V (Hd.cells ⟨q, ad, ds.length, cd, ac, nc, cc, at', nt, ct⟩) :: l)) (fun w hw => hw.swap) ?_
    refine ej_held [cells b5 T_ref21_D (Dm.cells ⟨dc, don, low⟩), cells b6 T_ref01_Set (bools (bitsL (mask &&& dc)))] ?_
    refine eh_cont (fun b7 : Nat => [(3, ptr b3), (5, ptr b5), (6, ptr b6), (7, ptr b7)]) (fun b7 => S w0 (cells b7 T_ref01_Set (bools (bitsL (dc &&& don))) :: cells b5 T_ref21_D (Dm.cells ⟨dc, don, low⟩) :: cells b6 T_ref01_Set (bools (bitsL (mask &&& dc))) :: cells b3 T_ref21_T (Th.doc ⟨tid, k, mask, awake, running, core, tag, left, slice⟩) :: cells b2 T_ref21_V (Hd.cells ⟨q, ad, ds.length, cd, ac, nc, cc, at', nt, ct⟩) :: l)) (fun cont => ?_) (fun b7 => ?_)
    · refine eh_take 0 (held (.cons 0 rfl (.cons 1 rfl .nil))) rfl (by kernel_rfl) (by kernel_rfl) (by kernel_rfl) rfl rfl rfl rfl ?_
      refine eh_load 1 (held (.cons 0 rfl (.cons 1 rfl .nil))) rfl (by kernel_rfl) (by kernel_rfl) (by kernel_rfl) rfl rfl rfl (er_ld 0 rfl rfl rfl rfl rfl rfl) ?_
      refine eh_take 3 (held (.cons 0 rfl (.cons 1 rfl .nil))) rfl (by kernel_rfl) (by kernel_rfl) (by kernel_rfl) rfl rfl rfl rfl ?_
      refine eh_load 4 (held (.cons 0 rfl (.cons 1 rfl .nil))) rfl (by kernel_rfl) (by kernel_rfl) (by kernel_rfl) rfl rfl rfl (er_ld 0 rfl rfl rfl rfl rfl rfl) ?_
      refine eh_ways [2, 7] (by kernel_rfl) rfl (.cons (hway rfl rfl (eo_call1 rfl rfl rfl rfl rfl real_ref01_Bits (Bits_any dc h1) ⟨held (.cons 0 rfl (.cons 1 rfl .nil)), ?_⟩)) (.cons (hway rfl rfl (eo_alloc rfl rfl rfl rfl fun b6' => ⟨held (.cons 1 rfl (.cons 2 rfl .nil)), ?_⟩)) .nil))
      · skip
        refine eh_ways [5, 7] (by kernel_rfl) rfl (.cons (hway rfl rfl (eo_call1 rfl rfl rfl rfl rfl real_ref01_Bits (Bits_any don h2) ⟨held (.cons 0 rfl (.cons 1 rfl .nil)), ?_⟩)) (.cons (hway rfl rfl (eo_alloc rfl rfl rfl rfl fun b6' => ⟨held (.cons 1 rfl (.cons 2 rfl .nil)), ?_⟩)) .nil))
        · skip
          refine eh_ways [6, 7] (by kernel_rfl) rfl (.cons (hway rfl rfl (eo_call1 rfl rfl rfl rfl rfl real_ref01_Both (Both_any _ _ (bitsL_length dc) (bitsL_length don)) ⟨held (.cons 0 rfl (.cons 1 rfl .nil)), ?_⟩)) (.cons (hway rfl rfl (eo_alloc rfl rfl rfl rfl fun b6' => ⟨held (.cons 1 rfl (.cons 2 rfl .nil)), ?_⟩)) .nil))
          · skip
            refine eh_way 7 (by kernel_rfl) (hway rfl rfl (eo_alloc rfl rfl rfl rfl fun b6' => ⟨held (.cons 1 rfl (.cons 2 rfl .nil)), ?_⟩))
            refine eh_way 8 (by kernel_rfl) (hway rfl rfl (eo_stA 0 rfl rfl rfl rfl rfl (by show (bools (both (bitsL dc) (bitsL don))).length = 64; rw [List.length_map]; exact both_length _ _ (bitsL_length dc) (bitsL_length don)) (all_bools _) rfl (by show (bools falses).length = 64; simp [falses_length]) ⟨held (.cons 1 rfl (.cons 2 rfl .nil)), ?_⟩))
            refine eh_done (by kernel_rfl) (eq_le (cont b6') (le_of _ _ rfl) fun w hw => by rw [← both_bits]; exact hw)
          · skip
            refine eh_way 6 (by kernel_rfl) (hway rfl rfl (eo_call1 rfl rfl rfl rfl rfl real_ref01_Both (Both_any _ _ (bitsL_length dc) (bitsL_length don)) ⟨held (.cons 1 rfl (.cons 2 rfl .nil)), ?_⟩))
            refine eh_way 8 (by kernel_rfl) (hway rfl rfl (eo_stA 0 rfl rfl rfl rfl rfl (by show (bools (both (bitsL dc) (bitsL don))).length = 64; rw [List.length_map]; exact both_length _ _ (bitsL_length dc) (bitsL_length don)) (all_bools _) rfl (by show (bools falses).length = 64; simp [falses_length]) ⟨held (.cons 1 rfl (.cons 2 rfl .nil)), ?_⟩))
            refine eh_done (by kernel_rfl) (eq_le (cont b6') (le_of _ _ rfl) fun w hw => by rw [← both_bits]; exact hw)
        · skip
          refine eh_way 5 (by kernel_rfl) (hway rfl rfl (eo_call1 rfl rfl rfl rfl rfl real_ref01_Bits (Bits_any don h2) ⟨held (.cons 1 rfl (.cons 2 rfl .nil)), ?_⟩))
          refine eh_way 6 (by kernel_rfl) (hway rfl rfl (eo_call1 rfl rfl rfl rfl rfl real_ref01_Both (Both_any _ _ (bitsL_length dc) (bitsL_length don)) ⟨held (.cons 1 rfl (.cons 2 rfl .nil)), ?_⟩))
          refine eh_way 8 (by kernel_rfl) (hway rfl rfl (eo_stA 0 rfl rfl rfl rfl rfl (by show (bools (both (bitsL dc) (bitsL don))).length = 64; rw [List.length_map]; exact both_length _ _ (bitsL_length dc) (bitsL_length don)) (all_bools _) rfl (by show (bools falses).length = 64; simp [falses_length]) ⟨held (.cons 1 rfl (.cons 2 rfl .nil)), ?_⟩))
          refine eh_done (by kernel_rfl) (eq_le (cont b6') (le_of _ _ rfl) fun w hw => by rw [← both_bits]; exact hw)
      · skip
        refine eh_way 2 (by kernel_rfl) (hway rfl rfl (eo_call1 rfl rfl rfl rfl rfl real_ref01_Bits (Bits_any dc h1) ⟨held (.cons 1 rfl (.cons 2 rfl .nil)), ?_⟩))
        refine eh_way 5 (by kernel_rfl) (hway rfl rfl (eo_call1 rfl rfl rfl rfl rfl real_ref01_Bits (Bits_any don h2) ⟨held (.cons 1 rfl (.cons 2 rfl .nil)), ?_⟩))
        refine eh_way 6 (by kernel_rfl) (hway rfl rfl (eo_call1 rfl rfl rfl rfl rfl real_ref01_Both (Both_any _ _ (bitsL_length dc) (bitsL_length don)) ⟨held (.cons 1 rfl (.cons 2 rfl .nil)), ?_⟩))
        refine eh_way 8 (by kernel_rfl) (hway rfl rfl (eo_stA 0 rfl rfl rfl rfl rfl (by show (bools (both (bitsL dc) (bitsL don))).length = 64; rw [List.length_map]; exact both_length _ _ (bitsL_length dc) (bitsL_length don)) (all_bools _) rfl (by show (bools falses).length = 64; simp [falses_length]) ⟨held (.cons 1 rfl (.cons 2 rfl .nil)), ?_⟩))
        refine eh_done (by kernel_rfl) (eq_le (cont b6') (le_of _ _ rfl) fun w hw => by rw [← both_bits]; exact hw)
    have hy : (mask &&& dc) &&& (dc &&& don) < 18446744073709551616 := and_lt (and_lt hm)
    (repeat (first | refine el_pure rfl rfl rfl rfl ?_ | refine ej_seq ?_ | refine ej_region ?_ | refine el_nil ?_ | refine eq_seq ?_ | refine eq_calm ?_ | refine ej_true rfl ?_ | refine ej_false rfl ?_ | refine el_skip rfl rfl rfl ?_ | refine ej_ret ?_ | refine ej_skip ?_ | refine ej_exit ?_ | refine ej_block ?_ | refine eq_seq_ret ?_ | refine eq_seq_exit ?_ | refine eq_block ?_ | refine eq_block_exit ?_ | refine eq_block_ret ?_ | refine eq_block_exit_ne rfl ?_ | refine eq_back_ret ?_ | refine eq_back_exit ?_))
    refine el_cons rfl (eo_ldW 2 rfl rfl rfl rfl rfl rfl rfl (lenB _) ?_)
    refine el_cons rfl (eo_ldW 0 rfl rfl rfl rfl rfl rfl rfl (lenB _) ?_)
    refine el_cons rfl (eo_call1 rfl rfl rfl rfl rfl real_ref01_Both (Both_any _ _ (bitsL_length (mask &&& dc)) (bitsL_length (dc &&& don))) ?_)
    rw [both_bits]
    refine el_cons rfl (eo_alloc rfl rfl rfl rfl fun b8 => ?_)
    refine el_cons rfl (eo_stA 0 rfl rfl rfl rfl rfl (lenB _) (all_bools _) rfl (by show (bools falses).length = 64; simp [falses_length]) ?_)
    (repeat (first | refine el_pure rfl rfl rfl rfl ?_ | refine ej_seq ?_ | refine ej_region ?_ | refine el_nil ?_ | refine eq_seq ?_ | refine eq_calm ?_ | refine ej_true rfl ?_ | refine ej_false rfl ?_ | refine el_skip rfl rfl rfl ?_ | refine ej_ret ?_ | refine ej_skip ?_ | refine ej_exit ?_ | refine ej_block ?_ | refine eq_seq_ret ?_ | refine eq_seq_exit ?_ | refine eq_block ?_ | refine eq_block_exit ?_ | refine eq_block_ret ?_ | refine eq_block_exit_ne rfl ?_ | refine eq_back_ret ?_ | refine eq_back_exit ?_))
    refine el_cons rfl (eo_ldW 0 rfl rfl rfl rfl rfl rfl rfl (lenB _) ?_)
    refine el_cons rfl (eo_buildA (cs := bools (bitsL 0)) rfl rfl rfl rfl rfl rfl rfl zeroB ?_)
    refine el_cons rfl (eo_eqA rfl (.inl rfl) rfl rfl rfl rfl guard_B (same_B _ 0 hy (by decide)) ?_)
    refine el_val 37 (u := .bool (decide ((mask &&& dc) &&& (dc &&& don) = 0))) rfl rfl ?_
    refine el_contQ [(3, ptr b3), (5, ptr b5), (7, ptr b7), (8, ptr b8), (37, .bool (decide ((mask &&& dc) &&& (dc &&& don) = 0)))] (S w0 (cells b8 T_ref01_Set (bools (bitsL ((mask &&& dc) &&& (dc &&& don)))) :: cells b7 T_ref01_Set (bools (bitsL (dc &&& don))) :: cells b3 T_ref21_T (Th.doc ⟨tid, k, mask, awake, running, core, tag, left, slice⟩) :: l)) (fun cont => el_nil (eq_le cont (le_of _ _ rfl) fun w hw => ((hw.erase 2).erase 2).erase 3)) ?_
    refine eq_seq ?_
    refine ej_cont (α := Unit) (fun _ => [(3, ptr b3), (8, ptr b8)]) (fun _ => S w0 (cells b8 T_ref01_Set (bools (bitsL (effM ⟨dc, don, low⟩ mask))) :: cells b7 T_ref01_Set (bools (bitsL (dc &&& don))) :: cells b3 T_ref21_T (Th.doc ⟨tid, k, mask, awake, running, core, tag, left, slice⟩) :: l)) (fun cont => ?_) (fun _ => ?_)
    · refine ej_dec rfl (fun h5 => ?_) (fun h5 => ?_)
      · rw [if_pos h5] at heff
        refine ej_region ?_
        refine el_cons rfl (eo_ldW 1 rfl rfl rfl rfl rfl rfl rfl (lenB _) ?_)
        refine el_cons rfl (eo_stA 0 rfl rfl rfl rfl rfl (lenB _) (all_bools _) rfl (lenB _) ?_)
        exact el_nil (eq_le (cont ()) (le_of _ _ rfl) fun w hw => by rw [heff]; exact hw)
      · rw [if_neg h5] at heff
        exact ej_skip (eq_le (cont ()) (le_of _ _ rfl) fun w hw => by rw [heff]; exact hw)
    have hel := effM_lt ⟨dc, don, low⟩ hdk mask hm
    generalize effM ⟨dc, don, low⟩ mask = z at *
    (repeat (first | refine el_pure rfl rfl rfl rfl ?_ | refine ej_seq ?_ | refine ej_region ?_ | refine el_nil ?_ | refine eq_seq ?_ | refine eq_calm ?_ | refine ej_true rfl ?_ | refine ej_false rfl ?_ | refine el_skip rfl rfl rfl ?_ | refine ej_ret ?_ | refine ej_skip ?_ | refine ej_exit ?_ | refine ej_block ?_ | refine eq_seq_ret ?_ | refine eq_seq_exit ?_ | refine eq_block ?_ | refine eq_block_exit ?_ | refine eq_block_ret ?_ | refine eq_block_exit_ne rfl ?_ | refine eq_back_ret ?_ | refine eq_back_exit ?_))
    refine ej_held [cells b8 T_ref01_Set (bools (bitsL z)), cells b3 T_ref21_T (Th.doc ⟨tid, k, mask, awake, running, core, tag, left, slice⟩)] ?_
    refine eh_load 0 (held (.cons 0 rfl (.cons 2 rfl .nil))) rfl (by kernel_rfl) (by kernel_rfl) (by kernel_rfl) rfl rfl rfl (er_ldW 0 rfl rfl rfl rfl rfl (lenB z)) ?_
    refine eh_take 2 (held (.cons 0 rfl (.cons 2 rfl .nil))) rfl (by kernel_rfl) (by kernel_rfl) (by kernel_rfl) rfl rfl rfl rfl ?_
    refine eh_load 3 (held (.cons 0 rfl (.cons 2 rfl .nil))) rfl (by kernel_rfl) (by kernel_rfl) (by kernel_rfl) rfl rfl rfl (er_ld 1 rfl rfl rfl rfl rfl rfl) ?_
    refine eh_way 1 (by kernel_rfl) (hway rfl rfl (eo_call1 rfl rfl rfl rfl rfl real_ref01_Number (Number_any _ (bitsL_length z)) ⟨held (.cons 0 rfl (.cons 2 rfl .nil)), ?_⟩))
    rw [num_bitsL z hel]
    refine eh_way 4 (by kernel_rfl) (hway rfl rfl (eo_call1 rfl rfl rfl rfl rfl real_ref21_has (has_ref z core hel) ⟨held (.cons 0 rfl (.cons 2 rfl .nil)), ?_⟩))
    refine eh_take 5 (held (.cons 0 rfl (.cons 2 rfl .nil))) rfl (by kernel_rfl) (by kernel_rfl) (by kernel_rfl) rfl rfl rfl rfl ?_
    refine eh_done (by kernel_rfl) ?_
    (repeat (first | refine el_pure rfl rfl rfl rfl ?_ | refine ej_seq ?_ | refine ej_region ?_ | refine el_nil ?_ | refine eq_seq ?_ | refine eq_calm ?_ | refine ej_true rfl ?_ | refine ej_false rfl ?_ | refine el_skip rfl rfl rfl ?_ | refine ej_ret ?_ | refine ej_skip ?_ | refine ej_exit ?_ | refine ej_block ?_ | refine eq_seq_ret ?_ | refine eq_seq_exit ?_ | refine eq_block ?_ | refine eq_block_exit ?_ | refine eq_block_ret ?_ | refine eq_block_exit_ne rfl ?_ | refine eq_back_ret ?_ | refine eq_back_exit ?_))
    exact eq_rett rfl fun w hw => ⟨rfl, hw.drop 3⟩

end Go.Proofs.Ytkpbpjnabbfdiaa
