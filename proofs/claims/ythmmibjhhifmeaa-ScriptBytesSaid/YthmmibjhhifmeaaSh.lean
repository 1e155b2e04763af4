/- Commands as bytes: the program's Encode, and the document's. -/
import Derived.Test.YthmmibjhhifmeaaSg
namespace Go.Proofs.Ythmmibjhhifmeaa
open Go Go.SE

variable {w0 : World} {l : List HP} {i : Nat} {r : Option (Nat × Nat)}

theorem enc_lt (c : Cmd) (h : c.op < 256) : ∀ b ∈ c.enc, b < 256 := by
  intro b hb
  rcases List.mem_cons.1 hb with rfl | hb
  · exact h
  · simp only [List.mem_append] at hb
    rcases hb with (hb | hb) | hb <;> exact be_lt _ _ b hb

set_option maxHeartbeats 800000 in
theorem Encode_any (c : Cmd) (hc : c.Ok) : Does cx F_code_Encode [.agg c.prog.toArray] (S w0 l) fun v W => (∃ r' : Option (Nat × Nat), v = .tuple #[sv r' (sizeOfOp c.op), int 0] ∧ c.good ∧ S w0 (rowC r' T_uint8 1 (u8s c.enc) (sizeOfOp c.op) :: l) W)
    ∨ (∃ _ : Unit, v = .tuple #[.slice none 0 0, int 1] ∧ ¬ c.good ∧ S w0 l W) := by
  refine fn_enter (n := N_code_Encode) fn_code_Encode rfl rfl rfl ?_
  refine ej_seq (ej_region (el_cons rfl (eo_box rfl rfl rfl rfl fun b1 => ?_)))
  have hc1 := hc.op
  have hc2 := hc.m
  (repeat (first | refine el_pure rfl rfl rfl rfl ?_ | refine ej_seq ?_ | refine ej_region ?_ | refine el_nil ?_ | refine eq_seq ?_ | refine eq_calm ?_ | refine ej_true rfl ?_ | refine ej_false rfl ?_ | refine el_skip rfl rfl rfl ?_ | refine ej_ret ?_ | refine ej_skip ?_ | refine ej_exit ?_ | refine ej_block ?_ | refine eq_seq_ret ?_ | refine eq_seq_exit ?_ | refine eq_block ?_ | refine eq_block_exit ?_ | refine eq_block_ret ?_ | refine eq_block_exit_ne rfl ?_ | refine eq_back_ret ?_ | refine eq_back_exit ?_))
  refine el_cons rfl (eo_ldW 0 rfl rfl rfl rfl rfl rfl rfl rfl ?_)
  refine el_cons rfl (eo_call1 rfl rfl rfl rfl rfl real_code_Command_Good (Good_any c hc1) ?_)
  by_cases hg : c.good
  · rw [decide_eq_true hg]
    obtain ⟨ho, hA, hB, hM⟩ := hg
    obtain ⟨op, a, b, m⟩ := c
    have hs : shapeOf op = [.string ⟨(sh op).1.toArray⟩, int (wA op), int (wB op), int (wM op)] := rfl
    obtain ⟨h1, h2, h3⟩ := w_le op
    have hone := shape_one op
    have hA : fitsN a (wA op) := hA
    have hB : fitsN b (wB op) := hB
    obtain ⟨a0, a1⟩ := fits_lt h1 hA
    obtain ⟨b0, b1'⟩ := fits_lt h2 hB
    obtain ⟨an, rfl⟩ := Int.eq_ofNat_of_zero_le a0
    obtain ⟨bn, rfl⟩ := Int.eq_ofNat_of_zero_le b0
    have hgood : Cmd.good ⟨op, an, bn, m⟩ := ⟨ho, hA, hB, hM⟩
    have henc : Cmd.enc ⟨op, an, bn, m⟩ = ([op] ++ be an (wA op) ++ be bn (wB op)) ++ be m (wM op) := by simp [Cmd.enc]
    have hsz : sizeOfOp op = 1 + wA op + wB op + wM op := rfl
    have hm : m < 18446744073709551616 := hc2
    have hop : op < 256 := hc1
    rw [henc, hsz]
    (repeat (first | refine el_pure rfl rfl rfl rfl ?_ | refine ej_seq ?_ | refine ej_region ?_ | refine el_nil ?_ | refine eq_seq ?_ | refine eq_calm ?_ | refine ej_true rfl ?_ | refine ej_false rfl ?_ | refine el_skip rfl rfl rfl ?_ | refine ej_ret ?_ | refine ej_skip ?_ | refine ej_exit ?_ | refine ej_block ?_ | refine eq_seq_ret ?_ | refine eq_seq_exit ?_ | refine eq_block ?_ | refine eq_block_exit ?_ | refine eq_block_ret ?_ | refine eq_block_exit_ne rfl ?_ | refine eq_back_ret ?_ | refine eq_back_exit ?_))
    refine el_cons rfl (eo_ld 0 rfl rfl rfl rfl rfl rfl rfl rfl ?_)
    refine el_cons rfl (eo_call1 rfl rfl rfl rfl rfl real_code_of (of_any op) ?_)
    (repeat (first | refine el_pure rfl rfl rfl rfl ?_ | refine ej_seq ?_ | refine ej_region ?_ | refine el_nil ?_ | refine eq_seq ?_ | refine eq_calm ?_ | refine ej_true rfl ?_ | refine ej_false rfl ?_ | refine el_skip rfl rfl rfl ?_ | refine ej_ret ?_ | refine ej_skip ?_ | refine ej_exit ?_ | refine ej_block ?_ | refine eq_seq_ret ?_ | refine eq_seq_exit ?_ | refine eq_block ?_ | refine eq_block_exit ?_ | refine eq_block_ret ?_ | refine eq_block_exit_ne rfl ?_ | refine eq_back_ret ?_ | refine eq_back_exit ?_))
    refine el_cons rfl (eo_alloc rfl rfl rfl rfl fun b4 => ?_)
    refine el_cons rfl (eo_stA 0 rfl rfl rfl rfl rfl rfl hone rfl rfl ?_)
    rw [hs]
    generalize wA op = wa at *
    generalize wB op = wb at *
    generalize wM op = wm at *
    (repeat (first | refine el_pure rfl rfl rfl rfl ?_ | refine ej_seq ?_ | refine ej_region ?_ | refine el_nil ?_ | refine eq_seq ?_ | refine eq_calm ?_ | refine ej_true rfl ?_ | refine ej_false rfl ?_ | refine el_skip rfl rfl rfl ?_ | refine ej_ret ?_ | refine ej_skip ?_ | refine ej_exit ?_ | refine ej_block ?_ | refine eq_seq_ret ?_ | refine eq_seq_exit ?_ | refine eq_block ?_ | refine eq_block_exit ?_ | refine eq_block_ret ?_ | refine eq_block_exit_ne rfl ?_ | refine eq_back_ret ?_ | refine eq_back_exit ?_))
    refine el_cons rfl (eo_ld 1 rfl rfl rfl rfl rfl rfl rfl rfl ?_)
    refine el_cons rfl (eo_buildS (cs := u8s [op]) rfl rfl rfl rfl rfl rfl rfl rfl rfl rfl fun b5 => ?_)
    refine el_imp (H' := S w0 (rowC (some (b5, 1)) T_uint8 1 (u8s [op]) 1 :: cells b4 T_code_shape [.string ⟨(sh op).1.toArray⟩, int wa, int wb, int wm] :: cells b1 T_code_Command [u8 op, int an, int bn, u64 m] :: l)) (fun w hw => hw.imp (i := 0) rfl (fun h hp => row_of_cells rfl (by decide) hp)) ?_
    (repeat (first | refine el_pure rfl rfl rfl rfl ?_ | refine ej_seq ?_ | refine ej_region ?_ | refine el_nil ?_ | refine eq_seq ?_ | refine eq_calm ?_ | refine ej_true rfl ?_ | refine ej_false rfl ?_ | refine el_skip rfl rfl rfl ?_ | refine ej_ret ?_ | refine ej_skip ?_ | refine ej_exit ?_ | refine ej_block ?_ | refine eq_seq_ret ?_ | refine eq_seq_exit ?_ | refine eq_block ?_ | refine eq_block_exit ?_ | refine eq_block_ret ?_ | refine eq_block_exit_ne rfl ?_ | refine eq_back_ret ?_ | refine eq_back_exit ?_))
    refine el_cons rfl (eo_ld 2 rfl rfl rfl rfl rfl rfl rfl rfl ?_)
    refine el_cons rfl (eo_conv .u64 rfl rfl rfl rfl rfl rfl rfl rfl ⟨by omega, by omega⟩ ?_)
    (repeat (first | refine el_pure rfl rfl rfl rfl ?_ | refine ej_seq ?_ | refine ej_region ?_ | refine el_nil ?_ | refine eq_seq ?_ | refine eq_calm ?_ | refine ej_true rfl ?_ | refine ej_false rfl ?_ | refine el_skip rfl rfl rfl ?_ | refine ej_ret ?_ | refine ej_skip ?_ | refine ej_exit ?_ | refine ej_block ?_ | refine eq_seq_ret ?_ | refine eq_seq_exit ?_ | refine eq_block ?_ | refine eq_block_exit ?_ | refine eq_block_ret ?_ | refine eq_block_exit_ne rfl ?_ | refine eq_back_ret ?_ | refine eq_back_exit ?_))
    refine el_cons rfl (eo_ld 1 rfl rfl rfl rfl rfl rfl rfl rfl ?_)
    refine el_cons rfl (eo_callx rfl rfl rfl rfl rfl real_code_put (put_any (i := 0) (r := some (b5, 1)) [op] an wa (by omega) (by simp) rfl) fun r1 _ => ?_)
    (repeat (first | refine el_pure rfl rfl rfl rfl ?_ | refine ej_seq ?_ | refine ej_region ?_ | refine el_nil ?_ | refine eq_seq ?_ | refine eq_calm ?_ | refine ej_true rfl ?_ | refine ej_false rfl ?_ | refine el_skip rfl rfl rfl ?_ | refine ej_ret ?_ | refine ej_skip ?_ | refine ej_exit ?_ | refine ej_block ?_ | refine eq_seq_ret ?_ | refine eq_seq_exit ?_ | refine eq_block ?_ | refine eq_block_exit ?_ | refine eq_block_ret ?_ | refine eq_block_exit_ne rfl ?_ | refine eq_back_ret ?_ | refine eq_back_exit ?_))
    have len1 : ([op] ++ be an wa).length = 1 + wa := by simp [be_length]; omega
    have len2 : ([op] ++ be an wa ++ be bn wb).length = 1 + wa + wb := by simp [be_length]; omega
    have put2 := fun (l' : List HP) => put_any (w0 := w0) (l := rowC r1 T_uint8 1 (u8s ([op] ++ be an wa)) (1 + wa) :: l') (i := 0) (r := r1) ([op] ++ be an wa) bn wb (by omega) (by rw [len1]; omega) (by rw [len1]; rfl)
    have put3 := fun (l' : List HP) (r2 : Option (Nat × Nat)) => put_any (w0 := w0) (l := rowC r2 T_uint8 1 (u8s ([op] ++ be an wa ++ be bn wb)) (1 + wa + wb) :: l') (i := 0) (r := r2) ([op] ++ be an wa ++ be bn wb) m wm (by omega) (by rw [len2]; omega) (by rw [len2]; rfl)
    rw [len1] at put2
    rw [len2] at put3
    refine ej_held [cells b4 T_code_shape [.string ⟨(sh op).1.toArray⟩, int wa, int wb, int wm], cells b1 T_code_Command [u8 op, int an, int bn, u64 m]] ?_
    refine eh_take 0 (held (.cons 1 rfl (.cons 2 rfl .nil))) rfl (by kernel_rfl) (by kernel_rfl) (by kernel_rfl) rfl rfl rfl rfl ?_
    refine eh_take 1 (held (.cons 1 rfl (.cons 2 rfl .nil))) rfl (by kernel_rfl) (by kernel_rfl) (by kernel_rfl) rfl rfl rfl rfl ?_
    refine eh_take 4 (held (.cons 1 rfl (.cons 2 rfl .nil))) rfl (by kernel_rfl) (by kernel_rfl) (by kernel_rfl) rfl rfl rfl rfl ?_
    refine eh_take 7 (held (.cons 1 rfl (.cons 2 rfl .nil))) rfl (by kernel_rfl) (by kernel_rfl) (by kernel_rfl) rfl rfl rfl rfl ?_
    refine eh_take 9 (held (.cons 1 rfl (.cons 2 rfl .nil))) rfl (by kernel_rfl) (by kernel_rfl) (by kernel_rfl) rfl rfl rfl rfl ?_
    refine eh_load 2 (held (.cons 1 rfl (.cons 2 rfl .nil))) rfl (by kernel_rfl) (by kernel_rfl) (by kernel_rfl) rfl rfl rfl (er_ld 1 rfl rfl rfl rfl rfl rfl) ?_
    refine eh_load 3 (held (.cons 1 rfl (.cons 2 rfl .nil))) rfl (by kernel_rfl) (by kernel_rfl) (by kernel_rfl) rfl rfl rfl (er_conv .u64 rfl rfl rfl rfl rfl rfl ⟨by omega, by omega⟩) ?_
    refine eh_load 5 (held (.cons 1 rfl (.cons 2 rfl .nil))) rfl (by kernel_rfl) (by kernel_rfl) (by kernel_rfl) rfl rfl rfl (er_ld 0 rfl rfl rfl rfl rfl rfl) ?_
    refine eh_load 8 (held (.cons 1 rfl (.cons 2 rfl .nil))) rfl (by kernel_rfl) (by kernel_rfl) (by kernel_rfl) rfl rfl rfl (er_ld 1 rfl rfl rfl rfl rfl rfl) ?_
    refine eh_load 10 (held (.cons 1 rfl (.cons 2 rfl .nil))) rfl (by kernel_rfl) (by kernel_rfl) (by kernel_rfl) rfl rfl rfl (er_ld 0 rfl rfl rfl rfl rfl rfl) ?_
    refine eh_way 6 (by kernel_rfl) (hway rfl rfl (eo_callx rfl rfl rfl rfl rfl real_code_put (put2 _) fun r2 _ => ⟨held (.cons 1 rfl (.cons 2 rfl .nil)), ?_⟩))
    refine eh_way 11 (by kernel_rfl) (hway rfl rfl (eo_callx rfl rfl rfl rfl rfl real_code_put (put3 _ _) fun r3 _ => ⟨held (.cons 1 rfl (.cons 2 rfl .nil)), ?_⟩))
    refine eh_take 12 (held (.cons 1 rfl (.cons 2 rfl .nil))) rfl (by kernel_rfl) (by kernel_rfl) (by kernel_rfl) rfl rfl rfl rfl ?_
    refine eh_take 13 (held (.cons 1 rfl (.cons 2 rfl .nil))) rfl (by kernel_rfl) (by kernel_rfl) (by kernel_rfl) rfl rfl rfl rfl ?_
    refine eh_done (by kernel_rfl) ?_
    (repeat (first | refine el_pure rfl rfl rfl rfl ?_ | refine ej_seq ?_ | refine ej_region ?_ | refine el_nil ?_ | refine eq_seq ?_ | refine eq_calm ?_ | refine ej_true rfl ?_ | refine ej_false rfl ?_ | refine el_skip rfl rfl rfl ?_ | refine ej_ret ?_ | refine ej_skip ?_ | refine ej_exit ?_ | refine ej_block ?_ | refine eq_seq_ret ?_ | refine eq_seq_exit ?_ | refine eq_block ?_ | refine eq_block_exit ?_ | refine eq_block_ret ?_ | refine eq_block_exit_ne rfl ?_ | refine eq_back_ret ?_ | refine eq_back_exit ?_))
    exact eq_rett rfl fun W hW => .inl ⟨r3, rfl, hgood, (hW.erase 1).erase 1⟩
  · rw [decide_eq_false hg]
    (repeat (first | refine el_pure rfl rfl rfl rfl ?_ | refine ej_seq ?_ | refine ej_region ?_ | refine el_nil ?_ | refine eq_seq ?_ | refine eq_calm ?_ | refine ej_true rfl ?_ | refine ej_false rfl ?_ | refine el_skip rfl rfl rfl ?_ | refine ej_ret ?_ | refine ej_skip ?_ | refine ej_exit ?_ | refine ej_block ?_ | refine eq_seq_ret ?_ | refine eq_seq_exit ?_ | refine eq_block ?_ | refine eq_block_exit ?_ | refine eq_block_ret ?_ | refine eq_block_exit_ne rfl ?_ | refine eq_back_ret ?_ | refine eq_back_exit ?_))
    exact eq_rett rfl fun W hW => .inr ⟨(), rfl, hg, hW.drop 1⟩

theorem EncodeR_any (c : Cmd) (hc : c.Ok) (hg : c.good) : Does cx F_ref22_Encode [.agg c.doc.toArray] (S w0 l) fun v W => ∃ r' : Option (Nat × Nat), v = sv r' (sizeOfOp c.op) ∧ True ∧ S w0 (rowC r' T_uint8 1 (u8s c.enc) (sizeOfOp c.op) :: l) W := by
  refine fn_enter (n := N_ref22_Encode) fn_ref22_Encode rfl rfl rfl ?_
  refine ej_seq (ej_region (el_cons rfl (eo_box rfl rfl rfl rfl fun b1 => ?_)))
  have hc1 := hc.op
  have hc2 := hc.m
  obtain ⟨ho, hA, hB, hM⟩ := hg
  obtain ⟨op, a, b, m⟩ := c
  have ho : isOp op := ho
  obtain ⟨h1, h2, h3⟩ := w_le op
  have hA : fitsN a (wA op) := hA
  have hB : fitsN b (wB op) := hB
  obtain ⟨a0, a1⟩ := fits_lt h1 hA
  obtain ⟨b0, b1'⟩ := fits_lt h2 hB
  obtain ⟨an, rfl⟩ := Int.eq_ofNat_of_zero_le a0
  obtain ⟨bn, rfl⟩ := Int.eq_ofNat_of_zero_le b0
  have henc : Cmd.enc ⟨op, an, bn, m⟩ = ([op] ++ be an (wA op) ++ be bn (wB op)) ++ be m (wM op) := by simp [Cmd.enc]
  have hsz : sizeOfOp op = 1 + wA op + wB op + wM op := rfl
  have hm : m < 18446744073709551616 := hc2
  have hop : op < 256 := hc1
  rw [henc, hsz]
  (repeat (first | refine el_pure rfl rfl rfl rfl ?_ | refine ej_seq ?_ | refine ej_region ?_ | refine el_nil ?_ | refine eq_seq ?_ | refine eq_calm ?_ | refine ej_true rfl ?_ | refine ej_false rfl ?_ | refine el_skip rfl rfl rfl ?_ | refine ej_ret ?_ | refine ej_skip ?_ | refine ej_exit ?_ | refine ej_block ?_ | refine eq_seq_ret ?_ | refine eq_seq_exit ?_ | refine eq_block ?_ | refine eq_block_exit ?_ | refine eq_block_ret ?_ | refine eq_block_exit_ne rfl ?_ | refine eq_back_ret ?_ | refine eq_back_exit ?_))
  refine el_cons rfl (eo_ld 0 rfl rfl rfl rfl rfl rfl rfl rfl ?_)
  refine el_cons rfl (eo_call1 rfl rfl rfl rfl rfl real_ref22_Widths (Widths_any op ho _) ?_)
  generalize wA op = wa at *
  generalize wB op = wb at *
  generalize wM op = wm at *
  (repeat (first | refine el_pure rfl rfl rfl rfl ?_ | refine ej_seq ?_ | refine ej_region ?_ | refine el_nil ?_ | refine eq_seq ?_ | refine eq_calm ?_ | refine ej_true rfl ?_ | refine ej_false rfl ?_ | refine el_skip rfl rfl rfl ?_ | refine ej_ret ?_ | refine ej_skip ?_ | refine ej_exit ?_ | refine ej_block ?_ | refine eq_seq_ret ?_ | refine eq_seq_exit ?_ | refine eq_block ?_ | refine eq_block_exit ?_ | refine eq_block_ret ?_ | refine eq_block_exit_ne rfl ?_ | refine eq_back_ret ?_ | refine eq_back_exit ?_))
  refine el_cons rfl (eo_ld 0 rfl rfl rfl rfl rfl rfl rfl rfl ?_)
  refine el_cons rfl (eo_conv .u8 rfl rfl rfl rfl rfl rfl rfl rfl ⟨by omega, by show (op : Int) ≤ 255; omega⟩ ?_)
  refine el_cons rfl (eo_buildS (cs := u8s [op]) rfl rfl rfl rfl rfl rfl rfl rfl rfl rfl fun b5 => ?_)
  refine el_imp (H' := S w0 (rowC (some (b5, 1)) T_uint8 1 (u8s [op]) 1 :: cells b1 T_ref22_C [int op, int an, int bn, u64 m] :: l)) (fun w hw => hw.imp (i := 0) rfl (fun h hp => row_of_cells rfl (by decide) hp)) ?_
  (repeat (first | refine el_pure rfl rfl rfl rfl ?_ | refine ej_seq ?_ | refine ej_region ?_ | refine el_nil ?_ | refine eq_seq ?_ | refine eq_calm ?_ | refine ej_true rfl ?_ | refine ej_false rfl ?_ | refine el_skip rfl rfl rfl ?_ | refine ej_ret ?_ | refine ej_skip ?_ | refine ej_exit ?_ | refine ej_block ?_ | refine eq_seq_ret ?_ | refine eq_seq_exit ?_ | refine eq_block ?_ | refine eq_block_exit ?_ | refine eq_block_ret ?_ | refine eq_block_exit_ne rfl ?_ | refine eq_back_ret ?_ | refine eq_back_exit ?_))
  refine el_cons rfl (eo_ld 1 rfl rfl rfl rfl rfl rfl rfl rfl ?_)
  refine el_cons rfl (eo_conv .u64 rfl rfl rfl rfl rfl rfl rfl rfl ⟨by omega, by omega⟩ ?_)
  (repeat (first | refine el_pure rfl rfl rfl rfl ?_ | refine ej_seq ?_ | refine ej_region ?_ | refine el_nil ?_ | refine eq_seq ?_ | refine eq_calm ?_ | refine ej_true rfl ?_ | refine ej_false rfl ?_ | refine el_skip rfl rfl rfl ?_ | refine ej_ret ?_ | refine ej_skip ?_ | refine ej_exit ?_ | refine ej_block ?_ | refine eq_seq_ret ?_ | refine eq_seq_exit ?_ | refine eq_block ?_ | refine eq_block_exit ?_ | refine eq_block_ret ?_ | refine eq_block_exit_ne rfl ?_ | refine eq_back_ret ?_ | refine eq_back_exit ?_))
  refine el_cons rfl (eo_callx rfl rfl rfl rfl rfl real_ref22_number (number_any an wa (by omega) (by omega)) fun r1 _ => ?_)
  refine el_cons rfl (eo_appendV 1 (r := some (b5, 1)) (n' := 1) (xs := u8s [op]) (news := u8s (be an wa)) rfl rfl rfl rfl rfl rfl rfl rfl rfl rfl rfl (View.of_row (i := 0) rfl (by simp [be_length])) (all_u8s _) (by show (1 + wa) * 1 ≤ _; omega) (by simp only [maxLen]; omega) fun r2 => ?_)
  refine el_imp (H' := S w0 (rowC r2 T_uint8 1 (u8s ([op] ++ be an wa)) (1 + wa) :: cells b1 T_ref22_C [int op, int an, int bn, u64 m] :: l)) (fun w hw => by rw [u8s, List.map_append]; exact hw.erase 0) ?_
  (repeat (first | refine el_pure rfl rfl rfl rfl ?_ | refine ej_seq ?_ | refine ej_region ?_ | refine el_nil ?_ | refine eq_seq ?_ | refine eq_calm ?_ | refine ej_true rfl ?_ | refine ej_false rfl ?_ | refine el_skip rfl rfl rfl ?_ | refine ej_ret ?_ | refine ej_skip ?_ | refine ej_exit ?_ | refine ej_block ?_ | refine eq_seq_ret ?_ | refine eq_seq_exit ?_ | refine eq_block ?_ | refine eq_block_exit ?_ | refine eq_block_ret ?_ | refine eq_block_exit_ne rfl ?_ | refine eq_back_ret ?_ | refine eq_back_exit ?_))
  refine el_cons rfl (eo_ld 1 rfl rfl rfl rfl rfl rfl rfl rfl ?_)
  refine el_cons rfl (eo_conv .u64 rfl rfl rfl rfl rfl rfl rfl rfl ⟨by omega, by omega⟩ ?_)
  (repeat (first | refine el_pure rfl rfl rfl rfl ?_ | refine ej_seq ?_ | refine ej_region ?_ | refine el_nil ?_ | refine eq_seq ?_ | refine eq_calm ?_ | refine ej_true rfl ?_ | refine ej_false rfl ?_ | refine el_skip rfl rfl rfl ?_ | refine ej_ret ?_ | refine ej_skip ?_ | refine ej_exit ?_ | refine ej_block ?_ | refine eq_seq_ret ?_ | refine eq_seq_exit ?_ | refine eq_block ?_ | refine eq_block_exit ?_ | refine eq_block_ret ?_ | refine eq_block_exit_ne rfl ?_ | refine eq_back_ret ?_ | refine eq_back_exit ?_))
  refine el_cons rfl (eo_callx rfl rfl rfl rfl rfl real_ref22_number (number_any bn wb (by omega) (by omega)) fun r3 _ => ?_)
  refine el_cons rfl (eo_appendV 1 (r := r2) (n' := 1 + wa) (xs := u8s ([op] ++ be an wa)) (news := u8s (be bn wb)) rfl rfl rfl rfl rfl rfl rfl rfl rfl rfl rfl (View.of_row (i := 0) rfl (by simp [be_length])) (all_u8s _) (by show (1 + wa + wb) * 1 ≤ _; omega) (by simp only [maxLen]; omega) fun r4 => ?_)
  refine el_imp (H' := S w0 (rowC r4 T_uint8 1 (u8s ([op] ++ be an wa ++ be bn wb)) (1 + wa + wb) :: cells b1 T_ref22_C [int op, int an, int bn, u64 m] :: l)) (fun w hw => by
    have := hw.erase 0
    rw [u8s, List.map_append]; exact this) ?_
  (repeat (first | refine el_pure rfl rfl rfl rfl ?_ | refine ej_seq ?_ | refine ej_region ?_ | refine el_nil ?_ | refine eq_seq ?_ | refine eq_calm ?_ | refine ej_true rfl ?_ | refine ej_false rfl ?_ | refine el_skip rfl rfl rfl ?_ | refine ej_ret ?_ | refine ej_skip ?_ | refine ej_exit ?_ | refine ej_block ?_ | refine eq_seq_ret ?_ | refine eq_seq_exit ?_ | refine eq_block ?_ | refine eq_block_exit ?_ | refine eq_block_ret ?_ | refine eq_block_exit_ne rfl ?_ | refine eq_back_ret ?_ | refine eq_back_exit ?_))
  refine el_cons rfl (eo_ld 1 rfl rfl rfl rfl rfl rfl rfl rfl ?_)
  (repeat (first | refine el_pure rfl rfl rfl rfl ?_ | refine ej_seq ?_ | refine ej_region ?_ | refine el_nil ?_ | refine eq_seq ?_ | refine eq_calm ?_ | refine ej_true rfl ?_ | refine ej_false rfl ?_ | refine el_skip rfl rfl rfl ?_ | refine ej_ret ?_ | refine ej_skip ?_ | refine ej_exit ?_ | refine ej_block ?_ | refine eq_seq_ret ?_ | refine eq_seq_exit ?_ | refine eq_block ?_ | refine eq_block_exit ?_ | refine eq_block_ret ?_ | refine eq_block_exit_ne rfl ?_ | refine eq_back_ret ?_ | refine eq_back_exit ?_))
  refine el_cons rfl (eo_callx rfl rfl rfl rfl rfl real_ref22_number (number_any m wm hm (by omega)) fun r5 _ => ?_)
  refine el_cons rfl (eo_appendV 1 (r := r4) (n' := 1 + wa + wb) (xs := u8s ([op] ++ be an wa ++ be bn wb)) (news := u8s (be m wm)) rfl rfl rfl rfl rfl rfl rfl rfl rfl rfl rfl (View.of_row (i := 0) rfl (by simp [be_length])) (all_u8s _) (by show (1 + wa + wb + wm) * 1 ≤ _; omega) (by simp only [maxLen]; omega) fun r6 => ?_)
  (repeat (first | refine el_pure rfl rfl rfl rfl ?_ | refine ej_seq ?_ | refine ej_region ?_ | refine el_nil ?_ | refine eq_seq ?_ | refine eq_calm ?_ | refine ej_true rfl ?_ | refine ej_false rfl ?_ | refine el_skip rfl rfl rfl ?_ | refine ej_ret ?_ | refine ej_skip ?_ | refine ej_exit ?_ | refine ej_block ?_ | refine eq_seq_ret ?_ | refine eq_seq_exit ?_ | refine eq_block ?_ | refine eq_block_exit ?_ | refine eq_block_ret ?_ | refine eq_block_exit_ne rfl ?_ | refine eq_back_ret ?_ | refine eq_back_exit ?_))
  refine eq_rett rfl fun W hW => ⟨r6, rfl, trivial, ?_⟩
  have := (hW.erase 0).erase 1
  rw [u8s, List.map_append]; exact this

end Go.Proofs.Ythmmibjhhifmeaa
