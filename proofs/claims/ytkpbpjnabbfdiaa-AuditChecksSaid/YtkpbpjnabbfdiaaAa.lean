/- Sets of cores: what the program's functions on them answer. -/
import Derived.Test.YtkpbpjnabbfdiaaNm
namespace Go.Proofs.Ytkpbpjnabbfdiaa
open Go Go.SE

def core (c : Int) : Prop := 0 ≤ c ∧ c < 64
instance (c : Int) : Decidable (core c) := inferInstanceAs (Decidable (_ ∧ _))
def has (s : Nat) (c : Int) : Bool := decide (core c) && s.testBit c.toNat

theorem bit_test (s : Nat) (c : Nat) : decide (((s >>> c &&& 1 : Nat) : Int) = 1) = s.testBit c := by
  rw [Nat.testBit, Nat.and_comm]
  by_cases h : (1 &&& s >>> c) = 0
  · simp [h]
  · have : (1 &&& s >>> c) = 1 := by
      have := Nat.and_le_left (n := 1) (m := s >>> c)
      omega
    simp [this]

theorem core_any (c : Int) (H : WP) : Does cx F_mask_core [.int .i64 c] H fun v w => v = .bool (decide (core c)) ∧ H w := by
  refine fn_enter (n := N_mask_core) fn_mask_core rfl rfl rfl ?_
  (repeat' (first | refine el_pure rfl rfl rfl rfl ?_ | refine ej_seq ?_ | refine ej_region ?_ | refine el_nil ?_ | refine eq_seq ?_ | refine eq_calm ?_ | refine ej_true rfl ?_ | refine ej_false rfl ?_ | refine el_skip rfl rfl rfl ?_ | refine ej_ret ?_ | refine ej_skip ?_ | refine ej_exit ?_ | refine ej_block ?_ | refine eq_seq_ret ?_ | refine eq_seq_exit ?_ | refine eq_block ?_ | refine eq_block_exit ?_ | refine eq_block_ret ?_ | refine eq_block_exit_ne rfl ?_ | refine eq_back_ret ?_ | refine eq_back_exit ?_ | (refine ej_dec rfl (fun h => ?_) (fun h => ?_)) | ((fail_if_success refine el_gt rfl rfl ?_); (fail_if_success refine el_gf rfl rfl ?_); refine el_gdec rfl rfl (fun h => ?_) (fun h => ?_)) | (refine ej_cond rfl (fun h => ?_) (fun h => ?_)) | ((fail_if_success refine el_gt rfl rfl ?_); (fail_if_success refine el_gf rfl rfl ?_); refine el_gsplit rfl rfl (fun h => ?_) (fun h => ?_))))
  all_goals (refine eq_rett rfl fun w hw => ⟨?_, hw⟩)
  all_goals simp [pack, core, *]

theorem Has_any (s : Nat) (c : Int) (hs : s < 18446744073709551616) (H : WP) : Does cx F_mask_Set_Has [u64 s, .int .i64 c] H fun v w => v = .bool (has s c) ∧ H w := by
  refine fn_enter (n := N_mask_Set_Has) fn_mask_Set_Has rfl rfl rfl ?_
  (repeat (first | refine el_pure rfl rfl rfl rfl ?_ | refine ej_seq ?_ | refine ej_region ?_ | refine el_nil ?_ | refine eq_seq ?_ | refine eq_calm ?_ | refine ej_true rfl ?_ | refine ej_false rfl ?_ | refine el_skip rfl rfl rfl ?_ | refine ej_ret ?_ | refine ej_skip ?_ | refine ej_exit ?_ | refine ej_block ?_ | refine eq_seq_ret ?_ | refine eq_seq_exit ?_ | refine eq_block ?_ | refine eq_block_exit ?_ | refine eq_block_ret ?_ | refine eq_block_exit_ne rfl ?_ | refine eq_back_ret ?_ | refine eq_back_exit ?_))
  refine el_cons rfl (eo_call1 rfl rfl rfl rfl rfl real_mask_core (core_any _ _) ?_)
  (repeat' (first | refine el_pure rfl rfl rfl rfl ?_ | refine ej_seq ?_ | refine ej_region ?_ | refine el_nil ?_ | refine eq_seq ?_ | refine eq_calm ?_ | refine ej_true rfl ?_ | refine ej_false rfl ?_ | refine el_skip rfl rfl rfl ?_ | refine ej_ret ?_ | refine ej_skip ?_ | refine ej_exit ?_ | refine ej_block ?_ | refine eq_seq_ret ?_ | refine eq_seq_exit ?_ | refine eq_block ?_ | refine eq_block_exit ?_ | refine eq_block_ret ?_ | refine eq_block_exit_ne rfl ?_ | refine eq_back_ret ?_ | refine eq_back_exit ?_ | (refine ej_dec rfl (fun h => ?_) (fun h => ?_)) | ((fail_if_success refine el_gt rfl rfl ?_); (fail_if_success refine el_gf rfl rfl ?_); refine el_gdec rfl rfl (fun h => ?_) (fun h => ?_)) | (refine ej_cond rfl (fun h => ?_) (fun h => ?_)) | ((fail_if_success refine el_gt rfl rfl ?_); (fail_if_success refine el_gf rfl rfl ?_); refine el_gsplit rfl rfl (fun h => ?_) (fun h => ?_))))
  · refine el_cons rfl (eo_shr rfl rfl rfl rfl rfl (by assumption) ?_)
    refine el_cons rfl (eo_bits (b := 1) rfl rfl rfl rfl rfl ?_ (by decide) rfl ?_)
    · exact Nat.lt_of_le_of_lt (Nat.shiftRight_le _ _) hs
    (repeat' (first | refine el_pure rfl rfl rfl rfl ?_ | refine ej_seq ?_ | refine ej_region ?_ | refine el_nil ?_ | refine eq_seq ?_ | refine eq_calm ?_ | refine ej_true rfl ?_ | refine ej_false rfl ?_ | refine el_skip rfl rfl rfl ?_ | refine ej_ret ?_ | refine ej_skip ?_ | refine ej_exit ?_ | refine ej_block ?_ | refine eq_seq_ret ?_ | refine eq_seq_exit ?_ | refine eq_block ?_ | refine eq_block_exit ?_ | refine eq_block_ret ?_ | refine eq_block_exit_ne rfl ?_ | refine eq_back_ret ?_ | refine eq_back_exit ?_ | (refine ej_dec rfl (fun h => ?_) (fun h => ?_)) | ((fail_if_success refine el_gt rfl rfl ?_); (fail_if_success refine el_gf rfl rfl ?_); refine el_gdec rfl rfl (fun h => ?_) (fun h => ?_)) | (refine ej_cond rfl (fun h => ?_) (fun h => ?_)) | ((fail_if_success refine el_gt rfl rfl ?_); (fail_if_success refine el_gf rfl rfl ?_); refine el_gsplit rfl rfl (fun h => ?_) (fun h => ?_))))
    refine eq_rett rfl fun w hw => ⟨?_, hw⟩
    simp only [pack, has, h, decide_true, Bool.true_and]
    exact congrArg _ (bit_test s c.toNat)
  · refine eq_rett rfl fun w hw => ⟨?_, hw⟩
    simp [pack, has, h]

theorem In_any (s t : Nat) (hs : s < 18446744073709551616) (ht : t < 18446744073709551616) (H : WP) : Does cx F_mask_Set_In [u64 s, u64 t] H fun v w => v = .bool (decide (s &&& (18446744073709551615 ^^^ t) = 0)) ∧ H w := by
  refine fn_enter (n := N_mask_Set_In) fn_mask_Set_In rfl rfl rfl ?_
  (repeat (first | refine el_pure rfl rfl rfl rfl ?_ | refine ej_seq ?_ | refine ej_region ?_ | refine el_nil ?_ | refine eq_seq ?_ | refine eq_calm ?_ | refine ej_true rfl ?_ | refine ej_false rfl ?_ | refine el_skip rfl rfl rfl ?_ | refine ej_ret ?_ | refine ej_skip ?_ | refine ej_exit ?_ | refine ej_block ?_ | refine eq_seq_ret ?_ | refine eq_seq_exit ?_ | refine eq_block ?_ | refine eq_block_exit ?_ | refine eq_block_ret ?_ | refine eq_block_exit_ne rfl ?_ | refine eq_back_ret ?_ | refine eq_back_exit ?_))
  refine el_cons rfl (eo_bits rfl rfl rfl rfl rfl hs ht rfl ?_)
  (repeat (first | refine el_pure rfl rfl rfl rfl ?_ | refine ej_seq ?_ | refine ej_region ?_ | refine el_nil ?_ | refine eq_seq ?_ | refine eq_calm ?_ | refine ej_true rfl ?_ | refine ej_false rfl ?_ | refine el_skip rfl rfl rfl ?_ | refine ej_ret ?_ | refine ej_skip ?_ | refine ej_exit ?_ | refine ej_block ?_ | refine eq_seq_ret ?_ | refine eq_seq_exit ?_ | refine eq_block ?_ | refine eq_block_exit ?_ | refine eq_block_ret ?_ | refine eq_block_exit_ne rfl ?_ | refine eq_back_ret ?_ | refine eq_back_exit ?_))
  refine eq_rett rfl fun w hw => ⟨?_, hw⟩
  simp only [pack]
  congr 2
  apply propext
  omega

theorem Meets_any (s t : Nat) (hs : s < 18446744073709551616) (ht : t < 18446744073709551616) (H : WP) : Does cx F_mask_Set_Meets [u64 s, u64 t] H fun v w => v = .bool (decide (s &&& t ≠ 0)) ∧ H w := by
  refine fn_enter (n := N_mask_Set_Meets) fn_mask_Set_Meets rfl rfl rfl ?_
  (repeat (first | refine el_pure rfl rfl rfl rfl ?_ | refine ej_seq ?_ | refine ej_region ?_ | refine el_nil ?_ | refine eq_seq ?_ | refine eq_calm ?_ | refine ej_true rfl ?_ | refine ej_false rfl ?_ | refine el_skip rfl rfl rfl ?_ | refine ej_ret ?_ | refine ej_skip ?_ | refine ej_exit ?_ | refine ej_block ?_ | refine eq_seq_ret ?_ | refine eq_seq_exit ?_ | refine eq_block ?_ | refine eq_block_exit ?_ | refine eq_block_ret ?_ | refine eq_block_exit_ne rfl ?_ | refine eq_back_ret ?_ | refine eq_back_exit ?_))
  refine el_cons rfl (eo_bits rfl rfl rfl rfl rfl hs ht rfl ?_)
  (repeat (first | refine el_pure rfl rfl rfl rfl ?_ | refine ej_seq ?_ | refine ej_region ?_ | refine el_nil ?_ | refine eq_seq ?_ | refine eq_calm ?_ | refine ej_true rfl ?_ | refine ej_false rfl ?_ | refine el_skip rfl rfl rfl ?_ | refine ej_ret ?_ | refine ej_skip ?_ | refine ej_exit ?_ | refine ej_block ?_ | refine eq_seq_ret ?_ | refine eq_seq_exit ?_ | refine eq_block ?_ | refine eq_block_exit ?_ | refine eq_block_ret ?_ | refine eq_block_exit_ne rfl ?_ | refine eq_back_ret ?_ | refine eq_back_exit ?_))
  refine eq_rett rfl fun w hw => ⟨?_, hw⟩
  simp only [pack]
  congr 2
  apply propext
  omega

end Go.Proofs.Ytkpbpjnabbfdiaa
