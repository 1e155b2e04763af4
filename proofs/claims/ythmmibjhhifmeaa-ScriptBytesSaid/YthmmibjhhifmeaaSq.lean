/- The program's bytes of commands. -/
import Derived.Test.YthmmibjhhifmeaaSp
namespace Go.Proofs.Ythmmibjhhifmeaa
open Go Go.SE

variable {w0 : World} {l : List HP} {i : Nat} {r : Option (Nat × Nat)}

set_option maxHeartbeats 800000 in
theorem Bytes_any (cs : List Cmd) (hc : ∀ c ∈ cs, c.Ok) (hl : cs.length ≤ 1000) (hi : l[i]? = some (rowC r T_code_Command 4 (rows Cmd.prog cs) cs.length)) :
    Does cx F_script_Bytes [sv r cs.length] (S w0 l) fun v w => (∃ r' : Option (Nat × Nat), v = .tuple #[sv r' (encs cs).length, int 0] ∧ (∀ c ∈ cs, c.good) ∧ S w0 (rowC r' T_uint8 1 (u8s (encs cs)) (encs cs).length :: l) w)
      ∨ (∃ _ : Unit, v = .tuple #[.slice none 0 0, int 1] ∧ (¬ ∀ c ∈ cs, c.good) ∧ S w0 l w) := by
  refine fn_enter (n := N_script_Bytes) fn_script_Bytes rfl rfl rfl ?_
  (repeat (first | refine el_pure rfl rfl rfl rfl ?_ | refine ej_seq ?_ | refine ej_region ?_ | refine el_nil ?_ | refine eq_seq ?_ | refine eq_calm ?_ | refine ej_true rfl ?_ | refine ej_false rfl ?_ | refine el_skip rfl rfl rfl ?_ | refine ej_ret ?_ | refine ej_skip ?_ | refine ej_exit ?_ | refine ej_block ?_ | refine eq_seq_ret ?_ | refine eq_seq_exit ?_ | refine eq_block ?_ | refine eq_block_exit ?_ | refine eq_block_ret ?_ | refine eq_block_exit_ne rfl ?_ | refine eq_back_ret ?_ | refine eq_back_exit ?_ | refine el_cons rfl (eo_lenv rfl rfl rfl rfl rfl rfl ?_) | refine el_cons rfl (eo_arith rfl rfl rfl rfl rfl rfl ⟨by omega, by omega⟩ ?_)))
  refine ej_imp' (H' := S w0 (rowC none T_uint8 1 [] 0 :: l)) (fun w hw => hw.row_new) ?_
  refine ej_loopP (α := Nat × Option (Nat × Nat)) (fun x => x.1 ≤ cs.length ∧ ∀ c ∈ cs.take x.1, c.good) (fun x => [(4, sv x.2 (encs (cs.take x.1)).length), (9, sv r cs.length), (10, int cs.length), (11, int x.1)])
    (fun x => S w0 (rowC x.2 T_uint8 1 (u8s (encs (cs.take x.1))) (encs (cs.take x.1)).length :: l)) (fun x => cs.length - x.1) (0, none) ⟨Nat.zero_le _, by simp⟩ (le_of _ _ rfl) (fun w hw => hw) ?_
  rintro ⟨k, r'⟩ ⟨hk, hpre⟩
  have hk : k ≤ cs.length := hk
  (repeat (first | refine el_pure rfl rfl rfl rfl ?_ | refine ej_seq ?_ | refine ej_region ?_ | refine el_nil ?_ | refine eq_seq ?_ | refine eq_calm ?_ | refine ej_true rfl ?_ | refine ej_false rfl ?_ | refine el_skip rfl rfl rfl ?_ | refine ej_ret ?_ | refine ej_skip ?_ | refine ej_exit ?_ | refine ej_block ?_ | refine eq_seq_ret ?_ | refine eq_seq_exit ?_ | refine eq_block ?_ | refine eq_block_exit ?_ | refine eq_block_ret ?_ | refine eq_block_exit_ne rfl ?_ | refine eq_back_ret ?_ | refine eq_back_exit ?_))
  refine ej_dec rfl (fun hlt => ?_) (fun hlt => ?_)
  · have hlt : (k : Int) < cs.length := hlt
    have hlt' : k < cs.length := by omega
    have hx : cs[k]? = some cs[k] := by simp [hlt']
    have hmem := List.getElem_mem hlt'
    generalize cs[k] = c at *
    have hg : ∀ j, j < 4 → (rows Cmd.prog cs)[k * 4 + j]? = c.prog[j]? := fun j hj => rows_get Cmd.prog 4 prog4 cs k j c hx hj
    have hsn : cs.take (k + 1) = cs.take k ++ [c] := take_snoc hx
    have hcOk := hc c hmem
    have hen : encs (cs.take (k + 1)) = encs (cs.take k) ++ c.enc := by rw [hsn, encs_snoc]
    have hle := encs_length (cs.take k)
    rw [List.length_take] at hle
    have hs17 := size_le c.op
    have hel := enc_length c
    (repeat (first | refine el_pure rfl rfl rfl rfl ?_ | refine ej_seq ?_ | refine ej_region ?_ | refine el_nil ?_ | refine eq_seq ?_ | refine eq_calm ?_ | refine ej_true rfl ?_ | refine ej_false rfl ?_ | refine el_skip rfl rfl rfl ?_ | refine ej_ret ?_ | refine ej_skip ?_ | refine ej_exit ?_ | refine ej_block ?_ | refine eq_seq_ret ?_ | refine eq_seq_exit ?_ | refine eq_block ?_ | refine eq_block_exit ?_ | refine eq_block_ret ?_ | refine eq_block_exit_ne rfl ?_ | refine eq_back_ret ?_ | refine eq_back_exit ?_))
    refine el_cons rfl (eo_idxr (i + 1) rfl rfl rfl rfl rfl rfl rfl rfl hi ⟨by omega, by omega⟩ ?_)
    refine el_cons rfl (eo_ldrA (i + 1) (cs := c.prog) rfl rfl rfl rfl rfl rfl hi rfl hg ?_)
    refine el_cons rfl (eo_alloc rfl rfl rfl rfl fun b6 => ?_)
    refine el_cons rfl (eo_stA 0 rfl rfl rfl rfl rfl rfl rfl rfl rfl ?_)
    (repeat (first | refine el_pure rfl rfl rfl rfl ?_ | refine ej_seq ?_ | refine ej_region ?_ | refine el_nil ?_ | refine eq_seq ?_ | refine eq_calm ?_ | refine ej_true rfl ?_ | refine ej_false rfl ?_ | refine el_skip rfl rfl rfl ?_ | refine ej_ret ?_ | refine ej_skip ?_ | refine ej_exit ?_ | refine ej_block ?_ | refine eq_seq_ret ?_ | refine eq_seq_exit ?_ | refine eq_block ?_ | refine eq_block_exit ?_ | refine eq_block_ret ?_ | refine eq_block_exit_ne rfl ?_ | refine eq_back_ret ?_ | refine eq_back_exit ?_))
    refine el_cons rfl (eo_ldW 0 rfl rfl rfl rfl rfl rfl rfl rfl ?_)
    refine el_cons rfl (eo_call2 rfl rfl rfl rfl rfl real_code_Encode (Encode_any c hcOk) (fun r1 hgood => ?_) (fun _ hbad => ?_))
    · (repeat (first | refine el_pure rfl rfl rfl rfl ?_ | refine ej_seq ?_ | refine ej_region ?_ | refine el_nil ?_ | refine eq_seq ?_ | refine eq_calm ?_ | refine ej_true rfl ?_ | refine ej_false rfl ?_ | refine el_skip rfl rfl rfl ?_ | refine ej_ret ?_ | refine ej_skip ?_ | refine ej_exit ?_ | refine ej_block ?_ | refine eq_seq_ret ?_ | refine eq_seq_exit ?_ | refine eq_block ?_ | refine eq_block_exit ?_ | refine eq_block_ret ?_ | refine eq_block_exit_ne rfl ?_ | refine eq_back_ret ?_ | refine eq_back_exit ?_))
      generalize hE : encs (cs.take k) = es at *
      refine el_cons rfl (eo_appendV 2 (r := r') (n' := es.length) (xs := u8s es) (news := u8s c.enc) rfl rfl rfl rfl rfl rfl rfl rfl rfl rfl rfl (View.of_row (i := 0) rfl (by simp [enc_length])) (all_u8s _) (by show (es.length + sizeOfOp c.op) * 1 ≤ _; omega) (by simp only [maxLen]; omega) fun r2 => ?_)
      (repeat (first | refine el_pure rfl rfl rfl rfl ?_ | refine ej_seq ?_ | refine ej_region ?_ | refine el_nil ?_ | refine eq_seq ?_ | refine eq_calm ?_ | refine ej_true rfl ?_ | refine ej_false rfl ?_ | refine el_skip rfl rfl rfl ?_ | refine ej_ret ?_ | refine ej_skip ?_ | refine ej_exit ?_ | refine ej_block ?_ | refine eq_seq_ret ?_ | refine eq_seq_exit ?_ | refine eq_block ?_ | refine eq_block_exit ?_ | refine eq_block_ret ?_ | refine eq_block_exit_ne rfl ?_ | refine eq_back_ret ?_ | refine eq_back_exit ?_ | refine el_cons rfl (eo_lenv rfl rfl rfl rfl rfl rfl ?_) | refine el_cons rfl (eo_arith rfl rfl rfl rfl rfl rfl ⟨by omega, by omega⟩ ?_)))
      refine eq_backP (k + 1, r2) ⟨by show k + 1 ≤ _; omega, ?_⟩ (by show _ - (k + 1) < _ - k; omega) ?_ ?_
      · show ∀ c ∈ cs.take (k + 1), c.good
        rw [hsn]
        intro x hx
        rcases List.mem_append.1 hx with hx | hx
        · exact hpre x hx
        · rw [List.mem_singleton.1 hx]; exact hgood
      · refine le_cons ?_ (le_of _ _ rfl)
        show some (sv r2 (es.length + sizeOfOp c.op)) = some (sv r2 (encs (cs.take (k + 1))).length)
        rw [hen, List.length_append, hel]
      · intro W hW
        show S w0 (rowC r2 T_uint8 1 (u8s (encs (cs.take (k + 1)))) (encs (cs.take (k + 1))).length :: l) W
        rw [hen, List.length_append, hel, u8s, List.map_append]
        exact hW.drop 2
    · (repeat (first | refine el_pure rfl rfl rfl rfl ?_ | refine ej_seq ?_ | refine ej_region ?_ | refine el_nil ?_ | refine eq_seq ?_ | refine eq_calm ?_ | refine ej_true rfl ?_ | refine ej_false rfl ?_ | refine el_skip rfl rfl rfl ?_ | refine ej_ret ?_ | refine ej_skip ?_ | refine ej_exit ?_ | refine ej_block ?_ | refine eq_seq_ret ?_ | refine eq_seq_exit ?_ | refine eq_block ?_ | refine eq_block_exit ?_ | refine eq_block_ret ?_ | refine eq_block_exit_ne rfl ?_ | refine eq_back_ret ?_ | refine eq_back_exit ?_))
      exact eq_rett rfl fun w hw => .inr ⟨(), rfl, fun h => hbad (h c hmem), hw.drop 2⟩
  · have hlt : ¬ (k : Int) < cs.length := hlt
    obtain rfl : k = cs.length := by omega
    have hpre : ∀ c ∈ cs.take cs.length, c.good := hpre
    rw [List.take_length] at hpre
    (repeat (first | refine el_pure rfl rfl rfl rfl ?_ | refine ej_seq ?_ | refine ej_region ?_ | refine el_nil ?_ | refine eq_seq ?_ | refine eq_calm ?_ | refine ej_true rfl ?_ | refine ej_false rfl ?_ | refine el_skip rfl rfl rfl ?_ | refine ej_ret ?_ | refine ej_skip ?_ | refine ej_exit ?_ | refine ej_block ?_ | refine eq_seq_ret ?_ | refine eq_seq_exit ?_ | refine eq_block ?_ | refine eq_block_exit ?_ | refine eq_block_ret ?_ | refine eq_block_exit_ne rfl ?_ | refine eq_back_ret ?_ | refine eq_back_exit ?_ | refine el_cons rfl (eo_lenv rfl rfl rfl rfl rfl rfl ?_) | refine el_cons rfl (eo_arith rfl rfl rfl rfl rfl rfl ⟨by omega, by omega⟩ ?_)))
    refine eq_rett rfl fun w hw => .inl ⟨r', ?_, hpre, ?_⟩
    · rw [List.take_length]; rfl
    · have hw : S w0 (rowC r' T_uint8 1 (u8s (encs (cs.take cs.length))) (encs (cs.take cs.length)).length :: l) w := hw
      rw [List.take_length] at hw; exact hw

end Go.Proofs.Ythmmibjhhifmeaa
