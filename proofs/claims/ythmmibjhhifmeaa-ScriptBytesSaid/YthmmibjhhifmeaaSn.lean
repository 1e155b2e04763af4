/- The law ScriptSteps. -/
import Derived.Test.YthmmibjhhifmeaaSm
namespace Go.Proofs.Ythmmibjhhifmeaa
open Go Go.SE

variable {w0 : World} {l : List HP} {i : Nat} {r : Option (Nat × Nat)}

def sizes (ss : List Stp) : Nat := (ss.map Stp.size).sum
theorem sizes_snoc (ss : List Stp) (s : Stp) : sizes (ss ++ [s]) = sizes ss + s.size := by simp [sizes]
theorem stepsI_sum (bs : List Nat) : ∀ f j, j ≤ bs.length → bs.length - j ≤ f → j + sizes (stepsI bs f j) = bs.length ∧
    ∀ k s, (stepsI bs f j)[k]? = some s → s.pos = j + sizes ((stepsI bs f j).take k) ∧ 1 ≤ s.size
  | 0, j, hj, hf => by
    refine ⟨?_, fun k s h => by simp [stepsI] at h⟩
    simp [stepsI, sizes]; omega
  | f + 1, j, hj, hf => by
    rw [stepsI]
    by_cases h : j < bs.length
    · rw [if_pos h]
      have h2 := decN_pos (bs := bs.drop j) (by simp; omega)
      have h3 := decN_le (bs.drop j)
      rw [List.length_drop] at h3
      obtain ⟨h4, h5⟩ := stepsI_sum bs f (j + decN (bs.drop j)) (by omega) (by omega)
      refine ⟨?_, fun k s hs => ?_⟩
      · simp only [sizes, List.map_cons, List.sum_cons] at h4 ⊢; omega
      · cases k with
        | zero =>
          simp only [List.getElem?_cons_zero, Option.some.injEq] at hs
          subst hs
          exact ⟨by simp [sizes], h2⟩
        | succ k =>
          obtain ⟨h6, h7⟩ := h5 k s (by simpa using hs)
          refine ⟨?_, h7⟩
          simp only [sizes, List.take_succ_cons, List.map_cons, List.sum_cons] at h6 ⊢
          omega
    · rw [if_neg h]
      refine ⟨by simp [sizes]; omega, fun k s h => by simp at h⟩
theorem stepsI_op (bs : List Nat) (hb : ∀ b ∈ bs, b < 256) : ∀ f j, ∀ s ∈ stepsI bs f j, s.cmd.op < 256
  | 0, j, s, h => by simp [stepsI] at h
  | f + 1, j, s, h => by
    rw [stepsI] at h
    split at h
    · rcases List.mem_cons.1 h with rfl | h
      · show (decC (bs.drop j)).op < 256
        rw [decC]
        split
        · rename_i hd
          have := hd.1.2
          show opOf _ < 256
          omega
        · exact (by decide : 0 < 256)
      · exact stepsI_op bs hb f _ s h
    · simp at h

set_option maxHeartbeats 1600000 in
theorem ScriptSteps_any {W : World} {a : Option Addr} {c : Nat} (bs : List Nat) (hb : ∀ b ∈ bs, b < 256) (hA : Sl W 1 a (u8s bs) bs.length) (hc : bs.length ≤ c ∧ c ≤ maxLen) :
    Does cx F_law24_ScriptSteps [.slice a bs.length c] (S W [old W]) fun v w => v = .bool true ∧ S W [old W] w := by
  refine fn_enter (n := N_law24_ScriptSteps) fn_law24_ScriptSteps rfl rfl rfl ?_
  have hV : View W [old W] 1 a (u8s bs) bs.length c := View.of_old (i := 0) hA hc rfl
  (repeat (first | refine el_pure rfl rfl rfl rfl ?_ | refine ej_seq ?_ | refine ej_region ?_ | refine el_nil ?_ | refine eq_seq ?_ | refine eq_calm ?_ | refine ej_true rfl ?_ | refine ej_false rfl ?_ | refine el_skip rfl rfl rfl ?_ | refine ej_ret ?_ | refine ej_skip ?_ | refine ej_exit ?_ | refine ej_block ?_ | refine eq_seq_ret ?_ | refine eq_seq_exit ?_ | refine eq_block ?_ | refine eq_block_exit ?_ | refine eq_block_ret ?_ | refine eq_block_exit_ne rfl ?_ | refine eq_back_ret ?_ | refine eq_back_exit ?_))
  refine el_cons rfl (eo_call1 rfl rfl rfl rfl rfl real_law24_awake awake_any ?_)
  (repeat (first | refine el_pure rfl rfl rfl rfl ?_ | refine ej_seq ?_ | refine ej_region ?_ | refine el_nil ?_ | refine eq_seq ?_ | refine eq_calm ?_ | refine ej_true rfl ?_ | refine ej_false rfl ?_ | refine el_skip rfl rfl rfl ?_ | refine ej_ret ?_ | refine ej_skip ?_ | refine ej_exit ?_ | refine ej_block ?_ | refine eq_seq_ret ?_ | refine eq_seq_exit ?_ | refine eq_block ?_ | refine eq_block_exit ?_ | refine eq_block_ret ?_ | refine eq_block_exit_ne rfl ?_ | refine eq_back_ret ?_ | refine eq_back_exit ?_ | refine el_cons rfl (eo_lenv rfl rfl rfl rfl rfl rfl ?_) | refine el_cons rfl (eo_arith rfl rfl rfl rfl rfl rfl ⟨by omega, by omega⟩ ?_)))
  refine ej_dec rfl (fun h6 => ?_) (fun h6 => ?_)
  · (repeat (first | refine el_pure rfl rfl rfl rfl ?_ | refine ej_seq ?_ | refine ej_region ?_ | refine el_nil ?_ | refine eq_seq ?_ | refine eq_calm ?_ | refine ej_true rfl ?_ | refine ej_false rfl ?_ | refine el_skip rfl rfl rfl ?_ | refine ej_ret ?_ | refine ej_skip ?_ | refine ej_exit ?_ | refine ej_block ?_ | refine eq_seq_ret ?_ | refine eq_seq_exit ?_ | refine eq_block ?_ | refine eq_block_exit ?_ | refine eq_block_ret ?_ | refine eq_block_exit_ne rfl ?_ | refine eq_back_ret ?_ | refine eq_back_exit ?_))
    refine el_cons rfl (eo_call1 rfl rfl rfl rfl rfl real_law24_awake awake_any ?_)
    (repeat (first | refine el_pure rfl rfl rfl rfl ?_ | refine ej_seq ?_ | refine ej_region ?_ | refine el_nil ?_ | refine eq_seq ?_ | refine eq_calm ?_ | refine ej_true rfl ?_ | refine ej_false rfl ?_ | refine el_skip rfl rfl rfl ?_ | refine ej_ret ?_ | refine ej_skip ?_ | refine ej_exit ?_ | refine ej_block ?_ | refine eq_seq_ret ?_ | refine eq_seq_exit ?_ | refine eq_block ?_ | refine eq_block_exit ?_ | refine eq_block_ret ?_ | refine eq_block_exit_ne rfl ?_ | refine eq_back_ret ?_ | refine eq_back_exit ?_))
    exact eq_rett rfl fun w hw => ⟨rfl, hw⟩
  · have h6 : ¬ (600 : Int) < bs.length := h6
    (repeat (first | refine el_pure rfl rfl rfl rfl ?_ | refine ej_seq ?_ | refine ej_region ?_ | refine el_nil ?_ | refine eq_seq ?_ | refine eq_calm ?_ | refine ej_true rfl ?_ | refine ej_false rfl ?_ | refine el_skip rfl rfl rfl ?_ | refine ej_ret ?_ | refine ej_skip ?_ | refine ej_exit ?_ | refine ej_block ?_ | refine eq_seq_ret ?_ | refine eq_seq_exit ?_ | refine eq_block ?_ | refine eq_block_exit ?_ | refine eq_block_ret ?_ | refine eq_block_exit_ne rfl ?_ | refine eq_back_ret ?_ | refine eq_back_exit ?_))
    refine el_cons rfl (eo_buildS (cs := []) rfl rfl rfl rfl rfl rfl rfl rfl rfl rfl fun b5 => ?_)
    refine el_imp (H' := S W (rowC (some (b5, 0)) T_uint8 1 [] 0 :: [old W])) (fun w hw => hw.imp (i := 0) rfl (fun h hp => row_of_cells rfl (by decide) hp)) ?_
    (repeat (first | refine el_pure rfl rfl rfl rfl ?_ | refine ej_seq ?_ | refine ej_region ?_ | refine el_nil ?_ | refine eq_seq ?_ | refine eq_calm ?_ | refine ej_true rfl ?_ | refine ej_false rfl ?_ | refine el_skip rfl rfl rfl ?_ | refine ej_ret ?_ | refine ej_skip ?_ | refine ej_exit ?_ | refine ej_block ?_ | refine eq_seq_ret ?_ | refine eq_seq_exit ?_ | refine eq_block ?_ | refine eq_block_exit ?_ | refine eq_block_ret ?_ | refine eq_block_exit_ne rfl ?_ | refine eq_back_ret ?_ | refine eq_back_exit ?_))
    refine el_cons rfl (eo_appendV 0 (r := some (b5, 0)) (n' := 0) (xs := []) (news := u8s bs) rfl rfl rfl rfl rfl rfl rfl rfl rfl rfl rfl (hV.cons _) (all_u8s _) (by show (0 + bs.length) * 1 ≤ _; omega) (by simp only [maxLen]; omega) fun r2 => ?_)
    rw [List.nil_append, Nat.zero_add]
    have hS := fun (l' : List HP) => Steps_any (w0 := W) (l := rowC r2 T_uint8 1 (u8s bs) bs.length :: l') (i := 0) bs hb (by omega) rfl (View.of_row (i := 0) rfl (by simp))
    have hR := fun (l' : List HP) (h : l'[2]? = some (old W)) => StepsR_any (w0 := W) (l := l') (i := 2) bs hb (by omega) h hV
    obtain ⟨hsum, hat⟩ := stepsI_sum bs bs.length 0 (by omega) (by omega)
    have hops := stepsI_op bs hb bs.length 0
    have hssl := stepsI_length bs bs.length 0
    rw [← steps] at hsum hat hops hssl
    generalize steps bs = ss at *
    refine el_cons rfl (eo_callx rfl rfl rfl rfl rfl real_script_Steps (hS _) fun r1 _ => ?_)
    (repeat (first | refine el_pure rfl rfl rfl rfl ?_ | refine ej_seq ?_ | refine ej_region ?_ | refine el_nil ?_ | refine eq_seq ?_ | refine eq_calm ?_ | refine ej_true rfl ?_ | refine ej_false rfl ?_ | refine el_skip rfl rfl rfl ?_ | refine ej_ret ?_ | refine ej_skip ?_ | refine ej_exit ?_ | refine ej_block ?_ | refine eq_seq_ret ?_ | refine eq_seq_exit ?_ | refine eq_block ?_ | refine eq_block_exit ?_ | refine eq_block_ret ?_ | refine eq_block_exit_ne rfl ?_ | refine eq_back_ret ?_ | refine eq_back_exit ?_ | refine el_cons rfl (eo_lenv rfl rfl rfl rfl rfl rfl ?_) | refine el_cons rfl (eo_arith rfl rfl rfl rfl rfl rfl ⟨by omega, by omega⟩ ?_)))
    refine ej_loopP (fun k : Nat => k ≤ ss.length) (fun k => [(0, .slice a bs.length c), (3, sv r1 ss.length), (4, int (sizes (ss.take k))), (19, sv r1 ss.length), (20, int ss.length), (21, int k)]) (fun _ => S W [rowC r1 T_script_Step 9 (rows Stp.prog ss) ss.length, rowC r2 T_uint8 1 (u8s bs) bs.length, old W]) (fun k => ss.length - k) 0 (Nat.zero_le _) (le_of _ _ rfl) (fun w hw => hw) ?_
    intro k hk
    have hsz : sizes (ss.take k) ≤ bs.length := by
      have h1 : sizes ss = sizes (ss.take k) + sizes (ss.drop k) := by
        rw [sizes, sizes, sizes, ← List.sum_append, ← List.map_append, List.take_append_drop]
      omega
    (repeat (first | refine el_pure rfl rfl rfl rfl ?_ | refine ej_seq ?_ | refine ej_region ?_ | refine el_nil ?_ | refine eq_seq ?_ | refine eq_calm ?_ | refine ej_true rfl ?_ | refine ej_false rfl ?_ | refine el_skip rfl rfl rfl ?_ | refine ej_ret ?_ | refine ej_skip ?_ | refine ej_exit ?_ | refine ej_block ?_ | refine eq_seq_ret ?_ | refine eq_seq_exit ?_ | refine eq_block ?_ | refine eq_block_exit ?_ | refine eq_block_ret ?_ | refine eq_block_exit_ne rfl ?_ | refine eq_back_ret ?_ | refine eq_back_exit ?_))
    refine ej_dec rfl (fun hlt => ?_) (fun hlt => ?_)
    · have hlt' : k < ss.length := by omega
      have hx : ss[k]? = some ss[k] := by simp [hlt']
      obtain ⟨hp1, hp2⟩ := hat k _ hx
      have hsn : sizes (ss.take (k + 1)) = sizes (ss.take k) + ss[k].size := by rw [take_snoc hx, sizes_snoc]
      have hsz1 : sizes (ss.take (k + 1)) ≤ bs.length := by
        have h1 : sizes ss = sizes (ss.take (k + 1)) + sizes (ss.drop (k + 1)) := by
          rw [sizes, sizes, sizes, ← List.sum_append, ← List.map_append, List.take_append_drop]
        omega
      rw [hsn] at hsz1
      generalize ss[k] = x at *
      have hg1 : ∀ j, j < 9 → (rows Stp.prog ss)[k * 9 + j]? = x.prog[j]? := fun j hj => rows_get Stp.prog 9 prog9 ss k j x hx hj
      obtain ⟨at', size, ok, op, ca, cb, cm⟩ := x
      have hp1 : at' = sizes (ss.take k) := by have h : at' = 0 + sizes (ss.take k) := hp1; omega
      have hp2 : 1 ≤ size := hp2
      have hsz1 : sizes (ss.take k) + size ≤ bs.length := hsz1
      subst hp1
      generalize hq : sizes (ss.take k) = q at *
      (repeat (first | refine el_pure rfl rfl rfl rfl ?_ | refine ej_seq ?_ | refine ej_region ?_ | refine el_nil ?_ | refine eq_seq ?_ | refine eq_calm ?_ | refine ej_true rfl ?_ | refine ej_false rfl ?_ | refine el_skip rfl rfl rfl ?_ | refine ej_ret ?_ | refine ej_skip ?_ | refine ej_exit ?_ | refine ej_block ?_ | refine eq_seq_ret ?_ | refine eq_seq_exit ?_ | refine eq_block ?_ | refine eq_block_exit ?_ | refine eq_block_ret ?_ | refine eq_block_exit_ne rfl ?_ | refine eq_back_ret ?_ | refine eq_back_exit ?_))
      refine el_cons rfl (eo_idxr 0 rfl rfl rfl rfl rfl rfl rfl rfl rfl ⟨by omega, by omega⟩ ?_)
      refine el_cons rfl (eo_ldrA 0 (cs := Stp.prog ⟨q, size, ok, op, ca, cb, cm⟩) rfl rfl rfl rfl rfl rfl rfl rfl hg1 ?_)
      refine el_cons rfl (eo_alloc rfl rfl rfl rfl fun b6 => ?_)
      refine el_cons rfl (eo_stA 0 rfl rfl rfl rfl rfl rfl rfl rfl rfl ?_)
      (repeat (first | refine el_pure rfl rfl rfl rfl ?_ | refine ej_seq ?_ | refine ej_region ?_ | refine el_nil ?_ | refine eq_seq ?_ | refine eq_calm ?_ | refine ej_true rfl ?_ | refine ej_false rfl ?_ | refine el_skip rfl rfl rfl ?_ | refine ej_ret ?_ | refine ej_skip ?_ | refine ej_exit ?_ | refine ej_block ?_ | refine eq_seq_ret ?_ | refine eq_seq_exit ?_ | refine eq_block ?_ | refine eq_block_exit ?_ | refine eq_block_ret ?_ | refine eq_block_exit_ne rfl ?_ | refine eq_back_ret ?_ | refine eq_back_exit ?_))
      refine el_cons rfl (eo_ld 0 rfl rfl rfl rfl rfl rfl rfl rfl ?_)
      (repeat (first | refine el_pure rfl rfl rfl rfl ?_ | refine ej_seq ?_ | refine ej_region ?_ | refine el_nil ?_ | refine eq_seq ?_ | refine eq_calm ?_ | refine ej_true rfl ?_ | refine ej_false rfl ?_ | refine el_skip rfl rfl rfl ?_ | refine ej_ret ?_ | refine ej_skip ?_ | refine ej_exit ?_ | refine ej_block ?_ | refine eq_seq_ret ?_ | refine eq_seq_exit ?_ | refine eq_block ?_ | refine eq_block_exit ?_ | refine eq_block_ret ?_ | refine eq_block_exit_ne rfl ?_ | refine eq_back_ret ?_ | refine eq_back_exit ?_))
      refine el_val 29 (u := .bool false) rfl (by simp) ?_
      (repeat (first | refine el_pure rfl rfl rfl rfl ?_ | refine ej_seq ?_ | refine ej_region ?_ | refine el_nil ?_ | refine eq_seq ?_ | refine eq_calm ?_ | refine ej_true rfl ?_ | refine ej_false rfl ?_ | refine el_skip rfl rfl rfl ?_ | refine ej_ret ?_ | refine ej_skip ?_ | refine ej_exit ?_ | refine ej_block ?_ | refine eq_seq_ret ?_ | refine eq_seq_exit ?_ | refine eq_block ?_ | refine eq_block_exit ?_ | refine eq_block_ret ?_ | refine eq_block_exit_ne rfl ?_ | refine eq_back_ret ?_ | refine eq_back_exit ?_))
      refine el_cons rfl (eo_ld 0 rfl rfl rfl rfl rfl rfl rfl rfl ?_)
      (repeat (first | refine el_pure rfl rfl rfl rfl ?_ | refine ej_seq ?_ | refine ej_region ?_ | refine el_nil ?_ | refine eq_seq ?_ | refine eq_calm ?_ | refine ej_true rfl ?_ | refine ej_false rfl ?_ | refine el_skip rfl rfl rfl ?_ | refine ej_ret ?_ | refine ej_skip ?_ | refine ej_exit ?_ | refine ej_block ?_ | refine eq_seq_ret ?_ | refine eq_seq_exit ?_ | refine eq_block ?_ | refine eq_block_exit ?_ | refine eq_block_ret ?_ | refine eq_block_exit_ne rfl ?_ | refine eq_back_ret ?_ | refine eq_back_exit ?_))
      refine ej_dec rfl (fun h => ?_) (fun h => ?_)
      · have h : (size : Int) < 1 := h
        omega
      (repeat (first | refine el_pure rfl rfl rfl rfl ?_ | refine ej_seq ?_ | refine ej_region ?_ | refine el_nil ?_ | refine eq_seq ?_ | refine eq_calm ?_ | refine ej_true rfl ?_ | refine ej_false rfl ?_ | refine el_skip rfl rfl rfl ?_ | refine ej_ret ?_ | refine ej_skip ?_ | refine ej_exit ?_ | refine ej_block ?_ | refine eq_seq_ret ?_ | refine eq_seq_exit ?_ | refine eq_block ?_ | refine eq_block_exit ?_ | refine eq_block_ret ?_ | refine eq_block_exit_ne rfl ?_ | refine eq_back_ret ?_ | refine eq_back_exit ?_))
      refine el_cons rfl (eo_ld 0 rfl rfl rfl rfl rfl rfl rfl rfl ?_)
      (repeat (first | refine el_pure rfl rfl rfl rfl ?_ | refine ej_seq ?_ | refine ej_region ?_ | refine el_nil ?_ | refine eq_seq ?_ | refine eq_calm ?_ | refine ej_true rfl ?_ | refine ej_false rfl ?_ | refine el_skip rfl rfl rfl ?_ | refine ej_ret ?_ | refine ej_skip ?_ | refine ej_exit ?_ | refine ej_block ?_ | refine eq_seq_ret ?_ | refine eq_seq_exit ?_ | refine eq_block ?_ | refine eq_block_exit ?_ | refine eq_block_ret ?_ | refine eq_block_exit_ne rfl ?_ | refine eq_back_ret ?_ | refine eq_back_exit ?_ | refine el_cons rfl (eo_lenv rfl rfl rfl rfl rfl rfl ?_) | refine el_cons rfl (eo_arith rfl rfl rfl rfl rfl rfl ⟨by omega, by omega⟩ ?_)))
      refine eq_backP (k + 1) (by omega) (by omega) ?_ ?_
      rotate_left
      · intro w hw; exact hw.erase 0
      refine le_cons rfl (le_cons rfl (le_cons ?_ (le_of _ _ rfl)))
      show some (int ((q : Int) + size)) = some (int (sizes (ss.take (k + 1))))
      rw [hsn]; rfl
    · obtain rfl : k = ss.length := by omega
      have hfin : sizes (ss.take ss.length) = bs.length := by rw [List.take_length]; omega
      rw [hfin]
      (repeat (first | refine el_pure rfl rfl rfl rfl ?_ | refine ej_seq ?_ | refine ej_region ?_ | refine el_nil ?_ | refine eq_seq ?_ | refine eq_calm ?_ | refine ej_true rfl ?_ | refine ej_false rfl ?_ | refine el_skip rfl rfl rfl ?_ | refine ej_ret ?_ | refine ej_skip ?_ | refine ej_exit ?_ | refine ej_block ?_ | refine eq_seq_ret ?_ | refine eq_seq_exit ?_ | refine eq_block ?_ | refine eq_block_exit ?_ | refine eq_block_ret ?_ | refine eq_block_exit_ne rfl ?_ | refine eq_back_ret ?_ | refine eq_back_exit ?_ | refine el_cons rfl (eo_lenv rfl rfl rfl rfl rfl rfl ?_) | refine el_cons rfl (eo_arith rfl rfl rfl rfl rfl rfl ⟨by omega, by omega⟩ ?_)))
      refine el_val 43 (u := .bool true) rfl (by simp) ?_
      (repeat (first | refine el_pure rfl rfl rfl rfl ?_ | refine ej_seq ?_ | refine ej_region ?_ | refine el_nil ?_ | refine eq_seq ?_ | refine eq_calm ?_ | refine ej_true rfl ?_ | refine ej_false rfl ?_ | refine el_skip rfl rfl rfl ?_ | refine ej_ret ?_ | refine ej_skip ?_ | refine ej_exit ?_ | refine ej_block ?_ | refine eq_seq_ret ?_ | refine eq_seq_exit ?_ | refine eq_block ?_ | refine eq_block_exit ?_ | refine eq_block_ret ?_ | refine eq_block_exit_ne rfl ?_ | refine eq_back_ret ?_ | refine eq_back_exit ?_))
      refine el_cons rfl (eo_callx rfl rfl rfl rfl rfl real_ref24_Steps (hR _ rfl) fun r3 _ => ?_)
      refine el_cons rfl (eo_call1 rfl rfl rfl rfl rfl real_law24_is (is_same ss (by omega) hops (i1 := 1) (i2 := 0) rfl rfl) ?_)
      (repeat (first | refine el_pure rfl rfl rfl rfl ?_ | refine ej_seq ?_ | refine ej_region ?_ | refine el_nil ?_ | refine eq_seq ?_ | refine eq_calm ?_ | refine ej_true rfl ?_ | refine ej_false rfl ?_ | refine el_skip rfl rfl rfl ?_ | refine ej_ret ?_ | refine ej_skip ?_ | refine ej_exit ?_ | refine ej_block ?_ | refine eq_seq_ret ?_ | refine eq_seq_exit ?_ | refine eq_block ?_ | refine eq_block_exit ?_ | refine eq_block_ret ?_ | refine eq_block_exit_ne rfl ?_ | refine eq_back_ret ?_ | refine eq_back_exit ?_))
      exact eq_rett rfl fun w hw => ⟨rfl, hw.drop 3⟩

end Go.Proofs.Ythmmibjhhifmeaa
