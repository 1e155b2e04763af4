/- The steps of bytes: the program's, and the document's. -/
import Derived.Test.YthmmibjhhifmeaaSj
namespace Go.Proofs.Ythmmibjhhifmeaa
open Go Go.SE

variable {w0 : World} {l : List HP} {i : Nat} {r : Option (Nat × Nat)}

structure Stp where
  pos : Nat
  size : Nat
  ok : Bool
  cmd : Cmd
abbrev nils : Value := .slice none 0 0
abbrev Stp.prog (s : Stp) : List Value := [int s.pos, int s.size, .bool (!s.ok), u8 s.cmd.op, int s.cmd.a, int s.cmd.b, u64 s.cmd.m, int 0, nils]
abbrev Stp.doc (s : Stp) : List Value := [int s.pos, int s.size, .bool (!s.ok), int s.cmd.op, int s.cmd.a, int s.cmd.b, u64 s.cmd.m, int 0, nils]
def stepsI (bs : List Nat) : Nat → Nat → List Stp
  | 0, _ => []
  | f + 1, j => if j < bs.length then ⟨j, decN (bs.drop j), decide (decOk (bs.drop j)), decC (bs.drop j)⟩ :: stepsI bs f (j + decN (bs.drop j)) else []
def steps (bs : List Nat) : List Stp := stepsI bs bs.length 0
theorem decN_pos {bs : List Nat} (h : 0 < bs.length) : 1 ≤ decN bs := by
  unfold decN
  rw [if_neg (by omega)]
  split
  · unfold sizeOfOp; omega
  · omega
theorem decN_le (bs : List Nat) : decN bs ≤ bs.length := by
  unfold decN
  split
  · omega
  · split <;> omega
theorem stepsI_length (bs : List Nat) : ∀ f j, (stepsI bs f j).length ≤ bs.length - j
  | 0, j => by simp [stepsI]
  | f + 1, j => by
    rw [stepsI]
    split
    · rename_i h
      have h1 := stepsI_length bs f (j + decN (bs.drop j))
      have h2 := decN_pos (bs := bs.drop j) (by simp; omega)
      simp only [List.length_cons]; omega
    · simp
abbrev rows {α : Type} (f : α → List Value) (ss : List α) : List Value := (ss.map f).flatten
theorem rows_snoc {α : Type} (f : α → List Value) (ss : List α) (s : α) : rows f (ss ++ [s]) = rows f ss ++ f s := by simp [rows]

set_option maxHeartbeats 800000 in
theorem Steps_any {p : HP} {a : Option Addr} {c : Nat} (bs : List Nat) (hb : ∀ b ∈ bs, b < 256) (hl : bs.length ≤ 100000) (hi : l[i]? = some p) (hV : View w0 [p] 1 a (u8s bs) bs.length c) :
    Does cx F_script_Steps [.slice a bs.length c] (S w0 l) fun v W => ∃ r', v = sv r' (steps bs).length ∧ True ∧ S w0 (rowC r' T_script_Step 9 (rows Stp.prog (steps bs)) (steps bs).length :: l) W := by
  refine fn_enter (n := N_script_Steps) fn_script_Steps rfl rfl rfl ?_
  refine ej_know (hV.one hi).know fun hk => ?_
  obtain ⟨⟨hnc, hcm⟩, haddr⟩ := hk
  (repeat (first | refine el_pure rfl rfl rfl rfl ?_ | refine ej_seq ?_ | refine ej_region ?_ | refine el_nil ?_ | refine eq_seq ?_ | refine eq_calm ?_ | refine ej_true rfl ?_ | refine ej_false rfl ?_ | refine el_skip rfl rfl rfl ?_ | refine ej_ret ?_ | refine ej_skip ?_ | refine ej_exit ?_ | refine ej_block ?_ | refine eq_seq_ret ?_ | refine eq_seq_exit ?_ | refine eq_block ?_ | refine eq_block_exit ?_ | refine eq_block_ret ?_ | refine eq_block_exit_ne rfl ?_ | refine eq_back_ret ?_ | refine eq_back_exit ?_))
  refine ej_imp' (H' := S w0 (rowC none T_script_Step 9 [] 0 :: l)) (fun w hw => hw.row_new) ?_
  refine ej_loopP (α := Nat × Nat × List Stp × Option (Nat × Nat)) (fun x => x.1 ≤ bs.length ∧ bs.length - x.1 ≤ x.2.1 ∧ x.2.2.1 ++ stepsI bs x.2.1 x.1 = steps bs) (fun x => [(0, .slice a bs.length c), (3, sv x.2.2.2 x.2.2.1.length), (4, int x.1)])
    (fun x => S w0 (rowC x.2.2.2 T_script_Step 9 (rows Stp.prog x.2.2.1) x.2.2.1.length :: l)) (fun x => bs.length - x.1) (0, bs.length, [], none) ⟨Nat.zero_le _, Nat.le_refl _, rfl⟩ (le_of _ _ rfl) (fun w hw => hw) ?_
  rintro ⟨j, f, ss, r'⟩ ⟨hj, hf, hs⟩
  have hj : j ≤ bs.length := hj
  have hf : bs.length - j ≤ f := hf
  have hs : ss ++ stepsI bs f j = steps bs := hs
  (repeat (first | refine el_pure rfl rfl rfl rfl ?_ | refine ej_seq ?_ | refine ej_region ?_ | refine el_nil ?_ | refine eq_seq ?_ | refine eq_calm ?_ | refine ej_true rfl ?_ | refine ej_false rfl ?_ | refine el_skip rfl rfl rfl ?_ | refine ej_ret ?_ | refine ej_skip ?_ | refine ej_exit ?_ | refine ej_block ?_ | refine eq_seq_ret ?_ | refine eq_seq_exit ?_ | refine eq_block ?_ | refine eq_block_exit ?_ | refine eq_block_ret ?_ | refine eq_block_exit_ne rfl ?_ | refine eq_back_ret ?_ | refine eq_back_exit ?_ | refine el_cons rfl (eo_lenv rfl rfl rfl rfl rfl rfl ?_) | refine el_cons rfl (eo_arith rfl rfl rfl rfl rfl rfl ⟨by omega, by omega⟩ ?_)))
  refine ej_dec rfl (fun h1 => ?_) (fun h1 => ?_)
  · have hlt : j < bs.length := by omega
    obtain ⟨f, rfl⟩ : ∃ g, f = g + 1 := ⟨f - 1, by omega⟩
    have hst : stepsI bs (f + 1) j = ⟨j, decN (bs.drop j), decide (decOk (bs.drop j)), decC (bs.drop j)⟩ :: stepsI bs f (j + decN (bs.drop j)) := by rw [stepsI, if_pos hlt]
    have hsl : ss.length + 1 ≤ bs.length := by
      have h2 : (steps bs).length ≤ bs.length := by have := stepsI_length bs bs.length 0; simpa [steps] using this
      rw [← hs, hst] at h2; simp at h2; omega
    have hpos := decN_pos (bs := bs.drop j) (by simp; omega)
    have hle := decN_le (bs.drop j)
    rw [hst] at hs
    have hV1 := hV.sub (lo := j) (hi := bs.length) (by omega) (Nat.le_refl _)
    rw [sub_u8s, List.take_of_length_le (by simp)] at hV1
    have hdl : (bs.drop j).length = bs.length - j := by simp
    have hD := fun (l' : List HP) (hi' : l'[i + 1]? = some p) => Decode_any (w0 := w0) (l := l') (bs.drop j) (fun b h => hb b (List.mem_of_mem_drop h)) (by omega) hi' (by rw [hdl]; exact hV1)
    rw [hdl] at hD hle
    (repeat (first | refine el_pure rfl rfl rfl rfl ?_ | refine ej_seq ?_ | refine ej_region ?_ | refine el_nil ?_ | refine eq_seq ?_ | refine eq_calm ?_ | refine ej_true rfl ?_ | refine ej_false rfl ?_ | refine el_skip rfl rfl rfl ?_ | refine ej_ret ?_ | refine ej_skip ?_ | refine ej_exit ?_ | refine ej_block ?_ | refine eq_seq_ret ?_ | refine eq_seq_exit ?_ | refine eq_block ?_ | refine eq_block_exit ?_ | refine eq_block_ret ?_ | refine eq_block_exit_ne rfl ?_ | refine eq_back_ret ?_ | refine eq_back_exit ?_))
    refine el_cons rfl (eo_slice j bs.length rfl rfl rfl rfl ⟨_, rfl⟩ rfl rfl rfl rfl ((hV.one hi).cons _) hj (Nat.le_refl _) ?_)
    refine el_cons rfl (eo_call1 rfl rfl rfl rfl rfl real_code_Decode (hD _ hi) ?_)
    generalize decN (bs.drop j) = m at *
    generalize decC (bs.drop j) = cm at *
    (repeat (first | refine el_pure rfl rfl rfl rfl ?_ | refine ej_seq ?_ | refine ej_region ?_ | refine el_nil ?_ | refine eq_seq ?_ | refine eq_calm ?_ | refine ej_true rfl ?_ | refine ej_false rfl ?_ | refine el_skip rfl rfl rfl ?_ | refine ej_ret ?_ | refine ej_skip ?_ | refine ej_exit ?_ | refine ej_block ?_ | refine eq_seq_ret ?_ | refine eq_seq_exit ?_ | refine eq_block ?_ | refine eq_block_exit ?_ | refine eq_block_ret ?_ | refine eq_block_exit_ne rfl ?_ | refine eq_back_ret ?_ | refine eq_back_exit ?_))
    refine el_cons rfl (eo_alloc rfl rfl rfl rfl fun b5 => ?_)
    refine el_cons rfl (eo_stA 0 rfl rfl rfl rfl rfl rfl rfl rfl rfl ?_)
    (repeat (first | refine el_pure rfl rfl rfl rfl ?_ | refine ej_seq ?_ | refine ej_region ?_ | refine el_nil ?_ | refine eq_seq ?_ | refine eq_calm ?_ | refine ej_true rfl ?_ | refine ej_false rfl ?_ | refine el_skip rfl rfl rfl ?_ | refine ej_ret ?_ | refine ej_skip ?_ | refine ej_exit ?_ | refine ej_block ?_ | refine eq_seq_ret ?_ | refine eq_seq_exit ?_ | refine eq_block ?_ | refine eq_block_exit ?_ | refine eq_block_ret ?_ | refine eq_block_exit_ne rfl ?_ | refine eq_back_ret ?_ | refine eq_back_exit ?_))
    refine el_val 24 (u := .bool (!decide (decOk (bs.drop j)))) rfl (by by_cases h : decOk (bs.drop j) <;> simp [h, errOf]) ?_
    generalize decide (decOk (bs.drop j)) = okv at *
    refine el_cons rfl (eo_ldW 0 rfl rfl rfl rfl rfl rfl rfl rfl ?_)
    refine el_cons rfl (eo_build (cs := Stp.prog ⟨j, m, okv, cm⟩) rfl rfl rfl rfl rfl rfl rfl rfl ?_)
    refine el_cons rfl (eo_buildS (cs := Stp.prog ⟨j, m, okv, cm⟩) rfl rfl rfl rfl rfl rfl rfl rfl rfl rfl fun b6 => ?_)
    refine el_cons rfl (eo_append 2 (Stp.prog ⟨j, m, okv, cm⟩) rfl rfl rfl rfl rfl rfl rfl rfl rfl rfl rfl (fun w hw j u hu => ?_) rfl (by decide) ?_ ?_ fun r2 => ?_)
    · rw [addr_add, Nat.zero_add]; exact hw.cell (i := 0) rfl hu
    · show (ss.length + 1) * 88 ≤ 140737488355328; omega
    · show ss.length + 1 ≤ 9223372036854775807; omega
    (repeat (first | refine el_pure rfl rfl rfl rfl ?_ | refine ej_seq ?_ | refine ej_region ?_ | refine el_nil ?_ | refine eq_seq ?_ | refine eq_calm ?_ | refine ej_true rfl ?_ | refine ej_false rfl ?_ | refine el_skip rfl rfl rfl ?_ | refine ej_ret ?_ | refine ej_skip ?_ | refine ej_exit ?_ | refine ej_block ?_ | refine eq_seq_ret ?_ | refine eq_seq_exit ?_ | refine eq_block ?_ | refine eq_block_exit ?_ | refine eq_block_ret ?_ | refine eq_block_exit_ne rfl ?_ | refine eq_back_ret ?_ | refine eq_back_exit ?_ | refine el_cons rfl (eo_lenv rfl rfl rfl rfl rfl rfl ?_) | refine el_cons rfl (eo_arith rfl rfl rfl rfl rfl rfl ⟨by omega, by omega⟩ ?_)))
    refine eq_backP (j + m, f, ss ++ [⟨j, m, okv, cm⟩], r2) ⟨by show j + m ≤ _; omega, by show _ - (j + m) ≤ f; omega, ?_⟩ (by show _ - (j + m) < _ - j; omega) ?_ ?_
    · show (ss ++ [_]) ++ stepsI bs f (j + m) = _
      rw [← hs]; simp
    · exact le_cons rfl (le_cons (by show some (sv r2 (ss.length + 1)) = some (sv r2 (ss ++ [_]).length); simp) (le_of _ _ rfl))
    · intro W hW
      show S w0 (rowC r2 T_script_Step 9 (rows Stp.prog (ss ++ [⟨j, m, okv, cm⟩])) (ss ++ [(⟨j, m, okv, cm⟩ : Stp)]).length :: l) W
      rw [rows_snoc, List.length_append]
      exact hW.drop 2
  · obtain rfl : j = bs.length := by omega
    have hst : stepsI bs f bs.length = [] := by
      cases f with
      | zero => rfl
      | succ f => rw [stepsI, if_neg (Nat.lt_irrefl _)]
    rw [hst, List.append_nil] at hs
    rw [← hs]
    (repeat (first | refine el_pure rfl rfl rfl rfl ?_ | refine ej_seq ?_ | refine ej_region ?_ | refine el_nil ?_ | refine eq_seq ?_ | refine eq_calm ?_ | refine ej_true rfl ?_ | refine ej_false rfl ?_ | refine el_skip rfl rfl rfl ?_ | refine ej_ret ?_ | refine ej_skip ?_ | refine ej_exit ?_ | refine ej_block ?_ | refine eq_seq_ret ?_ | refine eq_seq_exit ?_ | refine eq_block ?_ | refine eq_block_exit ?_ | refine eq_block_ret ?_ | refine eq_block_exit_ne rfl ?_ | refine eq_back_ret ?_ | refine eq_back_exit ?_))
    exact eq_rett rfl fun W hW => ⟨r', rfl, trivial, hW⟩

end Go.Proofs.Ythmmibjhhifmeaa
