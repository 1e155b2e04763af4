/- Commands of bytes: the program's Decode. -/
import Derived.Test.YthmmibjhhifmeaaSh
import Derived.Test.YthmmibjhhifmeaaSEi
namespace Go.Proofs.Ythmmibjhhifmeaa
open Go Go.SE

variable {w0 : World} {l : List HP} {i : Nat} {r : Option (Nat × Nat)}

def opOf (bs : List Nat) : Nat := bs.getD 0 0
def decOk (bs : List Nat) : Prop := isOp (opOf bs) ∧ sizeOfOp (opOf bs) ≤ bs.length
instance (bs : List Nat) : Decidable (decOk bs) := inferInstanceAs (Decidable (_ ∧ _))
def decN (bs : List Nat) : Nat := if bs.length = 0 then 0 else if isOp (opOf bs) then min bs.length (sizeOfOp (opOf bs)) else 1
def decC (bs : List Nat) : Cmd := if decOk bs then
  ⟨opOf bs, num ((bs.drop 1).take (wA (opOf bs))), num (((bs.drop 1).drop (wA (opOf bs))).take (wB (opOf bs))), num ((((bs.drop 1).drop (wA (opOf bs))).drop (wB (opOf bs))).take (wM (opOf bs)))⟩
  else ⟨0, 0, 0, 0⟩
abbrev errOf (b : Prop) [Decidable b] : Int := if b then 0 else 1

theorem num_take_lt (bs : List Nat) (w : Nat) (hb : ∀ b ∈ bs, b < 256) (hw : w ≤ 4) : num (bs.take w) < 4294967296 := by
  have h := num_lt (bs.take w).length (bs.take w) rfl fun b h => hb b (List.mem_of_mem_take h)
  exact Nat.lt_of_lt_of_le h (Nat.le_trans (Nat.pow_le_pow_right (by decide) (show (bs.take w).length ≤ 4 by rw [List.length_take]; omega)) (by decide))

theorem dec_no (bs : List Nat) (h : ¬ decOk bs) (k : Nat) (hk : decN bs = k) : Value.tuple #[.agg (decC bs).prog.toArray, int (decN bs), int (errOf (decOk bs))] = .tuple #[.agg #[u8 0, int 0, int 0, u64 0], int k, int 1] := by
  rw [hk, decC, if_neg h, errOf, if_neg h]
theorem dec_ok {bs : List Nat} (h : decOk bs) : Value.tuple #[.agg (decC bs).prog.toArray, int (decN bs), int (errOf (decOk bs))] = .tuple #[.agg #[u8 (opOf bs), int (num ((bs.drop 1).take (wA (opOf bs)))), int (num (((bs.drop 1).drop (wA (opOf bs))).take (wB (opOf bs)))), u64 (num ((((bs.drop 1).drop (wA (opOf bs))).drop (wB (opOf bs))).take (wM (opOf bs))))], int (sizeOfOp (opOf bs)), int 0] := by
  have h1 : decN bs = sizeOfOp (opOf bs) := by
    have h2 := h.2
    have h3 : 1 ≤ sizeOfOp (opOf bs) := by unfold sizeOfOp; omega
    rw [decN, if_neg (by omega), if_pos h.1, Nat.min_eq_right h.2]
  rw [h1, decC, if_pos h, errOf, if_pos h]

set_option maxHeartbeats 1600000 in
theorem Decode_any {p : HP} {a : Option Addr} {c : Nat} (bs : List Nat) (hb : ∀ b ∈ bs, b < 256) (hl : bs.length ≤ 100000000) (hi : l[i]? = some p) (hV : View w0 [p] 1 a (u8s bs) bs.length c) :
    Does cx F_code_Decode [.slice a bs.length c] (S w0 l) fun v W => v = .tuple #[.agg (decC bs).prog.toArray, int (decN bs), int (errOf (decOk bs))] ∧ S w0 l W := by
  refine fn_enter (n := N_code_Decode) fn_code_Decode rfl rfl rfl ?_
  refine ej_know (hV.one hi).know fun hk => ?_
  obtain ⟨⟨hnc, hcm⟩, haddr⟩ := hk
  refine ej_seq (ej_region (el_cons rfl (eo_alloc rfl rfl rfl rfl fun b2 => ?_)))
  generalize hn : bs.length = n at *
  (repeat (first | refine el_pure rfl rfl rfl rfl ?_ | refine ej_seq ?_ | refine ej_region ?_ | refine el_nil ?_ | refine eq_seq ?_ | refine eq_calm ?_ | refine ej_true rfl ?_ | refine ej_false rfl ?_ | refine el_skip rfl rfl rfl ?_ | refine ej_ret ?_ | refine ej_skip ?_ | refine ej_exit ?_ | refine ej_block ?_ | refine eq_seq_ret ?_ | refine eq_seq_exit ?_ | refine eq_block ?_ | refine eq_block_exit ?_ | refine eq_block_ret ?_ | refine eq_block_exit_ne rfl ?_ | refine eq_back_ret ?_ | refine eq_back_exit ?_ | refine el_cons rfl (eo_lenv rfl rfl rfl rfl rfl rfl ?_) | refine el_cons rfl (eo_arith rfl rfl rfl rfl rfl rfl ⟨by omega, by omega⟩ ?_)))
  refine ej_dec rfl (fun h0 => ?_) (fun h0 => ?_)
  · have h0 : (n : Int) = 0 := h0
    obtain rfl : n = 0 := by omega
    obtain rfl := List.eq_nil_of_length_eq_zero hn
    (repeat (first | refine el_pure rfl rfl rfl rfl ?_ | refine ej_seq ?_ | refine ej_region ?_ | refine el_nil ?_ | refine eq_seq ?_ | refine eq_calm ?_ | refine ej_true rfl ?_ | refine ej_false rfl ?_ | refine el_skip rfl rfl rfl ?_ | refine ej_ret ?_ | refine ej_skip ?_ | refine ej_exit ?_ | refine ej_block ?_ | refine eq_seq_ret ?_ | refine eq_seq_exit ?_ | refine eq_block ?_ | refine eq_block_exit ?_ | refine eq_block_ret ?_ | refine eq_block_exit_ne rfl ?_ | refine eq_back_ret ?_ | refine eq_back_exit ?_))
    refine el_cons rfl (eo_build rfl rfl rfl rfl rfl rfl rfl rfl ?_)
    refine el_cons rfl (eo_stA 0 rfl rfl rfl rfl rfl rfl rfl rfl rfl ?_)
    (repeat (first | refine el_pure rfl rfl rfl rfl ?_ | refine ej_seq ?_ | refine ej_region ?_ | refine el_nil ?_ | refine eq_seq ?_ | refine eq_calm ?_ | refine ej_true rfl ?_ | refine ej_false rfl ?_ | refine el_skip rfl rfl rfl ?_ | refine ej_ret ?_ | refine ej_skip ?_ | refine ej_exit ?_ | refine ej_block ?_ | refine eq_seq_ret ?_ | refine eq_seq_exit ?_ | refine eq_block ?_ | refine eq_block_exit ?_ | refine eq_block_ret ?_ | refine eq_block_exit_ne rfl ?_ | refine eq_back_ret ?_ | refine eq_back_exit ?_))
    exact eq_ret _ (rvs_cell 0 rfl rfl rfl rfl rfl (rvs_tmp rfl (rvs_tmp rfl rvs_nil))) fun w hw => ⟨(dec_no _ (fun h => absurd h.1 (by decide)) 0 rfl).symm, hw.drop 1⟩
  · have h0 : ¬ (n : Int) = 0 := h0
    obtain ⟨op, rest, rfl⟩ : ∃ op rest, bs = op :: rest := by
      match bs, hn with
      | [], hn => simp at hn; omega
      | op :: rest, _ => exact ⟨op, rest, rfl⟩
    have hop : opOf (op :: rest) = op := rfl
    have hop256 : op < 256 := hb op (by simp)
    have haddr := haddr (by simp)
    have hx0 : (u8s (op :: rest))[0]? = some (u8 op) := rfl
    have hrl : rest.length = n - 1 := by simp at hn; omega
    have hrb : ∀ b ∈ rest, b < 256 := fun b h => hb b (by simp [h])
    have hone := shape_one op
    have hV1 := hV.sub (lo := 1) (hi := n) (by omega) (Nat.le_refl _)
    rw [sub_u8s, List.drop_succ_cons, List.drop_zero, List.take_of_length_le (by omega)] at hV1
    (repeat (first | refine el_pure rfl rfl rfl rfl ?_ | refine ej_seq ?_ | refine ej_region ?_ | refine el_nil ?_ | refine eq_seq ?_ | refine eq_calm ?_ | refine ej_true rfl ?_ | refine ej_false rfl ?_ | refine el_skip rfl rfl rfl ?_ | refine ej_ret ?_ | refine ej_skip ?_ | refine ej_exit ?_ | refine ej_block ?_ | refine eq_seq_ret ?_ | refine eq_seq_exit ?_ | refine eq_block ?_ | refine eq_block_exit ?_ | refine eq_block_ret ?_ | refine eq_block_exit_ne rfl ?_ | refine eq_back_ret ?_ | refine eq_back_exit ?_))
    refine el_cons rfl (eo_idxv rfl rfl rfl rfl rfl rfl rfl rfl rfl ((hV.one hi).cons _) ⟨by omega, by omega⟩ ?_)
    refine el_cons rfl (eo_ldv 0 (v := u8 op) rfl rfl rfl rfl rfl rfl ((hV.one hi).cons _) hx0 ?_)
    refine el_cons rfl (eo_call1 rfl rfl rfl rfl rfl real_code_of (of_any op) ?_)
    (repeat (first | refine el_pure rfl rfl rfl rfl ?_ | refine ej_seq ?_ | refine ej_region ?_ | refine el_nil ?_ | refine eq_seq ?_ | refine eq_calm ?_ | refine ej_true rfl ?_ | refine ej_false rfl ?_ | refine el_skip rfl rfl rfl ?_ | refine ej_ret ?_ | refine ej_skip ?_ | refine ej_exit ?_ | refine ej_block ?_ | refine eq_seq_ret ?_ | refine eq_seq_exit ?_ | refine eq_block ?_ | refine eq_block_exit ?_ | refine eq_block_ret ?_ | refine eq_block_exit_ne rfl ?_ | refine eq_back_ret ?_ | refine eq_back_exit ?_))
    refine el_cons rfl (eo_alloc rfl rfl rfl rfl fun b4 => ?_)
    refine el_cons rfl (eo_stA 0 rfl rfl rfl rfl rfl rfl hone rfl rfl ?_)
    by_cases ho : isOp op
    · rw [decide_eq_true ho]
      (repeat (first | refine el_pure rfl rfl rfl rfl ?_ | refine ej_seq ?_ | refine ej_region ?_ | refine el_nil ?_ | refine eq_seq ?_ | refine eq_calm ?_ | refine ej_true rfl ?_ | refine ej_false rfl ?_ | refine el_skip rfl rfl rfl ?_ | refine ej_ret ?_ | refine ej_skip ?_ | refine ej_exit ?_ | refine ej_block ?_ | refine eq_seq_ret ?_ | refine eq_seq_exit ?_ | refine eq_block ?_ | refine eq_block_exit ?_ | refine eq_block_ret ?_ | refine eq_block_exit_ne rfl ?_ | refine eq_back_ret ?_ | refine eq_back_exit ?_))
      refine el_cons rfl (eo_lenv rfl rfl rfl rfl rfl rfl ?_)
      refine el_cons rfl (eo_ldW 0 rfl rfl rfl rfl rfl rfl rfl rfl ?_)
      refine el_cons rfl (eo_call1 rfl rfl rfl rfl rfl real_code_shape_size (size_any op) ?_)
      (repeat (first | refine el_pure rfl rfl rfl rfl ?_ | refine ej_seq ?_ | refine ej_region ?_ | refine el_nil ?_ | refine eq_seq ?_ | refine eq_calm ?_ | refine ej_true rfl ?_ | refine ej_false rfl ?_ | refine el_skip rfl rfl rfl ?_ | refine ej_ret ?_ | refine ej_skip ?_ | refine ej_exit ?_ | refine ej_block ?_ | refine eq_seq_ret ?_ | refine eq_seq_exit ?_ | refine eq_block ?_ | refine eq_block_exit ?_ | refine eq_block_ret ?_ | refine eq_block_exit_ne rfl ?_ | refine eq_back_ret ?_ | refine eq_back_exit ?_))
      refine ej_dec rfl (fun h1 => ?_) (fun h1 => ?_)
      · have h1 : (n : Int) < sizeOfOp op := h1
        (repeat (first | refine el_pure rfl rfl rfl rfl ?_ | refine ej_seq ?_ | refine ej_region ?_ | refine el_nil ?_ | refine eq_seq ?_ | refine eq_calm ?_ | refine ej_true rfl ?_ | refine ej_false rfl ?_ | refine el_skip rfl rfl rfl ?_ | refine ej_ret ?_ | refine ej_skip ?_ | refine ej_exit ?_ | refine ej_block ?_ | refine eq_seq_ret ?_ | refine eq_seq_exit ?_ | refine eq_block ?_ | refine eq_block_exit ?_ | refine eq_block_ret ?_ | refine eq_block_exit_ne rfl ?_ | refine eq_back_ret ?_ | refine eq_back_exit ?_))
        refine el_cons rfl (eo_build rfl rfl rfl rfl rfl rfl rfl rfl ?_)
        (repeat (first | refine el_pure rfl rfl rfl rfl ?_ | refine ej_seq ?_ | refine ej_region ?_ | refine el_nil ?_ | refine eq_seq ?_ | refine eq_calm ?_ | refine ej_true rfl ?_ | refine ej_false rfl ?_ | refine el_skip rfl rfl rfl ?_ | refine ej_ret ?_ | refine ej_skip ?_ | refine ej_exit ?_ | refine ej_block ?_ | refine eq_seq_ret ?_ | refine eq_seq_exit ?_ | refine eq_block ?_ | refine eq_block_exit ?_ | refine eq_block_ret ?_ | refine eq_block_exit_ne rfl ?_ | refine eq_back_ret ?_ | refine eq_back_exit ?_ | refine el_cons rfl (eo_lenv rfl rfl rfl rfl rfl rfl ?_) | refine el_cons rfl (eo_arith rfl rfl rfl rfl rfl rfl ⟨by omega, by omega⟩ ?_)))
        refine el_cons rfl (eo_stA 1 rfl rfl rfl rfl rfl rfl rfl rfl rfl ?_)
        (repeat (first | refine el_pure rfl rfl rfl rfl ?_ | refine ej_seq ?_ | refine ej_region ?_ | refine el_nil ?_ | refine eq_seq ?_ | refine eq_calm ?_ | refine ej_true rfl ?_ | refine ej_false rfl ?_ | refine el_skip rfl rfl rfl ?_ | refine ej_ret ?_ | refine ej_skip ?_ | refine ej_exit ?_ | refine ej_block ?_ | refine eq_seq_ret ?_ | refine eq_seq_exit ?_ | refine eq_block ?_ | refine eq_block_exit ?_ | refine eq_block_ret ?_ | refine eq_block_exit_ne rfl ?_ | refine eq_back_ret ?_ | refine eq_back_exit ?_))
        refine eq_ret _ (rvs_cell 1 rfl rfl rfl rfl rfl (rvs_tmp rfl (rvs_tmp rfl rvs_nil))) fun w hw => ⟨?_, hw.drop 2⟩
        refine (dec_no _ (fun h => ?_) n ?_).symm
        · have := h.2; rw [hop, hn] at this; omega
        · rw [decN, if_neg (by omega), hop, if_pos ho, hn, Nat.min_eq_left (by omega)]
      · have h1 : ¬ (n : Int) < sizeOfOp op := h1
        have hdok : decOk (op :: rest) := ⟨ho, by rw [hop, hn]; omega⟩
        have hdv := dec_ok hdok
        rw [hop, List.drop_succ_cons, List.drop_zero] at hdv
        have hsz : sizeOfOp op = 1 + wA op + wB op + wM op := rfl
        have hs : shapeOf op = [.string ⟨(sh op).1.toArray⟩, int (wA op), int (wB op), int (wM op)] := rfl
        obtain ⟨h4, h5, h6⟩ := w_le op
        have hz := size_any (w0 := w0) (l := ([cells b4 T_code_shape (shapeOf op), cells b2 T_code_Command [u8 0, int 0, int 0, u64 0]] ++ l)) op
        rw [hdv, hsz]
        rw [hs, hsz] at hz
        rw [hs]
        have n1 := num_take_lt rest (wA op) hrb h4
        have n2 := num_take_lt (rest.drop (wA op)) (wB op) (fun b h => hrb b (List.mem_of_mem_drop h)) h5
        rw [hsz] at h1
        have hV2 := hV1.sub (lo := wA op) (hi := n - 1) (by omega) (Nat.le_refl _)
        have e2 : (rest.drop (wA op)).length = n - 1 - wA op := by rw [List.length_drop, hrl]
        rw [sub_u8s, List.take_of_length_le (by omega)] at hV2
        have hV3 := hV2.sub (lo := wB op) (hi := n - 1 - wA op) (by omega) (Nat.le_refl _)
        rw [sub_u8s, List.take_of_length_le (by rw [List.length_drop, e2]; exact Nat.le_refl _)] at hV3
        have e3 : ((rest.drop (wA op)).drop (wB op)).length = n - 1 - wA op - wB op := by rw [List.length_drop, e2]
        have t1 := fun (l' : List HP) (hi' : l'[i + 2]? = some p) => take_any (w0 := w0) (l := l') rest (wA op) hrb (by omega) (by omega) (by rw [hrl]; exact hV1.one hi')
        have t2 := fun (l' : List HP) (hi' : l'[i + 2]? = some p) => take_any (w0 := w0) (l := l') (rest.drop (wA op)) (wB op) (fun b h => hrb b (List.mem_of_mem_drop h)) (by omega) (by omega) (by rw [e2]; exact hV2.one hi')
        have t3 := fun (l' : List HP) (hi' : l'[i + 2]? = some p) => take_any (w0 := w0) (l := l') ((rest.drop (wA op)).drop (wB op)) (wM op) (fun b h => hrb b (List.mem_of_mem_drop (List.mem_of_mem_drop h))) (by omega) (by omega) (by rw [e3]; exact hV3.one hi')
        rw [hrl] at t1
        rw [e2] at t2
        rw [e3] at t3
        have hil : (cells b4 T_code_shape [.string ⟨(sh op).1.toArray⟩, int (wA op), int (wB op), int (wM op)] :: cells b2 T_code_Command [u8 0, int 0, int 0, u64 0] :: l)[i + 2]? = some p := by
          exact hi
        have hk := n1
        generalize num (rest.take (wA op)) = x1 at *
        generalize num ((rest.drop (wA op)).take (wB op)) = x2 at *
        generalize num (((rest.drop (wA op)).drop (wB op)).take (wM op)) = x3 at *
        generalize wA op = wa at *
        generalize wB op = wb at *
        generalize wM op = wm at *
        (repeat (first | refine el_pure rfl rfl rfl rfl ?_ | refine ej_seq ?_ | refine ej_region ?_ | refine el_nil ?_ | refine eq_seq ?_ | refine eq_calm ?_ | refine ej_true rfl ?_ | refine ej_false rfl ?_ | refine el_skip rfl rfl rfl ?_ | refine ej_ret ?_ | refine ej_skip ?_ | refine ej_exit ?_ | refine ej_block ?_ | refine eq_seq_ret ?_ | refine eq_seq_exit ?_ | refine eq_block ?_ | refine eq_block_exit ?_ | refine eq_block_ret ?_ | refine eq_block_exit_ne rfl ?_ | refine eq_back_ret ?_ | refine eq_back_exit ?_))
        refine ej_held [cells b4 T_code_shape [.string ⟨(sh op).1.toArray⟩, int wa, int wb, int wm]] ?_
        refine eh_take 0 (held (.cons 0 rfl .nil)) rfl (by kernel_rfl) (by kernel_rfl) (by kernel_rfl) rfl rfl rfl rfl ?_
        refine eh_take 2 (held (.cons 0 rfl .nil)) rfl (by kernel_rfl) (by kernel_rfl) (by kernel_rfl) rfl rfl rfl rfl ?_
        refine eh_load 1 (held (.cons 0 rfl .nil)) rfl (by kernel_rfl) (by kernel_rfl) (by kernel_rfl) rfl rfl rfl (er_slice 1 n rfl rfl ⟨_, rfl⟩ rfl rfl rfl rfl hnc (by omega) (Nat.le_refl _)) ?_
        refine eh_load 3 (held (.cons 0 rfl .nil)) rfl (by kernel_rfl) (by kernel_rfl) (by kernel_rfl) rfl rfl rfl (er_ld 0 rfl rfl rfl rfl rfl rfl) ?_
        refine eh_way 4 (by kernel_rfl) (hway rfl rfl (eo_call1 rfl rfl rfl rfl rfl real_code_take (t1 _ hil) ⟨held (.cons 0 rfl .nil), ?_⟩))
        refine eh_take 5 (held (.cons 0 rfl .nil)) rfl (by kernel_rfl) (by kernel_rfl) (by kernel_rfl) rfl rfl rfl rfl ?_
        refine eh_take 6 (held (.cons 0 rfl .nil)) rfl (by kernel_rfl) (by kernel_rfl) (by kernel_rfl) rfl rfl rfl rfl ?_
        refine eh_take 7 (held (.cons 0 rfl .nil)) rfl (by kernel_rfl) (by kernel_rfl) (by kernel_rfl) rfl rfl rfl rfl ?_
        refine eh_take 8 (held (.cons 0 rfl .nil)) rfl (by kernel_rfl) (by kernel_rfl) (by kernel_rfl) rfl rfl rfl rfl ?_
        refine eh_take 9 (held (.cons 0 rfl .nil)) rfl (by kernel_rfl) (by kernel_rfl) (by kernel_rfl) rfl rfl rfl rfl ?_
        refine eh_done (by kernel_rfl) ?_
        (repeat (first | refine el_pure rfl rfl rfl rfl ?_ | refine ej_seq ?_ | refine ej_region ?_ | refine el_nil ?_ | refine eq_seq ?_ | refine eq_calm ?_ | refine ej_true rfl ?_ | refine ej_false rfl ?_ | refine el_skip rfl rfl rfl ?_ | refine ej_ret ?_ | refine ej_skip ?_ | refine ej_exit ?_ | refine ej_block ?_ | refine eq_seq_ret ?_ | refine eq_seq_exit ?_ | refine eq_block ?_ | refine eq_block_exit ?_ | refine eq_block_ret ?_ | refine eq_block_exit_ne rfl ?_ | refine eq_back_ret ?_ | refine eq_back_exit ?_))
        refine el_cons rfl (eo_ld 0 rfl rfl rfl rfl rfl rfl rfl rfl ?_)
        refine el_cons rfl (eo_call1 rfl rfl rfl rfl rfl real_code_take (t2 _ hil) ?_)
        (repeat (first | refine el_pure rfl rfl rfl rfl ?_ | refine ej_seq ?_ | refine ej_region ?_ | refine el_nil ?_ | refine eq_seq ?_ | refine eq_calm ?_ | refine ej_true rfl ?_ | refine ej_false rfl ?_ | refine el_skip rfl rfl rfl ?_ | refine ej_ret ?_ | refine ej_skip ?_ | refine ej_exit ?_ | refine ej_block ?_ | refine eq_seq_ret ?_ | refine eq_seq_exit ?_ | refine eq_block ?_ | refine eq_block_exit ?_ | refine eq_block_ret ?_ | refine eq_block_exit_ne rfl ?_ | refine eq_back_ret ?_ | refine eq_back_exit ?_))
        refine el_cons rfl (eo_ld 0 rfl rfl rfl rfl rfl rfl rfl rfl ?_)
        refine el_cons rfl (eo_call1 rfl rfl rfl rfl rfl real_code_take (t3 _ hil) ?_)
        (repeat (first | refine el_pure rfl rfl rfl rfl ?_ | refine ej_seq ?_ | refine ej_region ?_ | refine el_nil ?_ | refine eq_seq ?_ | refine eq_calm ?_ | refine ej_true rfl ?_ | refine ej_false rfl ?_ | refine el_skip rfl rfl rfl ?_ | refine ej_ret ?_ | refine ej_skip ?_ | refine ej_exit ?_ | refine ej_block ?_ | refine eq_seq_ret ?_ | refine eq_seq_exit ?_ | refine eq_block ?_ | refine eq_block_exit ?_ | refine eq_block_ret ?_ | refine eq_block_exit_ne rfl ?_ | refine eq_back_ret ?_ | refine eq_back_exit ?_))
        refine ej_held [cells b4 T_code_shape [.string ⟨(sh op).1.toArray⟩, int wa, int wb, int wm], p] ?_
        refine eh_take 0 (held (.cons 0 rfl (.cons (i + 2) hi .nil))) rfl (by kernel_rfl) (by kernel_rfl) (by kernel_rfl) rfl rfl rfl rfl ?_
        refine eh_take 3 (held (.cons 0 rfl (.cons (i + 2) hi .nil))) rfl (by kernel_rfl) (by kernel_rfl) (by kernel_rfl) rfl rfl rfl rfl ?_
        refine eh_take 5 (held (.cons 0 rfl (.cons (i + 2) hi .nil))) rfl (by kernel_rfl) (by kernel_rfl) (by kernel_rfl) rfl rfl rfl rfl ?_
        refine eh_take 7 (held (.cons 0 rfl (.cons (i + 2) hi .nil))) rfl (by kernel_rfl) (by kernel_rfl) (by kernel_rfl) rfl rfl rfl rfl ?_
        refine eh_load 1 (held (.cons 0 rfl (.cons (i + 2) hi .nil))) rfl (by kernel_rfl) (by kernel_rfl) (by kernel_rfl) rfl rfl rfl (er_idxv rfl rfl rfl rfl rfl rfl haddr ⟨by omega, by omega⟩) ?_
        refine eh_load 2 (held (.cons 0 rfl (.cons (i + 2) hi .nil))) rfl (by kernel_rfl) (by kernel_rfl) (by kernel_rfl) rfl rfl rfl (er_ldv 1 (q := 0) (v := u8 op) rfl rfl rfl rfl rfl hV hx0) ?_
        refine eh_load 4 (held (.cons 0 rfl (.cons (i + 2) hi .nil))) rfl (by kernel_rfl) (by kernel_rfl) (by kernel_rfl) rfl rfl rfl (er_conv .i64 rfl rfl rfl rfl rfl rfl ⟨by omega, by omega⟩) ?_
        refine eh_load 6 (held (.cons 0 rfl (.cons (i + 2) hi .nil))) rfl (by kernel_rfl) (by kernel_rfl) (by kernel_rfl) rfl rfl rfl (er_conv .i64 rfl rfl rfl rfl rfl rfl ⟨by omega, by omega⟩) ?_
        refine eh_load 9 (held (.cons 0 rfl (.cons (i + 2) hi .nil))) rfl (by kernel_rfl) (by kernel_rfl) (by kernel_rfl) rfl rfl rfl (er_ldW 0 rfl rfl rfl rfl rfl rfl) ?_
        refine eh_load 8 (held (.cons 0 rfl (.cons (i + 2) hi .nil))) rfl (by kernel_rfl) (by kernel_rfl) (by kernel_rfl) rfl rfl rfl (er_build rfl rfl rfl rfl rfl rfl) ?_
        refine eh_way 10 (by kernel_rfl) (hway rfl rfl (eo_call1 rfl rfl rfl rfl rfl real_code_shape_size hz ⟨held (.cons 0 rfl (.cons (i + 2) hi .nil)), ?_⟩))
        refine eh_way 11 (by kernel_rfl) (hway rfl rfl (eo_stA 1 rfl rfl rfl rfl rfl rfl rfl rfl rfl ⟨held (.cons 0 rfl (.cons (i + 2) hi .nil)), ?_⟩))
        refine eh_take 12 (held (.cons 0 rfl (.cons (i + 2) hi .nil))) rfl (by kernel_rfl) (by kernel_rfl) (by kernel_rfl) rfl rfl rfl rfl ?_
        refine eh_take 13 (held (.cons 0 rfl (.cons (i + 2) hi .nil))) rfl (by kernel_rfl) (by kernel_rfl) (by kernel_rfl) rfl rfl rfl rfl ?_
        refine eh_done (by kernel_rfl) ?_
        (repeat (first | refine el_pure rfl rfl rfl rfl ?_ | refine ej_seq ?_ | refine ej_region ?_ | refine el_nil ?_ | refine eq_seq ?_ | refine eq_calm ?_ | refine ej_true rfl ?_ | refine ej_false rfl ?_ | refine el_skip rfl rfl rfl ?_ | refine ej_ret ?_ | refine ej_skip ?_ | refine ej_exit ?_ | refine ej_block ?_ | refine eq_seq_ret ?_ | refine eq_seq_exit ?_ | refine eq_block ?_ | refine eq_block_exit ?_ | refine eq_block_ret ?_ | refine eq_block_exit_ne rfl ?_ | refine eq_back_ret ?_ | refine eq_back_exit ?_))
        exact eq_ret _ (rvs_cell 1 rfl rfl rfl rfl rfl (rvs_tmp rfl (rvs_tmp rfl rvs_nil))) fun w hw => ⟨rfl, hw.drop 2⟩
    · rw [decide_eq_false ho]
      (repeat (first | refine el_pure rfl rfl rfl rfl ?_ | refine ej_seq ?_ | refine ej_region ?_ | refine el_nil ?_ | refine eq_seq ?_ | refine eq_calm ?_ | refine ej_true rfl ?_ | refine ej_false rfl ?_ | refine el_skip rfl rfl rfl ?_ | refine ej_ret ?_ | refine ej_skip ?_ | refine ej_exit ?_ | refine ej_block ?_ | refine eq_seq_ret ?_ | refine eq_seq_exit ?_ | refine eq_block ?_ | refine eq_block_exit ?_ | refine eq_block_ret ?_ | refine eq_block_exit_ne rfl ?_ | refine eq_back_ret ?_ | refine eq_back_exit ?_))
      refine el_cons rfl (eo_build rfl rfl rfl rfl rfl rfl rfl rfl ?_)
      refine el_cons rfl (eo_stA 1 rfl rfl rfl rfl rfl rfl rfl rfl rfl ?_)
      (repeat (first | refine el_pure rfl rfl rfl rfl ?_ | refine ej_seq ?_ | refine ej_region ?_ | refine el_nil ?_ | refine eq_seq ?_ | refine eq_calm ?_ | refine ej_true rfl ?_ | refine ej_false rfl ?_ | refine el_skip rfl rfl rfl ?_ | refine ej_ret ?_ | refine ej_skip ?_ | refine ej_exit ?_ | refine ej_block ?_ | refine eq_seq_ret ?_ | refine eq_seq_exit ?_ | refine eq_block ?_ | refine eq_block_exit ?_ | refine eq_block_ret ?_ | refine eq_block_exit_ne rfl ?_ | refine eq_back_ret ?_ | refine eq_back_exit ?_))
      refine eq_ret _ (rvs_cell 1 rfl rfl rfl rfl rfl (rvs_tmp rfl (rvs_tmp rfl rvs_nil))) fun w hw => ⟨?_, hw.drop 2⟩
      refine (dec_no (op :: rest) (fun h => ho h.1) 1 ?_).symm
      rw [decN, if_neg (by omega), hop, if_neg ho]

end Go.Proofs.Ythmmibjhhifmeaa
