/- Commands of bytes: the document's Decode. -/
import Derived.Test.YthmmibjhhifmeaaSi
namespace Go.Proofs.Ythmmibjhhifmeaa
open Go Go.SE

variable {w0 : World} {l : List HP} {i : Nat} {r : Option (Nat × Nat)}

theorem decR_no (bs : List Nat) (h : ¬ decOk bs) (k : Nat) (hk : decN bs = k) : Value.tuple #[.agg (decC bs).doc.toArray, int (decN bs), .bool (decide (decOk bs))] = .tuple #[.agg #[int 0, int 0, int 0, u64 0], int k, .bool false] := by
  rw [hk, decC, if_neg h, decide_eq_false h]; rfl
theorem decR_ok {bs : List Nat} (h : decOk bs) : Value.tuple #[.agg (decC bs).doc.toArray, int (decN bs), .bool (decide (decOk bs))] = .tuple #[.agg #[int (opOf bs), int (num ((bs.drop 1).take (wA (opOf bs)))), int (num (((bs.drop 1).drop (wA (opOf bs))).take (wB (opOf bs)))), u64 (num ((((bs.drop 1).drop (wA (opOf bs))).drop (wB (opOf bs))).take (wM (opOf bs))))], int (sizeOfOp (opOf bs)), .bool true] := by
  have h1 : decN bs = sizeOfOp (opOf bs) := by
    have h2 := h.2
    have h3 : 1 ≤ sizeOfOp (opOf bs) := by unfold sizeOfOp; omega
    rw [decN, if_neg (by omega), if_pos h.1, Nat.min_eq_right h.2]
  rw [h1, decC, if_pos h, decide_eq_true h]
theorem drops (bs : List Nat) (lo hi w : Nat) (h : hi = lo + w) : (bs.drop lo).take (hi - lo) = (bs.drop lo).take w := by rw [h, Nat.add_sub_cancel_left]

set_option maxHeartbeats 1600000 in
theorem DecodeR_any {p : HP} {a : Option Addr} {c : Nat} (bs : List Nat) (hb : ∀ b ∈ bs, b < 256) (hl : bs.length ≤ 100000000) (hi : l[i]? = some p) (hV : View w0 [p] 1 a (u8s bs) bs.length c) :
    Does cx F_ref22_Decode [.slice a bs.length c] (S w0 l) fun v W => v = .tuple #[.agg (decC bs).doc.toArray, int (decN bs), .bool (decide (decOk bs))] ∧ S w0 l W := by
  refine fn_enter (n := N_ref22_Decode) fn_ref22_Decode rfl rfl rfl ?_
  refine ej_know (hV.one hi).know fun hk => ?_
  obtain ⟨⟨hnc, hcm⟩, haddr⟩ := hk
  refine ej_seq (ej_region (el_cons rfl (eo_alloc rfl rfl rfl rfl fun b2 => ?_)))
  generalize hn : bs.length = n at *
  (repeat (first | refine el_pure rfl rfl rfl rfl ?_ | refine ej_seq ?_ | refine ej_region ?_ | refine el_nil ?_ | refine eq_seq ?_ | refine eq_calm ?_ | refine ej_true rfl ?_ | refine ej_false rfl ?_ | refine el_skip rfl rfl rfl ?_ | refine ej_ret ?_ | refine ej_skip ?_ | refine ej_exit ?_ | refine ej_block ?_ | refine eq_seq_ret ?_ | refine eq_seq_exit ?_ | refine eq_block ?_ | refine eq_block_exit ?_ | refine eq_block_ret ?_ | refine eq_block_exit_ne rfl ?_ | refine eq_back_ret ?_ | refine eq_back_exit ?_ | refine el_cons rfl (eo_lenv rfl rfl rfl rfl rfl rfl ?_) | refine el_cons rfl (eo_arith rfl rfl rfl rfl rfl rfl ⟨by omega, by omega⟩ ?_)))
  refine ej_dec rfl (fun h0 => ?_) (fun h0 => ?_)
  · have h0 : (n : Int) = 0 := h0
    obtain rfl : n = 0 := by omega
    obtain rfl := List.eq_nil_of_length_eq_zero hn
    (repeat (first | refine el_pure rfl rfl rfl rfl ?_ | refine ej_seq ?_ | refine ej_region ?_ | refine el_nil ?_ | refine eq_seq ?_ | refine eq_calm ?_ | refine ej_true rfl ?_ | refine ej_false rfl ?_ | refine el_skip rfl rfl rfl ?_ | refine ej_ret ?_ | refine ej_skip ?_ | refine ej_exit ?_ | refine ej_block ?_ | refine eq_seq_ret ?_ | refine eq_seq_exit ?_ | refine eq_block ?_ | refine eq_block_exit ?_ | refine eq_block_ret ?_ | refine eq_block_exit_ne rfl ?_ | refine eq_back_ret ?_ | refine eq_back_exit ?_))
    refine el_cons rfl (eo_build rfl rfl rfl rfl rfl rfl rfl rfl ?_)
    refine el_cons rfl (eo_stA 0 rfl rfl rfl rfl rfl rfl rfl rfl rfl ?_)
    (repeat (first | refine el_pure rfl rfl rfl rfl ?_ | refine ej_seq ?_ | refine ej_region ?_ | refine el_nil ?_ | refine eq_seq ?_ | refine eq_calm ?_ | refine ej_true rfl ?_ | refine ej_false rfl ?_ | refine el_skip rfl rfl rfl ?_ | refine ej_ret ?_ | refine ej_skip ?_ | refine ej_exit ?_ | refine ej_block ?_ | refine eq_seq_ret ?_ | refine eq_seq_exit ?_ | refine eq_block ?_ | refine eq_block_exit ?_ | refine eq_block_ret ?_ | refine eq_block_exit_ne rfl ?_ | refine eq_back_ret ?_ | refine eq_back_exit ?_))
    exact eq_ret _ (rvs_cell 0 rfl rfl rfl rfl rfl (rvs_tmp rfl (rvs_tmp rfl rvs_nil))) fun w hw => ⟨(decR_no [] (fun h => absurd h.1 (by decide)) 0 rfl).symm, hw.drop 1⟩
  · have h0 : ¬ (n : Int) = 0 := h0
    obtain ⟨op, rest, rfl⟩ : ∃ op rest, bs = op :: rest := by
      match bs, hn with
      | [], hn => simp at hn; omega
      | op :: rest, _ => exact ⟨op, rest, rfl⟩
    have hop : opOf (op :: rest) = op := rfl
    have hop256 : op < 256 := hb op (by simp)
    have haddr := haddr (by simp)
    have hx0 : (u8s (op :: rest))[0]? = some (u8 op) := rfl
    have hrl : rest.length = n - 1 := by simp at hn; omega
    have hrb : ∀ b ∈ rest, b < 256 := fun b h => hb b (by simp [h])
    (repeat (first | refine el_pure rfl rfl rfl rfl ?_ | refine ej_seq ?_ | refine ej_region ?_ | refine el_nil ?_ | refine eq_seq ?_ | refine eq_calm ?_ | refine ej_true rfl ?_ | refine ej_false rfl ?_ | refine el_skip rfl rfl rfl ?_ | refine ej_ret ?_ | refine ej_skip ?_ | refine ej_exit ?_ | refine ej_block ?_ | refine eq_seq_ret ?_ | refine eq_seq_exit ?_ | refine eq_block ?_ | refine eq_block_exit ?_ | refine eq_block_ret ?_ | refine eq_block_exit_ne rfl ?_ | refine eq_back_ret ?_ | refine eq_back_exit ?_))
    refine el_cons rfl (eo_idxv rfl rfl rfl rfl rfl rfl rfl rfl rfl ((hV.one hi).cons _) ⟨by omega, by omega⟩ ?_)
    refine el_cons rfl (eo_ldv 0 (v := u8 op) rfl rfl rfl rfl rfl rfl ((hV.one hi).cons _) hx0 ?_)
    refine el_cons rfl (eo_conv .i64 rfl rfl rfl rfl rfl rfl rfl rfl ⟨by omega, by omega⟩ ?_)
    (repeat (first | refine el_pure rfl rfl rfl rfl ?_ | refine ej_seq ?_ | refine ej_region ?_ | refine el_nil ?_ | refine eq_seq ?_ | refine eq_calm ?_ | refine ej_true rfl ?_ | refine ej_false rfl ?_ | refine el_skip rfl rfl rfl ?_ | refine ej_ret ?_ | refine ej_skip ?_ | refine ej_exit ?_ | refine ej_block ?_ | refine eq_seq_ret ?_ | refine eq_seq_exit ?_ | refine eq_block ?_ | refine eq_block_exit ?_ | refine eq_block_ret ?_ | refine eq_block_exit_ne rfl ?_ | refine eq_back_ret ?_ | refine eq_back_exit ?_))
    by_cases ho : isOp op
    · have ho' := ho
      unfold isOp at ho'
      refine el_val 19 (u := .bool false) rfl (by rw [decide_eq_false (by omega)]) ?_
      (repeat (first | refine el_pure rfl rfl rfl rfl ?_ | refine ej_seq ?_ | refine ej_region ?_ | refine el_nil ?_ | refine eq_seq ?_ | refine eq_calm ?_ | refine ej_true rfl ?_ | refine ej_false rfl ?_ | refine el_skip rfl rfl rfl ?_ | refine ej_ret ?_ | refine ej_skip ?_ | refine ej_exit ?_ | refine ej_block ?_ | refine eq_seq_ret ?_ | refine eq_seq_exit ?_ | refine eq_block ?_ | refine eq_block_exit ?_ | refine eq_block_ret ?_ | refine eq_block_exit_ne rfl ?_ | refine eq_back_ret ?_ | refine eq_back_exit ?_))
      refine ej_dec rfl (fun h => absurd h (by omega)) (fun _ => ?_)
      (repeat (first | refine el_pure rfl rfl rfl rfl ?_ | refine ej_seq ?_ | refine ej_region ?_ | refine el_nil ?_ | refine eq_seq ?_ | refine eq_calm ?_ | refine ej_true rfl ?_ | refine ej_false rfl ?_ | refine el_skip rfl rfl rfl ?_ | refine ej_ret ?_ | refine ej_skip ?_ | refine ej_exit ?_ | refine ej_block ?_ | refine eq_seq_ret ?_ | refine eq_seq_exit ?_ | refine eq_block ?_ | refine eq_block_exit ?_ | refine eq_block_ret ?_ | refine eq_block_exit_ne rfl ?_ | refine eq_back_ret ?_ | refine eq_back_exit ?_))
      refine el_cons rfl (eo_call1 rfl rfl rfl rfl rfl real_ref22_Widths (Widths_any op ho _) ?_)
      obtain ⟨h4, h5, h6⟩ := w_le op
      have hsz : sizeOfOp op = 1 + wA op + wB op + wM op := rfl
      (repeat (first | refine el_pure rfl rfl rfl rfl ?_ | refine ej_seq ?_ | refine ej_region ?_ | refine el_nil ?_ | refine eq_seq ?_ | refine eq_calm ?_ | refine ej_true rfl ?_ | refine ej_false rfl ?_ | refine el_skip rfl rfl rfl ?_ | refine ej_ret ?_ | refine ej_skip ?_ | refine ej_exit ?_ | refine ej_block ?_ | refine eq_seq_ret ?_ | refine eq_seq_exit ?_ | refine eq_block ?_ | refine eq_block_exit ?_ | refine eq_block_ret ?_ | refine eq_block_exit_ne rfl ?_ | refine eq_back_ret ?_ | refine eq_back_exit ?_ | refine el_cons rfl (eo_lenv rfl rfl rfl rfl rfl rfl ?_) | refine el_cons rfl (eo_arith rfl rfl rfl rfl rfl rfl ⟨by omega, by omega⟩ ?_)))
      refine ej_dec rfl (fun h1 => ?_) (fun h1 => ?_)
      · have h1 : (n : Int) < 1 + wA op + wB op + wM op := h1
        (repeat (first | refine el_pure rfl rfl rfl rfl ?_ | refine ej_seq ?_ | refine ej_region ?_ | refine el_nil ?_ | refine eq_seq ?_ | refine eq_calm ?_ | refine ej_true rfl ?_ | refine ej_false rfl ?_ | refine el_skip rfl rfl rfl ?_ | refine ej_ret ?_ | refine ej_skip ?_ | refine ej_exit ?_ | refine ej_block ?_ | refine eq_seq_ret ?_ | refine eq_seq_exit ?_ | refine eq_block ?_ | refine eq_block_exit ?_ | refine eq_block_ret ?_ | refine eq_block_exit_ne rfl ?_ | refine eq_back_ret ?_ | refine eq_back_exit ?_))
        refine el_cons rfl (eo_build rfl rfl rfl rfl rfl rfl rfl rfl ?_)
        (repeat (first | refine el_pure rfl rfl rfl rfl ?_ | refine ej_seq ?_ | refine ej_region ?_ | refine el_nil ?_ | refine eq_seq ?_ | refine eq_calm ?_ | refine ej_true rfl ?_ | refine ej_false rfl ?_ | refine el_skip rfl rfl rfl ?_ | refine ej_ret ?_ | refine ej_skip ?_ | refine ej_exit ?_ | refine ej_block ?_ | refine eq_seq_ret ?_ | refine eq_seq_exit ?_ | refine eq_block ?_ | refine eq_block_exit ?_ | refine eq_block_ret ?_ | refine eq_block_exit_ne rfl ?_ | refine eq_back_ret ?_ | refine eq_back_exit ?_ | refine el_cons rfl (eo_lenv rfl rfl rfl rfl rfl rfl ?_) | refine el_cons rfl (eo_arith rfl rfl rfl rfl rfl rfl ⟨by omega, by omega⟩ ?_)))
        refine el_cons rfl (eo_stA 0 rfl rfl rfl rfl rfl rfl rfl rfl rfl ?_)
        (repeat (first | refine el_pure rfl rfl rfl rfl ?_ | refine ej_seq ?_ | refine ej_region ?_ | refine el_nil ?_ | refine eq_seq ?_ | refine eq_calm ?_ | refine ej_true rfl ?_ | refine ej_false rfl ?_ | refine el_skip rfl rfl rfl ?_ | refine ej_ret ?_ | refine ej_skip ?_ | refine ej_exit ?_ | refine ej_block ?_ | refine eq_seq_ret ?_ | refine eq_seq_exit ?_ | refine eq_block ?_ | refine eq_block_exit ?_ | refine eq_block_ret ?_ | refine eq_block_exit_ne rfl ?_ | refine eq_back_ret ?_ | refine eq_back_exit ?_))
        refine eq_ret _ (rvs_cell 0 rfl rfl rfl rfl rfl (rvs_tmp rfl (rvs_tmp rfl rvs_nil))) fun w hw => ⟨?_, hw.drop 1⟩
        refine (decR_no (op :: rest) (fun h => ?_) n ?_).symm
        · have := h.2; rw [hop, hn] at this; omega
        · rw [decN, if_neg (by omega), hop, if_pos ho, hn, Nat.min_eq_left (by omega)]
      · have h1 : ¬ (n : Int) < 1 + wA op + wB op + wM op := h1
        have hdok : decOk (op :: rest) := ⟨ho, by rw [hop, hn]; omega⟩
        have hdv := decR_ok hdok
        rw [hop, List.drop_succ_cons, List.drop_zero, hsz] at hdv
        rw [hdv]
        have n1 := num_take_lt rest (wA op) hrb h4
        have n2 := num_take_lt (rest.drop (wA op)) (wB op) (fun b h => hrb b (List.mem_of_mem_drop h)) h5
        have v1 := hV.sub (lo := 1) (hi := 1 + wA op) (by omega) (by omega)
        have v2 := hV.sub (lo := 1 + wA op) (hi := 1 + wA op + wB op) (by omega) (by omega)
        have v3 := hV.sub (lo := 1 + wA op + wB op) (hi := 1 + wA op + wB op + wM op) (by omega) (by omega)
        have e1 : subX (u8s (op :: rest)) 1 (1 + wA op) 1 = u8s (rest.take (wA op)) := by
          rw [sub_u8s, List.drop_succ_cons, List.drop_zero, Nat.add_sub_cancel_left]
        have e2 : subX (u8s (op :: rest)) (1 + wA op) (1 + wA op + wB op) 1 = u8s ((rest.drop (wA op)).take (wB op)) := by
          rw [sub_u8s, Nat.add_comm 1 (wA op), List.drop_succ_cons, Nat.add_sub_cancel_left]
        have e3 : subX (u8s (op :: rest)) (1 + wA op + wB op) (1 + wA op + wB op + wM op) 1 = u8s (((rest.drop (wA op)).drop (wB op)).take (wM op)) := by
          rw [sub_u8s, Nat.add_sub_cancel_left, show 1 + wA op + wB op = (wA op + wB op) + 1 by omega, List.drop_succ_cons, List.drop_drop]
        rw [e1] at v1
        rw [e2] at v2
        rw [e3] at v3
        rw [Nat.add_sub_cancel_left] at v1 v2 v3
        have l1 : (rest.take (wA op)).length = wA op := by rw [List.length_take]; omega
        have l2 : ((rest.drop (wA op)).take (wB op)).length = wB op := by rw [List.length_take, List.length_drop]; omega
        have l3 : (((rest.drop (wA op)).drop (wB op)).take (wM op)).length = wM op := by rw [List.length_take, List.length_drop, List.length_drop]; omega
        have r1 := fun (l' : List HP) (hi' : l'[i + 1]? = some p) => read_any (w0 := w0) (l := l') (rest.take (wA op)) (fun b h => hrb b (List.mem_of_mem_take h)) (by omega) (by rw [l1]; exact v1.one hi')
        have r2 := fun (l' : List HP) (hi' : l'[i + 1]? = some p) => read_any (w0 := w0) (l := l') ((rest.drop (wA op)).take (wB op)) (fun b h => hrb b (List.mem_of_mem_drop (List.mem_of_mem_take h))) (by omega) (by rw [l2]; exact v2.one hi')
        have r3 := fun (l' : List HP) (hi' : l'[i + 1]? = some p) => read_any (w0 := w0) (l := l') (((rest.drop (wA op)).drop (wB op)).take (wM op)) (fun b h => hrb b (List.mem_of_mem_drop (List.mem_of_mem_drop (List.mem_of_mem_take h)))) (by omega) (by rw [l3]; exact v3.one hi')
        rw [l1] at r1
        rw [l2] at r2
        rw [l3] at r3
        clear v1 v2 v3 e1 e2 e3
        generalize num (rest.take (wA op)) = x1 at *
        generalize num ((rest.drop (wA op)).take (wB op)) = x2 at *
        generalize num (((rest.drop (wA op)).drop (wB op)).take (wM op)) = x3 at *
        clear l1 l2 l3 hdv
        generalize wA op = wa at *
        generalize wB op = wb at *
        generalize wM op = wm at *
        (repeat (first | refine el_pure rfl rfl rfl rfl ?_ | refine ej_seq ?_ | refine ej_region ?_ | refine el_nil ?_ | refine eq_seq ?_ | refine eq_calm ?_ | refine ej_true rfl ?_ | refine ej_false rfl ?_ | refine el_skip rfl rfl rfl ?_ | refine ej_ret ?_ | refine ej_skip ?_ | refine ej_exit ?_ | refine ej_block ?_ | refine eq_seq_ret ?_ | refine eq_seq_exit ?_ | refine eq_block ?_ | refine eq_block_exit ?_ | refine eq_block_ret ?_ | refine eq_block_exit_ne rfl ?_ | refine eq_back_ret ?_ | refine eq_back_exit ?_))
        refine ej_held [] ?_
        refine eh_take 0 (held .nil) rfl (by kernel_rfl) (by kernel_rfl) (by kernel_rfl) rfl rfl rfl rfl ?_
        refine eh_take 1 (held .nil) rfl (by kernel_rfl) (by kernel_rfl) (by kernel_rfl) rfl rfl rfl rfl ?_
        refine eh_take 2 (held .nil) rfl (by kernel_rfl) (by kernel_rfl) (by kernel_rfl) rfl rfl rfl rfl ?_
        refine eh_take 7 (held .nil) rfl (by kernel_rfl) (by kernel_rfl) (by kernel_rfl) rfl rfl rfl rfl ?_
        refine eh_take 8 (held .nil) rfl (by kernel_rfl) (by kernel_rfl) (by kernel_rfl) rfl rfl rfl rfl ?_
        refine eh_take 10 (held .nil) rfl (by kernel_rfl) (by kernel_rfl) (by kernel_rfl) rfl rfl rfl rfl ?_
        refine eh_take 12 (held .nil) rfl (by kernel_rfl) (by kernel_rfl) (by kernel_rfl) rfl rfl rfl rfl ?_
        refine eh_take 17 (held .nil) rfl (by kernel_rfl) (by kernel_rfl) (by kernel_rfl) rfl rfl rfl rfl ?_
        refine eh_take 18 (held .nil) rfl (by kernel_rfl) (by kernel_rfl) (by kernel_rfl) rfl rfl rfl rfl ?_
        refine eh_take 20 (held .nil) rfl (by kernel_rfl) (by kernel_rfl) (by kernel_rfl) rfl rfl rfl rfl ?_
        refine eh_take 22 (held .nil) rfl (by kernel_rfl) (by kernel_rfl) (by kernel_rfl) rfl rfl rfl rfl ?_
        refine eh_take 24 (held .nil) rfl (by kernel_rfl) (by kernel_rfl) (by kernel_rfl) rfl rfl rfl rfl ?_
        refine eh_take 26 (held .nil) rfl (by kernel_rfl) (by kernel_rfl) (by kernel_rfl) rfl rfl rfl rfl ?_
        refine eh_take 31 (held .nil) rfl (by kernel_rfl) (by kernel_rfl) (by kernel_rfl) rfl rfl rfl rfl ?_
        refine eh_take 33 (held .nil) rfl (by kernel_rfl) (by kernel_rfl) (by kernel_rfl) rfl rfl rfl rfl ?_
        refine eh_take 35 (held .nil) rfl (by kernel_rfl) (by kernel_rfl) (by kernel_rfl) rfl rfl rfl rfl ?_
        refine eh_load 3 (held .nil) rfl (by kernel_rfl) (by kernel_rfl) (by kernel_rfl) rfl rfl rfl (er_arith rfl rfl rfl rfl ⟨by omega, by omega⟩) ?_
        refine eh_load 9 (held .nil) rfl (by kernel_rfl) (by kernel_rfl) (by kernel_rfl) rfl rfl rfl (er_arith rfl rfl rfl rfl ⟨by omega, by omega⟩) ?_
        refine eh_load 11 (held .nil) rfl (by kernel_rfl) (by kernel_rfl) (by kernel_rfl) rfl rfl rfl (er_arith rfl rfl rfl rfl ⟨by omega, by omega⟩) ?_
        refine eh_load 13 (held .nil) rfl (by kernel_rfl) (by kernel_rfl) (by kernel_rfl) rfl rfl rfl (er_arith rfl rfl rfl rfl ⟨by omega, by omega⟩) ?_
        refine eh_load 19 (held .nil) rfl (by kernel_rfl) (by kernel_rfl) (by kernel_rfl) rfl rfl rfl (er_arith rfl rfl rfl rfl ⟨by omega, by omega⟩) ?_
        refine eh_load 21 (held .nil) rfl (by kernel_rfl) (by kernel_rfl) (by kernel_rfl) rfl rfl rfl (er_arith rfl rfl rfl rfl ⟨by omega, by omega⟩) ?_
        refine eh_load 23 (held .nil) rfl (by kernel_rfl) (by kernel_rfl) (by kernel_rfl) rfl rfl rfl (er_arith rfl rfl rfl rfl ⟨by omega, by omega⟩) ?_
        refine eh_load 25 (held .nil) rfl (by kernel_rfl) (by kernel_rfl) (by kernel_rfl) rfl rfl rfl (er_arith rfl rfl rfl rfl ⟨by omega, by omega⟩) ?_
        refine eh_load 27 (held .nil) rfl (by kernel_rfl) (by kernel_rfl) (by kernel_rfl) rfl rfl rfl (er_arith rfl rfl rfl rfl ⟨by omega, by omega⟩) ?_
        refine eh_load 32 (held .nil) rfl (by kernel_rfl) (by kernel_rfl) (by kernel_rfl) rfl rfl rfl (er_arith rfl rfl rfl rfl ⟨by omega, by omega⟩) ?_
        refine eh_load 34 (held .nil) rfl (by kernel_rfl) (by kernel_rfl) (by kernel_rfl) rfl rfl rfl (er_arith rfl rfl rfl rfl ⟨by omega, by omega⟩) ?_
        refine eh_load 36 (held .nil) rfl (by kernel_rfl) (by kernel_rfl) (by kernel_rfl) rfl rfl rfl (er_arith rfl rfl rfl rfl ⟨by omega, by omega⟩) ?_
        refine eh_load 4 (held .nil) rfl (by kernel_rfl) (by kernel_rfl) (by kernel_rfl) rfl rfl rfl (er_slice 1 (1 + wa) rfl rfl ⟨_, rfl⟩ ⟨_, rfl⟩ rfl rfl rfl hnc (by omega) (by omega)) ?_
        refine eh_load 14 (held .nil) rfl (by kernel_rfl) (by kernel_rfl) (by kernel_rfl) rfl rfl rfl (er_slice (1 + wa) (1 + wa + wb) rfl rfl ⟨_, rfl⟩ ⟨_, rfl⟩ rfl rfl rfl hnc (by omega) (by omega)) ?_
        refine eh_load 28 (held .nil) rfl (by kernel_rfl) (by kernel_rfl) (by kernel_rfl) rfl rfl rfl (er_slice (1 + wa + wb) (1 + wa + wb + wm) rfl rfl ⟨_, rfl⟩ ⟨_, rfl⟩ rfl rfl rfl hnc (by omega) (by omega)) ?_
        simp only [Nat.add_sub_cancel_left]
        refine eh_way 5 (by kernel_rfl) (hway rfl rfl (eo_call1 rfl rfl rfl rfl rfl real_ref22_read (r1 _ hi) ⟨held .nil, ?_⟩))
        refine eh_load 6 (held .nil) rfl (by kernel_rfl) (by kernel_rfl) (by kernel_rfl) rfl rfl rfl (er_conv .i64 rfl rfl rfl rfl rfl rfl ⟨by omega, by omega⟩) ?_
        refine eh_way 15 (by kernel_rfl) (hway rfl rfl (eo_call1 rfl rfl rfl rfl rfl real_ref22_read (r2 _ hi) ⟨held .nil, ?_⟩))
        refine eh_load 16 (held .nil) rfl (by kernel_rfl) (by kernel_rfl) (by kernel_rfl) rfl rfl rfl (er_conv .i64 rfl rfl rfl rfl rfl rfl ⟨by omega, by omega⟩) ?_
        refine eh_way 29 (by kernel_rfl) (hway rfl rfl (eo_call1 rfl rfl rfl rfl rfl real_ref22_read (r3 _ hi) ⟨held .nil, ?_⟩))
        refine eh_load 30 (held .nil) rfl (by kernel_rfl) (by kernel_rfl) (by kernel_rfl) rfl rfl rfl (er_build rfl rfl rfl rfl rfl rfl) ?_
        refine eh_way 37 (by kernel_rfl) (hway rfl rfl (eo_stA 0 rfl rfl rfl rfl rfl rfl rfl rfl rfl ⟨held .nil, ?_⟩))
        refine eh_take 38 (held .nil) rfl (by kernel_rfl) (by kernel_rfl) (by kernel_rfl) rfl rfl rfl rfl ?_
        refine eh_take 39 (held .nil) rfl (by kernel_rfl) (by kernel_rfl) (by kernel_rfl) rfl rfl rfl rfl ?_
        refine eh_done (by kernel_rfl) ?_
        (repeat (first | refine el_pure rfl rfl rfl rfl ?_ | refine ej_seq ?_ | refine ej_region ?_ | refine el_nil ?_ | refine eq_seq ?_ | refine eq_calm ?_ | refine ej_true rfl ?_ | refine ej_false rfl ?_ | refine el_skip rfl rfl rfl ?_ | refine ej_ret ?_ | refine ej_skip ?_ | refine ej_exit ?_ | refine ej_block ?_ | refine eq_seq_ret ?_ | refine eq_seq_exit ?_ | refine eq_block ?_ | refine eq_block_exit ?_ | refine eq_block_ret ?_ | refine eq_block_exit_ne rfl ?_ | refine eq_back_ret ?_ | refine eq_back_exit ?_))
        exact eq_ret _ (rvs_cell 0 rfl rfl rfl rfl rfl (rvs_tmp rfl (rvs_tmp rfl rvs_nil))) fun w hw => ⟨rfl, hw.drop 1⟩
    · have ho' := ho
      unfold isOp at ho'
      by_cases h1 : op < 1
      · refine el_val 19 (u := .bool true) rfl (by rw [decide_eq_true (by omega)]) ?_
        (repeat (first | refine el_pure rfl rfl rfl rfl ?_ | refine ej_seq ?_ | refine ej_region ?_ | refine el_nil ?_ | refine eq_seq ?_ | refine eq_calm ?_ | refine ej_true rfl ?_ | refine ej_false rfl ?_ | refine el_skip rfl rfl rfl ?_ | refine ej_ret ?_ | refine ej_skip ?_ | refine ej_exit ?_ | refine ej_block ?_ | refine eq_seq_ret ?_ | refine eq_seq_exit ?_ | refine eq_block ?_ | refine eq_block_exit ?_ | refine eq_block_ret ?_ | refine eq_block_exit_ne rfl ?_ | refine eq_back_ret ?_ | refine eq_back_exit ?_))
        refine el_cons rfl (eo_build rfl rfl rfl rfl rfl rfl rfl rfl ?_)
        refine el_cons rfl (eo_stA 0 rfl rfl rfl rfl rfl rfl rfl rfl rfl ?_)
        (repeat (first | refine el_pure rfl rfl rfl rfl ?_ | refine ej_seq ?_ | refine ej_region ?_ | refine el_nil ?_ | refine eq_seq ?_ | refine eq_calm ?_ | refine ej_true rfl ?_ | refine ej_false rfl ?_ | refine el_skip rfl rfl rfl ?_ | refine ej_ret ?_ | refine ej_skip ?_ | refine ej_exit ?_ | refine ej_block ?_ | refine eq_seq_ret ?_ | refine eq_seq_exit ?_ | refine eq_block ?_ | refine eq_block_exit ?_ | refine eq_block_ret ?_ | refine eq_block_exit_ne rfl ?_ | refine eq_back_ret ?_ | refine eq_back_exit ?_))
        refine eq_ret _ (rvs_cell 0 rfl rfl rfl rfl rfl (rvs_tmp rfl (rvs_tmp rfl rvs_nil))) fun w hw => ⟨?_, hw.drop 1⟩
        refine (decR_no (op :: rest) (fun h => ho h.1) 1 ?_).symm
        rw [decN, if_neg (by omega), hop, if_neg ho]
      · refine el_val 19 (u := .bool false) rfl (by rw [decide_eq_false (by omega)]) ?_
        (repeat (first | refine el_pure rfl rfl rfl rfl ?_ | refine ej_seq ?_ | refine ej_region ?_ | refine el_nil ?_ | refine eq_seq ?_ | refine eq_calm ?_ | refine ej_true rfl ?_ | refine ej_false rfl ?_ | refine el_skip rfl rfl rfl ?_ | refine ej_ret ?_ | refine ej_skip ?_ | refine ej_exit ?_ | refine ej_block ?_ | refine eq_seq_ret ?_ | refine eq_seq_exit ?_ | refine eq_block ?_ | refine eq_block_exit ?_ | refine eq_block_ret ?_ | refine eq_block_exit_ne rfl ?_ | refine eq_back_ret ?_ | refine eq_back_exit ?_))
        refine ej_dec rfl (fun _ => ?_) (fun h => absurd h (by omega))
        (repeat (first | refine el_pure rfl rfl rfl rfl ?_ | refine ej_seq ?_ | refine ej_region ?_ | refine el_nil ?_ | refine eq_seq ?_ | refine eq_calm ?_ | refine ej_true rfl ?_ | refine ej_false rfl ?_ | refine el_skip rfl rfl rfl ?_ | refine ej_ret ?_ | refine ej_skip ?_ | refine ej_exit ?_ | refine ej_block ?_ | refine eq_seq_ret ?_ | refine eq_seq_exit ?_ | refine eq_block ?_ | refine eq_block_exit ?_ | refine eq_block_ret ?_ | refine eq_block_exit_ne rfl ?_ | refine eq_back_ret ?_ | refine eq_back_exit ?_))
        refine el_cons rfl (eo_build rfl rfl rfl rfl rfl rfl rfl rfl ?_)
        refine el_cons rfl (eo_stA 0 rfl rfl rfl rfl rfl rfl rfl rfl rfl ?_)
        (repeat (first | refine el_pure rfl rfl rfl rfl ?_ | refine ej_seq ?_ | refine ej_region ?_ | refine el_nil ?_ | refine eq_seq ?_ | refine eq_calm ?_ | refine ej_true rfl ?_ | refine ej_false rfl ?_ | refine el_skip rfl rfl rfl ?_ | refine ej_ret ?_ | refine ej_skip ?_ | refine ej_exit ?_ | refine ej_block ?_ | refine eq_seq_ret ?_ | refine eq_seq_exit ?_ | refine eq_block ?_ | refine eq_block_exit ?_ | refine eq_block_ret ?_ | refine eq_block_exit_ne rfl ?_ | refine eq_back_ret ?_ | refine eq_back_exit ?_))
        refine eq_ret _ (rvs_cell 0 rfl rfl rfl rfl rfl (rvs_tmp rfl (rvs_tmp rfl rvs_nil))) fun w hw => ⟨?_, hw.drop 1⟩
        refine (decR_no (op :: rest) (fun h => ho h.1) 1 ?_).symm
        rw [decN, if_neg (by omega), hop, if_neg ho]

end Go.Proofs.Ythmmibjhhifmeaa
