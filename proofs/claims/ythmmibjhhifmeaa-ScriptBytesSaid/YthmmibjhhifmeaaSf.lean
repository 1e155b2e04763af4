/- Numbers as bytes, on: put, read, take. -/
import Derived.Test.YthmmibjhhifmeaaSe
namespace Go.Proofs.Ythmmibjhhifmeaa
open Go Go.SE

variable {w0 : World} {l : List HP} {i : Nat} {r : Option (Nat × Nat)}

theorem take_snoc {α : Type} {xs : List α} {k : Nat} {x : α} (h : xs[k]? = some x) : xs.take (k + 1) = xs.take k ++ [x] := by
  obtain ⟨hlt, rfl⟩ := List.getElem?_eq_some_iff.1 h
  exact List.take_succ_eq_append_getElem hlt

theorem put_any (bs : List Nat) (m w : Nat) (hw : w ≤ 8) (hl : bs.length + 8 ≤ 100000000) (h : l[i]? = some (rowC r T_uint8 1 (u8s bs) bs.length)) :
    Does cx F_code_put [sv r bs.length, u64 m, int w] (S w0 l) fun v W => ∃ r', v = sv r' (bs.length + w) ∧ True ∧ S w0 (l.set i (rowC r' T_uint8 1 (u8s (bs ++ be m w)) (bs.length + w))) W := by
  refine fn_enter (n := N_code_put) fn_code_put rfl rfl rfl ?_
  (repeat (first | refine el_pure rfl rfl rfl rfl ?_ | refine ej_seq ?_ | refine ej_region ?_ | refine el_nil ?_ | refine eq_seq ?_ | refine eq_calm ?_ | refine ej_true rfl ?_ | refine ej_false rfl ?_ | refine el_skip rfl rfl rfl ?_ | refine ej_ret ?_ | refine ej_skip ?_ | refine ej_exit ?_ | refine ej_block ?_ | refine eq_seq_ret ?_ | refine eq_seq_exit ?_ | refine eq_block ?_ | refine eq_block_exit ?_ | refine eq_block_ret ?_ | refine eq_block_exit_ne rfl ?_ | refine eq_back_ret ?_ | refine eq_back_exit ?_ | refine el_cons rfl (eo_lenv rfl rfl rfl rfl rfl rfl ?_) | refine el_cons rfl (eo_arith rfl rfl rfl rfl rfl rfl ⟨by omega, by omega⟩ ?_)))
  refine ej_loopP (α := Nat × Option (Nat × Nat)) (fun x => x.1 ≤ w) (fun x => [(0, sv x.2 (bs.length + x.1)), (1, u64 m), (7, int ((w : Int) - 1 - x.1))])
    (fun x => S w0 (l.set i (rowC x.2 T_uint8 1 (u8s (bs ++ (be m w).take x.1)) (bs.length + x.1)))) (fun x => w - x.1) (0, r) (Nat.zero_le _) ?_ ?_ ?_
  · refine le_cons rfl (le_cons rfl (le_cons ?_ (le_of _ _ rfl)))
    show some (int ((w : Int) - 1)) = some (int ((w : Int) - 1 - ((0 : Nat) : Int)))
    congr 2; omega
  · intro W hW
    simp only [List.take_zero, List.append_nil, Nat.add_zero]
    rw [set_perm_front _ _ _ h]; exact hW
  rintro ⟨j, r'⟩ hj
  have hj : j ≤ w := hj
  (repeat (first | refine el_pure rfl rfl rfl rfl ?_ | refine ej_seq ?_ | refine ej_region ?_ | refine el_nil ?_ | refine eq_seq ?_ | refine eq_calm ?_ | refine ej_true rfl ?_ | refine ej_false rfl ?_ | refine el_skip rfl rfl rfl ?_ | refine ej_ret ?_ | refine ej_skip ?_ | refine ej_exit ?_ | refine ej_block ?_ | refine eq_seq_ret ?_ | refine eq_seq_exit ?_ | refine eq_block ?_ | refine eq_block_exit ?_ | refine eq_block_ret ?_ | refine eq_block_exit_ne rfl ?_ | refine eq_back_ret ?_ | refine eq_back_exit ?_))
  refine ej_dec rfl (fun h1 => ?_) (fun h1 => ?_)
  · have h1 : 0 ≤ (w : Int) - 1 - j := h1
    have hlt : j < w := by omega
    have hb := be_get m w j hlt
    have hs := take_snoc hb
    have e8 : (8 : Int) * ((w : Int) - 1 - j) = ((8 * (w - 1 - j) : Nat) : Int) := by omega
    (repeat (first | refine el_pure rfl rfl rfl rfl ?_ | refine ej_seq ?_ | refine ej_region ?_ | refine el_nil ?_ | refine eq_seq ?_ | refine eq_calm ?_ | refine ej_true rfl ?_ | refine ej_false rfl ?_ | refine el_skip rfl rfl rfl ?_ | refine ej_ret ?_ | refine ej_skip ?_ | refine ej_exit ?_ | refine ej_block ?_ | refine eq_seq_ret ?_ | refine eq_seq_exit ?_ | refine eq_block ?_ | refine eq_block_exit ?_ | refine eq_block_ret ?_ | refine eq_block_exit_ne rfl ?_ | refine eq_back_ret ?_ | refine eq_back_exit ?_ | refine el_cons rfl (eo_lenv rfl rfl rfl rfl rfl rfl ?_) | refine el_cons rfl (eo_arith rfl rfl rfl rfl rfl rfl ⟨by omega, by omega⟩ ?_)))
    refine el_cons rfl (eo_shrN (a := m) (b := 8 * (w - 1 - j)) rfl rfl rfl rfl (by show some (int (8 * ((w : Int) - 1 - j))) = _; rw [e8]) (by show 8 * (w - 1 - j) < 64; omega) ?_)
    refine el_cons rfl (eo_convW .u8 rfl rfl rfl rfl rfl rfl rfl rfl ?_)
    rw [wrap_u8, ← pow256]
    generalize m / 256 ^ (w - 1 - j) % 256 = v at *
    refine el_cons rfl (eo_buildS rfl rfl rfl rfl rfl rfl rfl rfl rfl rfl fun b' => ?_)
    have hil : i < l.length := (List.getElem?_eq_some_iff.1 h).1
    refine el_cons rfl (eo_append (i + 1) (r := r') (xs := u8s (bs ++ (be m w).take j)) (n' := bs.length + j) [u8 v] rfl rfl rfl rfl rfl rfl rfl rfl rfl (by simp [hil]) rfl (fun w hw j u hu => ?_) rfl (by decide) ?_ ?_ fun r2 => ?_)
    · rw [addr_add, Nat.zero_add]; exact hw.cell (i := 0) rfl hu
    · show (bs.length + j + 1) * 1 ≤ 140737488355328; omega
    · show bs.length + j + 1 ≤ 9223372036854775807; omega
    (repeat (first | refine el_pure rfl rfl rfl rfl ?_ | refine ej_seq ?_ | refine ej_region ?_ | refine el_nil ?_ | refine eq_seq ?_ | refine eq_calm ?_ | refine ej_true rfl ?_ | refine ej_false rfl ?_ | refine el_skip rfl rfl rfl ?_ | refine ej_ret ?_ | refine ej_skip ?_ | refine ej_exit ?_ | refine ej_block ?_ | refine eq_seq_ret ?_ | refine eq_seq_exit ?_ | refine eq_block ?_ | refine eq_block_exit ?_ | refine eq_block_ret ?_ | refine eq_block_exit_ne rfl ?_ | refine eq_back_ret ?_ | refine eq_back_exit ?_ | refine el_cons rfl (eo_lenv rfl rfl rfl rfl rfl rfl ?_) | refine el_cons rfl (eo_arith rfl rfl rfl rfl rfl rfl ⟨by omega, by omega⟩ ?_)))
    refine eq_backP (j + 1, r2) (by show j + 1 ≤ w; omega) (by show w - (j + 1) < w - j; omega) ?_ ?_
    · refine le_cons rfl (le_cons rfl (le_cons ?_ (le_of _ _ rfl)))
      show some (int ((w : Int) - 1 - j - 1)) = some (int ((w : Int) - 1 - ((j + 1 : Nat) : Int)))
      congr 2; omega
    · intro W hW
      show S w0 (l.set i (rowC r2 T_uint8 1 (u8s (bs ++ (be m w).take (j + 1))) (bs.length + (j + 1)))) W
      rw [hs, ← List.append_assoc, u8s, List.map_append]
      have := hW.erase 0
      simp only [List.set_cons_succ, List.eraseIdx_cons_zero, List.set_set] at this
      exact this
  · have h1 : ¬ 0 ≤ (w : Int) - 1 - j := h1
    obtain rfl : j = w := by omega
    (repeat (first | refine el_pure rfl rfl rfl rfl ?_ | refine ej_seq ?_ | refine ej_region ?_ | refine el_nil ?_ | refine eq_seq ?_ | refine eq_calm ?_ | refine ej_true rfl ?_ | refine ej_false rfl ?_ | refine el_skip rfl rfl rfl ?_ | refine ej_ret ?_ | refine ej_skip ?_ | refine ej_exit ?_ | refine ej_block ?_ | refine eq_seq_ret ?_ | refine eq_seq_exit ?_ | refine eq_block ?_ | refine eq_block_exit ?_ | refine eq_block_ret ?_ | refine eq_block_exit_ne rfl ?_ | refine eq_back_ret ?_ | refine eq_back_exit ?_))
    refine eq_rett rfl fun W hW => ⟨r', rfl, trivial, ?_⟩
    have : (be m j).take j = be m j := List.take_of_length_le (by rw [be_length]; exact Nat.le_refl _)
    have hW : S w0 (l.set i (rowC r' T_uint8 1 (u8s (bs ++ (be m j).take j)) (bs.length + j))) W := hW
    rw [this] at hW; exact hW

theorem read_any {a : Option Addr} {c : Nat} (bs : List Nat) (hb : ∀ b ∈ bs, b < 256) (hl : bs.length ≤ 8) (hV : View w0 l 1 a (u8s bs) bs.length c) : Does cx F_ref22_read [.slice a bs.length c] (S w0 l) fun v W => v = u64 (num bs) ∧ S w0 l W := by
  refine fn_enter (n := N_ref22_read) fn_ref22_read rfl rfl rfl ?_
  (repeat (first | refine el_pure rfl rfl rfl rfl ?_ | refine ej_seq ?_ | refine ej_region ?_ | refine el_nil ?_ | refine eq_seq ?_ | refine eq_calm ?_ | refine ej_true rfl ?_ | refine ej_false rfl ?_ | refine el_skip rfl rfl rfl ?_ | refine ej_ret ?_ | refine ej_skip ?_ | refine ej_exit ?_ | refine ej_block ?_ | refine eq_seq_ret ?_ | refine eq_seq_exit ?_ | refine eq_block ?_ | refine eq_block_exit ?_ | refine eq_block_ret ?_ | refine eq_block_exit_ne rfl ?_ | refine eq_back_ret ?_ | refine eq_back_exit ?_ | refine el_cons rfl (eo_lenv rfl rfl rfl rfl rfl rfl ?_) | refine el_cons rfl (eo_arith rfl rfl rfl rfl rfl rfl ⟨by omega, by omega⟩ ?_)))
  refine ej_loopP (fun k : Nat => k ≤ bs.length) (fun k => [(0, .slice a bs.length c), (3, u64 (num (bs.take k))), (6, int bs.length), (7, int k)]) (fun _ => S w0 l) (fun k => bs.length - k) 0 (Nat.zero_le _) (le_of _ _ rfl) (fun w hw => hw) ?_
  intro k hk
  have hnum : k < bs.length → num (bs.take k) < 256 ^ 7 := fun h => by
    have h1 := num_lt k (bs.take k) (by simp; omega) fun b hb' => hb b (List.mem_of_mem_take hb')
    exact Nat.lt_of_lt_of_le h1 (Nat.pow_le_pow_right (by decide) (by omega))
  (repeat (first | refine el_pure rfl rfl rfl rfl ?_ | refine ej_seq ?_ | refine ej_region ?_ | refine el_nil ?_ | refine eq_seq ?_ | refine eq_calm ?_ | refine ej_true rfl ?_ | refine ej_false rfl ?_ | refine el_skip rfl rfl rfl ?_ | refine ej_ret ?_ | refine ej_skip ?_ | refine ej_exit ?_ | refine ej_block ?_ | refine eq_seq_ret ?_ | refine eq_seq_exit ?_ | refine eq_block ?_ | refine eq_block_exit ?_ | refine eq_block_ret ?_ | refine eq_block_exit_ne rfl ?_ | refine eq_back_ret ?_ | refine eq_back_exit ?_))
  refine ej_dec rfl (fun h1 => ?_) (fun h1 => ?_)
  · have hlt : k < bs.length := by omega
    have hx : bs[k]? = some bs[k] := by simp [hlt]
    have hs := take_snoc hx
    have hx256 := hb _ (List.getElem_mem hlt)
    have hn := hnum hlt
    have hnx : num (bs.take (k + 1)) = num (bs.take k) * 256 + bs[k] := by rw [hs, num_snoc]
    have hvx : (u8s bs)[k]? = some (u8 bs[k]) := by simp [hlt]
    have hn' : num (bs.take k) < 72057594037927936 := hn
    generalize bs[k] = x at *
    generalize num (bs.take k) = q at *
    (repeat (first | refine el_pure rfl rfl rfl rfl ?_ | refine ej_seq ?_ | refine ej_region ?_ | refine el_nil ?_ | refine eq_seq ?_ | refine eq_calm ?_ | refine ej_true rfl ?_ | refine ej_false rfl ?_ | refine el_skip rfl rfl rfl ?_ | refine ej_ret ?_ | refine ej_skip ?_ | refine ej_exit ?_ | refine ej_block ?_ | refine eq_seq_ret ?_ | refine eq_seq_exit ?_ | refine eq_block ?_ | refine eq_block_exit ?_ | refine eq_block_ret ?_ | refine eq_block_exit_ne rfl ?_ | refine eq_back_ret ?_ | refine eq_back_exit ?_ | refine el_cons rfl (eo_lenv rfl rfl rfl rfl rfl rfl ?_) | refine el_cons rfl (eo_arith rfl rfl rfl rfl rfl rfl ⟨by omega, by omega⟩ ?_)))
    refine el_cons rfl (eo_idxv rfl rfl rfl rfl rfl rfl rfl rfl rfl hV ⟨by omega, h1⟩ ?_)
    refine el_cons rfl (eo_ldv k (v := u8 x) rfl rfl rfl ?_ rfl rfl hV hvx ?_)
    · show some _ = _; simp
    refine el_cons rfl (eo_conv .u64 rfl rfl rfl rfl rfl rfl rfl rfl ⟨by omega, by omega⟩ ?_)
    (repeat (first | refine el_pure rfl rfl rfl rfl ?_ | refine ej_seq ?_ | refine ej_region ?_ | refine el_nil ?_ | refine eq_seq ?_ | refine eq_calm ?_ | refine ej_true rfl ?_ | refine ej_false rfl ?_ | refine el_skip rfl rfl rfl ?_ | refine ej_ret ?_ | refine ej_skip ?_ | refine ej_exit ?_ | refine ej_block ?_ | refine eq_seq_ret ?_ | refine eq_seq_exit ?_ | refine eq_block ?_ | refine eq_block_exit ?_ | refine eq_block_ret ?_ | refine eq_block_exit_ne rfl ?_ | refine eq_back_ret ?_ | refine eq_back_exit ?_ | refine el_cons rfl (eo_lenv rfl rfl rfl rfl rfl rfl ?_) | refine el_cons rfl (eo_arith rfl rfl rfl rfl rfl rfl ⟨by omega, by omega⟩ ?_)))
    refine eq_backP (k + 1) (by omega) (by omega) (le_cons rfl (le_cons ?_ (le_of _ _ rfl))) fun w hw => hw
    show some (Value.int .u64 ((q : Int) * 256 + (x : Int))) = some (u64 (num (bs.take (k + 1))))
    rw [hnx]; simp [u64]
  · obtain rfl : k = bs.length := by omega
    (repeat (first | refine el_pure rfl rfl rfl rfl ?_ | refine ej_seq ?_ | refine ej_region ?_ | refine el_nil ?_ | refine eq_seq ?_ | refine eq_calm ?_ | refine ej_true rfl ?_ | refine ej_false rfl ?_ | refine el_skip rfl rfl rfl ?_ | refine ej_ret ?_ | refine ej_skip ?_ | refine ej_exit ?_ | refine ej_block ?_ | refine eq_seq_ret ?_ | refine eq_seq_exit ?_ | refine eq_block ?_ | refine eq_block_exit ?_ | refine eq_block_ret ?_ | refine eq_block_exit_ne rfl ?_ | refine eq_back_ret ?_ | refine eq_back_exit ?_))
    refine eq_rett rfl fun W hW => ⟨?_, hW⟩
    simp [pack]

end Go.Proofs.Ythmmibjhhifmeaa
