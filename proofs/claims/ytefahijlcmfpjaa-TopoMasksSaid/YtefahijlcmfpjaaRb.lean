/- The document's sets, on: their number, what two have in common, their cores. -/
import Derived.Test.YtefahijlcmfpjaaRa
namespace Go.Proofs.Ytefahijlcmfpjaa
open Go Go.SE

variable {w0 : World} {l : List HP} {i j b : Nat} {r : Option (Nat × Nat)}

def b1 (b : Bool) : Nat := if b then 1 else 0
def num : List Bool → Nat
  | [] => 0
  | b :: r => b1 b + 2 * num r
theorem num_lt : ∀ bs : List Bool, num bs < 2 ^ bs.length
  | [] => by simp [num]
  | b :: r => by
    have := num_lt r
    simp only [num, List.length_cons, Nat.pow_succ, b1]
    split <;> omega
theorem num_drop (bs : List Bool) (j : Nat) (h : j < bs.length) : num (bs.drop j) = b1 bs[j] + 2 * num (bs.drop (j + 1)) := by
  rw [show bs.drop j = bs[j] :: bs.drop (j + 1) from List.drop_eq_getElem_cons h]; rfl
theorem num_drop_lt (bs : List Bool) (j : Nat) (h : bs.length = 64) (hj : 1 ≤ j) : num (bs.drop j) < 9223372036854775808 := by
  have h1 := num_lt (bs.drop j)
  rw [List.length_drop, h] at h1
  have h2 : 2 ^ (64 - j) ≤ 2 ^ 63 := Nat.pow_le_pow_right (by omega) (by omega)
  omega
theorem num_inj : ∀ xs bs : List Bool, xs.length = bs.length → num xs = num bs → xs = bs
  | [], [], _, _ => rfl
  | a :: xs, b :: bs, h, e => by
    simp only [num, b1] at e
    have h' : xs.length = bs.length := by simpa using h
    have : num xs = num bs ∧ a = b := by
      cases a <;> cases b <;> simp at e ⊢ <;> omega
    rw [num_inj xs bs h' this.1, this.2]
theorem num_range (n : Nat) : ∀ k, num ((List.range' k (64 - k)).map n.testBit) = n / 2 ^ k % 2 ^ (64 - k) := by
  intro k
  by_cases hk : 64 ≤ k
  · rw [show 64 - k = 0 by omega]; simp [num, Nat.mod_one]
  · have ih := num_range n (k + 1)
    rw [show 64 - k = (64 - (k + 1)) + 1 by omega, List.range'_succ, List.map_cons]
    simp only [num, b1, ih]
    rw [Nat.testBit_eq_decide_div_mod_eq, Nat.pow_succ, ← Nat.div_div_eq_div_mul, Nat.pow_succ, Nat.mul_comm (2 ^ (64 - (k + 1))) 2, Nat.mod_mul]
    generalize n / 2 ^ k = m
    rcases Nat.mod_two_eq_zero_or_one m with h | h <;> simp [h]
termination_by k => 64 - k
theorem num_bitsL (n : Nat) (h : n < 18446744073709551616) : num (bitsL n) = n := by
  have := num_range n 0
  simp only [Nat.sub_zero, Nat.pow_zero, Nat.div_one] at this
  rw [Nat.mod_eq_of_lt (by simpa using h)] at this
  rw [bitsL, List.range_eq_range']
  exact this

theorem Number_any (bs : List Bool) (hb : bs.length = 64) : Does cx F_ref01_Number [setV bs] (S w0 l) fun v w => v = u64 (num bs) ∧ S w0 l w := by
  refine fn_enter (n := N_ref01_Number) fn_ref01_Number rfl rfl rfl ?_
  refine ej_seq (ej_region (el_cons rfl (eo_box rfl rfl rfl rfl fun b1' => ?_)))
  (repeat (first | refine el_pure rfl rfl rfl rfl ?_ | refine ej_seq ?_ | refine ej_region ?_ | refine el_nil ?_ | refine eq_seq ?_ | refine ej_true rfl ?_ | refine ej_false rfl ?_ | refine el_skip rfl rfl rfl ?_ | refine ej_ret ?_ | refine ej_skip ?_ | refine ej_exit ?_ | refine ej_block ?_ | refine eq_seq_ret ?_ | refine eq_seq_exit ?_ | refine eq_block ?_ | refine eq_block_exit ?_ | refine eq_block_ret ?_ | refine eq_block_exit_ne rfl ?_ | refine eq_back_ret ?_ | refine eq_back_exit ?_))
  refine ej_loopP (fun j : Nat => j ≤ 64) (fun j => [(1, ptr b1'), (3, u64 (num (bs.drop j))), (4, int ((j : Int) - 1))]) (fun _ => S w0 (cells b1' T_ref01_Set (bools bs) :: l)) (fun j => j) 64 (by omega) ?_ (fun _ h => h) ?_
  · exact le_cons rfl (le_cons (show some (u64 0) = some (u64 (num (bs.drop 64))) by rw [List.drop_of_length_le (by omega)]; rfl) (le_of _ _ rfl))
  intro j hj
  (repeat (first | refine el_pure rfl rfl rfl rfl ?_ | refine ej_seq ?_ | refine ej_region ?_ | refine el_nil ?_ | refine eq_seq ?_ | refine ej_true rfl ?_ | refine ej_false rfl ?_ | refine el_skip rfl rfl rfl ?_ | refine ej_ret ?_ | refine ej_skip ?_ | refine ej_exit ?_ | refine ej_block ?_ | refine eq_seq_ret ?_ | refine eq_seq_exit ?_ | refine eq_block ?_ | refine eq_block_exit ?_ | refine eq_block_ret ?_ | refine eq_block_exit_ne rfl ?_ | refine eq_back_ret ?_ | refine eq_back_exit ?_))
  refine ej_dec rfl (fun h => ?_) (fun h => ?_)
  · have hj1 : 1 ≤ j := by omega
    have hlt : num (bs.drop j) < 9223372036854775808 := num_drop_lt bs j hb hj1
    have hk : j - 1 < bs.length := by omega
    have e1 : num (bs.drop (j - 1)) = b1 bs[j - 1] + 2 * num (bs.drop j) := by
      have := num_drop bs (j - 1) hk
      rw [show j - 1 + 1 = j by omega] at this
      exact this
    generalize hm : num (bs.drop j) = m at hlt e1
    have ex : (0 : Nat) + ((j : Int) - 1).toNat * 1 = j - 1 := by omega
    (repeat (first | refine el_pure rfl rfl rfl rfl ?_ | refine ej_seq ?_ | refine ej_region ?_ | refine el_nil ?_ | refine eq_seq ?_ | refine ej_true rfl ?_ | refine ej_false rfl ?_ | refine el_skip rfl rfl rfl ?_ | refine ej_ret ?_ | refine ej_skip ?_ | refine ej_exit ?_ | refine ej_block ?_ | refine eq_seq_ret ?_ | refine eq_seq_exit ?_ | refine eq_block ?_ | refine eq_block_exit ?_ | refine eq_block_ret ?_ | refine eq_block_exit_ne rfl ?_ | refine eq_back_ret ?_ | refine eq_back_exit ?_))
    refine el_cons rfl (eo_arith rfl rfl rfl rfl rfl rfl ⟨by omega, by omega⟩ ?_)
    (repeat (first | refine el_pure rfl rfl rfl rfl ?_ | refine ej_seq ?_ | refine ej_region ?_ | refine el_nil ?_ | refine eq_seq ?_ | refine ej_true rfl ?_ | refine ej_false rfl ?_ | refine el_skip rfl rfl rfl ?_ | refine ej_ret ?_ | refine ej_skip ?_ | refine ej_exit ?_ | refine ej_block ?_ | refine eq_seq_ret ?_ | refine eq_seq_exit ?_ | refine eq_block ?_ | refine eq_block_exit ?_ | refine eq_block_ret ?_ | refine eq_block_exit_ne rfl ?_ | refine eq_back_ret ?_ | refine eq_back_exit ?_))
    refine el_cons rfl (eo_idxa rfl rfl rfl rfl rfl rfl rfl rfl ⟨h, by show (j : Int) - 1 < 64; omega⟩ ?_)
    refine el_cons rfl (eo_ld 0 rfl rfl rfl rfl rfl rfl rfl (v := .bool bs[j - 1]) (by show (bools bs)[0 + ((j : Int) - 1).toNat * 1]? = _; rw [ex]; simp [hk]) ?_)
    (repeat (first | refine el_pure rfl rfl rfl rfl ?_ | refine ej_seq ?_ | refine ej_region ?_ | refine el_nil ?_ | refine eq_seq ?_ | refine ej_true rfl ?_ | refine ej_false rfl ?_ | refine el_skip rfl rfl rfl ?_ | refine ej_ret ?_ | refine ej_skip ?_ | refine ej_exit ?_ | refine ej_block ?_ | refine eq_seq_ret ?_ | refine eq_seq_exit ?_ | refine eq_block ?_ | refine eq_block_exit ?_ | refine eq_block_ret ?_ | refine eq_block_exit_ne rfl ?_ | refine eq_back_ret ?_ | refine eq_back_exit ?_))
    refine ej_cond rfl (fun hb1 => ?_) (fun hb1 => ?_)
    · (repeat (first | refine el_pure rfl rfl rfl rfl ?_ | refine ej_seq ?_ | refine ej_region ?_ | refine el_nil ?_ | refine eq_seq ?_ | refine ej_true rfl ?_ | refine ej_false rfl ?_ | refine el_skip rfl rfl rfl ?_ | refine ej_ret ?_ | refine ej_skip ?_ | refine ej_exit ?_ | refine ej_block ?_ | refine eq_seq_ret ?_ | refine eq_seq_exit ?_ | refine eq_block ?_ | refine eq_block_exit ?_ | refine eq_block_ret ?_ | refine eq_block_exit_ne rfl ?_ | refine eq_back_ret ?_ | refine eq_back_exit ?_))
      refine el_cons rfl (eo_arith rfl rfl rfl rfl rfl rfl ⟨by omega, by omega⟩ ?_)
      (repeat (first | refine el_pure rfl rfl rfl rfl ?_ | refine ej_seq ?_ | refine ej_region ?_ | refine el_nil ?_ | refine eq_seq ?_ | refine ej_true rfl ?_ | refine ej_false rfl ?_ | refine el_skip rfl rfl rfl ?_ | refine ej_ret ?_ | refine ej_skip ?_ | refine ej_exit ?_ | refine ej_block ?_ | refine eq_seq_ret ?_ | refine eq_seq_exit ?_ | refine eq_block ?_ | refine eq_block_exit ?_ | refine eq_block_ret ?_ | refine eq_block_exit_ne rfl ?_ | refine eq_back_ret ?_ | refine eq_back_exit ?_))
      refine el_cons rfl (eo_arith rfl rfl rfl rfl rfl rfl ⟨by omega, by omega⟩ ?_)
      (repeat (first | refine el_pure rfl rfl rfl rfl ?_ | refine ej_seq ?_ | refine ej_region ?_ | refine el_nil ?_ | refine eq_seq ?_ | refine ej_true rfl ?_ | refine ej_false rfl ?_ | refine el_skip rfl rfl rfl ?_ | refine ej_ret ?_ | refine ej_skip ?_ | refine ej_exit ?_ | refine ej_block ?_ | refine eq_seq_ret ?_ | refine eq_seq_exit ?_ | refine eq_block ?_ | refine eq_block_exit ?_ | refine eq_block_ret ?_ | refine eq_block_exit_ne rfl ?_ | refine eq_back_ret ?_ | refine eq_back_exit ?_))
      refine eq_backP (j - 1) (by omega) (by omega) ?_ (fun _ h => h)
      refine le_cons rfl (le_cons ?_ (le_cons ?_ (le_nil _)))
      · show some (Value.int .u64 ((m : Int) * 2 + 1)) = some (u64 (num (bs.drop (j - 1))))
        rw [e1, hb1]
        simp only [b1, if_true, u64]
        congr 2; omega
      · show some (Value.int .i64 ((j : Int) - 1 - 1)) = some (int (((j - 1 : Nat) : Int) - 1))
        congr 2; omega
    · (repeat (first | refine el_pure rfl rfl rfl rfl ?_ | refine ej_seq ?_ | refine ej_region ?_ | refine el_nil ?_ | refine eq_seq ?_ | refine ej_true rfl ?_ | refine ej_false rfl ?_ | refine el_skip rfl rfl rfl ?_ | refine ej_ret ?_ | refine ej_skip ?_ | refine ej_exit ?_ | refine ej_block ?_ | refine eq_seq_ret ?_ | refine eq_seq_exit ?_ | refine eq_block ?_ | refine eq_block_exit ?_ | refine eq_block_ret ?_ | refine eq_block_exit_ne rfl ?_ | refine eq_back_ret ?_ | refine eq_back_exit ?_))
      refine el_cons rfl (eo_arith rfl rfl rfl rfl rfl rfl ⟨by omega, by omega⟩ ?_)
      (repeat (first | refine el_pure rfl rfl rfl rfl ?_ | refine ej_seq ?_ | refine ej_region ?_ | refine el_nil ?_ | refine eq_seq ?_ | refine ej_true rfl ?_ | refine ej_false rfl ?_ | refine el_skip rfl rfl rfl ?_ | refine ej_ret ?_ | refine ej_skip ?_ | refine ej_exit ?_ | refine ej_block ?_ | refine eq_seq_ret ?_ | refine eq_seq_exit ?_ | refine eq_block ?_ | refine eq_block_exit ?_ | refine eq_block_ret ?_ | refine eq_block_exit_ne rfl ?_ | refine eq_back_ret ?_ | refine eq_back_exit ?_))
      refine eq_backP (j - 1) (by omega) (by omega) ?_ (fun _ h => h)
      refine le_cons rfl (le_cons ?_ (le_cons ?_ (le_nil _)))
      · show some (Value.int .u64 ((m : Int) * 2)) = some (u64 (num (bs.drop (j - 1))))
        rw [e1, hb1]
        simp only [b1, u64]
        congr 2; simp; omega
      · show some (Value.int .i64 ((j : Int) - 1 - 1)) = some (int (((j - 1 : Nat) : Int) - 1))
        congr 2; omega
  · obtain rfl : j = 0 := by omega
    (repeat (first | refine el_pure rfl rfl rfl rfl ?_ | refine ej_seq ?_ | refine ej_region ?_ | refine el_nil ?_ | refine eq_seq ?_ | refine ej_true rfl ?_ | refine ej_false rfl ?_ | refine el_skip rfl rfl rfl ?_ | refine ej_ret ?_ | refine ej_skip ?_ | refine ej_exit ?_ | refine ej_block ?_ | refine eq_seq_ret ?_ | refine eq_seq_exit ?_ | refine eq_block ?_ | refine eq_block_exit ?_ | refine eq_block_ret ?_ | refine eq_block_exit_ne rfl ?_ | refine eq_back_ret ?_ | refine eq_back_exit ?_))
    exact eq_rett rfl fun w hw => ⟨rfl, hw.erase 0⟩

theorem LawIs_any (s : Nat) (bs : List Bool) (hb : bs.length = 64) : Does cx F_law01_Is [u64 s, setV bs] (S w0 l) fun v w => v = .bool (decide (s = num bs)) ∧ S w0 l w := by
  refine fn_enter (n := N_law01_Is) fn_law01_Is rfl rfl rfl ?_
  refine ej_seq (ej_region (el_cons rfl (eo_box rfl rfl rfl rfl fun b1' => ?_)))
  (repeat (first | refine el_pure rfl rfl rfl rfl ?_ | refine ej_seq ?_ | refine ej_region ?_ | refine el_nil ?_ | refine eq_seq ?_ | refine ej_true rfl ?_ | refine ej_false rfl ?_ | refine el_skip rfl rfl rfl ?_ | refine ej_ret ?_ | refine ej_skip ?_ | refine ej_exit ?_ | refine ej_block ?_ | refine eq_seq_ret ?_ | refine eq_seq_exit ?_ | refine eq_block ?_ | refine eq_block_exit ?_ | refine eq_block_ret ?_ | refine eq_block_exit_ne rfl ?_ | refine eq_back_ret ?_ | refine eq_back_exit ?_))
  refine el_cons rfl (eo_ldW 0 rfl rfl rfl rfl rfl rfl rfl (by show (bools bs).length = 64; simp [hb]) ?_)
  refine el_cons rfl (eo_call1 rfl rfl rfl rfl rfl real_ref01_Number (Number_any _ hb) ?_)
  (repeat (first | refine el_pure rfl rfl rfl rfl ?_ | refine ej_seq ?_ | refine ej_region ?_ | refine el_nil ?_ | refine eq_seq ?_ | refine ej_true rfl ?_ | refine ej_false rfl ?_ | refine el_skip rfl rfl rfl ?_ | refine ej_ret ?_ | refine ej_skip ?_ | refine ej_exit ?_ | refine ej_block ?_ | refine eq_seq_ret ?_ | refine eq_seq_exit ?_ | refine eq_block ?_ | refine eq_block_exit ?_ | refine eq_block_ret ?_ | refine eq_block_exit_ne rfl ?_ | refine eq_back_ret ?_ | refine eq_back_exit ?_))
  refine eq_rett rfl fun w hw => ⟨?_, hw.erase 0⟩
  simp only [pack]
  congr 2
  apply propext
  omega

theorem Core_ref (c : Int) (H : WP) : Does cx F_ref01_Core [int c] H fun v w => v = .bool (decide (core c)) ∧ H w := by
  refine fn_enter (n := N_ref01_Core) fn_ref01_Core rfl rfl rfl ?_
  (repeat' (first | refine el_pure rfl rfl rfl rfl ?_ | refine ej_seq ?_ | refine ej_region ?_ | refine el_nil ?_ | refine eq_seq ?_ | refine ej_true rfl ?_ | refine ej_false rfl ?_ | refine el_skip rfl rfl rfl ?_ | refine ej_ret ?_ | refine ej_skip ?_ | refine ej_exit ?_ | refine ej_block ?_ | refine eq_seq_ret ?_ | refine eq_seq_exit ?_ | refine eq_block ?_ | refine eq_block_exit ?_ | refine eq_block_ret ?_ | refine eq_block_exit_ne rfl ?_ | refine eq_back_ret ?_ | refine eq_back_exit ?_ | (refine ej_dec rfl (fun h => ?_) (fun h => ?_)) | ((fail_if_success refine el_gt rfl rfl ?_); (fail_if_success refine el_gf rfl rfl ?_); refine el_gdec rfl rfl (fun h => ?_) (fun h => ?_)) | (refine ej_cond rfl (fun h => ?_) (fun h => ?_)) | ((fail_if_success refine el_gt rfl rfl ?_); (fail_if_success refine el_gf rfl rfl ?_); refine el_gsplit rfl rfl (fun h => ?_) (fun h => ?_))))
  all_goals (refine eq_rett rfl fun w hw => ⟨?_, hw⟩)
  all_goals simp [pack, core, *]

def both (xs bs : List Bool) : List Bool := xs.zipWith (· && ·) bs
theorem both_length (xs bs : List Bool) (ha : xs.length = 64) (hb : bs.length = 64) : (both xs bs).length = 64 := by simp [both, ha, hb]

theorem Both_any (xs bs : List Bool) (ha : xs.length = 64) (hb : bs.length = 64) : Does cx F_ref01_Both [setV xs, setV bs] (S w0 l) fun v w => v = setV (both xs bs) ∧ S w0 l w := by
  refine fn_enter (n := N_ref01_Both) fn_ref01_Both rfl rfl rfl ?_
  refine ej_seq (ej_region (el_cons rfl (eo_box rfl rfl rfl rfl fun b2 => el_cons rfl (eo_box rfl rfl rfl rfl fun b3 => el_cons rfl (eo_alloc rfl rfl rfl rfl fun b4 => ?_)))))
  (repeat (first | refine el_pure rfl rfl rfl rfl ?_ | refine ej_seq ?_ | refine ej_region ?_ | refine el_nil ?_ | refine eq_seq ?_ | refine ej_true rfl ?_ | refine ej_false rfl ?_ | refine el_skip rfl rfl rfl ?_ | refine ej_ret ?_ | refine ej_skip ?_ | refine ej_exit ?_ | refine ej_block ?_ | refine eq_seq_ret ?_ | refine eq_seq_exit ?_ | refine eq_block ?_ | refine eq_block_exit ?_ | refine eq_block_ret ?_ | refine eq_block_exit_ne rfl ?_ | refine eq_back_ret ?_ | refine eq_back_exit ?_))
  have hlen : xs.length = (both xs bs).length := by rw [both_length _ _ ha hb, ha]
  refine ej_loopP (fun k : Nat => k ≤ 64) (fun k => [(2, ptr b2), (3, ptr b3), (4, ptr b4), (6, int k)])
    (fun k => S w0 (cells b4 T_ref01_Set (bools falses) :: cells b3 T_ref01_Set (bools bs) :: cells b2 T_ref01_Set (bools (mix (both xs bs) xs k)) :: l)) (fun k => 64 - k) 0 (by omega) (le_of _ _ rfl) ?_ ?_
  · intro w hw
    rw [mix_zero, ← rep_bool]
    exact hw
  intro k hk
  (repeat (first | refine el_pure rfl rfl rfl rfl ?_ | refine ej_seq ?_ | refine ej_region ?_ | refine el_nil ?_ | refine eq_seq ?_ | refine ej_true rfl ?_ | refine ej_false rfl ?_ | refine el_skip rfl rfl rfl ?_ | refine ej_ret ?_ | refine ej_skip ?_ | refine ej_exit ?_ | refine ej_block ?_ | refine eq_seq_ret ?_ | refine eq_seq_exit ?_ | refine eq_block ?_ | refine eq_block_exit ?_ | refine eq_block_ret ?_ | refine eq_block_exit_ne rfl ?_ | refine eq_back_ret ?_ | refine eq_back_exit ?_))
  refine ej_dec rfl (fun h => ?_) (fun h => ?_)
  · have hk' : k < (both xs bs).length := by rw [both_length _ _ ha hb]; omega
    have hk1 : k < xs.length := by omega
    have hk2 : k < bs.length := by omega
    have ex : (0 : Nat) + (k : Int).toNat * 1 = k := by omega
    have eb : (both xs bs)[k] = (xs[k] && bs[k]) := by simp [both]
    have fin : ∀ c : Bool, c = (xs[k] && bs[k]) → splice (bools (mix (both xs bs) xs k)) (0 + (k : Int).toNat * 1) (Value.bool c).cells.toList = bools (mix (both xs bs) xs (k + 1)) := by
      intro c hc
      rw [ex, hc, ← eb, ← mix_set _ _ k hlen hk']
      simp [splice, Value.cells, bools, List.map_set]
    have hx : (bools (mix (both xs bs) xs k))[0 + (k : Int).toNat * 1]? = some (.bool xs[k]) := by
      rw [ex, List.getElem?_map, mix_get _ _ k hk', List.getElem?_eq_getElem hk1]; rfl
    have hy : (bools bs)[0 + (k : Int).toNat * 1]? = some (.bool bs[k]) := by rw [ex]; simp [hk2]
    have hl : Nat.ble (0 + (k : Int).toNat * 1 + 1) (bools (mix (both xs bs) xs k)).length = true := Nat.ble_eq_true_of_le (by rw [ex, List.length_map, mix_length _ _ k hlen]; omega)
    have hk3 : (k : Int) < ((64 : Nat) : Int) := h
    generalize hvx : xs[k] = vx at *
    generalize hvy : bs[k] = vy at *
    (repeat (first | refine el_pure rfl rfl rfl rfl ?_ | refine ej_seq ?_ | refine ej_region ?_ | refine el_nil ?_ | refine eq_seq ?_ | refine ej_true rfl ?_ | refine ej_false rfl ?_ | refine el_skip rfl rfl rfl ?_ | refine ej_ret ?_ | refine ej_skip ?_ | refine ej_exit ?_ | refine ej_block ?_ | refine eq_seq_ret ?_ | refine eq_seq_exit ?_ | refine eq_block ?_ | refine eq_block_exit ?_ | refine eq_block_ret ?_ | refine eq_block_exit_ne rfl ?_ | refine eq_back_ret ?_ | refine eq_back_exit ?_))
    refine el_cons rfl (eo_idxa rfl rfl rfl rfl rfl rfl rfl rfl ⟨by omega, hk3⟩ ?_)
    refine el_cons rfl (eo_ld 2 rfl rfl rfl rfl rfl rfl rfl hx ?_)
    cases vx with
    | true =>
      (repeat (first | refine el_pure rfl rfl rfl rfl ?_ | refine ej_seq ?_ | refine ej_region ?_ | refine el_nil ?_ | refine eq_seq ?_ | refine ej_true rfl ?_ | refine ej_false rfl ?_ | refine el_skip rfl rfl rfl ?_ | refine ej_ret ?_ | refine ej_skip ?_ | refine ej_exit ?_ | refine ej_block ?_ | refine eq_seq_ret ?_ | refine eq_seq_exit ?_ | refine eq_block ?_ | refine eq_block_exit ?_ | refine eq_block_ret ?_ | refine eq_block_exit_ne rfl ?_ | refine eq_back_ret ?_ | refine eq_back_exit ?_))
      refine el_cons rfl (eo_idxa rfl rfl rfl rfl rfl rfl rfl rfl ⟨by omega, hk3⟩ ?_)
      refine el_cons rfl (eo_ld 1 rfl rfl rfl rfl rfl rfl rfl hy ?_)
      (repeat (first | refine el_pure rfl rfl rfl rfl ?_ | refine ej_seq ?_ | refine ej_region ?_ | refine el_nil ?_ | refine eq_seq ?_ | refine ej_true rfl ?_ | refine ej_false rfl ?_ | refine el_skip rfl rfl rfl ?_ | refine ej_ret ?_ | refine ej_skip ?_ | refine ej_exit ?_ | refine ej_block ?_ | refine eq_seq_ret ?_ | refine eq_seq_exit ?_ | refine eq_block ?_ | refine eq_block_exit ?_ | refine eq_block_ret ?_ | refine eq_block_exit_ne rfl ?_ | refine eq_back_ret ?_ | refine eq_back_exit ?_))
      refine el_cons rfl (eo_idxa rfl rfl rfl rfl rfl rfl rfl rfl ⟨by omega, hk3⟩ ?_)
      refine el_cons rfl (eo_st 2 rfl rfl rfl rfl rfl rfl rfl rfl hl ?_)
      rw [fin vy (by simp)]
      (repeat (first | refine el_pure rfl rfl rfl rfl ?_ | refine ej_seq ?_ | refine ej_region ?_ | refine el_nil ?_ | refine eq_seq ?_ | refine ej_true rfl ?_ | refine ej_false rfl ?_ | refine el_skip rfl rfl rfl ?_ | refine ej_ret ?_ | refine ej_skip ?_ | refine ej_exit ?_ | refine ej_block ?_ | refine eq_seq_ret ?_ | refine eq_seq_exit ?_ | refine eq_block ?_ | refine eq_block_exit ?_ | refine eq_block_ret ?_ | refine eq_block_exit_ne rfl ?_ | refine eq_back_ret ?_ | refine eq_back_exit ?_))
      refine el_cons rfl (eo_arith rfl rfl rfl rfl rfl rfl ⟨by omega, by omega⟩ ?_)
      (repeat (first | refine el_pure rfl rfl rfl rfl ?_ | refine ej_seq ?_ | refine ej_region ?_ | refine el_nil ?_ | refine eq_seq ?_ | refine ej_true rfl ?_ | refine ej_false rfl ?_ | refine el_skip rfl rfl rfl ?_ | refine ej_ret ?_ | refine ej_skip ?_ | refine ej_exit ?_ | refine ej_block ?_ | refine eq_seq_ret ?_ | refine eq_seq_exit ?_ | refine eq_block ?_ | refine eq_block_exit ?_ | refine eq_block_ret ?_ | refine eq_block_exit_ne rfl ?_ | refine eq_back_ret ?_ | refine eq_back_exit ?_))
      exact eq_backP (k + 1) (by omega) (by omega) (le_of _ _ rfl) (fun _ h => h)
    | false =>
      (repeat (first | refine el_pure rfl rfl rfl rfl ?_ | refine ej_seq ?_ | refine ej_region ?_ | refine el_nil ?_ | refine eq_seq ?_ | refine ej_true rfl ?_ | refine ej_false rfl ?_ | refine el_skip rfl rfl rfl ?_ | refine ej_ret ?_ | refine ej_skip ?_ | refine ej_exit ?_ | refine ej_block ?_ | refine eq_seq_ret ?_ | refine eq_seq_exit ?_ | refine eq_block ?_ | refine eq_block_exit ?_ | refine eq_block_ret ?_ | refine eq_block_exit_ne rfl ?_ | refine eq_back_ret ?_ | refine eq_back_exit ?_))
      refine el_cons rfl (eo_idxa rfl rfl rfl rfl rfl rfl rfl rfl ⟨by omega, hk3⟩ ?_)
      refine el_cons rfl (eo_st 2 rfl rfl rfl rfl rfl rfl rfl rfl hl ?_)
      rw [fin false (by simp)]
      (repeat (first | refine el_pure rfl rfl rfl rfl ?_ | refine ej_seq ?_ | refine ej_region ?_ | refine el_nil ?_ | refine eq_seq ?_ | refine ej_true rfl ?_ | refine ej_false rfl ?_ | refine el_skip rfl rfl rfl ?_ | refine ej_ret ?_ | refine ej_skip ?_ | refine ej_exit ?_ | refine ej_block ?_ | refine eq_seq_ret ?_ | refine eq_seq_exit ?_ | refine eq_block ?_ | refine eq_block_exit ?_ | refine eq_block_ret ?_ | refine eq_block_exit_ne rfl ?_ | refine eq_back_ret ?_ | refine eq_back_exit ?_))
      refine el_cons rfl (eo_arith rfl rfl rfl rfl rfl rfl ⟨by omega, by omega⟩ ?_)
      (repeat (first | refine el_pure rfl rfl rfl rfl ?_ | refine ej_seq ?_ | refine ej_region ?_ | refine el_nil ?_ | refine eq_seq ?_ | refine ej_true rfl ?_ | refine ej_false rfl ?_ | refine el_skip rfl rfl rfl ?_ | refine ej_ret ?_ | refine ej_skip ?_ | refine ej_exit ?_ | refine ej_block ?_ | refine eq_seq_ret ?_ | refine eq_seq_exit ?_ | refine eq_block ?_ | refine eq_block_exit ?_ | refine eq_block_ret ?_ | refine eq_block_exit_ne rfl ?_ | refine eq_back_ret ?_ | refine eq_back_exit ?_))
      exact eq_backP (k + 1) (by omega) (by omega) (le_of _ _ rfl) (fun _ h => h)
  · obtain rfl : k = 64 := by omega
    rw [show mix (both xs bs) xs 64 = both xs bs from by
      have := mix_all (both xs bs) xs hlen
      rwa [both_length _ _ ha hb] at this]
    (repeat (first | refine el_pure rfl rfl rfl rfl ?_ | refine ej_seq ?_ | refine ej_region ?_ | refine el_nil ?_ | refine eq_seq ?_ | refine ej_true rfl ?_ | refine ej_false rfl ?_ | refine el_skip rfl rfl rfl ?_ | refine ej_ret ?_ | refine ej_skip ?_ | refine ej_exit ?_ | refine ej_block ?_ | refine eq_seq_ret ?_ | refine eq_seq_exit ?_ | refine eq_block ?_ | refine eq_block_exit ?_ | refine eq_block_ret ?_ | refine eq_block_exit_ne rfl ?_ | refine eq_back_ret ?_ | refine eq_back_exit ?_))
    refine el_cons rfl (eo_ldW 2 rfl rfl rfl rfl rfl rfl rfl (by show (bools _).length = 64; simp [both_length _ _ ha hb]) ?_)
    refine el_cons rfl (eo_stA 0 rfl rfl rfl rfl rfl (by show (bools _).length = 64; simp [both_length _ _ ha hb]) (all_bools _) rfl (by show (bools _).length = 64; simp [falses_length]) ?_)
    (repeat (first | refine el_pure rfl rfl rfl rfl ?_ | refine ej_seq ?_ | refine ej_region ?_ | refine el_nil ?_ | refine eq_seq ?_ | refine ej_true rfl ?_ | refine ej_false rfl ?_ | refine el_skip rfl rfl rfl ?_ | refine ej_ret ?_ | refine ej_skip ?_ | refine ej_exit ?_ | refine ej_block ?_ | refine eq_seq_ret ?_ | refine eq_seq_exit ?_ | refine eq_block ?_ | refine eq_block_exit ?_ | refine eq_block_ret ?_ | refine eq_block_exit_ne rfl ?_ | refine eq_back_ret ?_ | refine eq_back_exit ?_))
    exact eq_ret _ (rvs_cell 0 rfl rfl rfl rfl (by show (bools _).length = 64; simp [both_length _ _ ha hb]) rvs_nil) fun w hw => ⟨rfl, hw.drop 3⟩

/-- a set's cores, rising -/
def coresTo (bs : List Bool) : Nat → List Int
  | 0 => []
  | k + 1 => coresTo bs k ++ if bs.getD k false then [(k : Int)] else []
def coresL (bs : List Bool) : List Int := coresTo bs 64
theorem coresTo_le (bs : List Bool) : ∀ k, (coresTo bs k).length ≤ k
  | 0 => by simp [coresTo]
  | k + 1 => by
    have := coresTo_le bs k
    simp only [coresTo, List.length_append]
    split <;> simp <;> omega

theorem Cores_ref (bs : List Bool) (hb : bs.length = 64) : Does cx F_ref01_Cores [setV bs] (S w0 l) fun v w => ∃ r', v = sv r' (coresL bs).length ∧ True ∧ S w0 (rowC r' T_int 1 (ints (coresL bs)) (coresL bs).length :: l) w := by
  refine fn_enter (n := N_ref01_Cores) fn_ref01_Cores rfl rfl rfl ?_
  refine ej_seq (ej_region (el_cons rfl (eo_box rfl rfl rfl rfl fun b1' => ?_)))
  (repeat (first | refine el_pure rfl rfl rfl rfl ?_ | refine ej_seq ?_ | refine ej_region ?_ | refine el_nil ?_ | refine eq_seq ?_ | refine ej_true rfl ?_ | refine ej_false rfl ?_ | refine el_skip rfl rfl rfl ?_ | refine ej_ret ?_ | refine ej_skip ?_ | refine ej_exit ?_ | refine ej_block ?_ | refine eq_seq_ret ?_ | refine eq_seq_exit ?_ | refine eq_block ?_ | refine eq_block_exit ?_ | refine eq_block_ret ?_ | refine eq_block_exit_ne rfl ?_ | refine eq_back_ret ?_ | refine eq_back_exit ?_))
  refine ej_loopP (α := Nat × Option (Nat × Nat)) (fun x => x.1 ≤ 64) (fun x => [(1, ptr b1'), (3, sv x.2 (coresTo bs x.1).length), (5, int x.1)])
    (fun x => S w0 (rowC x.2 T_int 1 (ints (coresTo bs x.1)) (coresTo bs x.1).length :: cells b1' T_ref01_Set (bools bs) :: l)) (fun x => 64 - x.1) (0, none) (by omega) (le_of _ _ rfl) ?_ ?_
  · exact fun w hw => hw.row_new
  rintro ⟨k, r'⟩ hk
  have hk : k ≤ 64 := hk
  (repeat (first | refine el_pure rfl rfl rfl rfl ?_ | refine ej_seq ?_ | refine ej_region ?_ | refine el_nil ?_ | refine eq_seq ?_ | refine ej_true rfl ?_ | refine ej_false rfl ?_ | refine el_skip rfl rfl rfl ?_ | refine ej_ret ?_ | refine ej_skip ?_ | refine ej_exit ?_ | refine ej_block ?_ | refine eq_seq_ret ?_ | refine eq_seq_exit ?_ | refine eq_block ?_ | refine eq_block_exit ?_ | refine eq_block_ret ?_ | refine eq_block_exit_ne rfl ?_ | refine eq_back_ret ?_ | refine eq_back_exit ?_))
  refine ej_dec rfl (fun h => ?_) (fun h => ?_)
  · have h : (k : Int) < 64 := h
    have hk1 : k < bs.length := by omega
    have ex : (0 : Nat) + (k : Int).toNat * 1 = k := by omega
    have hy : (bools bs)[0 + (k : Int).toNat * 1]? = some (.bool bs[k]) := by rw [ex]; simp [hk1]
    have e1 : coresTo bs (k + 1) = coresTo bs k ++ if bs[k] then [(k : Int)] else [] := by
      simp only [coresTo, List.getD_eq_getElem?_getD, List.getElem?_eq_getElem hk1, Option.getD_some]
    have hle := coresTo_le bs k
    generalize hvy : bs[k] = vy at *
    (repeat (first | refine el_pure rfl rfl rfl rfl ?_ | refine ej_seq ?_ | refine ej_region ?_ | refine el_nil ?_ | refine eq_seq ?_ | refine ej_true rfl ?_ | refine ej_false rfl ?_ | refine el_skip rfl rfl rfl ?_ | refine ej_ret ?_ | refine ej_skip ?_ | refine ej_exit ?_ | refine ej_block ?_ | refine eq_seq_ret ?_ | refine eq_seq_exit ?_ | refine eq_block ?_ | refine eq_block_exit ?_ | refine eq_block_ret ?_ | refine eq_block_exit_ne rfl ?_ | refine eq_back_ret ?_ | refine eq_back_exit ?_))
    refine el_cons rfl (eo_idxa rfl rfl rfl rfl rfl rfl rfl rfl ⟨by omega, by show (k : Int) < ((64 : Nat) : Int); exact h⟩ ?_)
    refine el_cons rfl (eo_ld 1 rfl rfl rfl rfl rfl rfl rfl hy ?_)
    cases vy with
    | true =>
      (repeat (first | refine el_pure rfl rfl rfl rfl ?_ | refine ej_seq ?_ | refine ej_region ?_ | refine el_nil ?_ | refine eq_seq ?_ | refine ej_true rfl ?_ | refine ej_false rfl ?_ | refine el_skip rfl rfl rfl ?_ | refine ej_ret ?_ | refine ej_skip ?_ | refine ej_exit ?_ | refine ej_block ?_ | refine eq_seq_ret ?_ | refine eq_seq_exit ?_ | refine eq_block ?_ | refine eq_block_exit ?_ | refine eq_block_ret ?_ | refine eq_block_exit_ne rfl ?_ | refine eq_back_ret ?_ | refine eq_back_exit ?_))
      refine el_cons rfl (eo_buildS rfl rfl rfl rfl rfl rfl rfl rfl rfl rfl fun b2 => ?_)
      refine el_cons rfl (eo_append 1 [int k] rfl rfl rfl rfl rfl rfl rfl rfl rfl rfl rfl (fun w hw j u hu => ?_) rfl (by decide) ?_ ?_ fun r2 => ?_)
      · rw [addr_add, Nat.zero_add]; exact hw.cell (i := 0) rfl hu
      · show ((coresTo bs k).length + 1) * 8 ≤ 140737488355328; omega
      · show (coresTo bs k).length + 1 ≤ 9223372036854775807; omega
      (repeat (first | refine el_pure rfl rfl rfl rfl ?_ | refine ej_seq ?_ | refine ej_region ?_ | refine el_nil ?_ | refine eq_seq ?_ | refine ej_true rfl ?_ | refine ej_false rfl ?_ | refine el_skip rfl rfl rfl ?_ | refine ej_ret ?_ | refine ej_skip ?_ | refine ej_exit ?_ | refine ej_block ?_ | refine eq_seq_ret ?_ | refine eq_seq_exit ?_ | refine eq_block ?_ | refine eq_block_exit ?_ | refine eq_block_ret ?_ | refine eq_block_exit_ne rfl ?_ | refine eq_back_ret ?_ | refine eq_back_exit ?_))
      refine el_cons rfl (eo_arith rfl rfl rfl rfl rfl rfl ⟨by omega, by omega⟩ ?_)
      (repeat (first | refine el_pure rfl rfl rfl rfl ?_ | refine ej_seq ?_ | refine ej_region ?_ | refine el_nil ?_ | refine eq_seq ?_ | refine ej_true rfl ?_ | refine ej_false rfl ?_ | refine el_skip rfl rfl rfl ?_ | refine ej_ret ?_ | refine ej_skip ?_ | refine ej_exit ?_ | refine ej_block ?_ | refine eq_seq_ret ?_ | refine eq_seq_exit ?_ | refine eq_block ?_ | refine eq_block_exit ?_ | refine eq_block_ret ?_ | refine eq_block_exit_ne rfl ?_ | refine eq_back_ret ?_ | refine eq_back_exit ?_))
      have e2 : coresTo bs (k + 1) = coresTo bs k ++ [(k : Int)] := e1
      refine eq_backP (k + 1, r2) (by show k + 1 ≤ 64; omega) (by show 64 - (k + 1) < 64 - k; omega) ?_ ?_
      · refine le_cons rfl (le_cons ?_ (le_of _ _ rfl))
        show some (sv r2 ((coresTo bs k).length + 1)) = some (sv r2 (coresTo bs (k + 1)).length)
        rw [e2, List.length_append]; rfl
      · intro w hw
        show S w0 (rowC r2 T_int 1 (ints (coresTo bs (k + 1))) (coresTo bs (k + 1)).length :: cells b1' T_ref01_Set (bools bs) :: l) w
        rw [e2, List.length_append, ints, List.map_append]
        exact hw.erase 0
    | false =>
      (repeat (first | refine el_pure rfl rfl rfl rfl ?_ | refine ej_seq ?_ | refine ej_region ?_ | refine el_nil ?_ | refine eq_seq ?_ | refine ej_true rfl ?_ | refine ej_false rfl ?_ | refine el_skip rfl rfl rfl ?_ | refine ej_ret ?_ | refine ej_skip ?_ | refine ej_exit ?_ | refine ej_block ?_ | refine eq_seq_ret ?_ | refine eq_seq_exit ?_ | refine eq_block ?_ | refine eq_block_exit ?_ | refine eq_block_ret ?_ | refine eq_block_exit_ne rfl ?_ | refine eq_back_ret ?_ | refine eq_back_exit ?_))
      refine el_cons rfl (eo_arith rfl rfl rfl rfl rfl rfl ⟨by omega, by omega⟩ ?_)
      (repeat (first | refine el_pure rfl rfl rfl rfl ?_ | refine ej_seq ?_ | refine ej_region ?_ | refine el_nil ?_ | refine eq_seq ?_ | refine ej_true rfl ?_ | refine ej_false rfl ?_ | refine el_skip rfl rfl rfl ?_ | refine ej_ret ?_ | refine ej_skip ?_ | refine ej_exit ?_ | refine ej_block ?_ | refine eq_seq_ret ?_ | refine eq_seq_exit ?_ | refine eq_block ?_ | refine eq_block_exit ?_ | refine eq_block_ret ?_ | refine eq_block_exit_ne rfl ?_ | refine eq_back_ret ?_ | refine eq_back_exit ?_))
      have e2 : coresTo bs (k + 1) = coresTo bs k := by rw [e1]; simp
      refine eq_backP (k + 1, r') (by show k + 1 ≤ 64; omega) (by show 64 - (k + 1) < 64 - k; omega) ?_ ?_
      · refine le_cons rfl (le_cons ?_ (le_of _ _ rfl))
        show some (sv r' (coresTo bs k).length) = some (sv r' (coresTo bs (k + 1)).length)
        rw [e2]
      · intro w hw
        show S w0 (rowC r' T_int 1 (ints (coresTo bs (k + 1))) (coresTo bs (k + 1)).length :: cells b1' T_ref01_Set (bools bs) :: l) w
        rw [e2]
        exact hw
  · have h : ¬ (k : Int) < 64 := h
    obtain rfl : k = 64 := by omega
    (repeat (first | refine el_pure rfl rfl rfl rfl ?_ | refine ej_seq ?_ | refine ej_region ?_ | refine el_nil ?_ | refine eq_seq ?_ | refine ej_true rfl ?_ | refine ej_false rfl ?_ | refine el_skip rfl rfl rfl ?_ | refine ej_ret ?_ | refine ej_skip ?_ | refine ej_exit ?_ | refine ej_block ?_ | refine eq_seq_ret ?_ | refine eq_seq_exit ?_ | refine eq_block ?_ | refine eq_block_exit ?_ | refine eq_block_ret ?_ | refine eq_block_exit_ne rfl ?_ | refine eq_back_ret ?_ | refine eq_back_exit ?_))
    exact eq_rett rfl fun w hw => ⟨r', rfl, trivial, hw.erase 1⟩

end Go.Proofs.Ytefahijlcmfpjaa
