/- The document's sets: 64 answers. -/
import Derived.Test.YtkpbpjnabbfdiaaAa
import Derived.Test.YtkpbpjnabbfdiaaSEj
namespace Go.Proofs.Ytkpbpjnabbfdiaa
open Go Go.SE

variable {w0 : World} {l : List HP} {i j b : Nat} {r : Option (Nat × Nat)}

abbrev ptr (b : Nat) : Value := .pointer (some ⟨b, 0, none⟩)
abbrev int (i : Int) : Value := .int .i64 i
abbrev bools (bs : List Bool) : List Value := bs.map Value.bool
abbrev ints (xs : List Int) : List Value := xs.map (Value.int .i64)
abbrev setV (bs : List Bool) : Value := .agg (bools bs).toArray

/-- the first k of the one, then those of the other -/
def mix {α : Type} (new old : List α) (k : Nat) : List α := new.take k ++ old.drop k
theorem mix_zero {α : Type} (new old : List α) : mix new old 0 = old := by simp [mix]
theorem mix_all {α : Type} (new old : List α) (h : old.length = new.length) : mix new old new.length = new := by simp [mix, List.drop_of_length_le (Nat.le_of_eq h)]
theorem mix_length {α : Type} (new old : List α) (k : Nat) (h : old.length = new.length) : (mix new old k).length = new.length := by simp [mix]; omega
theorem mix_get {α : Type} (new old : List α) (k : Nat) (hk : k < new.length) : (mix new old k)[k]? = old[k]? := by
  unfold mix
  rw [List.getElem?_append_right (by simp; omega)]
  simp [List.length_take, Nat.min_eq_left (Nat.le_of_lt hk)]
theorem mix_get_ge {α : Type} (new old : List α) (k j : Nat) (hk : k ≤ new.length) (hj : k ≤ j) : (mix new old k)[j]? = old[j]? := by
  unfold mix
  rw [List.getElem?_append_right (by simp; omega)]
  simp only [List.length_take, Nat.min_eq_left hk, List.getElem?_drop]
  congr 1; omega
theorem mix_set {α : Type} (new old : List α) (k : Nat) (h : old.length = new.length) (hk : k < new.length) : (mix new old k).set k new[k] = mix new old (k + 1) := by
  unfold mix
  have hk' : k < old.length := by omega
  rw [List.set_append_right _ _ (by simp; omega), List.take_succ_eq_append_getElem hk]
  rw [show old.drop k = old[k] :: old.drop (k + 1) from List.drop_eq_getElem_cons hk', show k - (new.take k).length = 0 by simp; omega, List.set_cons_zero, List.append_assoc, List.singleton_append]

theorem all_bools (bs : List Bool) : (bools bs).all one = true := by simp [bools, one]
theorem all_ints (xs : List Int) : (ints xs).all one = true := by simp [ints, one]
def bitsL (n : Nat) : List Bool := (List.range 64).map n.testBit
theorem bitsL_length (n : Nat) : (bitsL n).length = 64 := by simp [bitsL]
theorem bitsL_get (n k : Nat) (h : k < (bitsL n).length) : (bitsL n)[k] = n.testBit k := by simp [bitsL]

def falses : List Bool := List.replicate 64 false
theorem falses_length : falses.length = 64 := by simp [falses]
theorem rep_bool : (List.replicate 64 (Value.bool false)) = bools falses := by simp [bools, falses]

theorem bit_mod (n k : Nat) : decide (((n / 2 ^ k : Nat) : Int) % 2 = 1) = n.testBit k := by
  rw [Nat.testBit_eq_decide_div_mod_eq]
  congr 1
  apply propext
  omega

theorem half_in {m : Nat} (h : m < 18446744073709551616) : inR .u64 ((m : Int) / 2) := ⟨by omega, by omega⟩
theorem Bits_any (n : Nat) (hn : n < 18446744073709551616) : Does cx F_ref01_Bits [u64 n] (S w0 l) fun v w => v = setV (bitsL n) ∧ S w0 l w := by
  refine fn_enter (n := N_ref01_Bits) fn_ref01_Bits rfl rfl rfl ?_
  refine ej_seq (ej_region (el_cons rfl (eo_alloc rfl rfl rfl rfl fun b2 => ?_)))
  (repeat (first | refine el_pure rfl rfl rfl rfl ?_ | refine ej_seq ?_ | refine ej_region ?_ | refine el_nil ?_ | refine eq_seq ?_ | refine eq_calm ?_ | refine ej_true rfl ?_ | refine ej_false rfl ?_ | refine el_skip rfl rfl rfl ?_ | refine ej_ret ?_ | refine ej_skip ?_ | refine ej_exit ?_ | refine ej_block ?_ | refine eq_seq_ret ?_ | refine eq_seq_exit ?_ | refine eq_block ?_ | refine eq_block_exit ?_ | refine eq_block_ret ?_ | refine eq_block_exit_ne rfl ?_ | refine eq_back_ret ?_ | refine eq_back_exit ?_))
  refine el_cons rfl (eo_buildA rfl rfl rfl rfl rfl rfl rfl rfl ?_)
  refine el_cons rfl (eo_alloc rfl rfl rfl rfl fun b3 => ?_)
  refine el_cons rfl (eo_st 0 rfl rfl rfl rfl rfl rfl rfl rfl rfl ?_)
  (repeat (first | refine el_pure rfl rfl rfl rfl ?_ | refine ej_seq ?_ | refine ej_region ?_ | refine el_nil ?_ | refine eq_seq ?_ | refine eq_calm ?_ | refine ej_true rfl ?_ | refine ej_false rfl ?_ | refine el_skip rfl rfl rfl ?_ | refine ej_ret ?_ | refine ej_skip ?_ | refine ej_exit ?_ | refine ej_block ?_ | refine eq_seq_ret ?_ | refine eq_seq_exit ?_ | refine eq_block ?_ | refine eq_block_exit ?_ | refine eq_block_ret ?_ | refine eq_block_exit_ne rfl ?_ | refine eq_back_ret ?_ | refine eq_back_exit ?_))
  have hlen : falses.length = (bitsL n).length := by rw [bitsL_length, falses_length]
  refine ej_loopP (fun k : Nat => k ≤ 64) (fun k => [(0, u64 (n / 2 ^ k)), (2, ptr b2), (3, ptr b3), (6, int k)])
    (fun k => S w0 (cells b3 T_ref01_Set (bools (mix (bitsL n) falses k)) :: cells b2 T_ref01_Set (bools falses) :: l)) (fun k => 64 - k) 0 (by omega) ?_ ?_ ?_
  · exact le_cons (show some (u64 n) = some (u64 (n / 2 ^ 0)) by simp) (le_of _ _ rfl)
  · intro w hw
    rw [mix_zero, ← rep_bool]
    exact hw
  intro k hk
  have hdiv : n / 2 ^ k < 18446744073709551616 := Nat.lt_of_le_of_lt (Nat.div_le_self _ _) hn
  (repeat (first | refine el_pure rfl rfl rfl rfl ?_ | refine ej_seq ?_ | refine ej_region ?_ | refine el_nil ?_ | refine eq_seq ?_ | refine eq_calm ?_ | refine ej_true rfl ?_ | refine ej_false rfl ?_ | refine el_skip rfl rfl rfl ?_ | refine ej_ret ?_ | refine ej_skip ?_ | refine ej_exit ?_ | refine ej_block ?_ | refine eq_seq_ret ?_ | refine eq_seq_exit ?_ | refine eq_block ?_ | refine eq_block_exit ?_ | refine eq_block_ret ?_ | refine eq_block_exit_ne rfl ?_ | refine eq_back_ret ?_ | refine eq_back_exit ?_))
  refine ej_dec rfl (fun h => ?_) (fun h => ?_)
  · have hk' : k < (bitsL n).length := by rw [bitsL_length]; omega
    (repeat (first | refine el_pure rfl rfl rfl rfl ?_ | refine ej_seq ?_ | refine ej_region ?_ | refine el_nil ?_ | refine eq_seq ?_ | refine eq_calm ?_ | refine ej_true rfl ?_ | refine ej_false rfl ?_ | refine el_skip rfl rfl rfl ?_ | refine ej_ret ?_ | refine ej_skip ?_ | refine ej_exit ?_ | refine ej_block ?_ | refine eq_seq_ret ?_ | refine eq_seq_exit ?_ | refine eq_block ?_ | refine eq_block_exit ?_ | refine eq_block_ret ?_ | refine eq_block_exit_ne rfl ?_ | refine eq_back_ret ?_ | refine eq_back_exit ?_))
    refine el_cons rfl (eo_rem rfl rfl rfl rfl rfl (Int.natCast_nonneg _) (by decide) ?_)
    (repeat (first | refine el_pure rfl rfl rfl rfl ?_ | refine ej_seq ?_ | refine ej_region ?_ | refine el_nil ?_ | refine eq_seq ?_ | refine eq_calm ?_ | refine ej_true rfl ?_ | refine ej_false rfl ?_ | refine el_skip rfl rfl rfl ?_ | refine ej_ret ?_ | refine ej_skip ?_ | refine ej_exit ?_ | refine ej_block ?_ | refine eq_seq_ret ?_ | refine eq_seq_exit ?_ | refine eq_block ?_ | refine eq_block_exit ?_ | refine eq_block_ret ?_ | refine eq_block_exit_ne rfl ?_ | refine eq_back_ret ?_ | refine eq_back_exit ?_))
    refine el_cons rfl (eo_idxa rfl rfl rfl rfl rfl rfl rfl rfl ⟨by omega, by exact h⟩ ?_)
    refine el_cons rfl (eo_st 0 rfl rfl rfl rfl rfl rfl rfl rfl (Nat.ble_eq_true_of_le ?_) ?_)
    · have := mix_length _ _ k hlen
      rw [List.length_map, this, bitsL_length]
      show 0 + (k : Int).toNat * 1 + 1 ≤ 64
      omega
    (repeat (first | refine el_pure rfl rfl rfl rfl ?_ | refine ej_seq ?_ | refine ej_region ?_ | refine el_nil ?_ | refine eq_seq ?_ | refine eq_calm ?_ | refine ej_true rfl ?_ | refine ej_false rfl ?_ | refine el_skip rfl rfl rfl ?_ | refine ej_ret ?_ | refine ej_skip ?_ | refine ej_exit ?_ | refine ej_block ?_ | refine eq_seq_ret ?_ | refine eq_seq_exit ?_ | refine eq_block ?_ | refine eq_block_exit ?_ | refine eq_block_ret ?_ | refine eq_block_exit_ne rfl ?_ | refine eq_back_ret ?_ | refine eq_back_exit ?_))
    refine el_cons rfl (eo_quo rfl rfl rfl rfl rfl (Int.natCast_nonneg _) (by decide) (half_in hdiv) ?_)
    (repeat (first | refine el_pure rfl rfl rfl rfl ?_ | refine ej_seq ?_ | refine ej_region ?_ | refine el_nil ?_ | refine eq_seq ?_ | refine eq_calm ?_ | refine ej_true rfl ?_ | refine ej_false rfl ?_ | refine el_skip rfl rfl rfl ?_ | refine ej_ret ?_ | refine ej_skip ?_ | refine ej_exit ?_ | refine ej_block ?_ | refine eq_seq_ret ?_ | refine eq_seq_exit ?_ | refine eq_block ?_ | refine eq_block_exit ?_ | refine eq_block_ret ?_ | refine eq_block_exit_ne rfl ?_ | refine eq_back_ret ?_ | refine eq_back_exit ?_))
    refine el_cons rfl (eo_arith rfl rfl rfl rfl rfl rfl ⟨by omega, by omega⟩ ?_)
    (repeat (first | refine el_pure rfl rfl rfl rfl ?_ | refine ej_seq ?_ | refine ej_region ?_ | refine el_nil ?_ | refine eq_seq ?_ | refine eq_calm ?_ | refine ej_true rfl ?_ | refine ej_false rfl ?_ | refine el_skip rfl rfl rfl ?_ | refine ej_ret ?_ | refine ej_skip ?_ | refine ej_exit ?_ | refine ej_block ?_ | refine eq_seq_ret ?_ | refine eq_seq_exit ?_ | refine eq_block ?_ | refine eq_block_exit ?_ | refine eq_block_ret ?_ | refine eq_block_exit_ne rfl ?_ | refine eq_back_ret ?_ | refine eq_back_exit ?_))
    refine eq_backP (k + 1) (by omega) (by omega) ?_ ?_
    · refine le_cons ?_ (le_of _ _ rfl)
      show some (Value.int .u64 (((n / 2 ^ k : Nat) : Int) / 2)) = some (u64 (n / 2 ^ (k + 1)))
      rw [Nat.pow_succ, ← Nat.div_div_eq_div_mul]
      rfl
    · intro w hw
      have e : splice (bools (mix (bitsL n) falses k)) (0 + (k : Int).toNat * 1) (Value.bool (decide (((n / 2 ^ k : Nat) : Int) % 2 = 1))).cells.toList = bools (mix (bitsL n) falses (k + 1)) := by
        rw [← mix_set _ _ k hlen hk', bitsL_get, bit_mod]
        simp [splice, Value.cells, bools, List.map_set]
      exact e ▸ hw
  · obtain rfl : k = 64 := by omega
    rw [show mix (bitsL n) falses 64 = bitsL n from by rw [← bitsL_length n]; exact mix_all _ _ hlen]
    (repeat (first | refine el_pure rfl rfl rfl rfl ?_ | refine ej_seq ?_ | refine ej_region ?_ | refine el_nil ?_ | refine eq_seq ?_ | refine eq_calm ?_ | refine ej_true rfl ?_ | refine ej_false rfl ?_ | refine el_skip rfl rfl rfl ?_ | refine ej_ret ?_ | refine ej_skip ?_ | refine ej_exit ?_ | refine ej_block ?_ | refine eq_seq_ret ?_ | refine eq_seq_exit ?_ | refine eq_block ?_ | refine eq_block_exit ?_ | refine eq_block_ret ?_ | refine eq_block_exit_ne rfl ?_ | refine eq_back_ret ?_ | refine eq_back_exit ?_))
    refine el_cons rfl (eo_ldW 0 rfl rfl rfl rfl rfl rfl rfl (by simp [bitsL_length]) ?_)
    refine el_cons rfl (eo_stA 1 rfl rfl rfl rfl rfl (by simp [bitsL_length]) (all_bools _) rfl (by simp [falses_length]) ?_)
    (repeat (first | refine el_pure rfl rfl rfl rfl ?_ | refine ej_seq ?_ | refine ej_region ?_ | refine el_nil ?_ | refine eq_seq ?_ | refine eq_calm ?_ | refine ej_true rfl ?_ | refine ej_false rfl ?_ | refine el_skip rfl rfl rfl ?_ | refine ej_ret ?_ | refine ej_skip ?_ | refine ej_exit ?_ | refine ej_block ?_ | refine eq_seq_ret ?_ | refine eq_seq_exit ?_ | refine eq_block ?_ | refine eq_block_exit ?_ | refine eq_block_ret ?_ | refine eq_block_exit_ne rfl ?_ | refine eq_back_ret ?_ | refine eq_back_exit ?_))
    refine eq_ret _ (rvs_cell 1 rfl rfl rfl rfl (by simp [bitsL_length]) rvs_nil) fun w hw => ⟨rfl, hw.drop 2⟩

def b1 (b : Bool) : Nat := if b then 1 else 0
def num : List Bool → Nat
  | [] => 0
  | b :: r => b1 b + 2 * num r
theorem num_lt : ∀ bs : List Bool, num bs < 2 ^ bs.length
  | [] => by simp [num]
  | b :: r => by
    have := num_lt r
    simp only [num, List.length_cons, Nat.pow_succ, b1]
    split <;> omega
theorem num_drop (bs : List Bool) (j : Nat) (h : j < bs.length) : num (bs.drop j) = b1 bs[j] + 2 * num (bs.drop (j + 1)) := by
  rw [show bs.drop j = bs[j] :: bs.drop (j + 1) from List.drop_eq_getElem_cons h]; rfl
theorem num_drop_lt (bs : List Bool) (j : Nat) (h : bs.length = 64) (hj : 1 ≤ j) : num (bs.drop j) < 9223372036854775808 := by
  have h1 := num_lt (bs.drop j)
  rw [List.length_drop, h] at h1
  have h2 : 2 ^ (64 - j) ≤ 2 ^ 63 := Nat.pow_le_pow_right (by omega) (by omega)
  omega
theorem num_inj : ∀ xs bs : List Bool, xs.length = bs.length → num xs = num bs → xs = bs
  | [], [], _, _ => rfl
  | a :: xs, b :: bs, h, e => by
    simp only [num, b1] at e
    have h' : xs.length = bs.length := by simpa using h
    have : num xs = num bs ∧ a = b := by
      cases a <;> cases b <;> simp at e ⊢ <;> omega
    rw [num_inj xs bs h' this.1, this.2]
theorem num_range (n : Nat) : ∀ k, num ((List.range' k (64 - k)).map n.testBit) = n / 2 ^ k % 2 ^ (64 - k) := by
  intro k
  by_cases hk : 64 ≤ k
  · rw [show 64 - k = 0 by omega]; simp [num, Nat.mod_one]
  · have ih := num_range n (k + 1)
    rw [show 64 - k = (64 - (k + 1)) + 1 by omega, List.range'_succ, List.map_cons]
    simp only [num, b1, ih]
    rw [Nat.testBit_eq_decide_div_mod_eq, Nat.pow_succ, ← Nat.div_div_eq_div_mul, Nat.pow_succ, Nat.mul_comm (2 ^ (64 - (k + 1))) 2, Nat.mod_mul]
    generalize n / 2 ^ k = m
    rcases Nat.mod_two_eq_zero_or_one m with h | h <;> simp [h]
termination_by k => 64 - k
theorem num_bitsL (n : Nat) (h : n < 18446744073709551616) : num (bitsL n) = n := by
  have := num_range n 0
  simp only [Nat.sub_zero, Nat.pow_zero, Nat.div_one] at this
  rw [Nat.mod_eq_of_lt (by simpa using h)] at this
  rw [bitsL, List.range_eq_range']
  exact this

theorem Number_any (bs : List Bool) (hb : bs.length = 64) : Does cx F_ref01_Number [setV bs] (S w0 l) fun v w => v = u64 (num bs) ∧ S w0 l w := by
  refine fn_enter (n := N_ref01_Number) fn_ref01_Number rfl rfl rfl ?_
  refine ej_seq (ej_region (el_cons rfl (eo_box rfl rfl rfl rfl fun b1' => ?_)))
  (repeat (first | refine el_pure rfl rfl rfl rfl ?_ | refine ej_seq ?_ | refine ej_region ?_ | refine el_nil ?_ | refine eq_seq ?_ | refine eq_calm ?_ | refine ej_true rfl ?_ | refine ej_false rfl ?_ | refine el_skip rfl rfl rfl ?_ | refine ej_ret ?_ | refine ej_skip ?_ | refine ej_exit ?_ | refine ej_block ?_ | refine eq_seq_ret ?_ | refine eq_seq_exit ?_ | refine eq_block ?_ | refine eq_block_exit ?_ | refine eq_block_ret ?_ | refine eq_block_exit_ne rfl ?_ | refine eq_back_ret ?_ | refine eq_back_exit ?_))
  refine ej_loopP (fun j : Nat => j ≤ 64) (fun j => [(1, ptr b1'), (3, u64 (num (bs.drop j))), (4, int ((j : Int) - 1))]) (fun _ => S w0 (cells b1' T_ref01_Set (bools bs) :: l)) (fun j => j) 64 (by omega) ?_ (fun _ h => h) ?_
  · exact le_cons rfl (le_cons (show some (u64 0) = some (u64 (num (bs.drop 64))) by rw [List.drop_of_length_le (by omega)]; rfl) (le_of _ _ rfl))
  intro j hj
  (repeat (first | refine el_pure rfl rfl rfl rfl ?_ | refine ej_seq ?_ | refine ej_region ?_ | refine el_nil ?_ | refine eq_seq ?_ | refine eq_calm ?_ | refine ej_true rfl ?_ | refine ej_false rfl ?_ | refine el_skip rfl rfl rfl ?_ | refine ej_ret ?_ | refine ej_skip ?_ | refine ej_exit ?_ | refine ej_block ?_ | refine eq_seq_ret ?_ | refine eq_seq_exit ?_ | refine eq_block ?_ | refine eq_block_exit ?_ | refine eq_block_ret ?_ | refine eq_block_exit_ne rfl ?_ | refine eq_back_ret ?_ | refine eq_back_exit ?_))
  refine ej_dec rfl (fun h => ?_) (fun h => ?_)
  · have hj1 : 1 ≤ j := by omega
    have hlt : num (bs.drop j) < 9223372036854775808 := num_drop_lt bs j hb hj1
    have hk : j - 1 < bs.length := by omega
    have e1 : num (bs.drop (j - 1)) = b1 bs[j - 1] + 2 * num (bs.drop j) := by
      have := num_drop bs (j - 1) hk
      rw [show j - 1 + 1 = j by omega] at this
      exact this
    generalize hm : num (bs.drop j) = m at hlt e1
    have ex : (0 : Nat) + ((j : Int) - 1).toNat * 1 = j - 1 := by omega
    (repeat (first | refine el_pure rfl rfl rfl rfl ?_ | refine ej_seq ?_ | refine ej_region ?_ | refine el_nil ?_ | refine eq_seq ?_ | refine eq_calm ?_ | refine ej_true rfl ?_ | refine ej_false rfl ?_ | refine el_skip rfl rfl rfl ?_ | refine ej_ret ?_ | refine ej_skip ?_ | refine ej_exit ?_ | refine ej_block ?_ | refine eq_seq_ret ?_ | refine eq_seq_exit ?_ | refine eq_block ?_ | refine eq_block_exit ?_ | refine eq_block_ret ?_ | refine eq_block_exit_ne rfl ?_ | refine eq_back_ret ?_ | refine eq_back_exit ?_))
    refine el_cons rfl (eo_arith rfl rfl rfl rfl rfl rfl ⟨by omega, by omega⟩ ?_)
    (repeat (first | refine el_pure rfl rfl rfl rfl ?_ | refine ej_seq ?_ | refine ej_region ?_ | refine el_nil ?_ | refine eq_seq ?_ | refine eq_calm ?_ | refine ej_true rfl ?_ | refine ej_false rfl ?_ | refine el_skip rfl rfl rfl ?_ | refine ej_ret ?_ | refine ej_skip ?_ | refine ej_exit ?_ | refine ej_block ?_ | refine eq_seq_ret ?_ | refine eq_seq_exit ?_ | refine eq_block ?_ | refine eq_block_exit ?_ | refine eq_block_ret ?_ | refine eq_block_exit_ne rfl ?_ | refine eq_back_ret ?_ | refine eq_back_exit ?_))
    refine el_cons rfl (eo_idxa rfl rfl rfl rfl rfl rfl rfl rfl ⟨h, by show (j : Int) - 1 < 64; omega⟩ ?_)
    refine el_cons rfl (eo_ld 0 rfl rfl rfl rfl rfl rfl rfl (v := .bool bs[j - 1]) (by show (bools bs)[0 + ((j : Int) - 1).toNat * 1]? = _; rw [ex]; simp [hk]) ?_)
    (repeat (first | refine el_pure rfl rfl rfl rfl ?_ | refine ej_seq ?_ | refine ej_region ?_ | refine el_nil ?_ | refine eq_seq ?_ | refine eq_calm ?_ | refine ej_true rfl ?_ | refine ej_false rfl ?_ | refine el_skip rfl rfl rfl ?_ | refine ej_ret ?_ | refine ej_skip ?_ | refine ej_exit ?_ | refine ej_block ?_ | refine eq_seq_ret ?_ | refine eq_seq_exit ?_ | refine eq_block ?_ | refine eq_block_exit ?_ | refine eq_block_ret ?_ | refine eq_block_exit_ne rfl ?_ | refine eq_back_ret ?_ | refine eq_back_exit ?_))
    refine ej_cond rfl (fun hb1 => ?_) (fun hb1 => ?_)
    · (repeat (first | refine el_pure rfl rfl rfl rfl ?_ | refine ej_seq ?_ | refine ej_region ?_ | refine el_nil ?_ | refine eq_seq ?_ | refine eq_calm ?_ | refine ej_true rfl ?_ | refine ej_false rfl ?_ | refine el_skip rfl rfl rfl ?_ | refine ej_ret ?_ | refine ej_skip ?_ | refine ej_exit ?_ | refine ej_block ?_ | refine eq_seq_ret ?_ | refine eq_seq_exit ?_ | refine eq_block ?_ | refine eq_block_exit ?_ | refine eq_block_ret ?_ | refine eq_block_exit_ne rfl ?_ | refine eq_back_ret ?_ | refine eq_back_exit ?_))
      refine el_cons rfl (eo_arith rfl rfl rfl rfl rfl rfl ⟨by omega, by omega⟩ ?_)
      (repeat (first | refine el_pure rfl rfl rfl rfl ?_ | refine ej_seq ?_ | refine ej_region ?_ | refine el_nil ?_ | refine eq_seq ?_ | refine eq_calm ?_ | refine ej_true rfl ?_ | refine ej_false rfl ?_ | refine el_skip rfl rfl rfl ?_ | refine ej_ret ?_ | refine ej_skip ?_ | refine ej_exit ?_ | refine ej_block ?_ | refine eq_seq_ret ?_ | refine eq_seq_exit ?_ | refine eq_block ?_ | refine eq_block_exit ?_ | refine eq_block_ret ?_ | refine eq_block_exit_ne rfl ?_ | refine eq_back_ret ?_ | refine eq_back_exit ?_))
      refine el_cons rfl (eo_arith rfl rfl rfl rfl rfl rfl ⟨by omega, by omega⟩ ?_)
      (repeat (first | refine el_pure rfl rfl rfl rfl ?_ | refine ej_seq ?_ | refine ej_region ?_ | refine el_nil ?_ | refine eq_seq ?_ | refine eq_calm ?_ | refine ej_true rfl ?_ | refine ej_false rfl ?_ | refine el_skip rfl rfl rfl ?_ | refine ej_ret ?_ | refine ej_skip ?_ | refine ej_exit ?_ | refine ej_block ?_ | refine eq_seq_ret ?_ | refine eq_seq_exit ?_ | refine eq_block ?_ | refine eq_block_exit ?_ | refine eq_block_ret ?_ | refine eq_block_exit_ne rfl ?_ | refine eq_back_ret ?_ | refine eq_back_exit ?_))
      refine eq_backP (j - 1) (by omega) (by omega) ?_ (fun _ h => h)
      refine le_cons rfl (le_cons ?_ (le_cons ?_ (le_nil _)))
      · show some (Value.int .u64 ((m : Int) * 2 + 1)) = some (u64 (num (bs.drop (j - 1))))
        rw [e1, hb1]
        simp only [b1, if_true, u64]
        congr 2; omega
      · show some (Value.int .i64 ((j : Int) - 1 - 1)) = some (int (((j - 1 : Nat) : Int) - 1))
        congr 2; omega
    · (repeat (first | refine el_pure rfl rfl rfl rfl ?_ | refine ej_seq ?_ | refine ej_region ?_ | refine el_nil ?_ | refine eq_seq ?_ | refine eq_calm ?_ | refine ej_true rfl ?_ | refine ej_false rfl ?_ | refine el_skip rfl rfl rfl ?_ | refine ej_ret ?_ | refine ej_skip ?_ | refine ej_exit ?_ | refine ej_block ?_ | refine eq_seq_ret ?_ | refine eq_seq_exit ?_ | refine eq_block ?_ | refine eq_block_exit ?_ | refine eq_block_ret ?_ | refine eq_block_exit_ne rfl ?_ | refine eq_back_ret ?_ | refine eq_back_exit ?_))
      refine el_cons rfl (eo_arith rfl rfl rfl rfl rfl rfl ⟨by omega, by omega⟩ ?_)
      (repeat (first | refine el_pure rfl rfl rfl rfl ?_ | refine ej_seq ?_ | refine ej_region ?_ | refine el_nil ?_ | refine eq_seq ?_ | refine eq_calm ?_ | refine ej_true rfl ?_ | refine ej_false rfl ?_ | refine el_skip rfl rfl rfl ?_ | refine ej_ret ?_ | refine ej_skip ?_ | refine ej_exit ?_ | refine ej_block ?_ | refine eq_seq_ret ?_ | refine eq_seq_exit ?_ | refine eq_block ?_ | refine eq_block_exit ?_ | refine eq_block_ret ?_ | refine eq_block_exit_ne rfl ?_ | refine eq_back_ret ?_ | refine eq_back_exit ?_))
      refine eq_backP (j - 1) (by omega) (by omega) ?_ (fun _ h => h)
      refine le_cons rfl (le_cons ?_ (le_cons ?_ (le_nil _)))
      · show some (Value.int .u64 ((m : Int) * 2)) = some (u64 (num (bs.drop (j - 1))))
        rw [e1, hb1]
        simp only [b1, u64]
        congr 2; simp; omega
      · show some (Value.int .i64 ((j : Int) - 1 - 1)) = some (int (((j - 1 : Nat) : Int) - 1))
        congr 2; omega
  · obtain rfl : j = 0 := by omega
    (repeat (first | refine el_pure rfl rfl rfl rfl ?_ | refine ej_seq ?_ | refine ej_region ?_ | refine el_nil ?_ | refine eq_seq ?_ | refine eq_calm ?_ | refine ej_true rfl ?_ | refine ej_false rfl ?_ | refine el_skip rfl rfl rfl ?_ | refine ej_ret ?_ | refine ej_skip ?_ | refine ej_exit ?_ | refine ej_block ?_ | refine eq_seq_ret ?_ | refine eq_seq_exit ?_ | refine eq_block ?_ | refine eq_block_exit ?_ | refine eq_block_ret ?_ | refine eq_block_exit_ne rfl ?_ | refine eq_back_ret ?_ | refine eq_back_exit ?_))
    exact eq_rett rfl fun w hw => ⟨rfl, hw.erase 0⟩

theorem Core_ref (c : Int) (H : WP) : Does cx F_ref01_Core [int c] H fun v w => v = .bool (decide (core c)) ∧ H w := by
  refine fn_enter (n := N_ref01_Core) fn_ref01_Core rfl rfl rfl ?_
  (repeat' (first | refine el_pure rfl rfl rfl rfl ?_ | refine ej_seq ?_ | refine ej_region ?_ | refine el_nil ?_ | refine eq_seq ?_ | refine eq_calm ?_ | refine ej_true rfl ?_ | refine ej_false rfl ?_ | refine el_skip rfl rfl rfl ?_ | refine ej_ret ?_ | refine ej_skip ?_ | refine ej_exit ?_ | refine ej_block ?_ | refine eq_seq_ret ?_ | refine eq_seq_exit ?_ | refine eq_block ?_ | refine eq_block_exit ?_ | refine eq_block_ret ?_ | refine eq_block_exit_ne rfl ?_ | refine eq_back_ret ?_ | refine eq_back_exit ?_ | (refine ej_dec rfl (fun h => ?_) (fun h => ?_)) | ((fail_if_success refine el_gt rfl rfl ?_); (fail_if_success refine el_gf rfl rfl ?_); refine el_gdec rfl rfl (fun h => ?_) (fun h => ?_)) | (refine ej_cond rfl (fun h => ?_) (fun h => ?_)) | ((fail_if_success refine el_gt rfl rfl ?_); (fail_if_success refine el_gf rfl rfl ?_); refine el_gsplit rfl rfl (fun h => ?_) (fun h => ?_))))
  all_goals (refine eq_rett rfl fun w hw => ⟨?_, hw⟩)
  all_goals simp [pack, core, *]

def both (xs bs : List Bool) : List Bool := xs.zipWith (· && ·) bs
theorem both_length (xs bs : List Bool) (ha : xs.length = 64) (hb : bs.length = 64) : (both xs bs).length = 64 := by simp [both, ha, hb]

theorem Both_any (xs bs : List Bool) (ha : xs.length = 64) (hb : bs.length = 64) : Does cx F_ref01_Both [setV xs, setV bs] (S w0 l) fun v w => v = setV (both xs bs) ∧ S w0 l w := by
  refine fn_enter (n := N_ref01_Both) fn_ref01_Both rfl rfl rfl ?_
  refine ej_seq (ej_region (el_cons rfl (eo_box rfl rfl rfl rfl fun b2 => el_cons rfl (eo_box rfl rfl rfl rfl fun b3 => el_cons rfl (eo_alloc rfl rfl rfl rfl fun b4 => ?_)))))
  (repeat (first | refine el_pure rfl rfl rfl rfl ?_ | refine ej_seq ?_ | refine ej_region ?_ | refine el_nil ?_ | refine eq_seq ?_ | refine eq_calm ?_ | refine ej_true rfl ?_ | refine ej_false rfl ?_ | refine el_skip rfl rfl rfl ?_ | refine ej_ret ?_ | refine ej_skip ?_ | refine ej_exit ?_ | refine ej_block ?_ | refine eq_seq_ret ?_ | refine eq_seq_exit ?_ | refine eq_block ?_ | refine eq_block_exit ?_ | refine eq_block_ret ?_ | refine eq_block_exit_ne rfl ?_ | refine eq_back_ret ?_ | refine eq_back_exit ?_))
  have hlen : xs.length = (both xs bs).length := by rw [both_length _ _ ha hb, ha]
  refine ej_loopP (fun k : Nat => k ≤ 64) (fun k => [(2, ptr b2), (3, ptr b3), (4, ptr b4), (6, int k)])
    (fun k => S w0 (cells b4 T_ref01_Set (bools falses) :: cells b3 T_ref01_Set (bools bs) :: cells b2 T_ref01_Set (bools (mix (both xs bs) xs k)) :: l)) (fun k => 64 - k) 0 (by omega) (le_of _ _ rfl) ?_ ?_
  · intro w hw
    rw [mix_zero, ← rep_bool]
    exact hw
  intro k hk
  (repeat (first | refine el_pure rfl rfl rfl rfl ?_ | refine ej_seq ?_ | refine ej_region ?_ | refine el_nil ?_ | refine eq_seq ?_ | refine eq_calm ?_ | refine ej_true rfl ?_ | refine ej_false rfl ?_ | refine el_skip rfl rfl rfl ?_ | refine ej_ret ?_ | refine ej_skip ?_ | refine ej_exit ?_ | refine ej_block ?_ | refine eq_seq_ret ?_ | refine eq_seq_exit ?_ | refine eq_block ?_ | refine eq_block_exit ?_ | refine eq_block_ret ?_ | refine eq_block_exit_ne rfl ?_ | refine eq_back_ret ?_ | refine eq_back_exit ?_))
  refine ej_dec rfl (fun h => ?_) (fun h => ?_)
  · have hk' : k < (both xs bs).length := by rw [both_length _ _ ha hb]; omega
    have hk1 : k < xs.length := by omega
    have hk2 : k < bs.length := by omega
    have ex : (0 : Nat) + (k : Int).toNat * 1 = k := by omega
    have eb : (both xs bs)[k] = (xs[k] && bs[k]) := by simp [both]
    have fin : ∀ c : Bool, c = (xs[k] && bs[k]) → splice (bools (mix (both xs bs) xs k)) (0 + (k : Int).toNat * 1) (Value.bool c).cells.toList = bools (mix (both xs bs) xs (k + 1)) := by
      intro c hc
      rw [ex, hc, ← eb, ← mix_set _ _ k hlen hk']
      simp [splice, Value.cells, bools, List.map_set]
    have hx : (bools (mix (both xs bs) xs k))[0 + (k : Int).toNat * 1]? = some (.bool xs[k]) := by
      rw [ex, List.getElem?_map, mix_get _ _ k hk', List.getElem?_eq_getElem hk1]; rfl
    have hy : (bools bs)[0 + (k : Int).toNat * 1]? = some (.bool bs[k]) := by rw [ex]; simp [hk2]
    have hl : Nat.ble (0 + (k : Int).toNat * 1 + 1) (bools (mix (both xs bs) xs k)).length = true := Nat.ble_eq_true_of_le (by rw [ex, List.length_map, mix_length _ _ k hlen]; omega)
    have hk3 : (k : Int) < ((64 : Nat) : Int) := h
    generalize hvx : xs[k] = vx at *
    generalize hvy : bs[k] = vy at *
    (repeat (first | refine el_pure rfl rfl rfl rfl ?_ | refine ej_seq ?_ | refine ej_region ?_ | refine el_nil ?_ | refine eq_seq ?_ | refine eq_calm ?_ | refine ej_true rfl ?_ | refine ej_false rfl ?_ | refine el_skip rfl rfl rfl ?_ | refine ej_ret ?_ | refine ej_skip ?_ | refine ej_exit ?_ | refine ej_block ?_ | refine eq_seq_ret ?_ | refine eq_seq_exit ?_ | refine eq_block ?_ | refine eq_block_exit ?_ | refine eq_block_ret ?_ | refine eq_block_exit_ne rfl ?_ | refine eq_back_ret ?_ | refine eq_back_exit ?_))
    refine el_cons rfl (eo_idxa rfl rfl rfl rfl rfl rfl rfl rfl ⟨by omega, hk3⟩ ?_)
    refine el_cons rfl (eo_ld 2 rfl rfl rfl rfl rfl rfl rfl hx ?_)
    cases vx with
    | true =>
      (repeat (first | refine el_pure rfl rfl rfl rfl ?_ | refine ej_seq ?_ | refine ej_region ?_ | refine el_nil ?_ | refine eq_seq ?_ | refine eq_calm ?_ | refine ej_true rfl ?_ | refine ej_false rfl ?_ | refine el_skip rfl rfl rfl ?_ | refine ej_ret ?_ | refine ej_skip ?_ | refine ej_exit ?_ | refine ej_block ?_ | refine eq_seq_ret ?_ | refine eq_seq_exit ?_ | refine eq_block ?_ | refine eq_block_exit ?_ | refine eq_block_ret ?_ | refine eq_block_exit_ne rfl ?_ | refine eq_back_ret ?_ | refine eq_back_exit ?_))
      refine el_cons rfl (eo_idxa rfl rfl rfl rfl rfl rfl rfl rfl ⟨by omega, hk3⟩ ?_)
      refine el_cons rfl (eo_ld 1 rfl rfl rfl rfl rfl rfl rfl hy ?_)
      (repeat (first | refine el_pure rfl rfl rfl rfl ?_ | refine ej_seq ?_ | refine ej_region ?_ | refine el_nil ?_ | refine eq_seq ?_ | refine eq_calm ?_ | refine ej_true rfl ?_ | refine ej_false rfl ?_ | refine el_skip rfl rfl rfl ?_ | refine ej_ret ?_ | refine ej_skip ?_ | refine ej_exit ?_ | refine ej_block ?_ | refine eq_seq_ret ?_ | refine eq_seq_exit ?_ | refine eq_block ?_ | refine eq_block_exit ?_ | refine eq_block_ret ?_ | refine eq_block_exit_ne rfl ?_ | refine eq_back_ret ?_ | refine eq_back_exit ?_))
      refine el_cons rfl (eo_idxa rfl rfl rfl rfl rfl rfl rfl rfl ⟨by omega, hk3⟩ ?_)
      refine el_cons rfl (eo_st 2 rfl rfl rfl rfl rfl rfl rfl rfl hl ?_)
      rw [fin vy (by simp)]
      (repeat (first | refine el_pure rfl rfl rfl rfl ?_ | refine ej_seq ?_ | refine ej_region ?_ | refine el_nil ?_ | refine eq_seq ?_ | refine eq_calm ?_ | refine ej_true rfl ?_ | refine ej_false rfl ?_ | refine el_skip rfl rfl rfl ?_ | refine ej_ret ?_ | refine ej_skip ?_ | refine ej_exit ?_ | refine ej_block ?_ | refine eq_seq_ret ?_ | refine eq_seq_exit ?_ | refine eq_block ?_ | refine eq_block_exit ?_ | refine eq_block_ret ?_ | refine eq_block_exit_ne rfl ?_ | refine eq_back_ret ?_ | refine eq_back_exit ?_))
      refine el_cons rfl (eo_arith rfl rfl rfl rfl rfl rfl ⟨by omega, by omega⟩ ?_)
      (repeat (first | refine el_pure rfl rfl rfl rfl ?_ | refine ej_seq ?_ | refine ej_region ?_ | refine el_nil ?_ | refine eq_seq ?_ | refine eq_calm ?_ | refine ej_true rfl ?_ | refine ej_false rfl ?_ | refine el_skip rfl rfl rfl ?_ | refine ej_ret ?_ | refine ej_skip ?_ | refine ej_exit ?_ | refine ej_block ?_ | refine eq_seq_ret ?_ | refine eq_seq_exit ?_ | refine eq_block ?_ | refine eq_block_exit ?_ | refine eq_block_ret ?_ | refine eq_block_exit_ne rfl ?_ | refine eq_back_ret ?_ | refine eq_back_exit ?_))
      exact eq_backP (k + 1) (by omega) (by omega) (le_of _ _ rfl) (fun _ h => h)
    | false =>
      (repeat (first | refine el_pure rfl rfl rfl rfl ?_ | refine ej_seq ?_ | refine ej_region ?_ | refine el_nil ?_ | refine eq_seq ?_ | refine eq_calm ?_ | refine ej_true rfl ?_ | refine ej_false rfl ?_ | refine el_skip rfl rfl rfl ?_ | refine ej_ret ?_ | refine ej_skip ?_ | refine ej_exit ?_ | refine ej_block ?_ | refine eq_seq_ret ?_ | refine eq_seq_exit ?_ | refine eq_block ?_ | refine eq_block_exit ?_ | refine eq_block_ret ?_ | refine eq_block_exit_ne rfl ?_ | refine eq_back_ret ?_ | refine eq_back_exit ?_))
      refine el_cons rfl (eo_idxa rfl rfl rfl rfl rfl rfl rfl rfl ⟨by omega, hk3⟩ ?_)
      refine el_cons rfl (eo_st 2 rfl rfl rfl rfl rfl rfl rfl rfl hl ?_)
      rw [fin false (by simp)]
      (repeat (first | refine el_pure rfl rfl rfl rfl ?_ | refine ej_seq ?_ | refine ej_region ?_ | refine el_nil ?_ | refine eq_seq ?_ | refine eq_calm ?_ | refine ej_true rfl ?_ | refine ej_false rfl ?_ | refine el_skip rfl rfl rfl ?_ | refine ej_ret ?_ | refine ej_skip ?_ | refine ej_exit ?_ | refine ej_block ?_ | refine eq_seq_ret ?_ | refine eq_seq_exit ?_ | refine eq_block ?_ | refine eq_block_exit ?_ | refine eq_block_ret ?_ | refine eq_block_exit_ne rfl ?_ | refine eq_back_ret ?_ | refine eq_back_exit ?_))
      refine el_cons rfl (eo_arith rfl rfl rfl rfl rfl rfl ⟨by omega, by omega⟩ ?_)
      (repeat (first | refine el_pure rfl rfl rfl rfl ?_ | refine ej_seq ?_ | refine ej_region ?_ | refine el_nil ?_ | refine eq_seq ?_ | refine eq_calm ?_ | refine ej_true rfl ?_ | refine ej_false rfl ?_ | refine el_skip rfl rfl rfl ?_ | refine ej_ret ?_ | refine ej_skip ?_ | refine ej_exit ?_ | refine ej_block ?_ | refine eq_seq_ret ?_ | refine eq_seq_exit ?_ | refine eq_block ?_ | refine eq_block_exit ?_ | refine eq_block_ret ?_ | refine eq_block_exit_ne rfl ?_ | refine eq_back_ret ?_ | refine eq_back_exit ?_))
      exact eq_backP (k + 1) (by omega) (by omega) (le_of _ _ rfl) (fun _ h => h)
  · obtain rfl : k = 64 := by omega
    rw [show mix (both xs bs) xs 64 = both xs bs from by
      have := mix_all (both xs bs) xs hlen
      rwa [both_length _ _ ha hb] at this]
    (repeat (first | refine el_pure rfl rfl rfl rfl ?_ | refine ej_seq ?_ | refine ej_region ?_ | refine el_nil ?_ | refine eq_seq ?_ | refine eq_calm ?_ | refine ej_true rfl ?_ | refine ej_false rfl ?_ | refine el_skip rfl rfl rfl ?_ | refine ej_ret ?_ | refine ej_skip ?_ | refine ej_exit ?_ | refine ej_block ?_ | refine eq_seq_ret ?_ | refine eq_seq_exit ?_ | refine eq_block ?_ | refine eq_block_exit ?_ | refine eq_block_ret ?_ | refine eq_block_exit_ne rfl ?_ | refine eq_back_ret ?_ | refine eq_back_exit ?_))
    refine el_cons rfl (eo_ldW 2 rfl rfl rfl rfl rfl rfl rfl (by show (bools _).length = 64; simp [both_length _ _ ha hb]) ?_)
    refine el_cons rfl (eo_stA 0 rfl rfl rfl rfl rfl (by show (bools _).length = 64; simp [both_length _ _ ha hb]) (all_bools _) rfl (by show (bools _).length = 64; simp [falses_length]) ?_)
    (repeat (first | refine el_pure rfl rfl rfl rfl ?_ | refine ej_seq ?_ | refine ej_region ?_ | refine el_nil ?_ | refine eq_seq ?_ | refine eq_calm ?_ | refine ej_true rfl ?_ | refine ej_false rfl ?_ | refine el_skip rfl rfl rfl ?_ | refine ej_ret ?_ | refine ej_skip ?_ | refine ej_exit ?_ | refine ej_block ?_ | refine eq_seq_ret ?_ | refine eq_seq_exit ?_ | refine eq_block ?_ | refine eq_block_exit ?_ | refine eq_block_ret ?_ | refine eq_block_exit_ne rfl ?_ | refine eq_back_ret ?_ | refine eq_back_exit ?_))
    exact eq_ret _ (rvs_cell 0 rfl rfl rfl rfl (by show (bools _).length = 64; simp [both_length _ _ ha hb]) rvs_nil) fun w hw => ⟨rfl, hw.drop 3⟩


end Go.Proofs.Ytkpbpjnabbfdiaa
