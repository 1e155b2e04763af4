/- The document's sets: 64 answers. -/
import Derived.Test.YtefahijlcmfpjaaTr
import Derived.Test.YtefahijlcmfpjaaSEe
namespace Go.Proofs.Ytefahijlcmfpjaa
open Go Go.SE

variable {w0 : World} {l : List HP} {i j b : Nat} {r : Option (Nat × Nat)}

abbrev bools (bs : List Bool) : List Value := bs.map Value.bool
abbrev ints (xs : List Int) : List Value := xs.map (Value.int .i64)
abbrev setV (bs : List Bool) : Value := .agg (bools bs).toArray

/-- the first k of the one, then those of the other -/
def mix {α : Type} (new old : List α) (k : Nat) : List α := new.take k ++ old.drop k
theorem mix_zero {α : Type} (new old : List α) : mix new old 0 = old := by simp [mix]
theorem mix_all {α : Type} (new old : List α) (h : old.length = new.length) : mix new old new.length = new := by simp [mix, List.drop_of_length_le (Nat.le_of_eq h)]
theorem mix_length {α : Type} (new old : List α) (k : Nat) (h : old.length = new.length) : (mix new old k).length = new.length := by simp [mix]; omega
theorem mix_get {α : Type} (new old : List α) (k : Nat) (hk : k < new.length) : (mix new old k)[k]? = old[k]? := by
  unfold mix
  rw [List.getElem?_append_right (by simp; omega)]
  simp [List.length_take, Nat.min_eq_left (Nat.le_of_lt hk)]
theorem mix_get_ge {α : Type} (new old : List α) (k j : Nat) (hk : k ≤ new.length) (hj : k ≤ j) : (mix new old k)[j]? = old[j]? := by
  unfold mix
  rw [List.getElem?_append_right (by simp; omega)]
  simp only [List.length_take, Nat.min_eq_left hk, List.getElem?_drop]
  congr 1; omega
theorem mix_set {α : Type} (new old : List α) (k : Nat) (h : old.length = new.length) (hk : k < new.length) : (mix new old k).set k new[k] = mix new old (k + 1) := by
  unfold mix
  have hk' : k < old.length := by omega
  rw [List.set_append_right _ _ (by simp; omega), List.take_succ_eq_append_getElem hk]
  rw [show old.drop k = old[k] :: old.drop (k + 1) from List.drop_eq_getElem_cons hk', show k - (new.take k).length = 0 by simp; omega, List.set_cons_zero, List.append_assoc, List.singleton_append]

theorem all_bools (bs : List Bool) : (bools bs).all one = true := by simp [bools, one]
theorem all_ints (xs : List Int) : (ints xs).all one = true := by simp [ints, one]
def bitsL (n : Nat) : List Bool := (List.range 64).map n.testBit
theorem bitsL_length (n : Nat) : (bitsL n).length = 64 := by simp [bitsL]
theorem bitsL_get (n k : Nat) (h : k < (bitsL n).length) : (bitsL n)[k] = n.testBit k := by simp [bitsL]

def falses : List Bool := List.replicate 64 false
theorem falses_length : falses.length = 64 := by simp [falses]
theorem rep_bool : (List.replicate 64 (Value.bool false)) = bools falses := by simp [bools, falses]

theorem bit_mod (n k : Nat) : decide (((n / 2 ^ k : Nat) : Int) % 2 = 1) = n.testBit k := by
  rw [Nat.testBit_eq_decide_div_mod_eq]
  congr 1
  apply propext
  omega

theorem half_in {m : Nat} (h : m < 18446744073709551616) : inR .u64 ((m : Int) / 2) := ⟨by omega, by omega⟩
theorem Bits_any (n : Nat) (hn : n < 18446744073709551616) : Does cx F_ref01_Bits [u64 n] (S w0 l) fun v w => v = setV (bitsL n) ∧ S w0 l w := by
  refine fn_enter (n := N_ref01_Bits) fn_ref01_Bits rfl rfl rfl ?_
  refine ej_seq (ej_region (el_cons rfl (eo_alloc rfl rfl rfl rfl fun b2 => ?_)))
  (repeat (first | refine el_pure rfl rfl rfl rfl ?_ | refine ej_seq ?_ | refine ej_region ?_ | refine el_nil ?_ | refine eq_seq ?_ | refine ej_true rfl ?_ | refine ej_false rfl ?_ | refine el_skip rfl rfl rfl ?_ | refine ej_ret ?_ | refine ej_skip ?_ | refine ej_exit ?_ | refine ej_block ?_ | refine eq_seq_ret ?_ | refine eq_seq_exit ?_ | refine eq_block ?_ | refine eq_block_exit ?_ | refine eq_block_ret ?_ | refine eq_block_exit_ne rfl ?_ | refine eq_back_ret ?_ | refine eq_back_exit ?_))
  refine el_cons rfl (eo_buildA rfl rfl rfl rfl rfl rfl rfl rfl ?_)
  refine el_cons rfl (eo_alloc rfl rfl rfl rfl fun b3 => ?_)
  refine el_cons rfl (eo_st 0 rfl rfl rfl rfl rfl rfl rfl rfl rfl ?_)
  (repeat (first | refine el_pure rfl rfl rfl rfl ?_ | refine ej_seq ?_ | refine ej_region ?_ | refine el_nil ?_ | refine eq_seq ?_ | refine ej_true rfl ?_ | refine ej_false rfl ?_ | refine el_skip rfl rfl rfl ?_ | refine ej_ret ?_ | refine ej_skip ?_ | refine ej_exit ?_ | refine ej_block ?_ | refine eq_seq_ret ?_ | refine eq_seq_exit ?_ | refine eq_block ?_ | refine eq_block_exit ?_ | refine eq_block_ret ?_ | refine eq_block_exit_ne rfl ?_ | refine eq_back_ret ?_ | refine eq_back_exit ?_))
  have hlen : falses.length = (bitsL n).length := by rw [bitsL_length, falses_length]
  refine ej_loopP (fun k : Nat => k ≤ 64) (fun k => [(0, u64 (n / 2 ^ k)), (2, ptr b2), (3, ptr b3), (6, int k)])
    (fun k => S w0 (cells b3 T_ref01_Set (bools (mix (bitsL n) falses k)) :: cells b2 T_ref01_Set (bools falses) :: l)) (fun k => 64 - k) 0 (by omega) ?_ ?_ ?_
  · exact le_cons (show some (u64 n) = some (u64 (n / 2 ^ 0)) by simp) (le_of _ _ rfl)
  · intro w hw
    rw [mix_zero, ← rep_bool]
    exact hw
  intro k hk
  have hdiv : n / 2 ^ k < 18446744073709551616 := Nat.lt_of_le_of_lt (Nat.div_le_self _ _) hn
  (repeat (first | refine el_pure rfl rfl rfl rfl ?_ | refine ej_seq ?_ | refine ej_region ?_ | refine el_nil ?_ | refine eq_seq ?_ | refine ej_true rfl ?_ | refine ej_false rfl ?_ | refine el_skip rfl rfl rfl ?_ | refine ej_ret ?_ | refine ej_skip ?_ | refine ej_exit ?_ | refine ej_block ?_ | refine eq_seq_ret ?_ | refine eq_seq_exit ?_ | refine eq_block ?_ | refine eq_block_exit ?_ | refine eq_block_ret ?_ | refine eq_block_exit_ne rfl ?_ | refine eq_back_ret ?_ | refine eq_back_exit ?_))
  refine ej_dec rfl (fun h => ?_) (fun h => ?_)
  · have hk' : k < (bitsL n).length := by rw [bitsL_length]; omega
    (repeat (first | refine el_pure rfl rfl rfl rfl ?_ | refine ej_seq ?_ | refine ej_region ?_ | refine el_nil ?_ | refine eq_seq ?_ | refine ej_true rfl ?_ | refine ej_false rfl ?_ | refine el_skip rfl rfl rfl ?_ | refine ej_ret ?_ | refine ej_skip ?_ | refine ej_exit ?_ | refine ej_block ?_ | refine eq_seq_ret ?_ | refine eq_seq_exit ?_ | refine eq_block ?_ | refine eq_block_exit ?_ | refine eq_block_ret ?_ | refine eq_block_exit_ne rfl ?_ | refine eq_back_ret ?_ | refine eq_back_exit ?_))
    refine el_cons rfl (eo_rem rfl rfl rfl rfl rfl (Int.natCast_nonneg _) (by decide) ?_)
    (repeat (first | refine el_pure rfl rfl rfl rfl ?_ | refine ej_seq ?_ | refine ej_region ?_ | refine el_nil ?_ | refine eq_seq ?_ | refine ej_true rfl ?_ | refine ej_false rfl ?_ | refine el_skip rfl rfl rfl ?_ | refine ej_ret ?_ | refine ej_skip ?_ | refine ej_exit ?_ | refine ej_block ?_ | refine eq_seq_ret ?_ | refine eq_seq_exit ?_ | refine eq_block ?_ | refine eq_block_exit ?_ | refine eq_block_ret ?_ | refine eq_block_exit_ne rfl ?_ | refine eq_back_ret ?_ | refine eq_back_exit ?_))
    refine el_cons rfl (eo_idxa rfl rfl rfl rfl rfl rfl rfl rfl ⟨by omega, by exact h⟩ ?_)
    refine el_cons rfl (eo_st 0 rfl rfl rfl rfl rfl rfl rfl rfl (Nat.ble_eq_true_of_le ?_) ?_)
    · have := mix_length _ _ k hlen
      rw [List.length_map, this, bitsL_length]
      show 0 + (k : Int).toNat * 1 + 1 ≤ 64
      omega
    (repeat (first | refine el_pure rfl rfl rfl rfl ?_ | refine ej_seq ?_ | refine ej_region ?_ | refine el_nil ?_ | refine eq_seq ?_ | refine ej_true rfl ?_ | refine ej_false rfl ?_ | refine el_skip rfl rfl rfl ?_ | refine ej_ret ?_ | refine ej_skip ?_ | refine ej_exit ?_ | refine ej_block ?_ | refine eq_seq_ret ?_ | refine eq_seq_exit ?_ | refine eq_block ?_ | refine eq_block_exit ?_ | refine eq_block_ret ?_ | refine eq_block_exit_ne rfl ?_ | refine eq_back_ret ?_ | refine eq_back_exit ?_))
    refine el_cons rfl (eo_quo rfl rfl rfl rfl rfl (Int.natCast_nonneg _) (by decide) (half_in hdiv) ?_)
    (repeat (first | refine el_pure rfl rfl rfl rfl ?_ | refine ej_seq ?_ | refine ej_region ?_ | refine el_nil ?_ | refine eq_seq ?_ | refine ej_true rfl ?_ | refine ej_false rfl ?_ | refine el_skip rfl rfl rfl ?_ | refine ej_ret ?_ | refine ej_skip ?_ | refine ej_exit ?_ | refine ej_block ?_ | refine eq_seq_ret ?_ | refine eq_seq_exit ?_ | refine eq_block ?_ | refine eq_block_exit ?_ | refine eq_block_ret ?_ | refine eq_block_exit_ne rfl ?_ | refine eq_back_ret ?_ | refine eq_back_exit ?_))
    refine el_cons rfl (eo_arith rfl rfl rfl rfl rfl rfl ⟨by omega, by omega⟩ ?_)
    (repeat (first | refine el_pure rfl rfl rfl rfl ?_ | refine ej_seq ?_ | refine ej_region ?_ | refine el_nil ?_ | refine eq_seq ?_ | refine ej_true rfl ?_ | refine ej_false rfl ?_ | refine el_skip rfl rfl rfl ?_ | refine ej_ret ?_ | refine ej_skip ?_ | refine ej_exit ?_ | refine ej_block ?_ | refine eq_seq_ret ?_ | refine eq_seq_exit ?_ | refine eq_block ?_ | refine eq_block_exit ?_ | refine eq_block_ret ?_ | refine eq_block_exit_ne rfl ?_ | refine eq_back_ret ?_ | refine eq_back_exit ?_))
    refine eq_backP (k + 1) (by omega) (by omega) ?_ ?_
    · refine le_cons ?_ (le_of _ _ rfl)
      show some (Value.int .u64 (((n / 2 ^ k : Nat) : Int) / 2)) = some (u64 (n / 2 ^ (k + 1)))
      rw [Nat.pow_succ, ← Nat.div_div_eq_div_mul]
      rfl
    · intro w hw
      have e : splice (bools (mix (bitsL n) falses k)) (0 + (k : Int).toNat * 1) (Value.bool (decide (((n / 2 ^ k : Nat) : Int) % 2 = 1))).cells.toList = bools (mix (bitsL n) falses (k + 1)) := by
        rw [← mix_set _ _ k hlen hk', bitsL_get, bit_mod]
        simp [splice, Value.cells, bools, List.map_set]
      exact e ▸ hw
  · obtain rfl : k = 64 := by omega
    rw [show mix (bitsL n) falses 64 = bitsL n from by rw [← bitsL_length n]; exact mix_all _ _ hlen]
    (repeat (first | refine el_pure rfl rfl rfl rfl ?_ | refine ej_seq ?_ | refine ej_region ?_ | refine el_nil ?_ | refine eq_seq ?_ | refine ej_true rfl ?_ | refine ej_false rfl ?_ | refine el_skip rfl rfl rfl ?_ | refine ej_ret ?_ | refine ej_skip ?_ | refine ej_exit ?_ | refine ej_block ?_ | refine eq_seq_ret ?_ | refine eq_seq_exit ?_ | refine eq_block ?_ | refine eq_block_exit ?_ | refine eq_block_ret ?_ | refine eq_block_exit_ne rfl ?_ | refine eq_back_ret ?_ | refine eq_back_exit ?_))
    refine el_cons rfl (eo_ldW 0 rfl rfl rfl rfl rfl rfl rfl (by simp [bitsL_length]) ?_)
    refine el_cons rfl (eo_stA 1 rfl rfl rfl rfl rfl (by simp [bitsL_length]) (all_bools _) rfl (by simp [falses_length]) ?_)
    (repeat (first | refine el_pure rfl rfl rfl rfl ?_ | refine ej_seq ?_ | refine ej_region ?_ | refine el_nil ?_ | refine eq_seq ?_ | refine ej_true rfl ?_ | refine ej_false rfl ?_ | refine el_skip rfl rfl rfl ?_ | refine ej_ret ?_ | refine ej_skip ?_ | refine ej_exit ?_ | refine ej_block ?_ | refine eq_seq_ret ?_ | refine eq_seq_exit ?_ | refine eq_block ?_ | refine eq_block_exit ?_ | refine eq_block_ret ?_ | refine eq_block_exit_ne rfl ?_ | refine eq_back_ret ?_ | refine eq_back_exit ?_))
    refine eq_ret _ (rvs_cell 1 rfl rfl rfl rfl (by simp [bitsL_length]) rvs_nil) fun w hw => ⟨rfl, hw.drop 2⟩

end Go.Proofs.Ytefahijlcmfpjaa
