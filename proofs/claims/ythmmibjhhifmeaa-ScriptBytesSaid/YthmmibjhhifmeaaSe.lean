/- Numbers as bytes, the highest first. -/
import Derived.Test.YthmmibjhhifmeaaSd
namespace Go.Proofs.Ythmmibjhhifmeaa
open Go Go.SE

variable {w0 : World} {l : List HP} {i : Nat} {r : Option (Nat × Nat)}

abbrev u8s (bs : List Nat) : List Value := bs.map u8
theorem all_u8s (bs : List Nat) : (u8s bs).all one = true := by simp [one]

/-- a number's bytes, the highest first -/
def be (n : Nat) : Nat → List Nat
  | 0 => []
  | j + 1 => (n / 256 ^ j % 256) :: be n j
theorem be_length (n : Nat) : ∀ j, (be n j).length = j
  | 0 => rfl
  | j + 1 => by simp [be, be_length n j]
theorem be_get (n : Nat) : ∀ (w j : Nat), j < w → (be n w)[j]? = some (n / 256 ^ (w - 1 - j) % 256)
  | 0, j, h => absurd h (by omega)
  | w + 1, 0, _ => by simp [be]
  | w + 1, j + 1, h => by
    rw [be, List.getElem?_cons_succ, be_get n w j (by omega)]
    congr 4; omega
theorem be_lt (n : Nat) : ∀ w, ∀ b ∈ be n w, b < 256
  | 0, b, h => by simp [be] at h
  | w + 1, b, h => by
    rcases List.mem_cons.1 h with rfl | h
    · exact Nat.mod_lt _ (by decide)
    · exact be_lt n w b h
/-- bytes, as a number -/
def num (bs : List Nat) : Nat := bs.foldl (fun n x => n * 256 + x) 0
theorem num_snoc (bs : List Nat) (x : Nat) : num (bs ++ [x]) = num bs * 256 + x := by simp [num]
theorem num_lt : ∀ (k : Nat) (bs : List Nat), bs.length = k → (∀ b ∈ bs, b < 256) → num bs < 256 ^ k := by
  intro k
  induction k with
  | zero => intro bs h _; simp [List.eq_nil_of_length_eq_zero h, num]
  | succ k ih =>
    intro bs h hb
    obtain ⟨ys, y, rfl⟩ : ∃ ys y, bs = ys ++ [y] := by
      have hne : bs ≠ [] := by rintro rfl; simp at h
      exact ⟨bs.dropLast, bs.getLast hne, (List.dropLast_concat_getLast hne).symm⟩
    have h1 := ih ys (by simpa using h) fun b hb' => hb b (by simp [hb'])
    have h2 := hb y (by simp)
    rw [num_snoc, Nat.pow_succ]; omega
theorem pow256 {j : Nat} : 256 ^ j = 2 ^ (8 * j) := by rw [Nat.pow_mul]

theorem number_any (m w : Nat) (hm : m < 18446744073709551616) (hw : w ≤ 8) : Does cx F_ref22_number [u64 m, int w] (S w0 l) fun v W => ∃ r', v = sv r' w ∧ True ∧ S w0 (rowC r' T_uint8 1 (u8s (be m w)) w :: l) W := by
  refine fn_enter (n := N_ref22_number) fn_ref22_number rfl rfl rfl ?_
  (repeat (first | refine el_pure rfl rfl rfl rfl ?_ | refine ej_seq ?_ | refine ej_region ?_ | refine el_nil ?_ | refine eq_seq ?_ | refine eq_calm ?_ | refine ej_true rfl ?_ | refine ej_false rfl ?_ | refine el_skip rfl rfl rfl ?_ | refine ej_ret ?_ | refine ej_skip ?_ | refine ej_exit ?_ | refine ej_block ?_ | refine eq_seq_ret ?_ | refine eq_seq_exit ?_ | refine eq_block ?_ | refine eq_block_exit ?_ | refine eq_block_ret ?_ | refine eq_block_exit_ne rfl ?_ | refine eq_back_ret ?_ | refine eq_back_exit ?_))
  refine el_cons rfl (eo_make (m := w) rfl rfl rfl rfl rfl rfl rfl rfl rfl (by simp only [maxLen]; omega) (by show 1 * w ≤ _; omega) fun b => ?_)
  have hz : rowZ w (Value.int .u8 0).cells.toList = u8s (List.replicate w 0) := by
    have : ∀ w, rowZ w [Value.int .u8 0] = u8s (List.replicate w 0) := fun w => by
      induction w with
      | zero => rfl
      | succ w ih => simp [rowZ, ih, List.replicate_succ']
    exact this w
  refine el_imp (H' := S w0 (rowC (some (b, w)) T_uint8 1 (u8s (List.replicate w 0)) w :: l)) (fun w' hw' => by rw [← hz]; exact hw') ?_
  (repeat (first | refine el_pure rfl rfl rfl rfl ?_ | refine ej_seq ?_ | refine ej_region ?_ | refine el_nil ?_ | refine eq_seq ?_ | refine eq_calm ?_ | refine ej_true rfl ?_ | refine ej_false rfl ?_ | refine el_skip rfl rfl rfl ?_ | refine ej_ret ?_ | refine ej_skip ?_ | refine ej_exit ?_ | refine ej_block ?_ | refine eq_seq_ret ?_ | refine eq_seq_exit ?_ | refine eq_block ?_ | refine eq_block_exit ?_ | refine eq_block_ret ?_ | refine eq_block_exit_ne rfl ?_ | refine eq_back_ret ?_ | refine eq_back_exit ?_ | refine el_cons rfl (eo_lenv rfl rfl rfl rfl rfl rfl ?_) | refine el_cons rfl (eo_arith rfl rfl rfl rfl rfl rfl ⟨by omega, by omega⟩ ?_)))
  refine ej_loopP (fun j : Nat => j ≤ w) (fun j => [(0, u64 (m / 256 ^ j)), (5, sv (some (b, w)) w), (6, int ((w : Int) - 1 - j))]) (fun j => S w0 (rowC (some (b, w)) T_uint8 1 (u8s (List.replicate (w - j) 0 ++ be m j)) w :: l)) (fun j => w - j) 0 (Nat.zero_le _) ?_ ?_ ?_
  · refine le_cons (by show some (u64 m) = some (u64 (m / 256 ^ 0)); simp) (le_cons rfl (le_cons ?_ (le_of _ _ rfl)))
    show some (int ((w : Int) - 1)) = some (int ((w : Int) - 1 - ((0 : Nat) : Int)))
    congr 2; omega
  · intro W hW; simpa [be] using hW
  intro j hj
  have hdiv : m / 256 ^ j < 18446744073709551616 := Nat.lt_of_le_of_lt (Nat.div_le_self _ _) hm
  have hnext : m / 256 ^ (j + 1) = m / 256 ^ j / 256 := by rw [Nat.pow_succ, Nat.div_div_eq_div_mul]
  have hbe : be m (j + 1) = (m / 256 ^ j % 256) :: be m j := rfl
  generalize m / 256 ^ j = q at *
  (repeat (first | refine el_pure rfl rfl rfl rfl ?_ | refine ej_seq ?_ | refine ej_region ?_ | refine el_nil ?_ | refine eq_seq ?_ | refine eq_calm ?_ | refine ej_true rfl ?_ | refine ej_false rfl ?_ | refine el_skip rfl rfl rfl ?_ | refine ej_ret ?_ | refine ej_skip ?_ | refine ej_exit ?_ | refine ej_block ?_ | refine eq_seq_ret ?_ | refine eq_seq_exit ?_ | refine eq_block ?_ | refine eq_block_exit ?_ | refine eq_block_ret ?_ | refine eq_block_exit_ne rfl ?_ | refine eq_back_ret ?_ | refine eq_back_exit ?_))
  refine ej_dec rfl (fun h => ?_) (fun h => ?_)
  · have hlt : j < w := by omega
    have hoff : ((w : Int) - 1 - j).toNat * 1 = w - 1 - j := by omega
    (repeat (first | refine el_pure rfl rfl rfl rfl ?_ | refine ej_seq ?_ | refine ej_region ?_ | refine el_nil ?_ | refine eq_seq ?_ | refine eq_calm ?_ | refine ej_true rfl ?_ | refine ej_false rfl ?_ | refine el_skip rfl rfl rfl ?_ | refine ej_ret ?_ | refine ej_skip ?_ | refine ej_exit ?_ | refine ej_block ?_ | refine eq_seq_ret ?_ | refine eq_seq_exit ?_ | refine eq_block ?_ | refine eq_block_exit ?_ | refine eq_block_ret ?_ | refine eq_block_exit_ne rfl ?_ | refine eq_back_ret ?_ | refine eq_back_exit ?_))
    refine el_cons rfl (eo_rem rfl rfl rfl rfl rfl (by omega) (by decide) ?_)
    refine el_cons rfl (eo_conv .u8 rfl rfl rfl rfl rfl rfl rfl rfl ⟨by omega, by show (q : Int) % 256 ≤ 255; omega⟩ ?_)
    (repeat (first | refine el_pure rfl rfl rfl rfl ?_ | refine ej_seq ?_ | refine ej_region ?_ | refine el_nil ?_ | refine eq_seq ?_ | refine eq_calm ?_ | refine ej_true rfl ?_ | refine ej_false rfl ?_ | refine el_skip rfl rfl rfl ?_ | refine ej_ret ?_ | refine ej_skip ?_ | refine ej_exit ?_ | refine ej_block ?_ | refine eq_seq_ret ?_ | refine eq_seq_exit ?_ | refine eq_block ?_ | refine eq_block_exit ?_ | refine eq_block_ret ?_ | refine eq_block_exit_ne rfl ?_ | refine eq_back_ret ?_ | refine eq_back_exit ?_))
    refine el_cons rfl (eo_idxr 0 rfl rfl rfl rfl rfl rfl rfl rfl rfl ⟨h, by omega⟩ ?_)
    refine el_cons rfl (eo_str 0 rfl rfl rfl rfl rfl rfl rfl rfl rfl ?_ ?_)
    · show ((w : Int) - 1 - j).toNat * 1 < (u8s (List.replicate (w - j) 0 ++ be m j)).length
      rw [hoff, List.length_map, List.length_append, List.length_replicate, be_length]; omega
    (repeat (first | refine el_pure rfl rfl rfl rfl ?_ | refine ej_seq ?_ | refine ej_region ?_ | refine el_nil ?_ | refine eq_seq ?_ | refine eq_calm ?_ | refine ej_true rfl ?_ | refine ej_false rfl ?_ | refine el_skip rfl rfl rfl ?_ | refine ej_ret ?_ | refine ej_skip ?_ | refine ej_exit ?_ | refine ej_block ?_ | refine eq_seq_ret ?_ | refine eq_seq_exit ?_ | refine eq_block ?_ | refine eq_block_exit ?_ | refine eq_block_ret ?_ | refine eq_block_exit_ne rfl ?_ | refine eq_back_ret ?_ | refine eq_back_exit ?_))
    refine el_cons rfl (eo_quo rfl rfl rfl rfl rfl (by omega) (by decide) ⟨by omega, by omega⟩ ?_)
    (repeat (first | refine el_pure rfl rfl rfl rfl ?_ | refine ej_seq ?_ | refine ej_region ?_ | refine el_nil ?_ | refine eq_seq ?_ | refine eq_calm ?_ | refine ej_true rfl ?_ | refine ej_false rfl ?_ | refine el_skip rfl rfl rfl ?_ | refine ej_ret ?_ | refine ej_skip ?_ | refine ej_exit ?_ | refine ej_block ?_ | refine eq_seq_ret ?_ | refine eq_seq_exit ?_ | refine eq_block ?_ | refine eq_block_exit ?_ | refine eq_block_ret ?_ | refine eq_block_exit_ne rfl ?_ | refine eq_back_ret ?_ | refine eq_back_exit ?_ | refine el_cons rfl (eo_lenv rfl rfl rfl rfl rfl rfl ?_) | refine el_cons rfl (eo_arith rfl rfl rfl rfl rfl rfl ⟨by omega, by omega⟩ ?_)))
    refine eq_backP (j + 1) (by omega) (by omega) ?_ ?_
    · refine le_cons ?_ (le_cons rfl (le_cons ?_ (le_of _ _ rfl)))
      · show some (Value.int .u64 ((q : Int) / 256)) = some (u64 (m / 256 ^ (j + 1)))
        rw [hnext]; rfl
      · show some (int ((w : Int) - 1 - j - 1)) = some (int ((w : Int) - 1 - ((j + 1 : Nat) : Int)))
        congr 2; omega
    · intro W hW
      have e : (u8s (List.replicate (w - j) 0 ++ be m j)).set (((w : Int) - 1 - j).toNat * 1) (.int .u8 ((q : Int) % 256)) = u8s (List.replicate (w - (j + 1)) 0 ++ be m (j + 1)) := by
        rw [hoff, hbe, show w - j = (w - (j + 1)) + 1 by omega, List.replicate_succ', List.append_assoc, List.singleton_append, u8s, List.map_append, List.set_append_right _ _ (by simp; omega)]
        simp only [List.length_map, List.length_replicate, show w - 1 - j - (w - (j + 1)) = 0 by omega, List.map_cons, List.set_cons_zero, u8s, List.map_append]
        congr 2
      exact e ▸ hW
  · obtain rfl : j = w := by omega
    (repeat (first | refine el_pure rfl rfl rfl rfl ?_ | refine ej_seq ?_ | refine ej_region ?_ | refine el_nil ?_ | refine eq_seq ?_ | refine eq_calm ?_ | refine ej_true rfl ?_ | refine ej_false rfl ?_ | refine el_skip rfl rfl rfl ?_ | refine ej_ret ?_ | refine ej_skip ?_ | refine ej_exit ?_ | refine ej_block ?_ | refine eq_seq_ret ?_ | refine eq_seq_exit ?_ | refine eq_block ?_ | refine eq_block_exit ?_ | refine eq_block_ret ?_ | refine eq_block_exit_ne rfl ?_ | refine eq_back_ret ?_ | refine eq_back_exit ?_))
    exact eq_rett rfl fun W hW => ⟨some (b, j), rfl, trivial, by simpa using hW⟩

end Go.Proofs.Ythmmibjhhifmeaa
