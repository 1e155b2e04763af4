/- The document's sets in the document's audit. -/
import Derived.Test.YtkpbpjnabbfdiaaAj
namespace Go.Proofs.Ytkpbpjnabbfdiaa
open Go Go.SE

variable {w0 w : World} {l : List HP} {i : Nat} {r : Option (Nat × Nat)} {p : HP}

theorem ext64 {xs bs : List Bool} (ha : xs.length = 64) (hb : bs.length = 64) (h : ∀ k, k < 64 → xs.getD k false = bs.getD k false) : xs = bs := by
  refine List.ext_getElem (by omega) fun k h1 h2 => ?_
  have := h k (by omega)
  rwa [List.getD_eq_getElem?_getD, List.getD_eq_getElem?_getD, List.getElem?_eq_getElem h1, List.getElem?_eq_getElem h2] at this
theorem bitsL_getD (n : Nat) {k : Nat} (hk : k < 64) : (bitsL n).getD k false = n.testBit k := by
  rw [List.getD_eq_getElem?_getD, List.getElem?_eq_getElem (by rw [bitsL_length]; exact hk), bitsL_get]; rfl
theorem falses_bits : falses = bitsL 0 := ext64 falses_length (bitsL_length 0) fun k hk => by
  rw [bitsL_getD 0 hk]
  have : falses.getD k false = false := by
    simp only [falses, List.getD_eq_getElem?_getD, List.getElem?_replicate]; split <;> rfl
  rw [this]; simp
theorem bitsL_inj {a b : Nat} (ha : a < 18446744073709551616) (hb : b < 18446744073709551616) (h : bitsL a = bitsL b) : a = b := by rw [← num_bitsL a ha, ← num_bitsL b hb, h]
theorem both_bits (a b : Nat) : both (bitsL a) (bitsL b) = bitsL (a &&& b) :=
  ext64 (both_length _ _ (bitsL_length a) (bitsL_length b)) (bitsL_length _) fun k hk => by
    have h1 : k < (both (bitsL a) (bitsL b)).length := by rw [both_length _ _ (bitsL_length a) (bitsL_length b)]; exact hk
    rw [bitsL_getD _ hk, List.getD_eq_getElem?_getD, List.getElem?_eq_getElem h1]
    simp only [both, List.getElem_zipWith, bitsL_get, Option.getD_some, Nat.testBit_and]

theorem has_ref (s : Nat) (c : Int) (hs : s < 18446744073709551616) : Does cx F_ref21_has [u64 s, int c] (S w0 l) fun v w => v = .bool (has s c) ∧ S w0 l w := by
  refine fn_enter (n := N_ref21_has) fn_ref21_has rfl rfl rfl ?_
  (repeat (first | refine el_pure rfl rfl rfl rfl ?_ | refine ej_seq ?_ | refine ej_region ?_ | refine el_nil ?_ | refine eq_seq ?_ | refine eq_calm ?_ | refine ej_true rfl ?_ | refine ej_false rfl ?_ | refine el_skip rfl rfl rfl ?_ | refine ej_ret ?_ | refine ej_skip ?_ | refine ej_exit ?_ | refine ej_block ?_ | refine eq_seq_ret ?_ | refine eq_seq_exit ?_ | refine eq_block ?_ | refine eq_block_exit ?_ | refine eq_block_ret ?_ | refine eq_block_exit_ne rfl ?_ | refine eq_back_ret ?_ | refine eq_back_exit ?_))
  refine el_cons rfl (eo_call1 rfl rfl rfl rfl rfl real_ref01_Core (Core_ref c _) ?_)
  by_cases hc : core c
  · rw [decide_eq_true hc]
    have hmin : (if (63 : Int) < c then 63 else c) = c := if_neg (by unfold core at hc; omega)
    have hmax : (if c > 0 then c else 0) = c := by unfold core at hc; split <;> omega
    have hk : c.toNat < 64 := by unfold core at hc; omega
    (repeat (first | refine el_pure rfl rfl rfl rfl ?_ | refine ej_seq ?_ | refine ej_region ?_ | refine el_nil ?_ | refine eq_seq ?_ | refine eq_calm ?_ | refine ej_true rfl ?_ | refine ej_false rfl ?_ | refine el_skip rfl rfl rfl ?_ | refine ej_ret ?_ | refine ej_skip ?_ | refine ej_exit ?_ | refine ej_block ?_ | refine eq_seq_ret ?_ | refine eq_seq_exit ?_ | refine eq_block ?_ | refine eq_block_exit ?_ | refine eq_block_ret ?_ | refine eq_block_exit_ne rfl ?_ | refine eq_back_ret ?_ | refine eq_back_exit ?_))
    refine el_cons rfl (eo_call1 rfl rfl rfl rfl rfl real_ref01_Bits (Bits_any s hs) ?_)
    (repeat (first | refine el_pure rfl rfl rfl rfl ?_ | refine ej_seq ?_ | refine ej_region ?_ | refine el_nil ?_ | refine eq_seq ?_ | refine eq_calm ?_ | refine ej_true rfl ?_ | refine ej_false rfl ?_ | refine el_skip rfl rfl rfl ?_ | refine ej_ret ?_ | refine ej_skip ?_ | refine ej_exit ?_ | refine ej_block ?_ | refine eq_seq_ret ?_ | refine eq_seq_exit ?_ | refine eq_block ?_ | refine eq_block_exit ?_ | refine eq_block_ret ?_ | refine eq_block_exit_ne rfl ?_ | refine eq_back_ret ?_ | refine eq_back_exit ?_))
    refine el_cons rfl (eo_min rfl rfl rfl rfl rfl ?_)
    rw [hmin]
    refine el_cons rfl (eo_max rfl rfl rfl rfl rfl ?_)
    rw [hmax]
    refine el_cons rfl (eo_index (v := .bool (s.testBit c.toNat)) rfl rfl rfl rfl rfl rfl rfl rfl hc ?_ ?_)
    · show (bools (bitsL s))[c.toNat * 1]? = _
      rw [Nat.mul_one, List.getElem?_map, List.getElem?_eq_getElem (by rw [bitsL_length]; exact hk), bitsL_get]; rfl
    (repeat (first | refine el_pure rfl rfl rfl rfl ?_ | refine ej_seq ?_ | refine ej_region ?_ | refine el_nil ?_ | refine eq_seq ?_ | refine eq_calm ?_ | refine ej_true rfl ?_ | refine ej_false rfl ?_ | refine el_skip rfl rfl rfl ?_ | refine ej_ret ?_ | refine ej_skip ?_ | refine ej_exit ?_ | refine ej_block ?_ | refine eq_seq_ret ?_ | refine eq_seq_exit ?_ | refine eq_block ?_ | refine eq_block_exit ?_ | refine eq_block_ret ?_ | refine eq_block_exit_ne rfl ?_ | refine eq_back_ret ?_ | refine eq_back_exit ?_))
    refine eq_rett rfl fun w hw => ⟨?_, hw⟩
    simp [pack, has, hc]
  · rw [decide_eq_false hc]
    (repeat (first | refine el_pure rfl rfl rfl rfl ?_ | refine ej_seq ?_ | refine ej_region ?_ | refine el_nil ?_ | refine eq_seq ?_ | refine eq_calm ?_ | refine ej_true rfl ?_ | refine ej_false rfl ?_ | refine el_skip rfl rfl rfl ?_ | refine ej_ret ?_ | refine ej_skip ?_ | refine ej_exit ?_ | refine ej_block ?_ | refine eq_seq_ret ?_ | refine eq_seq_exit ?_ | refine eq_block ?_ | refine eq_block_exit ?_ | refine eq_block_ret ?_ | refine eq_block_exit_ne rfl ?_ | refine eq_back_ret ?_ | refine eq_back_exit ?_))
    refine eq_rett rfl fun w hw => ⟨?_, hw⟩
    simp [pack, has, hc]

theorem lenB (s : Nat) : (bools (bitsL s)).length = 64 := by rw [List.length_map, bitsL_length]
theorem guard_B : cx.P.eqGuardType cx.P.depth T_ref01_Set = false := by kernel_rfl
theorem same_B (a b : Nat) (ha : a < 18446744073709551616) (hb : b < 18446744073709551616) : Same cx 10000 T_ref01_Set (setV (bitsL a)) (setV (bitsL b)) (decide (a = b)) := by
  have e : decide (a = b) = decide (bitsL a = bitsL b) := decide_eq_decide.2 ⟨fun h => by rw [h], bitsL_inj ha hb⟩
  rw [e]
  exact same_array (C := cx) (d := 9999) Value.bool rfl rfl rfl rfl rfl (fun _ _ => same_bool rfl rfl) (bitsL_length a) (bitsL_length b)
theorem sub_iff (a b : Nat) (ha : a < 18446744073709551616) : (a &&& b = a) ↔ a &&& (18446744073709551615 ^^^ b) = 0 := by
  have hm : ∀ k, (18446744073709551615 : Nat).testBit k = decide (k < 64) := fun k => by
    have := Nat.testBit_two_pow_sub_one 64 k
    exact this
  have hlt : ∀ k, 64 ≤ k → a.testBit k = false := fun k hk => Nat.testBit_lt_two_pow (Nat.lt_of_lt_of_le (show a < 2 ^ 64 from ha) (Nat.pow_le_pow_right (by decide) hk))
  constructor
  · intro h
    refine Nat.eq_of_testBit_eq fun k => ?_
    have h1 := congrArg (fun x : Nat => x.testBit k) h
    simp only [Nat.testBit_and, Nat.testBit_xor, hm, Nat.zero_testBit] at h1 ⊢
    by_cases hk : k < 64
    · simp only [hk, decide_true]
      cases hA : a.testBit k <;> cases hB : b.testBit k <;> simp_all
    · simp [hlt k (by omega)]
  · intro h
    refine Nat.eq_of_testBit_eq fun k => ?_
    have h1 := congrArg (fun x : Nat => x.testBit k) h
    simp only [Nat.testBit_and, Nat.testBit_xor, hm, Nat.zero_testBit] at h1 ⊢
    by_cases hk : k < 64
    · simp only [hk, decide_true] at h1
      cases hA : a.testBit k <;> cases hB : b.testBit k <;> simp_all
    · simp [hlt k (by omega)]

set_option maxHeartbeats 1600000 in
theorem dark_ref (d : Dm) (hd : d.Ok) : Does cx F_ref21_dark [.agg d.cells.toArray] (S w0 l) fun v w => v = .bool (darkD d) ∧ S w0 l w := by
  refine fn_enter (n := N_ref21_dark) fn_ref21_dark rfl rfl rfl ?_
  refine ej_seq (ej_region (el_cons rfl (eo_box rfl rfl rfl rfl fun b1 => ?_)))
  obtain ⟨dc, don, dl⟩ := d
  have h1 : dc < 18446744073709551616 := hd.cores
  have h2 : don < 18446744073709551616 := hd.on
  (repeat (first | refine el_pure rfl rfl rfl rfl ?_ | refine ej_seq ?_ | refine ej_region ?_ | refine el_nil ?_ | refine eq_seq ?_ | refine eq_calm ?_ | refine ej_true rfl ?_ | refine ej_false rfl ?_ | refine el_skip rfl rfl rfl ?_ | refine ej_ret ?_ | refine ej_skip ?_ | refine ej_exit ?_ | refine ej_block ?_ | refine eq_seq_ret ?_ | refine eq_seq_exit ?_ | refine eq_block ?_ | refine eq_block_exit ?_ | refine eq_block_ret ?_ | refine eq_block_exit_ne rfl ?_ | refine eq_back_ret ?_ | refine eq_back_exit ?_))
  refine el_cons rfl (eo_ld 0 rfl rfl rfl rfl rfl rfl rfl rfl ?_)
  refine el_cons rfl (eo_call1 rfl rfl rfl rfl rfl real_ref01_Bits (Bits_any don h2) ?_)
  refine el_cons rfl (eo_alloc rfl rfl rfl rfl fun b3 => ?_)
  refine el_cons rfl (eo_stA 0 rfl rfl rfl rfl rfl (lenB don) (all_bools _) rfl (by show (bools falses).length = 64; simp [falses_length]) ?_)
  (repeat (first | refine el_pure rfl rfl rfl rfl ?_ | refine ej_seq ?_ | refine ej_region ?_ | refine el_nil ?_ | refine eq_seq ?_ | refine eq_calm ?_ | refine ej_true rfl ?_ | refine ej_false rfl ?_ | refine el_skip rfl rfl rfl ?_ | refine ej_ret ?_ | refine ej_skip ?_ | refine ej_exit ?_ | refine ej_block ?_ | refine eq_seq_ret ?_ | refine eq_seq_exit ?_ | refine eq_block ?_ | refine eq_block_exit ?_ | refine eq_block_ret ?_ | refine eq_block_exit_ne rfl ?_ | refine eq_back_ret ?_ | refine eq_back_exit ?_))
  refine ej_held [cells b3 T_ref01_Set (bools (bitsL don)), cells b1 T_ref21_D (Dm.cells ⟨dc, don, dl⟩)] ?_
  refine eh_load 0 (held (.cons 0 rfl (.cons 1 rfl .nil))) rfl (by kernel_rfl) (by kernel_rfl) (by kernel_rfl) rfl rfl rfl (er_ldW 0 rfl rfl rfl rfl rfl (lenB don)) ?_
  refine eh_load 1 (held (.cons 0 rfl (.cons 1 rfl .nil))) rfl (by kernel_rfl) (by kernel_rfl) (by kernel_rfl) rfl rfl rfl (er_buildA (cs := bools (bitsL 0)) rfl rfl rfl rfl rfl (by rw [← falses_bits, ← rep_bool]; rfl)) ?_
  refine eh_load 2 (held (.cons 0 rfl (.cons 1 rfl .nil))) rfl (by kernel_rfl) (by kernel_rfl) (by kernel_rfl) rfl rfl rfl (er_eqA rfl (.inl rfl) rfl rfl guard_B (same_B don 0 h2 (by decide))) ?_
  refine eh_take 3 (held (.cons 0 rfl (.cons 1 rfl .nil))) rfl (by kernel_rfl) (by kernel_rfl) (by kernel_rfl) rfl rfl rfl rfl ?_
  by_cases h0 : don = 0
  · refine eh_val 10 (u := .bool true) rfl (by rw [decide_eq_true h0]; rfl) ?_
    refine eh_skip 4 (held (.cons 0 rfl (.cons 1 rfl .nil))) rfl (by kernel_rfl) (by kernel_rfl) (by kernel_rfl) rfl rfl rfl ?_
    refine eh_skip 5 (held (.cons 0 rfl (.cons 1 rfl .nil))) rfl (by kernel_rfl) (by kernel_rfl) (by kernel_rfl) rfl rfl rfl ?_
    refine eh_skip 6 (held (.cons 0 rfl (.cons 1 rfl .nil))) rfl (by kernel_rfl) (by kernel_rfl) (by kernel_rfl) rfl rfl rfl ?_
    refine eh_skip 7 (held (.cons 0 rfl (.cons 1 rfl .nil))) rfl (by kernel_rfl) (by kernel_rfl) (by kernel_rfl) rfl rfl rfl ?_
    refine eh_skip 8 (held (.cons 0 rfl (.cons 1 rfl .nil))) rfl (by kernel_rfl) (by kernel_rfl) (by kernel_rfl) rfl rfl rfl ?_
    refine eh_skip 9 (held (.cons 0 rfl (.cons 1 rfl .nil))) rfl (by kernel_rfl) (by kernel_rfl) (by kernel_rfl) rfl rfl rfl ?_
    refine eh_skip 10 (held (.cons 0 rfl (.cons 1 rfl .nil))) rfl (by kernel_rfl) (by kernel_rfl) (by kernel_rfl) rfl rfl rfl ?_
    refine eh_take 11 (held (.cons 0 rfl (.cons 1 rfl .nil))) rfl (by kernel_rfl) (by kernel_rfl) (by kernel_rfl) rfl rfl rfl rfl ?_
    refine eh_take 12 (held (.cons 0 rfl (.cons 1 rfl .nil))) rfl (by kernel_rfl) (by kernel_rfl) (by kernel_rfl) rfl rfl rfl rfl ?_
    refine eh_done (by kernel_rfl) ?_
    (repeat (first | refine el_pure rfl rfl rfl rfl ?_ | refine ej_seq ?_ | refine ej_region ?_ | refine el_nil ?_ | refine eq_seq ?_ | refine eq_calm ?_ | refine ej_true rfl ?_ | refine ej_false rfl ?_ | refine el_skip rfl rfl rfl ?_ | refine ej_ret ?_ | refine ej_skip ?_ | refine ej_exit ?_ | refine ej_block ?_ | refine eq_seq_ret ?_ | refine eq_seq_exit ?_ | refine eq_block ?_ | refine eq_block_exit ?_ | refine eq_block_ret ?_ | refine eq_block_exit_ne rfl ?_ | refine eq_back_ret ?_ | refine eq_back_exit ?_))
    refine eq_rett rfl fun w hw => ⟨?_, hw.drop 2⟩
    simp [pack, darkD, h0]
  · refine eh_val 10 (u := .bool false) rfl (by rw [decide_eq_false h0]; rfl) ?_
    refine eh_load 4 (held (.cons 0 rfl (.cons 1 rfl .nil))) rfl (by kernel_rfl) (by kernel_rfl) (by kernel_rfl) rfl rfl rfl (er_ldW 0 rfl rfl rfl rfl rfl (lenB don)) ?_
    refine eh_take 5 (held (.cons 0 rfl (.cons 1 rfl .nil))) rfl (by kernel_rfl) (by kernel_rfl) (by kernel_rfl) rfl rfl rfl rfl ?_
    refine eh_load 6 (held (.cons 0 rfl (.cons 1 rfl .nil))) rfl (by kernel_rfl) (by kernel_rfl) (by kernel_rfl) rfl rfl rfl (er_ld 1 rfl rfl rfl rfl rfl rfl) ?_
    refine eh_load 9 (held (.cons 0 rfl (.cons 1 rfl .nil))) rfl (by kernel_rfl) (by kernel_rfl) (by kernel_rfl) rfl rfl rfl (er_ldW 0 rfl rfl rfl rfl rfl (lenB don)) ?_
    refine eh_way 7 (by kernel_rfl) (hway rfl rfl (eo_call1 rfl rfl rfl rfl rfl real_ref01_Bits (Bits_any dc h1) ⟨held (.cons 0 rfl (.cons 1 rfl .nil)), ?_⟩))
    refine eh_way 8 (by kernel_rfl) (hway rfl rfl (eo_call1 rfl rfl rfl rfl rfl real_ref01_Both (Both_any _ _ (bitsL_length don) (bitsL_length dc)) ⟨held (.cons 0 rfl (.cons 1 rfl .nil)), ?_⟩))
    refine eh_val 15 (u := setV (bitsL (don &&& dc))) rfl (by rw [both_bits]) ?_
    refine eh_load 10 (held (.cons 0 rfl (.cons 1 rfl .nil))) rfl (by kernel_rfl) (by kernel_rfl) (by kernel_rfl) rfl rfl rfl (er_eqA rfl (.inr rfl) rfl rfl guard_B (same_B (don &&& dc) don (and_lt h2) h2)) ?_
    refine eh_take 11 (held (.cons 0 rfl (.cons 1 rfl .nil))) rfl (by kernel_rfl) (by kernel_rfl) (by kernel_rfl) rfl rfl rfl rfl ?_
    refine eh_take 12 (held (.cons 0 rfl (.cons 1 rfl .nil))) rfl (by kernel_rfl) (by kernel_rfl) (by kernel_rfl) rfl rfl rfl rfl ?_
    refine eh_done (by kernel_rfl) ?_
    (repeat (first | refine el_pure rfl rfl rfl rfl ?_ | refine ej_seq ?_ | refine ej_region ?_ | refine el_nil ?_ | refine eq_seq ?_ | refine eq_calm ?_ | refine ej_true rfl ?_ | refine ej_false rfl ?_ | refine el_skip rfl rfl rfl ?_ | refine ej_ret ?_ | refine ej_skip ?_ | refine ej_exit ?_ | refine ej_block ?_ | refine eq_seq_ret ?_ | refine eq_seq_exit ?_ | refine eq_block ?_ | refine eq_block_exit ?_ | refine eq_block_ret ?_ | refine eq_block_exit_ne rfl ?_ | refine eq_back_ret ?_ | refine eq_back_exit ?_))
    refine eq_rett rfl fun w hw => ⟨?_, hw.drop 2⟩
    have e : darkD ⟨dc, don, dl⟩ = !decide (don &&& dc = don) := by
      show (decide (don = 0) || !decide (don &&& (18446744073709551615 ^^^ dc) = 0)) = _
      rw [decide_eq_false h0, Bool.false_or, decide_eq_decide.2 (sub_iff don dc h2)]
    rw [e]; rfl

end Go.Proofs.Ytkpbpjnabbfdiaa
