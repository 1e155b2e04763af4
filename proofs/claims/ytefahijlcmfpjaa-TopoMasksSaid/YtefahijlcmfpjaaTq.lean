/- Topologies, on: bits counted, the methods. -/
import Derived.Test.YtefahijlcmfpjaaPp
namespace Go.Proofs.Ytefahijlcmfpjaa
open Go Go.SE

variable {w0 : World} {l : List HP} {i j b : Nat} {r : Option (Nat × Nat)} {T : Topo}

theorem el_shr {C : Cx} {n : Nat} {Q : Kont} {e : Env} {H : WP} {ops : Array Oper} {rest : List Oper} {o : Oper} {d : Nat} {t t' : TypeId} {x y : Operand} {kd : IntKind} {a : Nat} (c : Nat) (hg : want ops e o = some true) (ho : o.op = .binOp .shr t x y t') (hd : o.dst = some d) (hn : Nat.ble n d = false)
    (hx : ev e x = some (u64 a)) (hy : ev e y = some (.int kd (c : Int))) (hc : Nat.ble 64 c = false) (h : EL C n rest ops Q ((d, u64 (a >>> c)) :: e) H) : EL C n (o :: rest) ops Q e H := by
  have hc' : c < 64 := by
    rcases Nat.lt_or_ge c 64 with h1 | h1
    · exact h1
    · rw [Nat.ble_eq_true_of_le h1] at hc; cases hc
  refine el_cons hg (eo_shr ho hd hn hx hy ⟨by omega, by omega⟩ ?_)
  simpa using h

theorem div_lane {a y : Nat} (k : Nat) (h : a < k) : (a + k * y) / k = y := by
  rw [Nat.add_mul_div_left _ _ (by omega), Nat.div_eq_of_lt h, Nat.zero_add]
theorem sum8 (a0 a1 a2 a3 a4 a5 a6 a7 x x4 x5 x6 : Nat) (h0 : a0 ≤ 8) (h1 : a1 ≤ 8) (h2 : a2 ≤ 8) (h3 : a3 ≤ 8) (h4 : a4 ≤ 8) (h5 : a5 ≤ 8) (h6 : a6 ≤ 8) (h7 : a7 ≤ 8)
    (hx : x = a0 + 256 * (a1 + 256 * (a2 + 256 * (a3 + 256 * (a4 + 256 * (a5 + 256 * (a6 + 256 * a7))))))) (e4 : x4 = x + x / 256) (e5 : x5 = x4 + x4 / 65536) (e6 : x6 = x5 + x5 / 4294967296) :
    x < 18446744073709551616 ∧ x4 < 18446744073709551616 ∧ x5 < 18446744073709551616 ∧ x6 < 9223372036854775808 ∧ x6 % 128 = a0 + a1 + a2 + a3 + a4 + a5 + a6 + a7 := by
  have d1 : x / 256 = a1 + 256 * (a2 + 256 * (a3 + 256 * (a4 + 256 * (a5 + 256 * (a6 + 256 * a7))))) := by rw [hx]; exact div_lane 256 (by omega)
  rw [d1] at e4
  have f4 : x4 = (a0 + a1 + 256 * (a1 + a2)) + 65536 * ((a2 + a3) + 256 * (a3 + a4) + 65536 * (a4 + a5) + 16777216 * (a5 + a6) + 4294967296 * (a6 + a7) + 1099511627776 * a7) := by omega
  clear e4 d1
  have d2 : x4 / 65536 = (a2 + a3) + 256 * (a3 + a4) + 65536 * (a4 + a5) + 16777216 * (a5 + a6) + 4294967296 * (a6 + a7) + 1099511627776 * a7 := by rw [f4]; exact div_lane 65536 (by omega)
  rw [d2] at e5
  clear d2
  have f5 : x5 = (a0 + a1 + a2 + a3 + 256 * (a1 + a2 + a3 + a4) + 65536 * (a2 + a3 + a4 + a5) + 16777216 * (a3 + a4 + a5 + a6)) + 4294967296 * ((a4 + a5 + a6 + a7) + 256 * (a5 + a6 + a7) + 65536 * (a6 + a7) + 16777216 * a7) := by omega
  clear e5
  have d3 : x5 / 4294967296 = (a4 + a5 + a6 + a7) + 256 * (a5 + a6 + a7) + 65536 * (a6 + a7) + 16777216 * a7 := by rw [f5]; exact div_lane 4294967296 (by omega)
  rw [d3] at e6
  clear d3
  have f6 : x6 = (a0 + a1 + a2 + a3 + a4 + a5 + a6 + a7) + 128 * (2 * ((a1 + a2 + a3 + a4) + (a5 + a6 + a7)) + 512 * ((a2 + a3 + a4 + a5) + (a6 + a7)) + 131072 * ((a3 + a4 + a5 + a6) + a7) + 33554432 * ((a4 + a5 + a6 + a7) + 256 * (a5 + a6 + a7) + 65536 * (a6 + a7) + 16777216 * a7)) := by omega
  clear e6
  refine ⟨?_, ?_, ?_, ?_, ?_⟩
  · clear f4 f5 f6; omega
  · clear f5 f6 hx; omega
  · clear f4 f6 hx; omega
  · clear f4 f5 hx; omega
  · rw [f6, Nat.add_mul_mod_self_left]
    clear f4 f5 f6 hx
    exact Nat.mod_eq_of_lt (by omega)
theorem sum_lanes (f : Nat → Nat) (h : ∀ j, f j ≤ 8) (x x4 x5 x6 : Nat) (hx : x = lanes 8 f 8) (e4 : x4 = x + x >>> 8) (e5 : x5 = x4 + x4 >>> 16) (e6 : x6 = x5 + x5 >>> 32) :
    x < 18446744073709551616 ∧ x4 < 18446744073709551616 ∧ x5 < 18446744073709551616 ∧ x6 < 9223372036854775808 ∧ x6 % 128 = f 0 + f 1 + f 2 + f 3 + f 4 + f 5 + f 6 + f 7 := by
  simp only [Nat.shiftRight_eq_div_pow, Nat.reducePow] at e4 e5 e6
  exact sum8 _ _ _ _ _ _ _ _ x x4 x5 x6 (h 0) (h 1) (h 2) (h 3) (h 4) (h 5) (h 6) (h 7) (by rw [hx]; rfl) e4 e5 e6

theorem inR_nat {x y : Nat} (h : x + y < 18446744073709551616) : inR .u64 ((x : Int) + (y : Int)) := ⟨by omega, by omega⟩
theorem ones_walk (x : Nat) (hx : x < 18446744073709551616) (H : WP) : Does cx F_math_bits_OnesCount64 [u64 x] H fun v w => v = int (pop x) ∧ H w := by
  obtain ⟨a1, a2, a3, f, hf, e3, hp⟩ := ones x hx
  have m1 : x >>> 1 < 18446744073709551616 := Nat.lt_of_le_of_lt (Nat.shiftRight_le _ _) hx
  refine fn_enter (n := N_math_bits_OnesCount64) fn_math_bits_OnesCount64 rfl rfl rfl ?_
  (repeat (first | refine el_pure rfl rfl rfl rfl ?_ | refine ej_seq ?_ | refine ej_region ?_ | refine el_nil ?_ | refine eq_seq ?_ | refine ej_true rfl ?_ | refine ej_false rfl ?_ | refine el_skip rfl rfl rfl ?_ | refine ej_ret ?_ | refine ej_skip ?_ | refine ej_exit ?_ | refine ej_block ?_ | refine eq_seq_ret ?_ | refine eq_seq_exit ?_ | refine eq_block ?_ | refine eq_block_exit ?_ | refine eq_block_ret ?_ | refine eq_block_exit_ne rfl ?_ | refine eq_back_ret ?_ | refine eq_back_exit ?_))
  refine el_shr 1 rfl rfl rfl rfl rfl rfl rfl ?_
  refine el_cons rfl (eo_bits (b := 6148914691236517205) rfl rfl rfl rfl rfl m1 (by omega) rfl ?_)
  (repeat (first | refine el_pure rfl rfl rfl rfl ?_ | refine ej_seq ?_ | refine ej_region ?_ | refine el_nil ?_ | refine eq_seq ?_ | refine ej_true rfl ?_ | refine ej_false rfl ?_ | refine el_skip rfl rfl rfl ?_ | refine ej_ret ?_ | refine ej_skip ?_ | refine ej_exit ?_ | refine ej_block ?_ | refine eq_seq_ret ?_ | refine eq_seq_exit ?_ | refine eq_block ?_ | refine eq_block_exit ?_ | refine eq_block_ret ?_ | refine eq_block_exit_ne rfl ?_ | refine eq_back_ret ?_ | refine eq_back_exit ?_))
  refine el_cons rfl (eo_bits (b := 6148914691236517205) rfl rfl rfl rfl rfl hx (by omega) rfl ?_)
  refine el_cons rfl (eo_arith rfl rfl rfl rfl rfl rfl (inR_nat a1) ?_)
  generalize hx1 : (x >>> 1 &&& 6148914691236517205) + (x &&& 6148914691236517205) = x1 at a1 a2 a3 e3
  refine el_val 8 (u := u64 x1) rfl (by rw [← hx1]; rfl) ?_
  (repeat (first | refine el_pure rfl rfl rfl rfl ?_ | refine ej_seq ?_ | refine ej_region ?_ | refine el_nil ?_ | refine eq_seq ?_ | refine ej_true rfl ?_ | refine ej_false rfl ?_ | refine el_skip rfl rfl rfl ?_ | refine ej_ret ?_ | refine ej_skip ?_ | refine ej_exit ?_ | refine ej_block ?_ | refine eq_seq_ret ?_ | refine eq_seq_exit ?_ | refine eq_block ?_ | refine eq_block_exit ?_ | refine eq_block_ret ?_ | refine eq_block_exit_ne rfl ?_ | refine eq_back_ret ?_ | refine eq_back_exit ?_))
  refine el_shr 2 rfl rfl rfl rfl rfl rfl rfl ?_
  refine el_cons rfl (eo_bits (b := 3689348814741910323) rfl rfl rfl rfl rfl (Nat.lt_of_le_of_lt (Nat.shiftRight_le _ _) a1) (by omega) rfl ?_)
  (repeat (first | refine el_pure rfl rfl rfl rfl ?_ | refine ej_seq ?_ | refine ej_region ?_ | refine el_nil ?_ | refine eq_seq ?_ | refine ej_true rfl ?_ | refine ej_false rfl ?_ | refine el_skip rfl rfl rfl ?_ | refine ej_ret ?_ | refine ej_skip ?_ | refine ej_exit ?_ | refine ej_block ?_ | refine eq_seq_ret ?_ | refine eq_seq_exit ?_ | refine eq_block ?_ | refine eq_block_exit ?_ | refine eq_block_ret ?_ | refine eq_block_exit_ne rfl ?_ | refine eq_back_ret ?_ | refine eq_back_exit ?_))
  refine el_cons rfl (eo_bits (b := 3689348814741910323) rfl rfl rfl rfl rfl a1 (by omega) rfl ?_)
  refine el_cons rfl (eo_arith rfl rfl rfl rfl rfl rfl (inR_nat a2) ?_)
  generalize hx2 : (x1 >>> 2 &&& 3689348814741910323) + (x1 &&& 3689348814741910323) = x2 at a2 a3 e3
  refine el_val 14 (u := u64 x2) rfl (by rw [← hx2]; rfl) ?_
  (repeat (first | refine el_pure rfl rfl rfl rfl ?_ | refine ej_seq ?_ | refine ej_region ?_ | refine el_nil ?_ | refine eq_seq ?_ | refine ej_true rfl ?_ | refine ej_false rfl ?_ | refine el_skip rfl rfl rfl ?_ | refine ej_ret ?_ | refine ej_skip ?_ | refine ej_exit ?_ | refine ej_block ?_ | refine eq_seq_ret ?_ | refine eq_seq_exit ?_ | refine eq_block ?_ | refine eq_block_exit ?_ | refine eq_block_ret ?_ | refine eq_block_exit_ne rfl ?_ | refine eq_back_ret ?_ | refine eq_back_exit ?_))
  refine el_shr 4 rfl rfl rfl rfl rfl rfl rfl ?_
  (repeat (first | refine el_pure rfl rfl rfl rfl ?_ | refine ej_seq ?_ | refine ej_region ?_ | refine el_nil ?_ | refine eq_seq ?_ | refine ej_true rfl ?_ | refine ej_false rfl ?_ | refine el_skip rfl rfl rfl ?_ | refine ej_ret ?_ | refine ej_skip ?_ | refine ej_exit ?_ | refine ej_block ?_ | refine eq_seq_ret ?_ | refine eq_seq_exit ?_ | refine eq_block ?_ | refine eq_block_exit ?_ | refine eq_block_ret ?_ | refine eq_block_exit_ne rfl ?_ | refine eq_back_ret ?_ | refine eq_back_exit ?_))
  refine el_cons rfl (eo_arith rfl rfl rfl rfl rfl rfl (inR_nat a3) ?_)
  refine el_val 18 (u := u64 (x2 >>> 4 + x2)) rfl rfl ?_
  refine el_cons rfl (eo_bits (b := 1085102592571150095) rfl rfl rfl rfl rfl a3 (by omega) rfl ?_)
  rw [e3]
  obtain ⟨x3, hx3⟩ : ∃ x3, x3 = lanes 8 f 8 := ⟨_, rfl⟩
  obtain ⟨x4, hx4⟩ : ∃ x4, x4 = x3 + x3 >>> 8 := ⟨_, rfl⟩
  obtain ⟨x5, hx5⟩ : ∃ x5, x5 = x4 + x4 >>> 16 := ⟨_, rfl⟩
  obtain ⟨x6, hx6⟩ : ∃ x6, x6 = x5 + x5 >>> 32 := ⟨_, rfl⟩
  obtain ⟨b3, b4, b5, b6, hs⟩ := sum_lanes f hf x3 x4 x5 x6 hx3 hx4 hx5 hx6
  rw [← hx3]
  (repeat (first | refine el_pure rfl rfl rfl rfl ?_ | refine ej_seq ?_ | refine ej_region ?_ | refine el_nil ?_ | refine eq_seq ?_ | refine ej_true rfl ?_ | refine ej_false rfl ?_ | refine el_skip rfl rfl rfl ?_ | refine ej_ret ?_ | refine ej_skip ?_ | refine ej_exit ?_ | refine ej_block ?_ | refine eq_seq_ret ?_ | refine eq_seq_exit ?_ | refine eq_block ?_ | refine eq_block_exit ?_ | refine eq_block_ret ?_ | refine eq_block_exit_ne rfl ?_ | refine eq_back_ret ?_ | refine eq_back_exit ?_))
  refine el_shr 8 rfl rfl rfl rfl rfl rfl rfl ?_
  refine el_cons rfl (eo_arith rfl rfl rfl rfl rfl rfl (inR_nat (by rw [← hx4]; exact b4)) ?_)
  refine el_val 23 (u := u64 x4) rfl (by rw [hx4]; rfl) ?_
  (repeat (first | refine el_pure rfl rfl rfl rfl ?_ | refine ej_seq ?_ | refine ej_region ?_ | refine el_nil ?_ | refine eq_seq ?_ | refine ej_true rfl ?_ | refine ej_false rfl ?_ | refine el_skip rfl rfl rfl ?_ | refine ej_ret ?_ | refine ej_skip ?_ | refine ej_exit ?_ | refine ej_block ?_ | refine eq_seq_ret ?_ | refine eq_seq_exit ?_ | refine eq_block ?_ | refine eq_block_exit ?_ | refine eq_block_ret ?_ | refine eq_block_exit_ne rfl ?_ | refine eq_back_ret ?_ | refine eq_back_exit ?_))
  refine el_shr 16 rfl rfl rfl rfl rfl rfl rfl ?_
  refine el_cons rfl (eo_arith rfl rfl rfl rfl rfl rfl (inR_nat (by rw [← hx5]; exact b5)) ?_)
  refine el_val 27 (u := u64 x5) rfl (by rw [hx5]; rfl) ?_
  (repeat (first | refine el_pure rfl rfl rfl rfl ?_ | refine ej_seq ?_ | refine ej_region ?_ | refine el_nil ?_ | refine eq_seq ?_ | refine ej_true rfl ?_ | refine ej_false rfl ?_ | refine el_skip rfl rfl rfl ?_ | refine ej_ret ?_ | refine ej_skip ?_ | refine ej_exit ?_ | refine ej_block ?_ | refine eq_seq_ret ?_ | refine eq_seq_exit ?_ | refine eq_block ?_ | refine eq_block_exit ?_ | refine eq_block_ret ?_ | refine eq_block_exit_ne rfl ?_ | refine eq_back_ret ?_ | refine eq_back_exit ?_))
  refine el_shr 32 rfl rfl rfl rfl rfl rfl rfl ?_
  refine el_cons rfl (eo_arith rfl rfl rfl rfl rfl rfl (inR_nat (by rw [← hx6]; exact Nat.lt_trans b6 (by decide))) ?_)
  refine el_val 31 (u := u64 x6) rfl (by rw [hx6]; rfl) ?_
  (repeat (first | refine el_pure rfl rfl rfl rfl ?_ | refine ej_seq ?_ | refine ej_region ?_ | refine el_nil ?_ | refine eq_seq ?_ | refine ej_true rfl ?_ | refine ej_false rfl ?_ | refine el_skip rfl rfl rfl ?_ | refine ej_ret ?_ | refine ej_skip ?_ | refine ej_exit ?_ | refine ej_block ?_ | refine eq_seq_ret ?_ | refine eq_seq_exit ?_ | refine eq_block ?_ | refine eq_block_exit ?_ | refine eq_block_ret ?_ | refine eq_block_exit_ne rfl ?_ | refine eq_back_ret ?_ | refine eq_back_exit ?_))
  refine el_cons rfl (eo_conv .i64 rfl rfl rfl rfl rfl rfl rfl rfl ⟨by omega, by omega⟩ ?_)
  refine el_cons rfl (eo_andI (b := 127) rfl rfl rfl rfl rfl b6 (by omega) ?_)
  (repeat (first | refine el_pure rfl rfl rfl rfl ?_ | refine ej_seq ?_ | refine ej_region ?_ | refine el_nil ?_ | refine eq_seq ?_ | refine ej_true rfl ?_ | refine ej_false rfl ?_ | refine el_skip rfl rfl rfl ?_ | refine ej_ret ?_ | refine ej_skip ?_ | refine ej_exit ?_ | refine ej_block ?_ | refine eq_seq_ret ?_ | refine eq_seq_exit ?_ | refine eq_block ?_ | refine eq_block_exit ?_ | refine eq_block_ret ?_ | refine eq_block_exit_ne rfl ?_ | refine eq_back_ret ?_ | refine eq_back_exit ?_))
  refine eq_rett rfl fun w hw => ⟨?_, hw⟩
  rw [hp, ← hs]
  simp only [pack]
  rw [show (127 : Nat) = 2 ^ 7 - 1 from rfl, Nat.and_two_pow_sub_one_eq_mod]

theorem Len_any (x : Nat) (hx : x < 18446744073709551616) (H : WP) : Does cx F_mask_Set_Len [u64 x] H fun v w => v = int (pop x) ∧ H w := by
  refine fn_enter (n := N_mask_Set_Len) fn_mask_Set_Len rfl rfl rfl ?_
  (repeat (first | refine el_pure rfl rfl rfl rfl ?_ | refine ej_seq ?_ | refine ej_region ?_ | refine el_nil ?_ | refine eq_seq ?_ | refine ej_true rfl ?_ | refine ej_false rfl ?_ | refine el_skip rfl rfl rfl ?_ | refine ej_ret ?_ | refine ej_skip ?_ | refine ej_exit ?_ | refine ej_block ?_ | refine eq_seq_ret ?_ | refine eq_seq_exit ?_ | refine eq_block ?_ | refine eq_block_exit ?_ | refine eq_block_ret ?_ | refine eq_block_exit_ne rfl ?_ | refine eq_back_ret ?_ | refine eq_back_exit ?_))
  refine el_cons rfl (eo_call1 rfl rfl rfl rfl rfl real_math_bits_OnesCount64 (ones_walk _ hx _) ?_)
  (repeat (first | refine el_pure rfl rfl rfl rfl ?_ | refine ej_seq ?_ | refine ej_region ?_ | refine el_nil ?_ | refine eq_seq ?_ | refine ej_true rfl ?_ | refine ej_false rfl ?_ | refine el_skip rfl rfl rfl ?_ | refine ej_ret ?_ | refine ej_skip ?_ | refine ej_exit ?_ | refine ej_block ?_ | refine eq_seq_ret ?_ | refine eq_seq_exit ?_ | refine eq_block ?_ | refine eq_block_exit ?_ | refine eq_block_ret ?_ | refine eq_block_exit_ne rfl ?_ | refine eq_back_ret ?_ | refine eq_back_exit ?_))
  exact eq_rett rfl fun w hw => ⟨rfl, hw⟩

end Go.Proofs.Ytefahijlcmfpjaa
