/- Numbers as bytes, on: take. Commands as bytes: Encode, both. -/
import Derived.Test.YthmmibjhhifmeaaSf
namespace Go.Proofs.Ythmmibjhhifmeaa
open Go Go.SE

variable {w0 : World} {l : List HP} {i : Nat} {r : Option (Nat × Nat)}

theorem sub_u8s (bs : List Nat) (lo hi : Nat) : subX (u8s bs) lo hi 1 = u8s ((bs.drop lo).take (hi - lo)) := by
  simp [subX, u8s, List.map_take, List.map_drop]

theorem take_any {a : Option Addr} {c : Nat} (bs : List Nat) (w : Nat) (hb : ∀ b ∈ bs, b < 256) (hw : w ≤ bs.length) (h8 : w ≤ 8) (hV : View w0 l 1 a (u8s bs) bs.length c) :
    Does cx F_code_take [.slice a bs.length c, int w] (S w0 l) fun v W => v = .tuple #[u64 (num (bs.take w)), .slice (subA a w c 1) (bs.length - w) (c - w)] ∧ S w0 l W := by
  refine fn_enter (n := N_code_take) fn_code_take rfl rfl rfl ?_
  have hV2 := hV.sub (lo := 0) (hi := w) (Nat.zero_le _) hw
  rw [sub_u8s, List.drop_zero, Nat.sub_zero] at hV2
  have hlen : (bs.take w).length = w := by simp; omega
  (repeat (first | refine el_pure rfl rfl rfl rfl ?_ | refine ej_seq ?_ | refine ej_region ?_ | refine el_nil ?_ | refine eq_seq ?_ | refine eq_calm ?_ | refine ej_true rfl ?_ | refine ej_false rfl ?_ | refine el_skip rfl rfl rfl ?_ | refine ej_ret ?_ | refine ej_skip ?_ | refine ej_exit ?_ | refine ej_block ?_ | refine eq_seq_ret ?_ | refine eq_seq_exit ?_ | refine eq_block ?_ | refine eq_block_exit ?_ | refine eq_block_ret ?_ | refine eq_block_exit_ne rfl ?_ | refine eq_back_ret ?_ | refine eq_back_exit ?_))
  refine el_cons rfl (eo_slice 0 w rfl rfl rfl rfl rfl ⟨_, rfl⟩ rfl rfl rfl hV (Nat.zero_le _) hw ?_)
  simp only [Nat.sub_zero] at hV2 ⊢
  (repeat (first | refine el_pure rfl rfl rfl rfl ?_ | refine ej_seq ?_ | refine ej_region ?_ | refine el_nil ?_ | refine eq_seq ?_ | refine eq_calm ?_ | refine ej_true rfl ?_ | refine ej_false rfl ?_ | refine el_skip rfl rfl rfl ?_ | refine ej_ret ?_ | refine ej_skip ?_ | refine ej_exit ?_ | refine ej_block ?_ | refine eq_seq_ret ?_ | refine eq_seq_exit ?_ | refine eq_block ?_ | refine eq_block_exit ?_ | refine eq_block_ret ?_ | refine eq_block_exit_ne rfl ?_ | refine eq_back_ret ?_ | refine eq_back_exit ?_ | refine el_cons rfl (eo_lenv rfl rfl rfl rfl rfl rfl ?_) | refine el_cons rfl (eo_arith rfl rfl rfl rfl rfl rfl ⟨by omega, by omega⟩ ?_)))
  refine ej_loopP (fun k : Nat => k ≤ w) (fun k => [(0, .slice a bs.length c), (1, int w), (6, u64 (num (bs.take k))), (11, .slice (subA a 0 c 1) w c), (12, int w), (13, int k)]) (fun _ => S w0 l) (fun k => w - k) 0 (Nat.zero_le _) (le_of _ _ rfl) (fun w hw => hw) ?_
  intro k hk
  have hnum : k < w → num (bs.take k) < 256 ^ 7 := fun h => by
    have h1 := num_lt k (bs.take k) (by simp; omega) fun b hb' => hb b (List.mem_of_mem_take hb')
    exact Nat.lt_of_lt_of_le h1 (Nat.pow_le_pow_right (by decide) (by omega))
  (repeat (first | refine el_pure rfl rfl rfl rfl ?_ | refine ej_seq ?_ | refine ej_region ?_ | refine el_nil ?_ | refine eq_seq ?_ | refine eq_calm ?_ | refine ej_true rfl ?_ | refine ej_false rfl ?_ | refine el_skip rfl rfl rfl ?_ | refine ej_ret ?_ | refine ej_skip ?_ | refine ej_exit ?_ | refine ej_block ?_ | refine eq_seq_ret ?_ | refine eq_seq_exit ?_ | refine eq_block ?_ | refine eq_block_exit ?_ | refine eq_block_ret ?_ | refine eq_block_exit_ne rfl ?_ | refine eq_back_ret ?_ | refine eq_back_exit ?_))
  refine ej_dec rfl (fun h1 => ?_) (fun h1 => ?_)
  · have hlt : k < w := by omega
    have hltb : k < bs.length := by omega
    have hx : bs[k]? = some bs[k] := by simp [hltb]
    have hs := take_snoc hx
    have hx256 := hb _ (List.getElem_mem hltb)
    have hn := hnum hlt
    have hnx : num (bs.take (k + 1)) = num (bs.take k) * 256 + bs[k] := by rw [hs, num_snoc]
    have hvx : (u8s (bs.take w))[k]? = some (u8 bs[k]) := by simp [hlt, hltb]
    have hn' : num (bs.take k) < 72057594037927936 := hn
    have hor : ∀ q x : Nat, x < 256 → q * 2 ^ 8 ||| x = q * 256 + x := fun q x hx => by
      have := Nat.two_pow_add_eq_or_of_lt (i := 8) hx q
      rw [Nat.mul_comm q (2 ^ 8), ← this]
    generalize bs[k] = x at *
    generalize num (bs.take k) = q at *
    (repeat (first | refine el_pure rfl rfl rfl rfl ?_ | refine ej_seq ?_ | refine ej_region ?_ | refine el_nil ?_ | refine eq_seq ?_ | refine eq_calm ?_ | refine ej_true rfl ?_ | refine ej_false rfl ?_ | refine el_skip rfl rfl rfl ?_ | refine ej_ret ?_ | refine ej_skip ?_ | refine ej_exit ?_ | refine ej_block ?_ | refine eq_seq_ret ?_ | refine eq_seq_exit ?_ | refine eq_block ?_ | refine eq_block_exit ?_ | refine eq_block_ret ?_ | refine eq_block_exit_ne rfl ?_ | refine eq_back_ret ?_ | refine eq_back_exit ?_ | refine el_cons rfl (eo_lenv rfl rfl rfl rfl rfl rfl ?_) | refine el_cons rfl (eo_arith rfl rfl rfl rfl rfl rfl ⟨by omega, by omega⟩ ?_)))
    refine el_cons rfl (eo_idxv rfl rfl rfl rfl rfl rfl rfl rfl rfl hV2 ⟨by omega, h1⟩ ?_)
    refine el_cons rfl (eo_ldv k (v := u8 x) rfl rfl rfl ?_ rfl rfl hV2 hvx ?_)
    · show some _ = _; simp
    (repeat (first | refine el_pure rfl rfl rfl rfl ?_ | refine ej_seq ?_ | refine ej_region ?_ | refine el_nil ?_ | refine eq_seq ?_ | refine eq_calm ?_ | refine ej_true rfl ?_ | refine ej_false rfl ?_ | refine el_skip rfl rfl rfl ?_ | refine ej_ret ?_ | refine ej_skip ?_ | refine ej_exit ?_ | refine ej_block ?_ | refine eq_seq_ret ?_ | refine eq_seq_exit ?_ | refine eq_block ?_ | refine eq_block_exit ?_ | refine eq_block_ret ?_ | refine eq_block_exit_ne rfl ?_ | refine eq_back_ret ?_ | refine eq_back_exit ?_))
    refine el_cons rfl (eo_shl rfl rfl rfl rfl rfl ⟨by omega, by omega⟩ (by show q * 2 ^ 8 < _; omega) ?_)
    (repeat (first | refine el_pure rfl rfl rfl rfl ?_ | refine ej_seq ?_ | refine ej_region ?_ | refine el_nil ?_ | refine eq_seq ?_ | refine eq_calm ?_ | refine ej_true rfl ?_ | refine ej_false rfl ?_ | refine el_skip rfl rfl rfl ?_ | refine ej_ret ?_ | refine ej_skip ?_ | refine ej_exit ?_ | refine ej_block ?_ | refine eq_seq_ret ?_ | refine eq_seq_exit ?_ | refine eq_block ?_ | refine eq_block_exit ?_ | refine eq_block_ret ?_ | refine eq_block_exit_ne rfl ?_ | refine eq_back_ret ?_ | refine eq_back_exit ?_))
    refine el_cons rfl (eo_conv .u64 rfl rfl rfl rfl rfl rfl rfl rfl ⟨by omega, by omega⟩ ?_)
    refine el_cons rfl (eo_bits (a := q * 2 ^ 8) (b := x) rfl rfl rfl rfl rfl (by omega) (by omega) rfl ?_)
    rw [hor q x hx256]
    (repeat (first | refine el_pure rfl rfl rfl rfl ?_ | refine ej_seq ?_ | refine ej_region ?_ | refine el_nil ?_ | refine eq_seq ?_ | refine eq_calm ?_ | refine ej_true rfl ?_ | refine ej_false rfl ?_ | refine el_skip rfl rfl rfl ?_ | refine ej_ret ?_ | refine ej_skip ?_ | refine ej_exit ?_ | refine ej_block ?_ | refine eq_seq_ret ?_ | refine eq_seq_exit ?_ | refine eq_block ?_ | refine eq_block_exit ?_ | refine eq_block_ret ?_ | refine eq_block_exit_ne rfl ?_ | refine eq_back_ret ?_ | refine eq_back_exit ?_ | refine el_cons rfl (eo_lenv rfl rfl rfl rfl rfl rfl ?_) | refine el_cons rfl (eo_arith rfl rfl rfl rfl rfl rfl ⟨by omega, by omega⟩ ?_)))
    refine eq_backP (k + 1) (by omega) (by omega) (le_cons rfl (le_cons rfl (le_cons ?_ (le_of _ _ rfl)))) fun w hw => hw
    show some (u64 (q * 256 + x)) = some (u64 (num (bs.take (k + 1))))
    rw [hnx]
  · obtain rfl : k = w := by omega
    (repeat (first | refine el_pure rfl rfl rfl rfl ?_ | refine ej_seq ?_ | refine ej_region ?_ | refine el_nil ?_ | refine eq_seq ?_ | refine eq_calm ?_ | refine ej_true rfl ?_ | refine ej_false rfl ?_ | refine el_skip rfl rfl rfl ?_ | refine ej_ret ?_ | refine ej_skip ?_ | refine ej_exit ?_ | refine ej_block ?_ | refine eq_seq_ret ?_ | refine eq_seq_exit ?_ | refine eq_block ?_ | refine eq_block_exit ?_ | refine eq_block_ret ?_ | refine eq_block_exit_ne rfl ?_ | refine eq_back_ret ?_ | refine eq_back_exit ?_))
    refine ej_held [] ?_
    refine eh_take 0 (held .nil) rfl (by kernel_rfl) (by kernel_rfl) (by kernel_rfl) rfl rfl rfl rfl ?_
    refine eh_take 1 (held .nil) rfl (by kernel_rfl) (by kernel_rfl) (by kernel_rfl) rfl rfl rfl rfl ?_
    refine eh_take 2 (held .nil) rfl (by kernel_rfl) (by kernel_rfl) (by kernel_rfl) rfl rfl rfl rfl ?_
    refine eh_take 4 (held .nil) rfl (by kernel_rfl) (by kernel_rfl) (by kernel_rfl) rfl rfl rfl rfl ?_
    refine eh_way 3 (by kernel_rfl) (hway rfl rfl (eo_slice k bs.length rfl rfl rfl rfl ⟨_, rfl⟩ rfl rfl rfl rfl hV hw (Nat.le_refl _) ⟨held .nil, ?_⟩))
    refine eh_take 5 (held .nil) rfl (by kernel_rfl) (by kernel_rfl) (by kernel_rfl) rfl rfl rfl rfl ?_
    refine eh_done (by kernel_rfl) ?_
    (repeat (first | refine el_pure rfl rfl rfl rfl ?_ | refine ej_seq ?_ | refine ej_region ?_ | refine el_nil ?_ | refine eq_seq ?_ | refine eq_calm ?_ | refine ej_true rfl ?_ | refine ej_false rfl ?_ | refine el_skip rfl rfl rfl ?_ | refine ej_ret ?_ | refine ej_skip ?_ | refine ej_exit ?_ | refine ej_block ?_ | refine eq_seq_ret ?_ | refine eq_seq_exit ?_ | refine eq_block ?_ | refine eq_block_exit ?_ | refine eq_block_ret ?_ | refine eq_block_exit_ne rfl ?_ | refine eq_back_ret ?_ | refine eq_back_exit ?_))
    exact eq_rett rfl fun W hW => ⟨rfl, hW⟩

/-- a good one's bytes -/
def Cmd.enc (c : Cmd) : List Nat := c.op :: (be c.a.toNat (wA c.op) ++ be c.b.toNat (wB c.op) ++ be c.m (wM c.op))
theorem enc_length (c : Cmd) : c.enc.length = sizeOfOp c.op := by simp [Cmd.enc, be_length, sizeOfOp]; omega
theorem fits_lt {x : Int} {w : Nat} (hw : w ≤ 4) (h : fitsN x w) : 0 ≤ x ∧ x < 4294967296 := by
  refine ⟨h.1, Int.lt_of_lt_of_le h.2 ?_⟩
  have : 2 ^ (8 * w) ≤ 2 ^ 32 := Nat.pow_le_pow_right (by decide) (by omega)
  have h2 : ((2 ^ (8 * w) : Nat) : Int) ≤ ((4294967296 : Nat) : Int) := Int.ofNat_le.2 this
  exact h2

end Go.Proofs.Ythmmibjhhifmeaa
