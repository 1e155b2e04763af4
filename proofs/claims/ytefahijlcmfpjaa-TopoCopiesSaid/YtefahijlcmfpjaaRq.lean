/- The laws: TopoMasks. -/
import Derived.Test.YtefahijlcmfpjaaRp
namespace Go.Proofs.Ytefahijlcmfpjaa
open Go Go.SE

variable {w0 : World} {l : List HP} {i j b : Nat} {r : Option (Nat × Nat)} {T : Topo} {t : RT}

theorem Effective_rel (h : Rel T t) (d : Int) (s : Nat) : Does cx F_ref05_Effective [t.val, int d, setV (bitsL s)] (S w0 l) fun v w => v = .tuple #[setV (bitsL (T.eff d s)), int (T.effE d s)] ∧ S w0 l w := by
  have := Effective_ref (w0 := w0) (l := l) t d (bitsL s) h.okR (bitsL_length s)
  rw [h.eff, h.checkE] at this
  exact this
theorem Check_rel (h : Rel T t) (d : Int) (s : Nat) : Does cx F_ref05_Check [t.val, int d, setV (bitsL s)] (S w0 l) fun v w => v = int (T.effE d s) ∧ S w0 l w := by
  have := Check_ref (w0 := w0) (l := l) t d (bitsL s) h.okR (bitsL_length s)
  rw [h.checkE] at this
  exact this
theorem eff_lt (hT : T.Ok) (d : Int) (s : Nat) : T.eff d s < 18446744073709551616 := by
  unfold Topo.eff
  split
  · decide
  · split
    · exact hT.online d
    · exact and_lt (hT.online d)
theorem eff_ne (h : Rel T t) (d : Int) (s : Nat) (h0 : T.effE d s = 0) : T.eff d s ≠ 0 := by
  have h1 : T.checkE d s = 0 := h0
  have ht : T.there d := by
    apply Classical.byContradiction
    intro hn
    unfold Topo.checkE Topo.coresE at h1
    rw [if_neg hn] at h1
    cases h1
  have hon : T.online d ≠ 0 := by
    obtain ⟨a, b⟩ := ht
    have := h.online_ne (d := d.toNat) (by omega)
    rwa [show ((d.toNat : Nat) : Int) = d by omega] at this
  unfold Topo.eff
  rw [if_neg (by rw [h1]; decide)]
  split
  · exact hon
  · assumption
theorem eff_in (hT : T.Ok) (d : Int) (s : Nat) : T.eff d s &&& (18446744073709551615 ^^^ T.online d) = 0 := by
  have key : ∀ x, x &&& (18446744073709551615 ^^^ T.online d) = 0 ∨ True := fun _ => .inr trivial
  have base : T.online d &&& (18446744073709551615 ^^^ T.online d) = 0 := by
    apply Nat.eq_of_testBit_eq
    intro k
    rw [Nat.testBit_and, Nat.testBit_xor]
    by_cases hk : k < 64
    · rw [ones_bit hk]; cases (T.online d).testBit k <;> simp
    · have hle : 2 ^ 64 ≤ 2 ^ k := Nat.pow_le_pow_right (show 0 < 2 by decide) (show 64 ≤ k by omega)
      have hlt : T.online d < 2 ^ k := Nat.lt_of_lt_of_le (hT.online d) hle
      rw [Nat.testBit_lt_two_pow hlt]; simp
  unfold Topo.eff
  split
  · simp
  · split
    · exact base
    · rw [Nat.and_comm (T.online d) s, Nat.and_assoc, base, Nat.and_zero]

set_option maxHeartbeats 3200000 in
theorem Masks_any {a a2 : Option Addr} {c c2 : Nat} (xs : List Nat) (ds : List Doing) (d : Int) (s : Nat) (hs : s < 18446744073709551616) (hM : Masks w0 l i a xs) (hA : Told w0 l i a2 ds) : Does cx F_law05_TopoMasks [.slice a xs.length c, .slice a2 ds.length c2, .agg #[int d, u64 s]] (S w0 l) fun v w => v = .bool true ∧ S w0 l w := by
  have hfits := hM.fits
  refine fn_enter (n := N_law05_TopoMasks) fn_law05_TopoMasks rfl rfl rfl ?_
  refine ej_seq (ej_region (el_cons rfl (eo_box rfl rfl rfl rfl fun b5 => ?_)))
  (repeat (first | refine el_pure rfl rfl rfl rfl ?_ | refine ej_seq ?_ | refine ej_region ?_ | refine el_nil ?_ | refine eq_seq ?_ | refine eq_calm ?_ | refine ej_true rfl ?_ | refine ej_false rfl ?_ | refine el_skip rfl rfl rfl ?_ | refine ej_ret ?_ | refine ej_skip ?_ | refine ej_exit ?_ | refine ej_block ?_ | refine eq_seq_ret ?_ | refine eq_seq_exit ?_ | refine eq_block ?_ | refine eq_block_exit ?_ | refine eq_block_ret ?_ | refine eq_block_exit_ne rfl ?_ | refine eq_back_ret ?_ | refine eq_back_exit ?_))
  refine el_cons rfl (eo_call1 rfl rfl rfl rfl rfl real_law05_awake awake_any ?_)
  (repeat (first | refine el_pure rfl rfl rfl rfl ?_ | refine ej_seq ?_ | refine ej_region ?_ | refine el_nil ?_ | refine eq_seq ?_ | refine eq_calm ?_ | refine ej_true rfl ?_ | refine ej_false rfl ?_ | refine el_skip rfl rfl rfl ?_ | refine ej_ret ?_ | refine ej_skip ?_ | refine ej_exit ?_ | refine ej_block ?_ | refine eq_seq_ret ?_ | refine eq_seq_exit ?_ | refine eq_block ?_ | refine eq_block_exit ?_ | refine eq_block_ret ?_ | refine eq_block_exit_ne rfl ?_ | refine eq_back_ret ?_ | refine eq_back_exit ?_ | refine el_cons rfl (eo_lenv rfl rfl rfl rfl rfl rfl ?_) | refine el_cons rfl (eo_arith rfl rfl rfl rfl rfl rfl ⟨by omega, by omega⟩ ?_)))
  refine ej_dec rfl (fun h1 => ?_) (fun h1 => ?_)
  · (repeat (first | refine el_pure rfl rfl rfl rfl ?_ | refine ej_seq ?_ | refine ej_region ?_ | refine el_nil ?_ | refine eq_seq ?_ | refine eq_calm ?_ | refine ej_true rfl ?_ | refine ej_false rfl ?_ | refine el_skip rfl rfl rfl ?_ | refine ej_ret ?_ | refine ej_skip ?_ | refine ej_exit ?_ | refine ej_block ?_ | refine eq_seq_ret ?_ | refine eq_seq_exit ?_ | refine eq_block ?_ | refine eq_block_exit ?_ | refine eq_block_ret ?_ | refine eq_block_exit_ne rfl ?_ | refine eq_back_ret ?_ | refine eq_back_exit ?_))
    refine el_cons rfl (eo_call1 rfl rfl rfl rfl rfl real_law05_awake awake_any ?_)
    (repeat (first | refine el_pure rfl rfl rfl rfl ?_ | refine ej_seq ?_ | refine ej_region ?_ | refine el_nil ?_ | refine eq_seq ?_ | refine eq_calm ?_ | refine ej_true rfl ?_ | refine ej_false rfl ?_ | refine el_skip rfl rfl rfl ?_ | refine ej_ret ?_ | refine ej_skip ?_ | refine ej_exit ?_ | refine ej_block ?_ | refine eq_seq_ret ?_ | refine eq_seq_exit ?_ | refine eq_block ?_ | refine eq_block_exit ?_ | refine eq_block_ret ?_ | refine eq_block_exit_ne rfl ?_ | refine eq_back_ret ?_ | refine eq_back_exit ?_))
    exact eq_rett rfl fun w hw => ⟨rfl, hw.drop 1⟩
  have h30 : ds.length ≤ 30 := by omega
  (repeat (first | refine el_pure rfl rfl rfl rfl ?_ | refine ej_seq ?_ | refine ej_region ?_ | refine el_nil ?_ | refine eq_seq ?_ | refine eq_calm ?_ | refine ej_true rfl ?_ | refine ej_false rfl ?_ | refine el_skip rfl rfl rfl ?_ | refine ej_ret ?_ | refine ej_skip ?_ | refine ej_exit ?_ | refine ej_block ?_ | refine eq_seq_ret ?_ | refine eq_seq_exit ?_ | refine eq_block ?_ | refine eq_block_exit ?_ | refine eq_block_ret ?_ | refine eq_block_exit_ne rfl ?_ | refine eq_back_ret ?_ | refine eq_back_exit ?_))
  refine el_cons rfl (eo_call2 rfl rfl rfl rfl rfl real_law05_Open (Open_any xs (hM.cons _)) (fun x h0 => ?_) (fun t h0 => ?_))
  · obtain ⟨bt, rt⟩ := x
    obtain ⟨_, h0⟩ := h0
    have hR := new_T hM.lt h0
    generalize newT (bitsLs xs) = t at *
    generalize topoT xs = T at *
    have hok := hR.okR
    (repeat (first | refine el_pure rfl rfl rfl rfl ?_ | refine ej_seq ?_ | refine ej_region ?_ | refine el_nil ?_ | refine eq_seq ?_ | refine eq_calm ?_ | refine ej_true rfl ?_ | refine ej_false rfl ?_ | refine el_skip rfl rfl rfl ?_ | refine ej_ret ?_ | refine ej_skip ?_ | refine ej_exit ?_ | refine ej_block ?_ | refine eq_seq_ret ?_ | refine eq_seq_exit ?_ | refine eq_block ?_ | refine eq_block_exit ?_ | refine eq_block_ret ?_ | refine eq_block_exit_ne rfl ?_ | refine eq_back_ret ?_ | refine eq_back_exit ?_))
    refine el_cons rfl (eo_alloc rfl rfl rfl rfl fun b8 => ?_)
    (repeat (first | refine el_pure rfl rfl rfl rfl ?_ | refine ej_seq ?_ | refine ej_region ?_ | refine el_nil ?_ | refine eq_seq ?_ | refine eq_calm ?_ | refine ej_true rfl ?_ | refine ej_false rfl ?_ | refine el_skip rfl rfl rfl ?_ | refine ej_ret ?_ | refine ej_skip ?_ | refine ej_exit ?_ | refine ej_block ?_ | refine eq_seq_ret ?_ | refine eq_seq_exit ?_ | refine eq_block ?_ | refine eq_block_exit ?_ | refine eq_block_ret ?_ | refine eq_block_exit_ne rfl ?_ | refine eq_back_ret ?_ | refine eq_back_exit ?_))
    refine el_cons rfl (eo_stA 0 rfl rfl rfl rfl rfl hok.len (RT.one _) rfl rfl ?_)
    (repeat (first | refine el_pure rfl rfl rfl rfl ?_ | refine ej_seq ?_ | refine ej_region ?_ | refine el_nil ?_ | refine eq_seq ?_ | refine eq_calm ?_ | refine ej_true rfl ?_ | refine ej_false rfl ?_ | refine el_skip rfl rfl rfl ?_ | refine ej_ret ?_ | refine ej_skip ?_ | refine ej_exit ?_ | refine ej_block ?_ | refine eq_seq_ret ?_ | refine eq_seq_exit ?_ | refine eq_block ?_ | refine eq_block_exit ?_ | refine eq_block_ret ?_ | refine eq_block_exit_ne rfl ?_ | refine eq_back_ret ?_ | refine eq_back_exit ?_ | refine el_cons rfl (eo_lenv rfl rfl rfl rfl rfl rfl ?_) | refine el_cons rfl (eo_arith rfl rfl rfl rfl rfl rfl ⟨by omega, by omega⟩ ?_)))
    refine ej_loopP (α := Nat × Topo × RT) (fun x => x.1 ≤ ds.length ∧ Rel x.2.1 x.2.2) (fun x => [(5, ptr b5), (7, ptr bt), (8, ptr b8), (35, .slice a2 ds.length c2), (36, int ds.length), (37, int x.1)])
      (fun x => S w0 (cells b8 T_ref05_T x.2.2.cells :: laid bt rt x.2.1 (cells b5 60 [int d, u64 s] :: l))) (fun x => ds.length - x.1) (0, T, t) ⟨Nat.zero_le _, hR⟩ (le_of _ _ rfl) (fun w hw => hw) ?_
    rintro ⟨k, Tk, tk⟩ ⟨hk, hRk⟩
    have hk : k ≤ ds.length := hk
    have hRk : Rel Tk tk := hRk
    (repeat (first | refine el_pure rfl rfl rfl rfl ?_ | refine ej_seq ?_ | refine ej_region ?_ | refine el_nil ?_ | refine eq_seq ?_ | refine eq_calm ?_ | refine ej_true rfl ?_ | refine ej_false rfl ?_ | refine el_skip rfl rfl rfl ?_ | refine ej_ret ?_ | refine ej_skip ?_ | refine ej_exit ?_ | refine ej_block ?_ | refine eq_seq_ret ?_ | refine eq_seq_exit ?_ | refine eq_block ?_ | refine eq_block_exit ?_ | refine eq_block_ret ?_ | refine eq_block_exit_ne rfl ?_ | refine eq_back_ret ?_ | refine eq_back_exit ?_))
    refine ej_dec rfl (fun h => ?_) (fun h => ?_)
    · have h : (k : Int) < ds.length := h
      have hkl : k < ds.length := by omega
      obtain ⟨x, hx, hxs⟩ := hA.at hkl
      have hRn := hRk.step x
      (repeat (first | refine el_pure rfl rfl rfl rfl ?_ | refine ej_seq ?_ | refine ej_region ?_ | refine el_nil ?_ | refine eq_seq ?_ | refine eq_calm ?_ | refine ej_true rfl ?_ | refine ej_false rfl ?_ | refine el_skip rfl rfl rfl ?_ | refine ej_ret ?_ | refine ej_skip ?_ | refine ej_exit ?_ | refine ej_block ?_ | refine eq_seq_ret ?_ | refine eq_seq_exit ?_ | refine eq_block ?_ | refine eq_block_exit ?_ | refine eq_block_ret ?_ | refine eq_block_exit_ne rfl ?_ | refine eq_back_ret ?_ | refine eq_back_exit ?_ | refine el_cons rfl (eo_lenv rfl rfl rfl rfl rfl rfl ?_) | refine el_cons rfl (eo_arith rfl rfl rfl rfl rfl rfl ⟨by omega, by omega⟩ ?_)))
      refine el_cons rfl (eo_idxo rfl rfl rfl rfl rfl rfl rfl rfl rfl hA.sl ⟨by omega, h⟩ ?_)
      refine el_cons rfl (eo_ldoA (i + 4) (k * 2) rfl rfl rfl ?_ rfl rfl hA.old hA.sl rfl hxs ?_)
      · show some _ = _; simp
      refine el_cons rfl (eo_alloc rfl rfl rfl rfl fun b11 => ?_)
      refine el_cons rfl (eo_stA 0 rfl rfl rfl rfl rfl rfl (one_doing x) rfl rfl ?_)
      (repeat (first | refine el_pure rfl rfl rfl rfl ?_ | refine ej_seq ?_ | refine ej_region ?_ | refine el_nil ?_ | refine eq_seq ?_ | refine eq_calm ?_ | refine ej_true rfl ?_ | refine ej_false rfl ?_ | refine el_skip rfl rfl rfl ?_ | refine ej_ret ?_ | refine ej_skip ?_ | refine ej_exit ?_ | refine ej_block ?_ | refine eq_seq_ret ?_ | refine eq_seq_exit ?_ | refine eq_block ?_ | refine eq_block_exit ?_ | refine eq_block_ret ?_ | refine eq_block_exit_ne rfl ?_ | refine eq_back_ret ?_ | refine eq_back_exit ?_))
      refine el_cons rfl (eo_ldW 1 rfl rfl rfl rfl rfl rfl rfl hRk.okR.len ?_)
      refine el_cons rfl (eo_ldW 0 rfl rfl rfl rfl rfl rfl rfl rfl ?_)
      refine el_cons rfl (eo_call1 rfl rfl rfl rfl rfl real_law05_do (do_any (i := 2) (j := 3) x ⟨rfl, rfl⟩ hRk) ?_)
      have hdoms : (Tk.step x).doms = Tk.doms := step_doms Tk x
      refine el_imp (H' := S w0 (cells b11 T_law05_Act x.cells :: cells b8 T_ref05_T tk.cells :: laid bt rt (Tk.step x) (cells b5 60 [int d, u64 s] :: l))) (fun w hw => by rw [laid, hdoms]; rw [topoSet, hdoms] at hw; exact hw) ?_
      (repeat (first | refine el_pure rfl rfl rfl rfl ?_ | refine ej_seq ?_ | refine ej_region ?_ | refine el_nil ?_ | refine eq_seq ?_ | refine eq_calm ?_ | refine ej_true rfl ?_ | refine ej_false rfl ?_ | refine el_skip rfl rfl rfl ?_ | refine ej_ret ?_ | refine ej_skip ?_ | refine ej_exit ?_ | refine ej_block ?_ | refine eq_seq_ret ?_ | refine eq_seq_exit ?_ | refine eq_block ?_ | refine eq_block_exit ?_ | refine eq_block_ret ?_ | refine eq_block_exit_ne rfl ?_ | refine eq_back_ret ?_ | refine eq_back_exit ?_))
      refine el_cons rfl (eo_stA 1 rfl rfl rfl rfl rfl hRn.okR.len (RT.one _) rfl hRk.okR.len ?_)
      (repeat (first | refine el_pure rfl rfl rfl rfl ?_ | refine ej_seq ?_ | refine ej_region ?_ | refine el_nil ?_ | refine eq_seq ?_ | refine eq_calm ?_ | refine ej_true rfl ?_ | refine ej_false rfl ?_ | refine el_skip rfl rfl rfl ?_ | refine ej_ret ?_ | refine ej_skip ?_ | refine ej_exit ?_ | refine ej_block ?_ | refine eq_seq_ret ?_ | refine eq_seq_exit ?_ | refine eq_block ?_ | refine eq_block_exit ?_ | refine eq_block_ret ?_ | refine eq_block_exit_ne rfl ?_ | refine eq_back_ret ?_ | refine eq_back_exit ?_ | refine el_cons rfl (eo_lenv rfl rfl rfl rfl rfl rfl ?_) | refine el_cons rfl (eo_arith rfl rfl rfl rfl rfl rfl ⟨by omega, by omega⟩ ?_)))
      exact eq_backP (k + 1, Tk.step x, tk.step x) ⟨by show k + 1 ≤ ds.length; omega, hRn⟩ (by show ds.length - (k + 1) < ds.length - k; omega) (le_of _ _ rfl) fun w hw => hw.drop 1
    clear hR hok h0 hfits
    have hOk := hRk.okT
    have hlen := hRk.okR.len
    have hE := hOk.online d
    have hlt := eff_lt hOk d s
    have hne := eff_ne hRk d s
    have hin := eff_in hOk d s
    have hec : Tk.effE d s = Tk.checkE d s := rfl
    (repeat (first | refine el_pure rfl rfl rfl rfl ?_ | refine ej_seq ?_ | refine ej_region ?_ | refine el_nil ?_ | refine eq_seq ?_ | refine eq_calm ?_ | refine ej_true rfl ?_ | refine ej_false rfl ?_ | refine el_skip rfl rfl rfl ?_ | refine ej_ret ?_ | refine ej_skip ?_ | refine ej_exit ?_ | refine ej_block ?_ | refine eq_seq_ret ?_ | refine eq_seq_exit ?_ | refine eq_block ?_ | refine eq_block_exit ?_ | refine eq_block_ret ?_ | refine eq_block_exit_ne rfl ?_ | refine eq_back_ret ?_ | refine eq_back_exit ?_))
    refine el_cons rfl (eo_ld 3 rfl rfl rfl rfl rfl rfl rfl rfl ?_)
    refine el_cons rfl (eo_call1 rfl rfl rfl rfl rfl real_ref01_Bits (Bits_any s hs) ?_)
    refine el_cons rfl (eo_alloc rfl rfl rfl rfl fun b12 => ?_)
    refine el_cons rfl (eo_stA 0 rfl rfl rfl rfl rfl (by exact lenB s) (all_bools _) rfl rfl ?_)
    (repeat (first | refine el_pure rfl rfl rfl rfl ?_ | refine ej_seq ?_ | refine ej_region ?_ | refine el_nil ?_ | refine eq_seq ?_ | refine eq_calm ?_ | refine ej_true rfl ?_ | refine ej_false rfl ?_ | refine el_skip rfl rfl rfl ?_ | refine ej_ret ?_ | refine ej_skip ?_ | refine ej_exit ?_ | refine ej_block ?_ | refine eq_seq_ret ?_ | refine eq_seq_exit ?_ | refine eq_block ?_ | refine eq_block_exit ?_ | refine eq_block_ret ?_ | refine eq_block_exit_ne rfl ?_ | refine eq_back_ret ?_ | refine eq_back_exit ?_))
    refine el_cons rfl (eo_ld 4 rfl rfl rfl rfl rfl rfl rfl rfl ?_)
    (repeat (first | refine el_pure rfl rfl rfl rfl ?_ | refine ej_seq ?_ | refine ej_region ?_ | refine el_nil ?_ | refine eq_seq ?_ | refine eq_calm ?_ | refine ej_true rfl ?_ | refine ej_false rfl ?_ | refine el_skip rfl rfl rfl ?_ | refine ej_ret ?_ | refine ej_skip ?_ | refine ej_exit ?_ | refine ej_block ?_ | refine eq_seq_ret ?_ | refine eq_seq_exit ?_ | refine eq_block ?_ | refine eq_block_exit ?_ | refine eq_block_ret ?_ | refine eq_block_exit_ne rfl ?_ | refine eq_back_ret ?_ | refine eq_back_exit ?_))
    refine el_cons rfl (eo_ld 4 rfl rfl rfl rfl rfl rfl rfl rfl ?_)
    refine el_cons rfl (eo_call1 rfl rfl rfl rfl rfl real_topo_Topo_Effective (Effective_any (i := 2) (j := 3) d s hs ⟨rfl, rfl⟩ hOk) ?_)
    (repeat (first | refine el_pure rfl rfl rfl rfl ?_ | refine ej_seq ?_ | refine ej_region ?_ | refine el_nil ?_ | refine eq_seq ?_ | refine eq_calm ?_ | refine ej_true rfl ?_ | refine ej_false rfl ?_ | refine el_skip rfl rfl rfl ?_ | refine ej_ret ?_ | refine ej_skip ?_ | refine ej_exit ?_ | refine ej_block ?_ | refine eq_seq_ret ?_ | refine eq_seq_exit ?_ | refine eq_block ?_ | refine eq_block_exit ?_ | refine eq_block_ret ?_ | refine eq_block_exit_ne rfl ?_ | refine eq_back_ret ?_ | refine eq_back_exit ?_))
    refine el_cons rfl (eo_ldW 1 rfl rfl rfl rfl rfl rfl rfl hlen ?_)
    (repeat (first | refine el_pure rfl rfl rfl rfl ?_ | refine ej_seq ?_ | refine ej_region ?_ | refine el_nil ?_ | refine eq_seq ?_ | refine eq_calm ?_ | refine ej_true rfl ?_ | refine ej_false rfl ?_ | refine el_skip rfl rfl rfl ?_ | refine ej_ret ?_ | refine ej_skip ?_ | refine ej_exit ?_ | refine ej_block ?_ | refine eq_seq_ret ?_ | refine eq_seq_exit ?_ | refine eq_block ?_ | refine eq_block_exit ?_ | refine eq_block_ret ?_ | refine eq_block_exit_ne rfl ?_ | refine eq_back_ret ?_ | refine eq_back_exit ?_))
    refine el_cons rfl (eo_ld 4 rfl rfl rfl rfl rfl rfl rfl rfl ?_)
    refine el_cons rfl (eo_ldW 0 rfl rfl rfl rfl rfl rfl rfl (by exact lenB s) ?_)
    refine el_cons rfl (eo_call1 rfl rfl rfl rfl rfl real_ref05_Effective (Effective_rel hRk d s) ?_)
    (repeat (first | refine el_pure rfl rfl rfl rfl ?_ | refine ej_seq ?_ | refine ej_region ?_ | refine el_nil ?_ | refine eq_seq ?_ | refine eq_calm ?_ | refine ej_true rfl ?_ | refine ej_false rfl ?_ | refine el_skip rfl rfl rfl ?_ | refine ej_ret ?_ | refine ej_skip ?_ | refine ej_exit ?_ | refine ej_block ?_ | refine eq_seq_ret ?_ | refine eq_seq_exit ?_ | refine eq_block ?_ | refine eq_block_exit ?_ | refine eq_block_ret ?_ | refine eq_block_exit_ne rfl ?_ | refine eq_back_ret ?_ | refine eq_back_exit ?_))
    refine el_cons rfl (eo_alloc rfl rfl rfl rfl fun b15 => ?_)
    refine el_cons rfl (eo_stA 0 rfl rfl rfl rfl rfl (by exact lenB _) (all_bools _) rfl rfl ?_)
    (repeat (first | refine el_pure rfl rfl rfl rfl ?_ | refine ej_seq ?_ | refine ej_region ?_ | refine el_nil ?_ | refine eq_seq ?_ | refine eq_calm ?_ | refine ej_true rfl ?_ | refine ej_false rfl ?_ | refine el_skip rfl rfl rfl ?_ | refine ej_ret ?_ | refine ej_skip ?_ | refine ej_exit ?_ | refine ej_block ?_ | refine eq_seq_ret ?_ | refine eq_seq_exit ?_ | refine eq_block ?_ | refine eq_block_exit ?_ | refine eq_block_ret ?_ | refine eq_block_exit_ne rfl ?_ | refine eq_back_ret ?_ | refine eq_back_exit ?_))
    have hef : ∃ ef, ef = Tk.eff d s := ⟨_, rfl⟩
    obtain ⟨ef, hef⟩ := hef
    rw [← hef] at hlt hne hin ⊢
    rw [hec] at hne ⊢
    have hck : Does cx F_topo_Topo_Check [ptr bt, int d, u64 s] (S w0 (cells b15 27 (bools (bitsL ef)) :: cells b12 27 (bools (bitsL s)) :: cells b8 T_ref05_T tk.cells :: laid bt rt Tk (cells b5 60 [int d, u64 s] :: l))) fun v w => v = int (Tk.checkE d s) ∧ S w0 (cells b15 27 (bools (bitsL ef)) :: cells b12 27 (bools (bitsL s)) :: cells b8 T_ref05_T tk.cells :: laid bt rt Tk (cells b5 60 [int d, u64 s] :: l)) w := Check_any (i := 3) (j := 4) d s hs ⟨rfl, rfl⟩ hOk
    have hcr : Does cx F_ref05_Check [tk.val, int d, setV (bitsL s)] (S w0 (cells b15 27 (bools (bitsL ef)) :: cells b12 27 (bools (bitsL s)) :: cells b8 T_ref05_T tk.cells :: laid bt rt Tk (cells b5 60 [int d, u64 s] :: l))) fun v w => v = int (Tk.checkE d s) ∧ S w0 (cells b15 27 (bools (bitsL ef)) :: cells b12 27 (bools (bitsL s)) :: cells b8 T_ref05_T tk.cells :: laid bt rt Tk (cells b5 60 [int d, u64 s] :: l)) w := Check_rel hRk d s
    generalize Tk.checkE d s = E at *
    refine ej_held [cells b15 27 (bools (bitsL ef)), cells b12 27 (bools (bitsL s)), cells b8 T_ref05_T tk.cells, cells b5 60 [int d, u64 s]] ?_
    refine eh_take 0 (held (.cons 0 rfl (.cons 1 rfl (.cons 2 rfl (.cons 5 rfl .nil))))) rfl (by kernel_rfl) (by kernel_rfl) (by kernel_rfl) rfl rfl rfl rfl ?_
    refine eh_take 1 (held (.cons 0 rfl (.cons 1 rfl (.cons 2 rfl (.cons 5 rfl .nil))))) rfl (by kernel_rfl) (by kernel_rfl) (by kernel_rfl) rfl rfl rfl rfl ?_
    refine eh_take 3 (held (.cons 0 rfl (.cons 1 rfl (.cons 2 rfl (.cons 5 rfl .nil))))) rfl (by kernel_rfl) (by kernel_rfl) (by kernel_rfl) rfl rfl rfl rfl ?_
    refine eh_take 7 (held (.cons 0 rfl (.cons 1 rfl (.cons 2 rfl (.cons 5 rfl .nil))))) rfl (by kernel_rfl) (by kernel_rfl) (by kernel_rfl) rfl rfl rfl rfl ?_
    refine eh_load 2 (held (.cons 0 rfl (.cons 1 rfl (.cons 2 rfl (.cons 5 rfl .nil))))) rfl (by kernel_rfl) (by kernel_rfl) (by kernel_rfl) rfl rfl rfl (er_ld 3 rfl rfl rfl rfl rfl rfl) ?_
    refine eh_load 4 (held (.cons 0 rfl (.cons 1 rfl (.cons 2 rfl (.cons 5 rfl .nil))))) rfl (by kernel_rfl) (by kernel_rfl) (by kernel_rfl) rfl rfl rfl (er_ld 3 rfl rfl rfl rfl rfl rfl) ?_
    refine eh_load 8 (held (.cons 0 rfl (.cons 1 rfl (.cons 2 rfl (.cons 5 rfl .nil))))) rfl (by kernel_rfl) (by kernel_rfl) (by kernel_rfl) rfl rfl rfl (er_ld 3 rfl rfl rfl rfl rfl rfl) ?_
    refine eh_load 6 (held (.cons 0 rfl (.cons 1 rfl (.cons 2 rfl (.cons 5 rfl .nil))))) rfl (by kernel_rfl) (by kernel_rfl) (by kernel_rfl) rfl rfl rfl (er_ldW 2 rfl rfl rfl rfl rfl hlen) ?_
    refine eh_load 9 (held (.cons 0 rfl (.cons 1 rfl (.cons 2 rfl (.cons 5 rfl .nil))))) rfl (by kernel_rfl) (by kernel_rfl) (by kernel_rfl) rfl rfl rfl (er_ldW 1 rfl rfl rfl rfl rfl (by exact lenB s)) ?_
    refine eh_way 5 (by kernel_rfl) (hway rfl rfl (eo_call1 rfl rfl rfl rfl rfl real_topo_Topo_Check hck ⟨held (.cons 0 rfl (.cons 1 rfl (.cons 2 rfl (.cons 5 rfl .nil)))), ?_⟩))
    refine eh_way 10 (by kernel_rfl) (hway rfl rfl (eo_call1 rfl rfl rfl rfl rfl real_ref05_Check hcr ⟨held (.cons 0 rfl (.cons 1 rfl (.cons 2 rfl (.cons 5 rfl .nil)))), ?_⟩))
    refine eh_take 11 (held (.cons 0 rfl (.cons 1 rfl (.cons 2 rfl (.cons 5 rfl .nil))))) rfl (by kernel_rfl) (by kernel_rfl) (by kernel_rfl) rfl rfl rfl rfl ?_
    refine eh_val 80 (u := .bool false) rfl (by simp) ?_
    refine eh_take 12 (held (.cons 0 rfl (.cons 1 rfl (.cons 2 rfl (.cons 5 rfl .nil))))) rfl (by kernel_rfl) (by kernel_rfl) (by kernel_rfl) rfl rfl rfl rfl ?_
    refine eh_take 13 (held (.cons 0 rfl (.cons 1 rfl (.cons 2 rfl (.cons 5 rfl .nil))))) rfl (by kernel_rfl) (by kernel_rfl) (by kernel_rfl) rfl rfl rfl rfl ?_
    refine eh_take 14 (held (.cons 0 rfl (.cons 1 rfl (.cons 2 rfl (.cons 5 rfl .nil))))) rfl (by kernel_rfl) (by kernel_rfl) (by kernel_rfl) rfl rfl rfl rfl ?_
    refine eh_take 15 (held (.cons 0 rfl (.cons 1 rfl (.cons 2 rfl (.cons 5 rfl .nil))))) rfl (by kernel_rfl) (by kernel_rfl) (by kernel_rfl) rfl rfl rfl rfl ?_
    refine eh_val 84 (u := .bool false) rfl (by simp) ?_
    refine eh_take 16 (held (.cons 0 rfl (.cons 1 rfl (.cons 2 rfl (.cons 5 rfl .nil))))) rfl (by kernel_rfl) (by kernel_rfl) (by kernel_rfl) rfl rfl rfl rfl ?_
    refine eh_take 17 (held (.cons 0 rfl (.cons 1 rfl (.cons 2 rfl (.cons 5 rfl .nil))))) rfl (by kernel_rfl) (by kernel_rfl) (by kernel_rfl) rfl rfl rfl rfl ?_
    refine eh_take 18 (held (.cons 0 rfl (.cons 1 rfl (.cons 2 rfl (.cons 5 rfl .nil))))) rfl (by kernel_rfl) (by kernel_rfl) (by kernel_rfl) rfl rfl rfl rfl ?_
    refine eh_load 19 (held (.cons 0 rfl (.cons 1 rfl (.cons 2 rfl (.cons 5 rfl .nil))))) rfl (by kernel_rfl) (by kernel_rfl) (by kernel_rfl) rfl rfl rfl (er_ldW 0 rfl rfl rfl rfl rfl (by exact lenB ef)) ?_
    refine eh_way 20 (by kernel_rfl) (hway rfl rfl (eo_call1 rfl rfl rfl rfl rfl real_law01_Is (Is_bits ef hlt) ⟨held (.cons 0 rfl (.cons 1 rfl (.cons 2 rfl (.cons 5 rfl .nil)))), ?_⟩))
    refine eh_take 21 (held (.cons 0 rfl (.cons 1 rfl (.cons 2 rfl (.cons 5 rfl .nil))))) rfl (by kernel_rfl) (by kernel_rfl) (by kernel_rfl) rfl rfl rfl rfl ?_
    refine eh_take 22 (held (.cons 0 rfl (.cons 1 rfl (.cons 2 rfl (.cons 5 rfl .nil))))) rfl (by kernel_rfl) (by kernel_rfl) (by kernel_rfl) rfl rfl rfl rfl ?_
    refine eh_done (by kernel_rfl) ?_
    (repeat (first | refine el_pure rfl rfl rfl rfl ?_ | refine ej_seq ?_ | refine ej_region ?_ | refine el_nil ?_ | refine eq_seq ?_ | refine eq_calm ?_ | refine ej_true rfl ?_ | refine ej_false rfl ?_ | refine el_skip rfl rfl rfl ?_ | refine ej_ret ?_ | refine ej_skip ?_ | refine ej_exit ?_ | refine ej_block ?_ | refine eq_seq_ret ?_ | refine eq_seq_exit ?_ | refine eq_block ?_ | refine eq_block_exit ?_ | refine eq_block_ret ?_ | refine eq_block_exit_ne rfl ?_ | refine eq_back_ret ?_ | refine eq_back_exit ?_))
    refine ej_dec rfl (fun h5 => ?_) (fun h5 => ?_)
    · (repeat (first | refine el_pure rfl rfl rfl rfl ?_ | refine ej_seq ?_ | refine ej_region ?_ | refine el_nil ?_ | refine eq_seq ?_ | refine eq_calm ?_ | refine ej_true rfl ?_ | refine ej_false rfl ?_ | refine el_skip rfl rfl rfl ?_ | refine ej_ret ?_ | refine ej_skip ?_ | refine ej_exit ?_ | refine ej_block ?_ | refine eq_seq_ret ?_ | refine eq_seq_exit ?_ | refine eq_block ?_ | refine eq_block_exit ?_ | refine eq_block_ret ?_ | refine eq_block_exit_ne rfl ?_ | refine eq_back_ret ?_ | refine eq_back_exit ?_))
      exact eq_rett rfl fun w hw => ⟨rfl, hw.drop 6⟩
    have h5 : E = 0 := by omega
    have hne := hne h5
    (repeat (first | refine el_pure rfl rfl rfl rfl ?_ | refine ej_seq ?_ | refine ej_region ?_ | refine el_nil ?_ | refine eq_seq ?_ | refine eq_calm ?_ | refine ej_true rfl ?_ | refine ej_false rfl ?_ | refine el_skip rfl rfl rfl ?_ | refine ej_ret ?_ | refine ej_skip ?_ | refine ej_exit ?_ | refine ej_block ?_ | refine eq_seq_ret ?_ | refine eq_seq_exit ?_ | refine eq_block ?_ | refine eq_block_exit ?_ | refine eq_block_ret ?_ | refine eq_block_exit_ne rfl ?_ | refine eq_back_ret ?_ | refine eq_back_exit ?_))
    refine el_cons rfl (eo_ld 5 rfl rfl rfl rfl rfl rfl rfl rfl ?_)
    refine el_cons rfl (eo_call1 rfl rfl rfl rfl rfl real_topo_Topo_Online (Online_any (i := 3) (j := 4) d ⟨rfl, rfl⟩ hOk) ?_)
    (repeat (first | refine el_pure rfl rfl rfl rfl ?_ | refine ej_seq ?_ | refine ej_region ?_ | refine el_nil ?_ | refine eq_seq ?_ | refine eq_calm ?_ | refine ej_true rfl ?_ | refine ej_false rfl ?_ | refine el_skip rfl rfl rfl ?_ | refine ej_ret ?_ | refine ej_skip ?_ | refine ej_exit ?_ | refine ej_block ?_ | refine eq_seq_ret ?_ | refine eq_seq_exit ?_ | refine eq_block ?_ | refine eq_block_exit ?_ | refine eq_block_ret ?_ | refine eq_block_exit_ne rfl ?_ | refine eq_back_ret ?_ | refine eq_back_exit ?_))
    refine el_val 103 (u := .bool true) rfl (by rw [decide_eq_true (by omega)]) ?_
    (repeat (first | refine el_pure rfl rfl rfl rfl ?_ | refine ej_seq ?_ | refine ej_region ?_ | refine el_nil ?_ | refine eq_seq ?_ | refine eq_calm ?_ | refine ej_true rfl ?_ | refine ej_false rfl ?_ | refine el_skip rfl rfl rfl ?_ | refine ej_ret ?_ | refine ej_skip ?_ | refine ej_exit ?_ | refine ej_block ?_ | refine eq_seq_ret ?_ | refine eq_seq_exit ?_ | refine eq_block ?_ | refine eq_block_exit ?_ | refine eq_block_ret ?_ | refine eq_block_exit_ne rfl ?_ | refine eq_back_ret ?_ | refine eq_back_exit ?_))
    refine el_cons rfl (eo_call1 rfl rfl rfl rfl rfl real_mask_Set_In (In_any _ _ hlt hE _) ?_)
    rw [decide_eq_true hin]
    (repeat (first | refine el_pure rfl rfl rfl rfl ?_ | refine ej_seq ?_ | refine ej_region ?_ | refine el_nil ?_ | refine eq_seq ?_ | refine eq_calm ?_ | refine ej_true rfl ?_ | refine ej_false rfl ?_ | refine el_skip rfl rfl rfl ?_ | refine ej_ret ?_ | refine ej_skip ?_ | refine ej_exit ?_ | refine ej_block ?_ | refine eq_seq_ret ?_ | refine eq_seq_exit ?_ | refine eq_block ?_ | refine eq_block_exit ?_ | refine eq_block_ret ?_ | refine eq_block_exit_ne rfl ?_ | refine eq_back_ret ?_ | refine eq_back_exit ?_))
    exact eq_rett rfl fun w hw => ⟨rfl, hw.drop 6⟩
  · (repeat (first | refine el_pure rfl rfl rfl rfl ?_ | refine ej_seq ?_ | refine ej_region ?_ | refine el_nil ?_ | refine eq_seq ?_ | refine eq_calm ?_ | refine ej_true rfl ?_ | refine ej_false rfl ?_ | refine el_skip rfl rfl rfl ?_ | refine ej_ret ?_ | refine ej_skip ?_ | refine ej_exit ?_ | refine ej_block ?_ | refine eq_seq_ret ?_ | refine eq_seq_exit ?_ | refine eq_block ?_ | refine eq_block_exit ?_ | refine eq_block_ret ?_ | refine eq_block_exit_ne rfl ?_ | refine eq_back_ret ?_ | refine eq_back_exit ?_))
    refine el_cons rfl (eo_alloc rfl rfl rfl rfl fun b6 => ?_)
    (repeat (first | refine el_pure rfl rfl rfl rfl ?_ | refine ej_seq ?_ | refine ej_region ?_ | refine el_nil ?_ | refine eq_seq ?_ | refine eq_calm ?_ | refine ej_true rfl ?_ | refine ej_false rfl ?_ | refine el_skip rfl rfl rfl ?_ | refine ej_ret ?_ | refine ej_skip ?_ | refine ej_exit ?_ | refine ej_block ?_ | refine eq_seq_ret ?_ | refine eq_seq_exit ?_ | refine eq_block ?_ | refine eq_block_exit ?_ | refine eq_block_ret ?_ | refine eq_block_exit_ne rfl ?_ | refine eq_back_ret ?_ | refine eq_back_exit ?_))
    refine el_cons rfl (eo_stA 0 rfl rfl rfl rfl rfl h0.1.len (RT.one _) rfl rfl ?_)
    (repeat (first | refine el_pure rfl rfl rfl rfl ?_ | refine ej_seq ?_ | refine ej_region ?_ | refine el_nil ?_ | refine eq_seq ?_ | refine eq_calm ?_ | refine ej_true rfl ?_ | refine ej_false rfl ?_ | refine el_skip rfl rfl rfl ?_ | refine ej_ret ?_ | refine ej_skip ?_ | refine ej_exit ?_ | refine ej_block ?_ | refine eq_seq_ret ?_ | refine eq_seq_exit ?_ | refine eq_block ?_ | refine eq_block_exit ?_ | refine eq_block_ret ?_ | refine eq_block_exit_ne rfl ?_ | refine eq_back_ret ?_ | refine eq_back_exit ?_))
    exact eq_rett rfl fun w hw => ⟨rfl, hw.drop 2⟩

end Go.Proofs.Ytefahijlcmfpjaa
