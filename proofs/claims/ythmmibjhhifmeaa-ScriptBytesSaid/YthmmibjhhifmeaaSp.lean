/- The law's bound on commands; the program's bytes of commands. -/
import Derived.Test.YthmmibjhhifmeaaSo
namespace Go.Proofs.Ythmmibjhhifmeaa
open Go Go.SE

variable {w0 : World} {l : List HP} {i : Nat} {r : Option (Nat × Nat)}

structure Raw where
  op : Int
  a : Int
  b : Int
  m : Nat
abbrev Raw.cells (c : Raw) : List Value := [int c.op, int c.a, int c.b, u64 c.m]
def Raw.byte (c : Raw) : Prop := 0 ≤ c.op ∧ c.op ≤ 255
instance (c : Raw) : Decidable c.byte := inferInstanceAs (Decidable (_ ∧ _))
theorem raw4 (c : Raw) : c.cells.length = 4 := rfl
theorem prog4 (c : Cmd) : c.prog.length = 4 := rfl
theorem prog_one (c : Cmd) : c.prog.all one = true := rfl

def fewOk (xs : List Raw) : Prop := (∀ x ∈ xs, x.byte) ∧ xs.length ≤ 60
instance (xs : List Raw) : Decidable (fewOk xs) := inferInstanceAs (Decidable (_ ∧ _))

set_option maxHeartbeats 800000 in
theorem Few_any {W : World} {a : Option Addr} {c i : Nat} (xs : List Raw) (hl : xs.length ≤ maxLen) (hA : Sl W 4 a (rows Raw.cells xs) xs.length) (hi : l[i]? = some (old W)) :
    Does cx F_law23_Few [.slice a xs.length c, int 60] (S W l) fun v w => v = .bool (decide (fewOk xs)) ∧ S W l w := by
  refine fn_enter (n := N_law23_Few) fn_law23_Few rfl rfl rfl ?_
  have hl : xs.length ≤ 9223372036854775807 := hl
  (repeat (first | refine el_pure rfl rfl rfl rfl ?_ | refine ej_seq ?_ | refine ej_region ?_ | refine el_nil ?_ | refine eq_seq ?_ | refine eq_calm ?_ | refine ej_true rfl ?_ | refine ej_false rfl ?_ | refine el_skip rfl rfl rfl ?_ | refine ej_ret ?_ | refine ej_skip ?_ | refine ej_exit ?_ | refine ej_block ?_ | refine eq_seq_ret ?_ | refine eq_seq_exit ?_ | refine eq_block ?_ | refine eq_block_exit ?_ | refine eq_block_ret ?_ | refine eq_block_exit_ne rfl ?_ | refine eq_back_ret ?_ | refine eq_back_exit ?_ | refine el_cons rfl (eo_lenv rfl rfl rfl rfl rfl rfl ?_) | refine el_cons rfl (eo_arith rfl rfl rfl rfl rfl rfl ⟨by omega, by omega⟩ ?_)))
  refine ej_loopP (fun k : Nat => k ≤ xs.length ∧ ∀ x ∈ xs.take k, x.byte) (fun k => [(0, .slice a xs.length c), (1, int 60), (7, .slice a xs.length c), (8, int xs.length), (9, int k)]) (fun _ => S W l) (fun k => xs.length - k) 0 ⟨Nat.zero_le _, by simp⟩ (le_of _ _ rfl) (fun w hw => hw) ?_
  rintro k ⟨hk, hpre⟩
  (repeat (first | refine el_pure rfl rfl rfl rfl ?_ | refine ej_seq ?_ | refine ej_region ?_ | refine el_nil ?_ | refine eq_seq ?_ | refine eq_calm ?_ | refine ej_true rfl ?_ | refine ej_false rfl ?_ | refine el_skip rfl rfl rfl ?_ | refine ej_ret ?_ | refine ej_skip ?_ | refine ej_exit ?_ | refine ej_block ?_ | refine eq_seq_ret ?_ | refine eq_seq_exit ?_ | refine eq_block ?_ | refine eq_block_exit ?_ | refine eq_block_ret ?_ | refine eq_block_exit_ne rfl ?_ | refine eq_back_ret ?_ | refine eq_back_exit ?_))
  refine ej_dec rfl (fun hlt => ?_) (fun hlt => ?_)
  · have hlt' : k < xs.length := by omega
    have hx : xs[k]? = some xs[k] := by simp [hlt']
    have hmem := List.getElem_mem hlt'
    generalize xs[k] = x at *
    have hg : ∀ j, j < 4 → (rows Raw.cells xs)[k * 4 + j]? = x.cells[j]? := fun j hj => rows_get Raw.cells 4 raw4 xs k j x hx hj
    have hsn : xs.take (k + 1) = xs.take k ++ [x] := take_snoc hx
    obtain ⟨op, ca, cb, cm⟩ := x
    (repeat (first | refine el_pure rfl rfl rfl rfl ?_ | refine ej_seq ?_ | refine ej_region ?_ | refine el_nil ?_ | refine eq_seq ?_ | refine eq_calm ?_ | refine ej_true rfl ?_ | refine ej_false rfl ?_ | refine el_skip rfl rfl rfl ?_ | refine ej_ret ?_ | refine ej_skip ?_ | refine ej_exit ?_ | refine ej_block ?_ | refine eq_seq_ret ?_ | refine eq_seq_exit ?_ | refine eq_block ?_ | refine eq_block_exit ?_ | refine eq_block_ret ?_ | refine eq_block_exit_ne rfl ?_ | refine eq_back_ret ?_ | refine eq_back_exit ?_))
    refine el_cons rfl (eo_idxo rfl rfl rfl rfl rfl rfl rfl rfl rfl hA ⟨by omega, by omega⟩ ?_)
    refine el_cons rfl (eo_ldoA i (k * 4) (cs := Raw.cells ⟨op, ca, cb, cm⟩) rfl rfl rfl rfl rfl rfl hi hA rfl hg ?_)
    refine el_cons rfl (eo_alloc rfl rfl rfl rfl fun b6 => ?_)
    refine el_cons rfl (eo_stA 0 rfl rfl rfl rfl rfl rfl rfl rfl rfl ?_)
    (repeat (first | refine el_pure rfl rfl rfl rfl ?_ | refine ej_seq ?_ | refine ej_region ?_ | refine el_nil ?_ | refine eq_seq ?_ | refine eq_calm ?_ | refine ej_true rfl ?_ | refine ej_false rfl ?_ | refine el_skip rfl rfl rfl ?_ | refine ej_ret ?_ | refine ej_skip ?_ | refine ej_exit ?_ | refine ej_block ?_ | refine eq_seq_ret ?_ | refine eq_seq_exit ?_ | refine eq_block ?_ | refine eq_block_exit ?_ | refine eq_block_ret ?_ | refine eq_block_exit_ne rfl ?_ | refine eq_back_ret ?_ | refine eq_back_exit ?_))
    refine el_cons rfl (eo_ld 0 rfl rfl rfl rfl rfl rfl rfl rfl ?_)
    (repeat (first | refine el_pure rfl rfl rfl rfl ?_ | refine ej_seq ?_ | refine ej_region ?_ | refine el_nil ?_ | refine eq_seq ?_ | refine eq_calm ?_ | refine ej_true rfl ?_ | refine ej_false rfl ?_ | refine el_skip rfl rfl rfl ?_ | refine ej_ret ?_ | refine ej_skip ?_ | refine ej_exit ?_ | refine ej_block ?_ | refine eq_seq_ret ?_ | refine eq_seq_exit ?_ | refine eq_block ?_ | refine eq_block_exit ?_ | refine eq_block_ret ?_ | refine eq_block_exit_ne rfl ?_ | refine eq_back_ret ?_ | refine eq_back_exit ?_))
    have hno : ∀ P : Prop, (¬ (0 ≤ op ∧ op ≤ 255)) → decide (fewOk xs) = false := fun _ h => decide_eq_false fun h2 => h (h2.1 _ hmem)
    by_cases h0 : op < 0
    · refine el_val 16 (u := .bool true) rfl (by simp [h0]) ?_
      (repeat (first | refine el_pure rfl rfl rfl rfl ?_ | refine ej_seq ?_ | refine ej_region ?_ | refine el_nil ?_ | refine eq_seq ?_ | refine eq_calm ?_ | refine ej_true rfl ?_ | refine ej_false rfl ?_ | refine el_skip rfl rfl rfl ?_ | refine ej_ret ?_ | refine ej_skip ?_ | refine ej_exit ?_ | refine ej_block ?_ | refine eq_seq_ret ?_ | refine eq_seq_exit ?_ | refine eq_block ?_ | refine eq_block_exit ?_ | refine eq_block_ret ?_ | refine eq_block_exit_ne rfl ?_ | refine eq_back_ret ?_ | refine eq_back_exit ?_))
      refine eq_rett rfl fun w hw => ⟨?_, hw.erase 0⟩
      rw [hno True (by omega)]; rfl
    · refine el_val 16 (u := .bool false) rfl (by simp; omega) ?_
      (repeat (first | refine el_pure rfl rfl rfl rfl ?_ | refine ej_seq ?_ | refine ej_region ?_ | refine el_nil ?_ | refine eq_seq ?_ | refine eq_calm ?_ | refine ej_true rfl ?_ | refine ej_false rfl ?_ | refine el_skip rfl rfl rfl ?_ | refine ej_ret ?_ | refine ej_skip ?_ | refine ej_exit ?_ | refine ej_block ?_ | refine eq_seq_ret ?_ | refine eq_seq_exit ?_ | refine eq_block ?_ | refine eq_block_exit ?_ | refine eq_block_ret ?_ | refine eq_block_exit_ne rfl ?_ | refine eq_back_ret ?_ | refine eq_back_exit ?_))
      refine el_cons rfl (eo_ld 0 rfl rfl rfl rfl rfl rfl rfl rfl ?_)
      (repeat (first | refine el_pure rfl rfl rfl rfl ?_ | refine ej_seq ?_ | refine ej_region ?_ | refine el_nil ?_ | refine eq_seq ?_ | refine eq_calm ?_ | refine ej_true rfl ?_ | refine ej_false rfl ?_ | refine el_skip rfl rfl rfl ?_ | refine ej_ret ?_ | refine ej_skip ?_ | refine ej_exit ?_ | refine ej_block ?_ | refine eq_seq_ret ?_ | refine eq_seq_exit ?_ | refine eq_block ?_ | refine eq_block_exit ?_ | refine eq_block_ret ?_ | refine eq_block_exit_ne rfl ?_ | refine eq_back_ret ?_ | refine eq_back_exit ?_))
      refine ej_dec rfl (fun h => ?_) (fun h => ?_)
      · have h : 255 < op := h
        (repeat (first | refine el_pure rfl rfl rfl rfl ?_ | refine ej_seq ?_ | refine ej_region ?_ | refine el_nil ?_ | refine eq_seq ?_ | refine eq_calm ?_ | refine ej_true rfl ?_ | refine ej_false rfl ?_ | refine el_skip rfl rfl rfl ?_ | refine ej_ret ?_ | refine ej_skip ?_ | refine ej_exit ?_ | refine ej_block ?_ | refine eq_seq_ret ?_ | refine eq_seq_exit ?_ | refine eq_block ?_ | refine eq_block_exit ?_ | refine eq_block_ret ?_ | refine eq_block_exit_ne rfl ?_ | refine eq_back_ret ?_ | refine eq_back_exit ?_))
        refine eq_rett rfl fun w hw => ⟨?_, hw.erase 0⟩
        rw [hno True (by omega)]; rfl
      · have h : ¬ 255 < op := h
        (repeat (first | refine el_pure rfl rfl rfl rfl ?_ | refine ej_seq ?_ | refine ej_region ?_ | refine el_nil ?_ | refine eq_seq ?_ | refine eq_calm ?_ | refine ej_true rfl ?_ | refine ej_false rfl ?_ | refine el_skip rfl rfl rfl ?_ | refine ej_ret ?_ | refine ej_skip ?_ | refine ej_exit ?_ | refine ej_block ?_ | refine eq_seq_ret ?_ | refine eq_seq_exit ?_ | refine eq_block ?_ | refine eq_block_exit ?_ | refine eq_block_ret ?_ | refine eq_block_exit_ne rfl ?_ | refine eq_back_ret ?_ | refine eq_back_exit ?_ | refine el_cons rfl (eo_lenv rfl rfl rfl rfl rfl rfl ?_) | refine el_cons rfl (eo_arith rfl rfl rfl rfl rfl rfl ⟨by omega, by omega⟩ ?_)))
        refine eq_backP (k + 1) ⟨by omega, ?_⟩ (by omega) (le_of _ _ rfl) fun w hw => hw.erase 0
        rw [hsn]
        intro x hx
        rcases List.mem_append.1 hx with hx | hx
        · exact hpre x hx
        · rw [List.mem_singleton.1 hx]; exact ⟨by show 0 ≤ op; omega, by show op ≤ 255; omega⟩
  · obtain rfl : k = xs.length := by omega
    rw [List.take_length] at hpre
    (repeat (first | refine el_pure rfl rfl rfl rfl ?_ | refine ej_seq ?_ | refine ej_region ?_ | refine el_nil ?_ | refine eq_seq ?_ | refine eq_calm ?_ | refine ej_true rfl ?_ | refine ej_false rfl ?_ | refine el_skip rfl rfl rfl ?_ | refine ej_ret ?_ | refine ej_skip ?_ | refine ej_exit ?_ | refine ej_block ?_ | refine eq_seq_ret ?_ | refine eq_seq_exit ?_ | refine eq_block ?_ | refine eq_block_exit ?_ | refine eq_block_ret ?_ | refine eq_block_exit_ne rfl ?_ | refine eq_back_ret ?_ | refine eq_back_exit ?_ | refine el_cons rfl (eo_lenv rfl rfl rfl rfl rfl rfl ?_) | refine el_cons rfl (eo_arith rfl rfl rfl rfl rfl rfl ⟨by omega, by omega⟩ ?_)))
    refine eq_rett rfl fun w hw => ⟨?_, hw⟩
    rw [show decide (fewOk xs) = decide ((xs.length : Int) ≤ 60) from decide_eq_decide.2 ⟨fun h => by have := h.2; omega, fun h => ⟨hpre, by omega⟩⟩]; rfl

end Go.Proofs.Ythmmibjhhifmeaa
