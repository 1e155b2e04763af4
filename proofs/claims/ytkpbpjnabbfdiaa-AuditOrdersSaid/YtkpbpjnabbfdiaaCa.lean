/- The document's findings: put one in. -/
import Derived.Test.YtkpbpjnabbfdiaaBh
namespace Go.Proofs.Ytkpbpjnabbfdiaa
open Go Go.SE

variable {w0 w : World} {l : List HP} {i : Nat} {r : Option (Nat × Nat)} {p : HP}

def ltB (a x : Fnd) : Bool := decide (a.kind < x.kind) || (decide (a.kind = x.kind) && decide (a.num < x.num))
def ltO (o : Option Fnd) (x : Fnd) : Bool := match o with
  | none => false
  | some a => ltB a x
def putAt (xs : List Fnd) (x : Fnd) : Nat := (xs.takeWhile fun a => ltB a x).length
def putL (xs : List Fnd) (x : Fnd) : List Fnd := if xs[putAt xs x]? = some x then xs else xs.take (putAt xs x) ++ [x] ++ xs.drop (putAt xs x)
theorem putAt_eq (x : Fnd) : ∀ (xs : List Fnd) (k : Nat), (xs.take k).all (fun a => ltB a x) = true → k ≤ xs.length → (∀ a, xs[k]? = some a → ltB a x = false) → putAt xs x = k
  | [], k, _, hk, _ => by simp at hk; subst hk; rfl
  | a :: xs, 0, _, _, h => by
    have := h a rfl
    simp [putAt, this]
  | a :: xs, k + 1, h1, hk, h => by
    simp only [List.take_succ_cons, List.all_cons, Bool.and_eq_true] at h1
    have ih := putAt_eq x xs k h1.2 (by simpa using hk) fun b hb => h b (by simpa using hb)
    simp only [putAt] at ih ⊢
    rw [List.takeWhile_cons_of_pos (p := fun a => ltB a x) h1.1, List.length_cons, ih]
theorem putL_len (xs : List Fnd) (x : Fnd) : (putL xs x).length ≤ xs.length + 1 := by
  unfold putL
  split
  · omega
  · simp; omega
theorem rows_one (xs : List Fnd) : (rows Fnd.cells xs).all SE.one = true := by
  induction xs with
  | nil => rfl
  | cons x xs ih => rw [rows_cons, List.all_append, ih]; rfl
theorem rows_app (xs ys : List Fnd) : rows Fnd.cells (xs ++ ys) = rows Fnd.cells xs ++ rows Fnd.cells ys := by simp [rows]
theorem rows_takeF (xs : List Fnd) (k : Nat) (hk : k ≤ xs.length) : (rows Fnd.cells xs).take (k * 2) = rows Fnd.cells (xs.take k) := by
  have h1 := rows_length Fnd.cells 2 fnd2 (xs.take k)
  rw [List.length_take, Nat.min_eq_left hk] at h1
  have e : rows Fnd.cells xs = rows Fnd.cells (xs.take k) ++ rows Fnd.cells (xs.drop k) := by rw [← rows_app, List.take_append_drop]
  rw [e, ← h1, List.take_left']
  rfl
theorem plain_R : plainStruct cx.P T_ref21_F = true := by kernel_rfl
theorem guard_R : cx.P.eqGuardType cx.P.depth T_ref21_F = false := by kernel_rfl
theorem same_R (x y : Fnd) : Same cx 10000 T_ref21_F (.agg x.cells.toArray) (.agg y.cells.toArray) (decide (x = y)) := by
  have e : decide (x = y) = (decide (x.kind = y.kind) && (decide (x.num = y.num) && true)) := by
    cases x; cases y
    simp [Bool.decide_and]
  rw [e]
  exact same_struct (C := cx) (d := 9999) (fs := [(3, 0), (3, 1)]) rfl rfl plain_R (.cons rfl rfl (same_int rfl rfl) (.cons rfl rfl (same_int rfl rfl) .nil))

set_option maxHeartbeats 6400000 in
theorem put_ref {xs : List Fnd} (x : Fnd) (hl : xs.length ≤ 1000000) :
    Does cx F_ref21_put [sv r xs.length, .agg x.cells.toArray] (S w0 (rowC r T_ref21_F 2 (rows Fnd.cells xs) xs.length :: l)) fun u w => ∃ r', u = sv r' (putL xs x).length ∧ True ∧ S w0 (rowC r' T_ref21_F 2 (rows Fnd.cells (putL xs x)) (putL xs x).length :: l) w := by
  refine fn_enter (n := N_ref21_put) fn_ref21_put rfl rfl rfl ?_
  refine ej_seq (ej_region (el_cons rfl (eo_box rfl rfl rfl rfl fun b3 => ?_)))
  obtain ⟨kind, num⟩ := x
  (repeat (first | refine el_pure rfl rfl rfl rfl ?_ | refine ej_seq ?_ | refine ej_region ?_ | refine el_nil ?_ | refine eq_seq ?_ | refine eq_calm ?_ | refine ej_true rfl ?_ | refine ej_false rfl ?_ | refine el_skip rfl rfl rfl ?_ | refine ej_ret ?_ | refine ej_skip ?_ | refine ej_exit ?_ | refine ej_block ?_ | refine eq_seq_ret ?_ | refine eq_seq_exit ?_ | refine eq_block ?_ | refine eq_block_exit ?_ | refine eq_block_ret ?_ | refine eq_block_exit_ne rfl ?_ | refine eq_back_ret ?_ | refine eq_back_exit ?_))
  refine ej_loopP (fun k : Nat => k ≤ xs.length ∧ (xs.take k).all (fun a => ltB a ⟨kind, num⟩) = true) (fun k => [(0, sv r xs.length), (3, ptr b3), (4, .slice none 0 0), (5, int k)]) (fun _ => S w0 (cells b3 T_ref21_F (Fnd.cells ⟨kind, num⟩) :: rowC r T_ref21_F 2 (rows Fnd.cells xs) xs.length :: l)) (fun k => xs.length - k) 0 ⟨Nat.zero_le _, by simp⟩ (le_of _ _ rfl) (fun w hw => hw) ?_
  rintro k ⟨hk, hall⟩
  (repeat (first | refine el_pure rfl rfl rfl rfl ?_ | refine ej_seq ?_ | refine ej_region ?_ | refine el_nil ?_ | refine eq_seq ?_ | refine eq_calm ?_ | refine ej_true rfl ?_ | refine ej_false rfl ?_ | refine el_skip rfl rfl rfl ?_ | refine ej_ret ?_ | refine ej_skip ?_ | refine ej_exit ?_ | refine ej_block ?_ | refine eq_seq_ret ?_ | refine eq_seq_exit ?_ | refine eq_block ?_ | refine eq_block_exit ?_ | refine eq_block_ret ?_ | refine eq_block_exit_ne rfl ?_ | refine eq_back_ret ?_ | refine eq_back_exit ?_))
  refine ej_cont (α := Unit) (fun _ => [(0, sv r xs.length), (3, ptr b3), (4, .slice none 0 0), (5, int k), (39, .bool (ltO xs[k]? ⟨kind, num⟩))]) (fun _ => S w0 (cells b3 T_ref21_F (Fnd.cells ⟨kind, num⟩) :: rowC r T_ref21_F 2 (rows Fnd.cells xs) xs.length :: l)) (fun cont => ?_) (fun _ => ?_)
  · by_cases hlt : k < xs.length
    · refine ej_know (fun w hw => S.row_some hw (i := 1) rfl (by omega)) fun hr => ?_
      obtain ⟨⟨g, c⟩, rfl⟩ := hr
      have hx : xs[k]? = some xs[k] := by simp [hlt]
      rw [hx] at cont
      generalize xs[k] = y at *
      have hg : ∀ q, q < 2 → (rows Fnd.cells xs)[0 + (k : Int).toNat * 2 + q]? = y.cells[q]? := fun q hq => by
        rw [Nat.zero_add]; exact rows_get Fnd.cells 2 fnd2 xs k q y hx hq
      obtain ⟨yk, yn⟩ := y
      have hb : ltO (some ⟨yk, yn⟩) ⟨kind, num⟩ = (decide (yk < kind) || (decide (yk = kind) && decide (yn < num))) := rfl
      rw [hb] at cont
      refine ej_held [rowC (some (g, c)) T_ref21_F 2 (rows Fnd.cells xs) xs.length, cells b3 T_ref21_F (Fnd.cells ⟨kind, num⟩)] ?_
      refine eh_take 0 (held (.cons 1 rfl (.cons 0 rfl .nil))) rfl (by kernel_rfl) (by kernel_rfl) (by kernel_rfl) rfl rfl rfl rfl ?_
      refine eh_take 1 (held (.cons 1 rfl (.cons 0 rfl .nil))) rfl (by kernel_rfl) (by kernel_rfl) (by kernel_rfl) rfl rfl rfl rfl ?_
      refine eh_load 2 (held (.cons 1 rfl (.cons 0 rfl .nil))) rfl (by kernel_rfl) (by kernel_rfl) (by kernel_rfl) rfl rfl rfl (er_lenv rfl rfl rfl rfl) ?_
      refine eh_take 3 (held (.cons 1 rfl (.cons 0 rfl .nil))) rfl (by kernel_rfl) (by kernel_rfl) (by kernel_rfl) rfl rfl rfl rfl ?_
      refine eh_val 9 (u := .bool true) rfl (by rw [decide_eq_true (by omega)]) ?_
      refine eh_take 4 (held (.cons 1 rfl (.cons 0 rfl .nil))) rfl (by kernel_rfl) (by kernel_rfl) (by kernel_rfl) rfl rfl rfl rfl ?_
      refine eh_take 5 (held (.cons 1 rfl (.cons 0 rfl .nil))) rfl (by kernel_rfl) (by kernel_rfl) (by kernel_rfl) rfl rfl rfl rfl ?_
      refine eh_take 6 (held (.cons 1 rfl (.cons 0 rfl .nil))) rfl (by kernel_rfl) (by kernel_rfl) (by kernel_rfl) rfl rfl rfl rfl ?_
      refine eh_load 7 (held (.cons 1 rfl (.cons 0 rfl .nil))) rfl (by kernel_rfl) (by kernel_rfl) (by kernel_rfl) rfl rfl rfl (er_idxv rfl rfl rfl rfl rfl rfl rfl ⟨by omega, by omega⟩) ?_
      refine eh_take 8 (held (.cons 1 rfl (.cons 0 rfl .nil))) rfl (by kernel_rfl) (by kernel_rfl) (by kernel_rfl) rfl rfl rfl rfl ?_
      refine eh_load 9 (held (.cons 1 rfl (.cons 0 rfl .nil))) rfl (by kernel_rfl) (by kernel_rfl) (by kernel_rfl) rfl rfl rfl (er_ldr 0 (v := int yk) rfl rfl rfl rfl rfl (hg 0 (by decide))) ?_
      refine eh_take 10 (held (.cons 1 rfl (.cons 0 rfl .nil))) rfl (by kernel_rfl) (by kernel_rfl) (by kernel_rfl) rfl rfl rfl rfl ?_
      refine eh_load 11 (held (.cons 1 rfl (.cons 0 rfl .nil))) rfl (by kernel_rfl) (by kernel_rfl) (by kernel_rfl) rfl rfl rfl (er_ld 1 rfl rfl rfl rfl rfl rfl) ?_
      refine eh_take 12 (held (.cons 1 rfl (.cons 0 rfl .nil))) rfl (by kernel_rfl) (by kernel_rfl) (by kernel_rfl) rfl rfl rfl rfl ?_
      by_cases h1 : yk < kind
      · refine eh_val 18 (u := .bool true) rfl (by rw [decide_eq_true h1]) ?_
        rw [decide_eq_true h1, Bool.true_or] at cont
        refine eh_take 13 (held (.cons 1 rfl (.cons 0 rfl .nil))) rfl (by kernel_rfl) (by kernel_rfl) (by kernel_rfl) rfl rfl rfl rfl ?_
        refine eh_skip 14 (held (.cons 1 rfl (.cons 0 rfl .nil))) rfl (by kernel_rfl) (by kernel_rfl) (by kernel_rfl) rfl rfl rfl ?_
        refine eh_skip 15 (held (.cons 1 rfl (.cons 0 rfl .nil))) rfl (by kernel_rfl) (by kernel_rfl) (by kernel_rfl) rfl rfl rfl ?_
        refine eh_skip 16 (held (.cons 1 rfl (.cons 0 rfl .nil))) rfl (by kernel_rfl) (by kernel_rfl) (by kernel_rfl) rfl rfl rfl ?_
        refine eh_skip 17 (held (.cons 1 rfl (.cons 0 rfl .nil))) rfl (by kernel_rfl) (by kernel_rfl) (by kernel_rfl) rfl rfl rfl ?_
        refine eh_skip 18 (held (.cons 1 rfl (.cons 0 rfl .nil))) rfl (by kernel_rfl) (by kernel_rfl) (by kernel_rfl) rfl rfl rfl ?_
        refine eh_skip 19 (held (.cons 1 rfl (.cons 0 rfl .nil))) rfl (by kernel_rfl) (by kernel_rfl) (by kernel_rfl) rfl rfl rfl ?_
        refine eh_skip 20 (held (.cons 1 rfl (.cons 0 rfl .nil))) rfl (by kernel_rfl) (by kernel_rfl) (by kernel_rfl) rfl rfl rfl ?_
        refine eh_skip 21 (held (.cons 1 rfl (.cons 0 rfl .nil))) rfl (by kernel_rfl) (by kernel_rfl) (by kernel_rfl) rfl rfl rfl ?_
        refine eh_skip 22 (held (.cons 1 rfl (.cons 0 rfl .nil))) rfl (by kernel_rfl) (by kernel_rfl) (by kernel_rfl) rfl rfl rfl ?_
        refine eh_skip 23 (held (.cons 1 rfl (.cons 0 rfl .nil))) rfl (by kernel_rfl) (by kernel_rfl) (by kernel_rfl) rfl rfl rfl ?_
        refine eh_skip 24 (held (.cons 1 rfl (.cons 0 rfl .nil))) rfl (by kernel_rfl) (by kernel_rfl) (by kernel_rfl) rfl rfl rfl ?_
        refine eh_skip 25 (held (.cons 1 rfl (.cons 0 rfl .nil))) rfl (by kernel_rfl) (by kernel_rfl) (by kernel_rfl) rfl rfl rfl ?_
        refine eh_skip 26 (held (.cons 1 rfl (.cons 0 rfl .nil))) rfl (by kernel_rfl) (by kernel_rfl) (by kernel_rfl) rfl rfl rfl ?_
        refine eh_skip 27 (held (.cons 1 rfl (.cons 0 rfl .nil))) rfl (by kernel_rfl) (by kernel_rfl) (by kernel_rfl) rfl rfl rfl ?_
        refine eh_skip 28 (held (.cons 1 rfl (.cons 0 rfl .nil))) rfl (by kernel_rfl) (by kernel_rfl) (by kernel_rfl) rfl rfl rfl ?_
        refine eh_skip 29 (held (.cons 1 rfl (.cons 0 rfl .nil))) rfl (by kernel_rfl) (by kernel_rfl) (by kernel_rfl) rfl rfl rfl ?_
        refine eh_skip 30 (held (.cons 1 rfl (.cons 0 rfl .nil))) rfl (by kernel_rfl) (by kernel_rfl) (by kernel_rfl) rfl rfl rfl ?_
        refine eh_skip 31 (held (.cons 1 rfl (.cons 0 rfl .nil))) rfl (by kernel_rfl) (by kernel_rfl) (by kernel_rfl) rfl rfl rfl ?_
        refine eh_take 32 (held (.cons 1 rfl (.cons 0 rfl .nil))) rfl (by kernel_rfl) (by kernel_rfl) (by kernel_rfl) rfl rfl rfl rfl ?_
        refine eh_take 33 (held (.cons 1 rfl (.cons 0 rfl .nil))) rfl (by kernel_rfl) (by kernel_rfl) (by kernel_rfl) rfl rfl rfl rfl ?_
        exact eh_done (by kernel_rfl) (eq_calm (eq_le (cont ()) (le_of _ _ rfl) fun w hw => hw))
      · refine eh_val 18 (u := .bool false) rfl (by rw [decide_eq_false h1]) ?_
        rw [decide_eq_false h1, Bool.false_or] at cont
        refine eh_take 13 (held (.cons 1 rfl (.cons 0 rfl .nil))) rfl (by kernel_rfl) (by kernel_rfl) (by kernel_rfl) rfl rfl rfl rfl ?_
        refine eh_take 14 (held (.cons 1 rfl (.cons 0 rfl .nil))) rfl (by kernel_rfl) (by kernel_rfl) (by kernel_rfl) rfl rfl rfl rfl ?_
        refine eh_take 15 (held (.cons 1 rfl (.cons 0 rfl .nil))) rfl (by kernel_rfl) (by kernel_rfl) (by kernel_rfl) rfl rfl rfl rfl ?_
        refine eh_load 16 (held (.cons 1 rfl (.cons 0 rfl .nil))) rfl (by kernel_rfl) (by kernel_rfl) (by kernel_rfl) rfl rfl rfl (er_idxv rfl rfl rfl rfl rfl rfl rfl ⟨by omega, by omega⟩) ?_
        refine eh_take 17 (held (.cons 1 rfl (.cons 0 rfl .nil))) rfl (by kernel_rfl) (by kernel_rfl) (by kernel_rfl) rfl rfl rfl rfl ?_
        refine eh_load 18 (held (.cons 1 rfl (.cons 0 rfl .nil))) rfl (by kernel_rfl) (by kernel_rfl) (by kernel_rfl) rfl rfl rfl (er_ldr 0 (v := int yk) rfl rfl rfl rfl rfl (hg 0 (by decide))) ?_
        refine eh_take 19 (held (.cons 1 rfl (.cons 0 rfl .nil))) rfl (by kernel_rfl) (by kernel_rfl) (by kernel_rfl) rfl rfl rfl rfl ?_
        refine eh_load 20 (held (.cons 1 rfl (.cons 0 rfl .nil))) rfl (by kernel_rfl) (by kernel_rfl) (by kernel_rfl) rfl rfl rfl (er_ld 1 rfl rfl rfl rfl rfl rfl) ?_
        refine eh_take 21 (held (.cons 1 rfl (.cons 0 rfl .nil))) rfl (by kernel_rfl) (by kernel_rfl) (by kernel_rfl) rfl rfl rfl rfl ?_
        by_cases h2 : yk = kind
        · refine eh_val 27 (u := .bool true) rfl (by rw [decide_eq_true h2]) ?_
          rw [decide_eq_true h2, Bool.true_and] at cont
          refine eh_take 22 (held (.cons 1 rfl (.cons 0 rfl .nil))) rfl (by kernel_rfl) (by kernel_rfl) (by kernel_rfl) rfl rfl rfl rfl ?_
          refine eh_take 23 (held (.cons 1 rfl (.cons 0 rfl .nil))) rfl (by kernel_rfl) (by kernel_rfl) (by kernel_rfl) rfl rfl rfl rfl ?_
          refine eh_take 24 (held (.cons 1 rfl (.cons 0 rfl .nil))) rfl (by kernel_rfl) (by kernel_rfl) (by kernel_rfl) rfl rfl rfl rfl ?_
          refine eh_load 25 (held (.cons 1 rfl (.cons 0 rfl .nil))) rfl (by kernel_rfl) (by kernel_rfl) (by kernel_rfl) rfl rfl rfl (er_idxv rfl rfl rfl rfl rfl rfl rfl ⟨by omega, by omega⟩) ?_
          refine eh_take 26 (held (.cons 1 rfl (.cons 0 rfl .nil))) rfl (by kernel_rfl) (by kernel_rfl) (by kernel_rfl) rfl rfl rfl rfl ?_
          refine eh_load 27 (held (.cons 1 rfl (.cons 0 rfl .nil))) rfl (by kernel_rfl) (by kernel_rfl) (by kernel_rfl) rfl rfl rfl (er_ldr 0 (v := int yn) rfl rfl rfl rfl rfl (hg 1 (by decide))) ?_
          refine eh_take 28 (held (.cons 1 rfl (.cons 0 rfl .nil))) rfl (by kernel_rfl) (by kernel_rfl) (by kernel_rfl) rfl rfl rfl rfl ?_
          refine eh_load 29 (held (.cons 1 rfl (.cons 0 rfl .nil))) rfl (by kernel_rfl) (by kernel_rfl) (by kernel_rfl) rfl rfl rfl (er_ld 1 rfl rfl rfl rfl rfl rfl) ?_
          refine eh_take 30 (held (.cons 1 rfl (.cons 0 rfl .nil))) rfl (by kernel_rfl) (by kernel_rfl) (by kernel_rfl) rfl rfl rfl rfl ?_
          refine eh_take 31 (held (.cons 1 rfl (.cons 0 rfl .nil))) rfl (by kernel_rfl) (by kernel_rfl) (by kernel_rfl) rfl rfl rfl rfl ?_
          refine eh_take 32 (held (.cons 1 rfl (.cons 0 rfl .nil))) rfl (by kernel_rfl) (by kernel_rfl) (by kernel_rfl) rfl rfl rfl rfl ?_
          refine eh_take 33 (held (.cons 1 rfl (.cons 0 rfl .nil))) rfl (by kernel_rfl) (by kernel_rfl) (by kernel_rfl) rfl rfl rfl rfl ?_
          exact eh_done (by kernel_rfl) (eq_calm (eq_le (cont ()) (le_of _ _ rfl) fun w hw => hw))
        · refine eh_val 27 (u := .bool false) rfl (by rw [decide_eq_false h2]) ?_
          rw [decide_eq_false h2, Bool.false_and] at cont
          refine eh_take 22 (held (.cons 1 rfl (.cons 0 rfl .nil))) rfl (by kernel_rfl) (by kernel_rfl) (by kernel_rfl) rfl rfl rfl rfl ?_
          refine eh_skip 23 (held (.cons 1 rfl (.cons 0 rfl .nil))) rfl (by kernel_rfl) (by kernel_rfl) (by kernel_rfl) rfl rfl rfl ?_
          refine eh_skip 24 (held (.cons 1 rfl (.cons 0 rfl .nil))) rfl (by kernel_rfl) (by kernel_rfl) (by kernel_rfl) rfl rfl rfl ?_
          refine eh_skip 25 (held (.cons 1 rfl (.cons 0 rfl .nil))) rfl (by kernel_rfl) (by kernel_rfl) (by kernel_rfl) rfl rfl rfl ?_
          refine eh_skip 26 (held (.cons 1 rfl (.cons 0 rfl .nil))) rfl (by kernel_rfl) (by kernel_rfl) (by kernel_rfl) rfl rfl rfl ?_
          refine eh_skip 27 (held (.cons 1 rfl (.cons 0 rfl .nil))) rfl (by kernel_rfl) (by kernel_rfl) (by kernel_rfl) rfl rfl rfl ?_
          refine eh_skip 28 (held (.cons 1 rfl (.cons 0 rfl .nil))) rfl (by kernel_rfl) (by kernel_rfl) (by kernel_rfl) rfl rfl rfl ?_
          refine eh_skip 29 (held (.cons 1 rfl (.cons 0 rfl .nil))) rfl (by kernel_rfl) (by kernel_rfl) (by kernel_rfl) rfl rfl rfl ?_
          refine eh_skip 30 (held (.cons 1 rfl (.cons 0 rfl .nil))) rfl (by kernel_rfl) (by kernel_rfl) (by kernel_rfl) rfl rfl rfl ?_
          refine eh_take 31 (held (.cons 1 rfl (.cons 0 rfl .nil))) rfl (by kernel_rfl) (by kernel_rfl) (by kernel_rfl) rfl rfl rfl rfl ?_
          refine eh_take 32 (held (.cons 1 rfl (.cons 0 rfl .nil))) rfl (by kernel_rfl) (by kernel_rfl) (by kernel_rfl) rfl rfl rfl rfl ?_
          refine eh_take 33 (held (.cons 1 rfl (.cons 0 rfl .nil))) rfl (by kernel_rfl) (by kernel_rfl) (by kernel_rfl) rfl rfl rfl rfl ?_
          exact eh_done (by kernel_rfl) (eq_calm (eq_le (cont ()) (le_of _ _ rfl) fun w hw => hw))
    · have hx : xs[k]? = none := List.getElem?_eq_none (by omega)
      rw [hx] at cont
      refine ej_held [rowC r T_ref21_F 2 (rows Fnd.cells xs) xs.length, cells b3 T_ref21_F (Fnd.cells ⟨kind, num⟩)] ?_
      refine eh_take 0 (held (.cons 1 rfl (.cons 0 rfl .nil))) rfl (by kernel_rfl) (by kernel_rfl) (by kernel_rfl) rfl rfl rfl rfl ?_
      refine eh_take 1 (held (.cons 1 rfl (.cons 0 rfl .nil))) rfl (by kernel_rfl) (by kernel_rfl) (by kernel_rfl) rfl rfl rfl rfl ?_
      refine eh_load 2 (held (.cons 1 rfl (.cons 0 rfl .nil))) rfl (by kernel_rfl) (by kernel_rfl) (by kernel_rfl) rfl rfl rfl (er_lenv rfl rfl rfl rfl) ?_
      refine eh_take 3 (held (.cons 1 rfl (.cons 0 rfl .nil))) rfl (by kernel_rfl) (by kernel_rfl) (by kernel_rfl) rfl rfl rfl rfl ?_
      refine eh_val 9 (u := .bool false) rfl (by rw [decide_eq_false (by omega)]) ?_
      refine eh_take 4 (held (.cons 1 rfl (.cons 0 rfl .nil))) rfl (by kernel_rfl) (by kernel_rfl) (by kernel_rfl) rfl rfl rfl rfl ?_
      refine eh_skip 5 (held (.cons 1 rfl (.cons 0 rfl .nil))) rfl (by kernel_rfl) (by kernel_rfl) (by kernel_rfl) rfl rfl rfl ?_
      refine eh_skip 6 (held (.cons 1 rfl (.cons 0 rfl .nil))) rfl (by kernel_rfl) (by kernel_rfl) (by kernel_rfl) rfl rfl rfl ?_
      refine eh_skip 7 (held (.cons 1 rfl (.cons 0 rfl .nil))) rfl (by kernel_rfl) (by kernel_rfl) (by kernel_rfl) rfl rfl rfl ?_
      refine eh_skip 8 (held (.cons 1 rfl (.cons 0 rfl .nil))) rfl (by kernel_rfl) (by kernel_rfl) (by kernel_rfl) rfl rfl rfl ?_
      refine eh_skip 9 (held (.cons 1 rfl (.cons 0 rfl .nil))) rfl (by kernel_rfl) (by kernel_rfl) (by kernel_rfl) rfl rfl rfl ?_
      refine eh_skip 10 (held (.cons 1 rfl (.cons 0 rfl .nil))) rfl (by kernel_rfl) (by kernel_rfl) (by kernel_rfl) rfl rfl rfl ?_
      refine eh_skip 11 (held (.cons 1 rfl (.cons 0 rfl .nil))) rfl (by kernel_rfl) (by kernel_rfl) (by kernel_rfl) rfl rfl rfl ?_
      refine eh_skip 12 (held (.cons 1 rfl (.cons 0 rfl .nil))) rfl (by kernel_rfl) (by kernel_rfl) (by kernel_rfl) rfl rfl rfl ?_
      refine eh_skip 13 (held (.cons 1 rfl (.cons 0 rfl .nil))) rfl (by kernel_rfl) (by kernel_rfl) (by kernel_rfl) rfl rfl rfl ?_
      refine eh_skip 14 (held (.cons 1 rfl (.cons 0 rfl .nil))) rfl (by kernel_rfl) (by kernel_rfl) (by kernel_rfl) rfl rfl rfl ?_
      refine eh_skip 15 (held (.cons 1 rfl (.cons 0 rfl .nil))) rfl (by kernel_rfl) (by kernel_rfl) (by kernel_rfl) rfl rfl rfl ?_
      refine eh_skip 16 (held (.cons 1 rfl (.cons 0 rfl .nil))) rfl (by kernel_rfl) (by kernel_rfl) (by kernel_rfl) rfl rfl rfl ?_
      refine eh_skip 17 (held (.cons 1 rfl (.cons 0 rfl .nil))) rfl (by kernel_rfl) (by kernel_rfl) (by kernel_rfl) rfl rfl rfl ?_
      refine eh_skip 18 (held (.cons 1 rfl (.cons 0 rfl .nil))) rfl (by kernel_rfl) (by kernel_rfl) (by kernel_rfl) rfl rfl rfl ?_
      refine eh_skip 19 (held (.cons 1 rfl (.cons 0 rfl .nil))) rfl (by kernel_rfl) (by kernel_rfl) (by kernel_rfl) rfl rfl rfl ?_
      refine eh_skip 20 (held (.cons 1 rfl (.cons 0 rfl .nil))) rfl (by kernel_rfl) (by kernel_rfl) (by kernel_rfl) rfl rfl rfl ?_
      refine eh_skip 21 (held (.cons 1 rfl (.cons 0 rfl .nil))) rfl (by kernel_rfl) (by kernel_rfl) (by kernel_rfl) rfl rfl rfl ?_
      refine eh_skip 22 (held (.cons 1 rfl (.cons 0 rfl .nil))) rfl (by kernel_rfl) (by kernel_rfl) (by kernel_rfl) rfl rfl rfl ?_
      refine eh_skip 23 (held (.cons 1 rfl (.cons 0 rfl .nil))) rfl (by kernel_rfl) (by kernel_rfl) (by kernel_rfl) rfl rfl rfl ?_
      refine eh_skip 24 (held (.cons 1 rfl (.cons 0 rfl .nil))) rfl (by kernel_rfl) (by kernel_rfl) (by kernel_rfl) rfl rfl rfl ?_
      refine eh_skip 25 (held (.cons 1 rfl (.cons 0 rfl .nil))) rfl (by kernel_rfl) (by kernel_rfl) (by kernel_rfl) rfl rfl rfl ?_
      refine eh_skip 26 (held (.cons 1 rfl (.cons 0 rfl .nil))) rfl (by kernel_rfl) (by kernel_rfl) (by kernel_rfl) rfl rfl rfl ?_
      refine eh_skip 27 (held (.cons 1 rfl (.cons 0 rfl .nil))) rfl (by kernel_rfl) (by kernel_rfl) (by kernel_rfl) rfl rfl rfl ?_
      refine eh_skip 28 (held (.cons 1 rfl (.cons 0 rfl .nil))) rfl (by kernel_rfl) (by kernel_rfl) (by kernel_rfl) rfl rfl rfl ?_
      refine eh_skip 29 (held (.cons 1 rfl (.cons 0 rfl .nil))) rfl (by kernel_rfl) (by kernel_rfl) (by kernel_rfl) rfl rfl rfl ?_
      refine eh_skip 30 (held (.cons 1 rfl (.cons 0 rfl .nil))) rfl (by kernel_rfl) (by kernel_rfl) (by kernel_rfl) rfl rfl rfl ?_
      refine eh_skip 31 (held (.cons 1 rfl (.cons 0 rfl .nil))) rfl (by kernel_rfl) (by kernel_rfl) (by kernel_rfl) rfl rfl rfl ?_
      refine eh_skip 32 (held (.cons 1 rfl (.cons 0 rfl .nil))) rfl (by kernel_rfl) (by kernel_rfl) (by kernel_rfl) rfl rfl rfl ?_
      refine eh_take 33 (held (.cons 1 rfl (.cons 0 rfl .nil))) rfl (by kernel_rfl) (by kernel_rfl) (by kernel_rfl) rfl rfl rfl rfl ?_
      exact eh_done (by kernel_rfl) (eq_calm (eq_le (cont ()) (le_of _ _ rfl) fun w hw => hw))
  generalize hB : (ltO xs[k]? ⟨kind, num⟩) = B at *
  cases B with
  | true =>
    obtain ⟨hlt, hlb⟩ : k < xs.length ∧ ∀ a, xs[k]? = some a → ltB a ⟨kind, num⟩ = true := by
      cases hx : xs[k]? with
      | none => rw [hx] at hB; cases hB
      | some a => rw [hx] at hB; exact ⟨(List.getElem?_eq_some_iff.1 hx).1, fun a' h => by cases h; exact hB⟩
    have hx : xs[k]? = some xs[k] := by simp [hlt]
    have hsn := all_snoc hx fun a => ltB a ⟨kind, num⟩
    rw [hall, hlb _ hx] at hsn
    (repeat (first | refine el_pure rfl rfl rfl rfl ?_ | refine ej_seq ?_ | refine ej_region ?_ | refine el_nil ?_ | refine eq_seq ?_ | refine eq_calm ?_ | refine ej_true rfl ?_ | refine ej_false rfl ?_ | refine el_skip rfl rfl rfl ?_ | refine ej_ret ?_ | refine ej_skip ?_ | refine ej_exit ?_ | refine ej_block ?_ | refine eq_seq_ret ?_ | refine eq_seq_exit ?_ | refine eq_block ?_ | refine eq_block_exit ?_ | refine eq_block_ret ?_ | refine eq_block_exit_ne rfl ?_ | refine eq_back_ret ?_ | refine eq_back_exit ?_ | refine el_cons rfl (eo_lenv rfl rfl rfl rfl rfl rfl ?_) | refine el_cons rfl (eo_arith rfl rfl rfl rfl rfl rfl ⟨by omega, by omega⟩ ?_)))
    exact eq_backP (k + 1) ⟨by omega, hsn⟩ (by omega) (le_of _ _ rfl) fun w hw => hw
  | false =>
    have hat : putAt xs ⟨kind, num⟩ = k := putAt_eq _ xs k hall hk fun a ha => by rw [ha] at hB; exact hB
    have hput : putL xs ⟨kind, num⟩ = if xs[k]? = some ⟨kind, num⟩ then xs else xs.take k ++ [⟨kind, num⟩] ++ xs.drop k := by rw [putL, hat]
    have hpl := putL_len xs ⟨kind, num⟩
    generalize putL xs ⟨kind, num⟩ = P at *
    (repeat (first | refine el_pure rfl rfl rfl rfl ?_ | refine ej_seq ?_ | refine ej_region ?_ | refine el_nil ?_ | refine eq_seq ?_ | refine eq_calm ?_ | refine ej_true rfl ?_ | refine ej_false rfl ?_ | refine el_skip rfl rfl rfl ?_ | refine ej_ret ?_ | refine ej_skip ?_ | refine ej_exit ?_ | refine ej_block ?_ | refine eq_seq_ret ?_ | refine eq_seq_exit ?_ | refine eq_block ?_ | refine eq_block_exit ?_ | refine eq_block_ret ?_ | refine eq_block_exit_ne rfl ?_ | refine eq_back_ret ?_ | refine eq_back_exit ?_))
    refine ej_cont (α := Unit) (fun _ => [(0, sv r xs.length), (3, ptr b3), (4, .slice none 0 0), (5, int k), (53, .bool (decide (xs[k]? = some ⟨kind, num⟩)))]) (fun _ => S w0 (cells b3 T_ref21_F (Fnd.cells ⟨kind, num⟩) :: rowC r T_ref21_F 2 (rows Fnd.cells xs) xs.length :: l)) (fun cont => ?_) (fun _ => ?_)
    · by_cases hlt : k < xs.length
      · refine ej_know (fun w hw => S.row_some hw (i := 1) rfl (by omega)) fun hr => ?_
        obtain ⟨⟨g, c⟩, rfl⟩ := hr
        have hx : xs[k]? = some xs[k] := by simp [hlt]
        rw [hx] at cont
        generalize xs[k] = y at *
        have hg : ∀ q, q < 2 → (rows Fnd.cells xs)[0 + (k : Int).toNat * 2 + q]? = y.cells[q]? := fun q hq => by
          rw [Nat.zero_add]; exact rows_get Fnd.cells 2 fnd2 xs k q y hx hq
        refine ej_held [rowC (some (g, c)) T_ref21_F 2 (rows Fnd.cells xs) xs.length, cells b3 T_ref21_F (Fnd.cells ⟨kind, num⟩)] ?_
        refine eh_take 0 (held (.cons 1 rfl (.cons 0 rfl .nil))) rfl (by kernel_rfl) (by kernel_rfl) (by kernel_rfl) rfl rfl rfl rfl ?_
        refine eh_take 1 (held (.cons 1 rfl (.cons 0 rfl .nil))) rfl (by kernel_rfl) (by kernel_rfl) (by kernel_rfl) rfl rfl rfl rfl ?_
        refine eh_load 2 (held (.cons 1 rfl (.cons 0 rfl .nil))) rfl (by kernel_rfl) (by kernel_rfl) (by kernel_rfl) rfl rfl rfl (er_lenv rfl rfl rfl rfl) ?_
        refine eh_take 3 (held (.cons 1 rfl (.cons 0 rfl .nil))) rfl (by kernel_rfl) (by kernel_rfl) (by kernel_rfl) rfl rfl rfl rfl ?_
        refine eh_val 45 (u := .bool true) rfl (by rw [decide_eq_true (by omega)]) ?_
        refine eh_take 4 (held (.cons 1 rfl (.cons 0 rfl .nil))) rfl (by kernel_rfl) (by kernel_rfl) (by kernel_rfl) rfl rfl rfl rfl ?_
        refine eh_take 5 (held (.cons 1 rfl (.cons 0 rfl .nil))) rfl (by kernel_rfl) (by kernel_rfl) (by kernel_rfl) rfl rfl rfl rfl ?_
        refine eh_take 6 (held (.cons 1 rfl (.cons 0 rfl .nil))) rfl (by kernel_rfl) (by kernel_rfl) (by kernel_rfl) rfl rfl rfl rfl ?_
        refine eh_load 7 (held (.cons 1 rfl (.cons 0 rfl .nil))) rfl (by kernel_rfl) (by kernel_rfl) (by kernel_rfl) rfl rfl rfl (er_idxv rfl rfl rfl rfl rfl rfl rfl ⟨by omega, by omega⟩) ?_
        refine eh_load 8 (held (.cons 1 rfl (.cons 0 rfl .nil))) rfl (by kernel_rfl) (by kernel_rfl) (by kernel_rfl) rfl rfl rfl (er_ldrA 0 (cs := y.cells) rfl rfl rfl rfl rfl rfl hg) ?_
        refine eh_load 9 (held (.cons 1 rfl (.cons 0 rfl .nil))) rfl (by kernel_rfl) (by kernel_rfl) (by kernel_rfl) rfl rfl rfl (er_ldW 1 rfl rfl rfl rfl rfl rfl) ?_
        refine eh_load 10 (held (.cons 1 rfl (.cons 0 rfl .nil))) rfl (by kernel_rfl) (by kernel_rfl) (by kernel_rfl) rfl rfl rfl (er_eqA rfl (.inl rfl) rfl rfl guard_R (same_R y ⟨kind, num⟩)) ?_
        refine eh_val 52 (u := .bool (decide (some y = some (⟨kind, num⟩ : Fnd)))) rfl (by simp [eqOr]) ?_
        refine eh_take 11 (held (.cons 1 rfl (.cons 0 rfl .nil))) rfl (by kernel_rfl) (by kernel_rfl) (by kernel_rfl) rfl rfl rfl rfl ?_
        exact eh_done (by kernel_rfl) (eq_calm (eq_le (cont ()) (le_of _ _ rfl) fun w hw => hw))
      · have hx : xs[k]? = none := List.getElem?_eq_none (by omega)
        rw [hx] at cont
        refine ej_held [rowC r T_ref21_F 2 (rows Fnd.cells xs) xs.length, cells b3 T_ref21_F (Fnd.cells ⟨kind, num⟩)] ?_
        refine eh_take 0 (held (.cons 1 rfl (.cons 0 rfl .nil))) rfl (by kernel_rfl) (by kernel_rfl) (by kernel_rfl) rfl rfl rfl rfl ?_
        refine eh_take 1 (held (.cons 1 rfl (.cons 0 rfl .nil))) rfl (by kernel_rfl) (by kernel_rfl) (by kernel_rfl) rfl rfl rfl rfl ?_
        refine eh_load 2 (held (.cons 1 rfl (.cons 0 rfl .nil))) rfl (by kernel_rfl) (by kernel_rfl) (by kernel_rfl) rfl rfl rfl (er_lenv rfl rfl rfl rfl) ?_
        refine eh_take 3 (held (.cons 1 rfl (.cons 0 rfl .nil))) rfl (by kernel_rfl) (by kernel_rfl) (by kernel_rfl) rfl rfl rfl rfl ?_
        refine eh_val 45 (u := .bool false) rfl (by rw [decide_eq_false (by omega)]) ?_
        refine eh_take 4 (held (.cons 1 rfl (.cons 0 rfl .nil))) rfl (by kernel_rfl) (by kernel_rfl) (by kernel_rfl) rfl rfl rfl rfl ?_
        refine eh_skip 5 (held (.cons 1 rfl (.cons 0 rfl .nil))) rfl (by kernel_rfl) (by kernel_rfl) (by kernel_rfl) rfl rfl rfl ?_
        refine eh_skip 6 (held (.cons 1 rfl (.cons 0 rfl .nil))) rfl (by kernel_rfl) (by kernel_rfl) (by kernel_rfl) rfl rfl rfl ?_
        refine eh_skip 7 (held (.cons 1 rfl (.cons 0 rfl .nil))) rfl (by kernel_rfl) (by kernel_rfl) (by kernel_rfl) rfl rfl rfl ?_
        refine eh_skip 8 (held (.cons 1 rfl (.cons 0 rfl .nil))) rfl (by kernel_rfl) (by kernel_rfl) (by kernel_rfl) rfl rfl rfl ?_
        refine eh_skip 9 (held (.cons 1 rfl (.cons 0 rfl .nil))) rfl (by kernel_rfl) (by kernel_rfl) (by kernel_rfl) rfl rfl rfl ?_
        refine eh_skip 10 (held (.cons 1 rfl (.cons 0 rfl .nil))) rfl (by kernel_rfl) (by kernel_rfl) (by kernel_rfl) rfl rfl rfl ?_
        refine eh_take 11 (held (.cons 1 rfl (.cons 0 rfl .nil))) rfl (by kernel_rfl) (by kernel_rfl) (by kernel_rfl) rfl rfl rfl rfl ?_
        exact eh_done (by kernel_rfl) (eq_calm (eq_le (cont ()) (le_of _ _ rfl) fun w hw => hw))
    by_cases hq : xs[k]? = some ⟨kind, num⟩
    · rw [if_pos hq] at hput
      rw [decide_eq_true hq]
      (repeat (first | refine el_pure rfl rfl rfl rfl ?_ | refine ej_seq ?_ | refine ej_region ?_ | refine el_nil ?_ | refine eq_seq ?_ | refine eq_calm ?_ | refine ej_true rfl ?_ | refine ej_false rfl ?_ | refine el_skip rfl rfl rfl ?_ | refine ej_ret ?_ | refine ej_skip ?_ | refine ej_exit ?_ | refine ej_block ?_ | refine eq_seq_ret ?_ | refine eq_seq_exit ?_ | refine eq_block ?_ | refine eq_block_exit ?_ | refine eq_block_ret ?_ | refine eq_block_exit_ne rfl ?_ | refine eq_back_ret ?_ | refine eq_back_exit ?_))
      exact eq_rett rfl fun w hw => ⟨r, by rw [hput]; rfl, trivial, by rw [hput]; exact hw.erase 0⟩
    · rw [if_neg hq] at hput
      rw [decide_eq_false hq]
      (repeat (first | refine el_pure rfl rfl rfl rfl ?_ | refine ej_seq ?_ | refine ej_region ?_ | refine el_nil ?_ | refine eq_seq ?_ | refine eq_calm ?_ | refine ej_true rfl ?_ | refine ej_false rfl ?_ | refine el_skip rfl rfl rfl ?_ | refine ej_ret ?_ | refine ej_skip ?_ | refine ej_exit ?_ | refine ej_block ?_ | refine eq_seq_ret ?_ | refine eq_seq_exit ?_ | refine eq_block ?_ | refine eq_block_exit ?_ | refine eq_block_ret ?_ | refine eq_block_exit_ne rfl ?_ | refine eq_back_ret ?_ | refine eq_back_exit ?_))
      have hV : View w0 [rowC r T_ref21_F 2 (rows Fnd.cells xs) xs.length] 2 (r.map fun p => ⟨p.1, 0, none⟩) (rows Fnd.cells xs) xs.length ((r.map (·.2)).getD 0) := View.of_row (i := 0) rfl (rows_length _ 2 fnd2 _)
      refine ej_know ((hV.one (l := (cells b3 T_ref21_F (Fnd.cells ⟨kind, num⟩) :: rowC r T_ref21_F 2 (rows Fnd.cells xs) xs.length :: l)) (i := 1) rfl).know) fun hk2 => ?_
      have hcap := hk2.1.1
      have hkk : xs.length - k + (k + 1) = xs.length + 1 := by omega
      refine ej_cont (α := Option (Nat × Nat)) (fun r' => [(3, ptr b3), (4, sv r' P.length)]) (fun r' => S w0 (rowC r' T_ref21_F 2 (rows Fnd.cells P) P.length :: cells b3 T_ref21_F (Fnd.cells ⟨kind, num⟩) :: rowC r T_ref21_F 2 (rows Fnd.cells xs) xs.length :: l)) (fun cont => ?_) (fun r' => ?_)
      · refine ej_held [rowC r T_ref21_F 2 (rows Fnd.cells xs) xs.length, cells b3 T_ref21_F (Fnd.cells ⟨kind, num⟩)] ?_
        have hV1 : View w0 [rowC r T_ref21_F 2 (rows Fnd.cells xs) xs.length] 2 (subA (r.map fun p => ⟨p.1, 0, none⟩) 0 ((r.map (·.2)).getD 0) 2) (rows Fnd.cells (xs.take k)) (k - 0) ((r.map (·.2)).getD 0 - 0) := by
          have h := hV.sub (lo := 0) (hi := k) (Nat.zero_le _) hk
          have e : subX (rows Fnd.cells xs) 0 k 2 = rows Fnd.cells (xs.take k) := by rw [← rows_takeF xs k hk]; simp [subX]
          rw [e] at h; exact h
        have hV2 : View w0 [rowC r T_ref21_F 2 (rows Fnd.cells xs) xs.length] 2 (subA (r.map fun p => ⟨p.1, 0, none⟩) k ((r.map (·.2)).getD 0) 2) (rows Fnd.cells (xs.drop k)) (xs.length - k) ((r.map (·.2)).getD 0 - k) := by
          have h := hV.sub (lo := k) (hi := xs.length) hk (Nat.le_refl _)
          have e : subX (rows Fnd.cells xs) k xs.length 2 = rows Fnd.cells (xs.drop k) := by
            rw [subX, rows_drop Fnd.cells 2 fnd2, List.take_of_length_le (by rw [rows_length _ 2 fnd2, List.length_drop]; omega)]
          rw [e] at h; exact h
        have hPl : P.length = k + 1 + (xs.length - k) := by rw [hput]; simp; omega
        have hPr : rows Fnd.cells P = rows Fnd.cells (xs.take k) ++ Fnd.cells ⟨kind, num⟩ ++ rows Fnd.cells (xs.drop k) := by rw [hput, rows_app, rows_app]; simp [rows]
        refine eh_take 1 (held (.cons 1 rfl (.cons 0 rfl .nil))) rfl (by kernel_rfl) (by kernel_rfl) (by kernel_rfl) rfl rfl rfl rfl ?_
        refine eh_take 2 (held (.cons 1 rfl (.cons 0 rfl .nil))) rfl (by kernel_rfl) (by kernel_rfl) (by kernel_rfl) rfl rfl rfl rfl ?_
        refine eh_load 3 (held (.cons 1 rfl (.cons 0 rfl .nil))) rfl (by kernel_rfl) (by kernel_rfl) (by kernel_rfl) rfl rfl rfl (er_slice 0 k rfl rfl rfl ⟨_, rfl⟩ rfl rfl rfl hcap (Nat.zero_le _) hk) ?_
        refine eh_load 5 (held (.cons 1 rfl (.cons 0 rfl .nil))) rfl (by kernel_rfl) (by kernel_rfl) (by kernel_rfl) rfl rfl rfl (er_ldW 1 rfl rfl rfl rfl rfl rfl) ?_
        refine eh_take 8 (held (.cons 1 rfl (.cons 0 rfl .nil))) rfl (by kernel_rfl) (by kernel_rfl) (by kernel_rfl) rfl rfl rfl rfl ?_
        refine eh_take 9 (held (.cons 1 rfl (.cons 0 rfl .nil))) rfl (by kernel_rfl) (by kernel_rfl) (by kernel_rfl) rfl rfl rfl rfl ?_
        refine eh_load 10 (held (.cons 1 rfl (.cons 0 rfl .nil))) rfl (by kernel_rfl) (by kernel_rfl) (by kernel_rfl) rfl rfl rfl (er_slice k xs.length rfl rfl ⟨_, rfl⟩ rfl rfl rfl rfl hcap hk (Nat.le_refl _)) ?_
        refine eh_ways [0, 6] (by kernel_rfl) rfl (.cons (hway rfl rfl (eo_post (eo_buildS (cs := []) rfl rfl rfl rfl rfl rfl rfl rfl rfl rfl fun b5 => ⟨S w0 (rowC (some (b5, 0)) T_ref21_F 2 [] 0 :: cells b3 T_ref21_F (Fnd.cells ⟨kind, num⟩) :: rowC r T_ref21_F 2 (rows Fnd.cells xs) xs.length :: l), fun w hw => hw.imp (i := 0) rfl (fun h hp => row_of_cells (m := 0) rfl (by decide) hp), held (.cons 2 rfl (.cons 1 rfl .nil)), ?_⟩))) (.cons (hway rfl rfl (eo_buildS (cs := Fnd.cells ⟨kind, num⟩) rfl rfl rfl rfl rfl rfl rfl rfl rfl rfl fun b6 => ⟨held (.cons 2 rfl (.cons 1 rfl .nil)), ?_⟩)) .nil))
        · refine eh_ways [4, 6] (by kernel_rfl) rfl (.cons (hway rfl rfl (eo_appendV 0 (r := some (b5, 0)) (xs := []) (n' := 0) (news := rows Fnd.cells (xs.take k)) rfl rfl rfl rfl rfl rfl rfl rfl rfl rfl rfl (hV1.one (i := 2) rfl) (rows_one _) (by show (0 + (k - 0)) * 16 ≤ 140737488355328; omega) (by simp only [maxLen]; omega) fun r4 => ⟨held (.cons 2 rfl (.cons 1 rfl .nil)), ?_⟩)) (.cons (hway rfl rfl (eo_buildS (cs := Fnd.cells ⟨kind, num⟩) rfl rfl rfl rfl rfl rfl rfl rfl rfl rfl fun b6 => ⟨held (.cons 3 rfl (.cons 2 rfl .nil)), ?_⟩)) .nil))
          · rw [List.nil_append, Nat.zero_add, Nat.sub_zero]
            refine eh_way 6 (by kernel_rfl) (hway rfl rfl (eo_buildS (cs := Fnd.cells ⟨kind, num⟩) rfl rfl rfl rfl rfl rfl rfl rfl rfl rfl fun b6 => ⟨held (.cons 3 rfl (.cons 2 rfl .nil)), ?_⟩))
            refine eh_way 7 (by kernel_rfl) (hway rfl rfl (eo_append 1 (r := r4) (xs := rows Fnd.cells (xs.take k)) (n' := k) (Fnd.cells ⟨kind, num⟩) rfl rfl rfl rfl rfl rfl rfl rfl rfl rfl rfl (fun w hw j u hu => (addr_add _ _ _).symm ▸ (Nat.zero_add _).symm ▸ hw.cell (i := 0) rfl hu) rfl (by decide) (by show (k + 1) * 16 ≤ 140737488355328; omega) (by simp only [maxLen]; omega) fun r7 => ⟨held (.cons 3 rfl (.cons 2 rfl .nil)), ?_⟩))
            refine eh_way 11 (by kernel_rfl) (hway rfl rfl (eo_appendV 1 (r := r7) (xs := rows Fnd.cells (xs.take k) ++ Fnd.cells ⟨kind, num⟩) (n' := k + 1) (news := rows Fnd.cells (xs.drop k)) rfl rfl rfl rfl rfl rfl rfl rfl rfl rfl rfl (hV2.one (i := 3) rfl) (rows_one _) (by show (k + 1 + (xs.length - k)) * 16 ≤ 140737488355328; omega) (by simp only [maxLen]; omega) fun r11 => ⟨held (.cons 3 rfl (.cons 2 rfl .nil)), ?_⟩))
            refine eh_take 12 (held (.cons 3 rfl (.cons 2 rfl .nil))) rfl (by kernel_rfl) (by kernel_rfl) (by kernel_rfl) rfl rfl rfl rfl ?_
            refine eh_done (by kernel_rfl) (eq_calm (eq_le (cont r11) (by rw [hPl]; exact le_of _ _ rfl) fun w hw => ?_))
            rw [hPr, hPl]; exact hw.erase 0
          · refine eh_way 4 (by kernel_rfl) (hway rfl rfl (eo_appendV 1 (r := some (b5, 0)) (xs := []) (n' := 0) (news := rows Fnd.cells (xs.take k)) rfl rfl rfl rfl rfl rfl rfl rfl rfl rfl rfl (hV1.one (i := 3) rfl) (rows_one _) (by show (0 + (k - 0)) * 16 ≤ 140737488355328; omega) (by simp only [maxLen]; omega) fun r4 => ⟨held (.cons 3 rfl (.cons 2 rfl .nil)), ?_⟩))
            rw [List.nil_append, Nat.zero_add, Nat.sub_zero]
            refine eh_way 7 (by kernel_rfl) (hway rfl rfl (eo_append 1 (r := r4) (xs := rows Fnd.cells (xs.take k)) (n' := k) (Fnd.cells ⟨kind, num⟩) rfl rfl rfl rfl rfl rfl rfl rfl rfl rfl rfl (fun w hw j u hu => (addr_add _ _ _).symm ▸ (Nat.zero_add _).symm ▸ hw.cell (i := 0) rfl hu) rfl (by decide) (by show (k + 1) * 16 ≤ 140737488355328; omega) (by simp only [maxLen]; omega) fun r7 => ⟨held (.cons 3 rfl (.cons 2 rfl .nil)), ?_⟩))
            refine eh_way 11 (by kernel_rfl) (hway rfl rfl (eo_appendV 1 (r := r7) (xs := rows Fnd.cells (xs.take k) ++ Fnd.cells ⟨kind, num⟩) (n' := k + 1) (news := rows Fnd.cells (xs.drop k)) rfl rfl rfl rfl rfl rfl rfl rfl rfl rfl rfl (hV2.one (i := 3) rfl) (rows_one _) (by show (k + 1 + (xs.length - k)) * 16 ≤ 140737488355328; omega) (by simp only [maxLen]; omega) fun r11 => ⟨held (.cons 3 rfl (.cons 2 rfl .nil)), ?_⟩))
            refine eh_take 12 (held (.cons 3 rfl (.cons 2 rfl .nil))) rfl (by kernel_rfl) (by kernel_rfl) (by kernel_rfl) rfl rfl rfl rfl ?_
            refine eh_done (by kernel_rfl) (eq_calm (eq_le (cont r11) (by rw [hPl]; exact le_of _ _ rfl) fun w hw => ?_))
            rw [hPr, hPl]; exact hw.erase 0
        · refine eh_way 0 (by kernel_rfl) (hway rfl rfl (eo_post (eo_buildS (cs := []) rfl rfl rfl rfl rfl rfl rfl rfl rfl rfl fun b5 => ⟨S w0 (cells b6 T_ref21_F (Fnd.cells ⟨kind, num⟩) :: rowC (some (b5, 0)) T_ref21_F 2 [] 0 :: cells b3 T_ref21_F (Fnd.cells ⟨kind, num⟩) :: rowC r T_ref21_F 2 (rows Fnd.cells xs) xs.length :: l), fun w hw => (hw.imp (i := 0) rfl (fun h hp => row_of_cells (m := 0) rfl (by decide) hp)).front (i := 1) rfl, held (.cons 3 rfl (.cons 2 rfl .nil)), ?_⟩)))
          refine eh_way 4 (by kernel_rfl) (hway rfl rfl (eo_appendV 1 (r := some (b5, 0)) (xs := []) (n' := 0) (news := rows Fnd.cells (xs.take k)) rfl rfl rfl rfl rfl rfl rfl rfl rfl rfl rfl (hV1.one (i := 3) rfl) (rows_one _) (by show (0 + (k - 0)) * 16 ≤ 140737488355328; omega) (by simp only [maxLen]; omega) fun r4 => ⟨held (.cons 3 rfl (.cons 2 rfl .nil)), ?_⟩))
          rw [List.nil_append, Nat.zero_add, Nat.sub_zero]
          refine eh_way 7 (by kernel_rfl) (hway rfl rfl (eo_append 1 (r := r4) (xs := rows Fnd.cells (xs.take k)) (n' := k) (Fnd.cells ⟨kind, num⟩) rfl rfl rfl rfl rfl rfl rfl rfl rfl rfl rfl (fun w hw j u hu => (addr_add _ _ _).symm ▸ (Nat.zero_add _).symm ▸ hw.cell (i := 0) rfl hu) rfl (by decide) (by show (k + 1) * 16 ≤ 140737488355328; omega) (by simp only [maxLen]; omega) fun r7 => ⟨held (.cons 3 rfl (.cons 2 rfl .nil)), ?_⟩))
          refine eh_way 11 (by kernel_rfl) (hway rfl rfl (eo_appendV 1 (r := r7) (xs := rows Fnd.cells (xs.take k) ++ Fnd.cells ⟨kind, num⟩) (n' := k + 1) (news := rows Fnd.cells (xs.drop k)) rfl rfl rfl rfl rfl rfl rfl rfl rfl rfl rfl (hV2.one (i := 3) rfl) (rows_one _) (by show (k + 1 + (xs.length - k)) * 16 ≤ 140737488355328; omega) (by simp only [maxLen]; omega) fun r11 => ⟨held (.cons 3 rfl (.cons 2 rfl .nil)), ?_⟩))
          refine eh_take 12 (held (.cons 3 rfl (.cons 2 rfl .nil))) rfl (by kernel_rfl) (by kernel_rfl) (by kernel_rfl) rfl rfl rfl rfl ?_
          refine eh_done (by kernel_rfl) (eq_calm (eq_le (cont r11) (by rw [hPl]; exact le_of _ _ rfl) fun w hw => ?_))
          rw [hPr, hPl]; exact hw.erase 0
      (repeat (first | refine el_pure rfl rfl rfl rfl ?_ | refine ej_seq ?_ | refine ej_region ?_ | refine el_nil ?_ | refine eq_seq ?_ | refine eq_calm ?_ | refine ej_true rfl ?_ | refine ej_false rfl ?_ | refine el_skip rfl rfl rfl ?_ | refine ej_ret ?_ | refine ej_skip ?_ | refine ej_exit ?_ | refine ej_block ?_ | refine eq_seq_ret ?_ | refine eq_seq_exit ?_ | refine eq_block ?_ | refine eq_block_exit ?_ | refine eq_block_ret ?_ | refine eq_block_exit_ne rfl ?_ | refine eq_back_ret ?_ | refine eq_back_exit ?_))
      exact eq_rett rfl fun w hw => ⟨r', rfl, trivial, (hw.erase 1).erase 1⟩

end Go.Proofs.Ytkpbpjnabbfdiaa
