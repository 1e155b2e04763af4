/- Findings, each once: the library's Compact. -/
import Derived.Test.YtkpbpjnabbfdiaaAh
import Derived.Test.YtkpbpjnabbfdiaaAy
namespace Go.Proofs.Ytkpbpjnabbfdiaa
open Go Go.SE

variable {w0 w : World} {l : List HP} {i : Nat} {r : Option (Nat × Nat)} {p : HP}

theorem guard_F : cx.P.eqGuardType cx.P.depth T_audit_Finding = false := by kernel_rfl
theorem plain_F : plainStruct cx.P T_audit_Finding = true := by kernel_rfl
theorem same_F (x y : Fnd) : Same cx 10000 T_audit_Finding (.agg x.cells.toArray) (.agg y.cells.toArray) (decide (x = y)) := by
  have e : decide (x = y) = (decide (x.kind = y.kind) && (decide (x.num = y.num) && true)) := by
    cases x; cases y
    simp [Bool.decide_and]
  rw [e]
  exact same_struct (C := cx) (d := 9999) (fs := [(3, 0), (3, 1)]) rfl rfl plain_F (.cons rfl rfl (same_int rfl rfl) (.cons rfl rfl (same_int rfl rfl) .nil))

/-- each once, of neighbours -/
def compactL : List Fnd → List Fnd
  | [] => []
  | [x] => [x]
  | x :: y :: r => if x = y then compactL (y :: r) else x :: compactL (y :: r)
theorem compact_snoc : ∀ (ys : List Fnd) (y x : Fnd), compactL (ys ++ [y] ++ [x]) = if y = x then compactL (ys ++ [y]) else compactL (ys ++ [y]) ++ [x]
  | [], y, x => by
    simp only [List.nil_append, List.singleton_append, compactL]
    by_cases h : y = x
    · subst h; simp
    · simp [h]
  | [a], y, x => by
    have ih := compact_snoc [] y x
    simp only [List.nil_append, List.cons_append, compactL] at ih ⊢
    by_cases h : a = y <;> by_cases h2 : y = x <;> simp_all
  | a :: b :: ys, y, x => by
    have ih := compact_snoc (b :: ys) y x
    simp only [List.cons_append, compactL] at ih ⊢
    rw [ih]
    by_cases h : a = b <;> by_cases h2 : y = x <;> simp [h, h2]

theorem compact_take {xs : List Fnd} {k : Nat} {x y : Fnd} (hk : 1 ≤ k) (hy : xs[k - 1]? = some y) (hx : xs[k]? = some x) : compactL (xs.take (k + 1)) = if y = x then compactL (xs.take k) else compactL (xs.take k) ++ [x] := by
  obtain ⟨q, rfl⟩ : ∃ q, k = q + 1 := ⟨k - 1, by omega⟩
  rw [Nat.add_sub_cancel] at hy
  obtain ⟨h1, rfl⟩ := List.getElem?_eq_some_iff.1 hy
  obtain ⟨h2, rfl⟩ := List.getElem?_eq_some_iff.1 hx
  rw [List.take_succ_eq_append_getElem h2, List.take_succ_eq_append_getElem h1, compact_snoc]

theorem take_snoc {α : Type} {xs : List α} {k : Nat} {x : α} (h : xs[k]? = some x) : xs.take (k + 1) = xs.take k ++ [x] := by
  obtain ⟨hlt, rfl⟩ := List.getElem?_eq_some_iff.1 h
  exact List.take_succ_eq_append_getElem hlt

set_option maxHeartbeats 6400000 in
theorem Compact_any (xs : List Fnd) (hl : xs.length ≤ 100000000) (hi : l[i]? = some (rowC r T_audit_Finding 2 (rows Fnd.cells xs) xs.length)) :
    Does cx F_slices_Compact_audit_Finding_audit_Finding [sv r xs.length] (S w0 l) fun v w => ∃ x : Option Addr × Nat × HP, v = .slice x.1 (compactL xs).length x.2.1 ∧ View w0 [x.2.2] 2 x.1 (rows Fnd.cells (compactL xs)) (compactL xs).length x.2.1 ∧ S w0 (l.set i x.2.2) w := by
  refine fn_enter (n := N_slices_Compact_audit_Finding_audit_Finding) fn_slices_Compact_audit_Finding_audit_Finding rfl rfl rfl ?_
  (repeat (first | refine el_pure rfl rfl rfl rfl ?_ | refine ej_seq ?_ | refine ej_region ?_ | refine el_nil ?_ | refine eq_seq ?_ | refine eq_calm ?_ | refine ej_true rfl ?_ | refine ej_false rfl ?_ | refine el_skip rfl rfl rfl ?_ | refine ej_ret ?_ | refine ej_skip ?_ | refine ej_exit ?_ | refine ej_block ?_ | refine eq_seq_ret ?_ | refine eq_seq_exit ?_ | refine eq_block ?_ | refine eq_block_exit ?_ | refine eq_block_ret ?_ | refine eq_block_exit_ne rfl ?_ | refine eq_back_ret ?_ | refine eq_back_exit ?_ | refine el_cons rfl (eo_lenv rfl rfl rfl rfl rfl rfl ?_) | refine el_cons rfl (eo_arith rfl rfl rfl rfl rfl rfl ⟨by omega, by omega⟩ ?_)))
  refine ej_dec rfl (fun h => ?_) (fun h => ?_)
  · have h : (xs.length : Int) < 2 := h
    have hc : compactL xs = xs := by
      match xs, h with
      | [], _ => rfl
      | [_], _ => rfl
      | _ :: _ :: _, h => simp at h; omega
    rw [hc]
    (repeat (first | refine el_pure rfl rfl rfl rfl ?_ | refine ej_seq ?_ | refine ej_region ?_ | refine el_nil ?_ | refine eq_seq ?_ | refine eq_calm ?_ | refine ej_true rfl ?_ | refine ej_false rfl ?_ | refine el_skip rfl rfl rfl ?_ | refine ej_ret ?_ | refine ej_skip ?_ | refine ej_exit ?_ | refine ej_block ?_ | refine eq_seq_ret ?_ | refine eq_seq_exit ?_ | refine eq_block ?_ | refine eq_block_exit ?_ | refine eq_block_ret ?_ | refine eq_block_exit_ne rfl ?_ | refine eq_back_ret ?_ | refine eq_back_exit ?_))
    refine eq_rett rfl fun w hw => ⟨(r.map fun p => ⟨p.1, 0, none⟩, (r.map (·.2)).getD 0, rowC r T_audit_Finding 2 (rows Fnd.cells xs) xs.length), rfl, View.of_row (i := 0) rfl (rows_length _ 2 fnd2 _), ?_⟩
    rw [set_perm_front _ _ _ hi]; exact hw
  · have h : ¬ (xs.length : Int) < 2 := h
    refine ej_know (fun w hw => S.row_some hw hi (by omega)) fun hr => ?_
    obtain ⟨⟨g, c⟩, rfl⟩ := hr
    refine ej_know (View.of_row (w0 := w0) hi (rows_length _ 2 fnd2 _)).know fun hk => ?_
    obtain ⟨⟨hnc, hcm⟩, _⟩ := hk
    have hnc : xs.length ≤ c := hnc
    generalize hn : xs.length = n at *
    (repeat (first | refine el_pure rfl rfl rfl rfl ?_ | refine ej_seq ?_ | refine ej_region ?_ | refine el_nil ?_ | refine eq_seq ?_ | refine eq_calm ?_ | refine ej_true rfl ?_ | refine ej_false rfl ?_ | refine el_skip rfl rfl rfl ?_ | refine ej_ret ?_ | refine ej_skip ?_ | refine ej_exit ?_ | refine ej_block ?_ | refine eq_seq_ret ?_ | refine eq_seq_exit ?_ | refine eq_block ?_ | refine eq_block_exit ?_ | refine eq_block_ret ?_ | refine eq_block_exit_ne rfl ?_ | refine eq_back_ret ?_ | refine eq_back_exit ?_))
    refine ej_loopP (fun k : Nat => 1 ≤ k ∧ k ≤ n ∧ compactL (xs.take k) = xs.take k) (fun k => [(0, .slice (some ⟨g, 0, none⟩) n c), (3, int k)]) (fun _ => S w0 l) (fun k => n - k) 1 ⟨Nat.le_refl _, by omega, by match xs with | [] => rfl | _ :: _ => rfl⟩ (le_of _ _ rfl) (fun w hw => hw) ?_
    rintro k ⟨hk1, hkn, hck⟩
    (repeat (first | refine el_pure rfl rfl rfl rfl ?_ | refine ej_seq ?_ | refine ej_region ?_ | refine el_nil ?_ | refine eq_seq ?_ | refine eq_calm ?_ | refine ej_true rfl ?_ | refine ej_false rfl ?_ | refine el_skip rfl rfl rfl ?_ | refine ej_ret ?_ | refine ej_skip ?_ | refine ej_exit ?_ | refine ej_block ?_ | refine eq_seq_ret ?_ | refine eq_seq_exit ?_ | refine eq_block ?_ | refine eq_block_exit ?_ | refine eq_block_ret ?_ | refine eq_block_exit_ne rfl ?_ | refine eq_back_ret ?_ | refine eq_back_exit ?_ | refine el_cons rfl (eo_lenv rfl rfl rfl rfl rfl rfl ?_) | refine el_cons rfl (eo_arith rfl rfl rfl rfl rfl rfl ⟨by omega, by omega⟩ ?_)))
    refine ej_dec rfl (fun hlt => ?_) (fun hlt => ?_)
    · have hlt : (k : Int) < n := hlt
      have hx : xs[k]? = some (xs[k]'(by omega)) := List.getElem?_eq_getElem _
      have hy : xs[k - 1]? = some (xs[k - 1]'(by omega)) := List.getElem?_eq_getElem _
      have hct := compact_take hk1 hy hx
      generalize xs[k]'(by omega) = x at *
      generalize xs[k - 1]'(by omega) = y at *
      have hgx : ∀ q, q < 2 → (rows Fnd.cells xs)[0 + (k : Int).toNat * 2 + q]? = x.cells[q]? := fun q hq => by
        rw [Nat.zero_add]; exact rows_get Fnd.cells 2 fnd2 xs k q x hx hq
      have hgy : ∀ q, q < 2 → (rows Fnd.cells xs)[0 + ((k : Int) - 1).toNat * 2 + q]? = y.cells[q]? := fun q hq => by
        rw [Nat.zero_add, show ((k : Int) - 1).toNat = k - 1 by omega]; exact rows_get Fnd.cells 2 fnd2 xs (k - 1) q y hy hq
      (repeat (first | refine el_pure rfl rfl rfl rfl ?_ | refine ej_seq ?_ | refine ej_region ?_ | refine el_nil ?_ | refine eq_seq ?_ | refine eq_calm ?_ | refine ej_true rfl ?_ | refine ej_false rfl ?_ | refine el_skip rfl rfl rfl ?_ | refine ej_ret ?_ | refine ej_skip ?_ | refine ej_exit ?_ | refine ej_block ?_ | refine eq_seq_ret ?_ | refine eq_seq_exit ?_ | refine eq_block ?_ | refine eq_block_exit ?_ | refine eq_block_ret ?_ | refine eq_block_exit_ne rfl ?_ | refine eq_back_ret ?_ | refine eq_back_exit ?_))
      refine ej_held [rowC (some (g, c)) T_audit_Finding 2 (rows Fnd.cells xs) n] ?_
      refine eh_take 0 (held (.cons i hi .nil)) rfl (by kernel_rfl) (by kernel_rfl) (by kernel_rfl) rfl rfl rfl rfl ?_
      refine eh_take 1 (held (.cons i hi .nil)) rfl (by kernel_rfl) (by kernel_rfl) (by kernel_rfl) rfl rfl rfl rfl ?_
      refine eh_take 4 (held (.cons i hi .nil)) rfl (by kernel_rfl) (by kernel_rfl) (by kernel_rfl) rfl rfl rfl rfl ?_
      refine eh_take 5 (held (.cons i hi .nil)) rfl (by kernel_rfl) (by kernel_rfl) (by kernel_rfl) rfl rfl rfl rfl ?_
      refine eh_load 6 (held (.cons i hi .nil)) rfl (by kernel_rfl) (by kernel_rfl) (by kernel_rfl) rfl rfl rfl (er_arith rfl rfl rfl rfl ⟨by omega, by omega⟩) ?_
      refine eh_load 2 (held (.cons i hi .nil)) rfl (by kernel_rfl) (by kernel_rfl) (by kernel_rfl) rfl rfl rfl (er_idxv rfl rfl rfl rfl rfl rfl rfl ⟨by omega, by omega⟩) ?_
      refine eh_load 3 (held (.cons i hi .nil)) rfl (by kernel_rfl) (by kernel_rfl) (by kernel_rfl) rfl rfl rfl (er_ldrA 0 (cs := x.cells) rfl rfl rfl rfl rfl rfl hgx) ?_
      refine eh_load 7 (held (.cons i hi .nil)) rfl (by kernel_rfl) (by kernel_rfl) (by kernel_rfl) rfl rfl rfl (er_idxv rfl rfl rfl rfl rfl rfl rfl ⟨by omega, by omega⟩) ?_
      refine eh_load 8 (held (.cons i hi .nil)) rfl (by kernel_rfl) (by kernel_rfl) (by kernel_rfl) rfl rfl rfl (er_ldrA 0 (cs := y.cells) rfl rfl rfl rfl rfl rfl hgy) ?_
      refine eh_load 9 (held (.cons i hi .nil)) rfl (by kernel_rfl) (by kernel_rfl) (by kernel_rfl) rfl rfl rfl (er_eqA rfl (.inl rfl) rfl rfl guard_F (same_F x y)) ?_
      refine eh_val 25 (u := .bool (decide (x = y))) rfl rfl ?_
      refine eh_done (by kernel_rfl) ?_
      (repeat (first | refine el_pure rfl rfl rfl rfl ?_ | refine ej_seq ?_ | refine ej_region ?_ | refine el_nil ?_ | refine eq_seq ?_ | refine eq_calm ?_ | refine ej_true rfl ?_ | refine ej_false rfl ?_ | refine el_skip rfl rfl rfl ?_ | refine ej_ret ?_ | refine ej_skip ?_ | refine ej_exit ?_ | refine ej_block ?_ | refine eq_seq_ret ?_ | refine eq_seq_exit ?_ | refine eq_block ?_ | refine eq_block_exit ?_ | refine eq_block_ret ?_ | refine eq_block_exit_ne rfl ?_ | refine eq_back_ret ?_ | refine eq_back_exit ?_))
      have hV : View w0 l 2 (some ⟨g, 0, none⟩) (rows Fnd.cells xs) n c := View.of_row (r := some (g, c)) hi (by rw [rows_length _ 2 fnd2, hn])
      have hsub : ∀ j, j < c → subA (some ⟨g, 0, none⟩) j c 2 = some ⟨g, j * 2, none⟩ := fun j hj => by
        rw [subA, if_neg (by omega)]
        simp only [Option.map_some, addr_add, Nat.zero_add]
      refine ej_dec rfl (fun hxy => ?_) (fun hxy => ?_)
      · rw [if_pos hxy.symm, hck] at hct
        (repeat (first | refine el_pure rfl rfl rfl rfl ?_ | refine ej_seq ?_ | refine ej_region ?_ | refine el_nil ?_ | refine eq_seq ?_ | refine eq_calm ?_ | refine ej_true rfl ?_ | refine ej_false rfl ?_ | refine el_skip rfl rfl rfl ?_ | refine ej_ret ?_ | refine ej_skip ?_ | refine ej_exit ?_ | refine ej_block ?_ | refine eq_seq_ret ?_ | refine eq_seq_exit ?_ | refine eq_block ?_ | refine eq_block_exit ?_ | refine eq_block_ret ?_ | refine eq_block_exit_ne rfl ?_ | refine eq_back_ret ?_ | refine eq_back_exit ?_))
        refine el_cons rfl (eo_slice k n rfl rfl rfl rfl ⟨_, rfl⟩ rfl rfl rfl rfl hV (by omega) (Nat.le_refl _) ?_)
        refine el_val 28 (u := .slice (some ⟨g, k * 2, none⟩) (n - k) (c - k)) rfl (by show Value.slice (subA _ _ _ 2) _ _ = _; rw [hsub k (by omega)]) ?_
        (repeat (first | refine el_pure rfl rfl rfl rfl ?_ | refine ej_seq ?_ | refine ej_region ?_ | refine el_nil ?_ | refine eq_seq ?_ | refine eq_calm ?_ | refine ej_true rfl ?_ | refine ej_false rfl ?_ | refine el_skip rfl rfl rfl ?_ | refine ej_ret ?_ | refine ej_skip ?_ | refine ej_exit ?_ | refine ej_block ?_ | refine eq_seq_ret ?_ | refine eq_seq_exit ?_ | refine eq_block ?_ | refine eq_block_exit ?_ | refine eq_block_ret ?_ | refine eq_block_exit_ne rfl ?_ | refine eq_back_ret ?_ | refine eq_back_exit ?_))
        refine ej_loopP (α := Nat × Nat × List Fnd) (fun z => 1 ≤ z.1 ∧ k + z.1 ≤ n ∧ z.2.2.length = n ∧ z.2.2.take z.2.1 = compactL (xs.take (k + z.1)) ∧ z.2.2.drop (k + z.1 - 1) = xs.drop (k + z.1 - 1) ∧ 1 ≤ z.2.1 ∧ z.2.1 ≤ k + z.1 - 1)
          (fun z => [(0, .slice (some ⟨g, 0, none⟩) n c), (3, int z.2.1), (4, .slice (some ⟨g, k * 2, none⟩) (n - k) (c - k)), (5, int z.1)]) (fun z => S w0 (l.set i (rowC (some (g, c)) T_audit_Finding 2 (rows Fnd.cells z.2.2) n))) (fun z => n - z.1) (1, k, xs)
          ⟨Nat.le_refl _, by show k + 1 ≤ n; omega, hn, hct.symm, rfl, hk1, by show k ≤ k + 1 - 1; omega⟩ (le_of _ _ rfl) (fun w hw => by show S w0 (l.set i _) w; rw [set_perm_front _ _ _ hi]; exact hw) ?_
        rintro ⟨k2, kk, A⟩ ⟨z1, z2, z3, z4, z5, z6, z7⟩
        have z1 : 1 ≤ k2 := z1
        have z2 : k + k2 ≤ n := z2
        have z3 : A.length = n := z3
        have z4 : A.take kk = compactL (xs.take (k + k2)) := z4
        have z5 : A.drop (k + k2 - 1) = xs.drop (k + k2 - 1) := z5
        have z6 : 1 ≤ kk := z6
        have z7 : kk ≤ k + k2 - 1 := z7
        have hil := (List.getElem?_eq_some_iff.1 hi).1
        have hi2 : (l.set i (rowC (some (g, c)) T_audit_Finding 2 (rows Fnd.cells A) n))[i]? = some (rowC (some (g, c)) T_audit_Finding 2 (rows Fnd.cells A) n) := by simp [hil]
        (repeat (first | refine el_pure rfl rfl rfl rfl ?_ | refine ej_seq ?_ | refine ej_region ?_ | refine el_nil ?_ | refine eq_seq ?_ | refine eq_calm ?_ | refine ej_true rfl ?_ | refine ej_false rfl ?_ | refine el_skip rfl rfl rfl ?_ | refine ej_ret ?_ | refine ej_skip ?_ | refine ej_exit ?_ | refine ej_block ?_ | refine eq_seq_ret ?_ | refine eq_seq_exit ?_ | refine eq_block ?_ | refine eq_block_exit ?_ | refine eq_block_ret ?_ | refine eq_block_exit_ne rfl ?_ | refine eq_back_ret ?_ | refine eq_back_exit ?_ | refine el_cons rfl (eo_lenv rfl rfl rfl rfl rfl rfl ?_) | refine el_cons rfl (eo_arith rfl rfl rfl rfl rfl rfl ⟨by omega, by omega⟩ ?_)))
        refine ej_dec rfl (fun hlt2 => ?_) (fun hlt2 => ?_)
        · have hlt2 : (k2 : Int) < ((n - k : Nat) : Int) := hlt2
          have hAx : ∀ j, k + k2 - 1 ≤ j → A[j]? = xs[j]? := fun j hj => by
            have h1 := congrArg (fun q : List Fnd => q[j - (k + k2 - 1)]?) z5
            simp only [List.getElem?_drop] at h1
            rw [show k + k2 - 1 + (j - (k + k2 - 1)) = j by omega] at h1
            exact h1
          have hx2 : xs[k + k2]? = some (xs[k + k2]'(by omega)) := List.getElem?_eq_getElem _
          have hy2 : xs[k + k2 - 1]? = some (xs[k + k2 - 1]'(by omega)) := List.getElem?_eq_getElem _
          have hct2 := compact_take (by omega) hy2 hx2
          generalize xs[k + k2]'(by omega) = x2 at *
          generalize xs[k + k2 - 1]'(by omega) = y2 at *
          have hgx2 : ∀ q, q < 2 → (rows Fnd.cells A)[k * 2 + (k2 : Int).toNat * 2 + q]? = x2.cells[q]? := fun q hq => by
            rw [← Nat.add_mul]; exact rows_get Fnd.cells 2 fnd2 A (k + k2) q x2 (by rw [hAx _ (by omega)]; exact hx2) hq
          have hgy2 : ∀ q, q < 2 → (rows Fnd.cells A)[k * 2 + ((k2 : Int) - 1).toNat * 2 + q]? = y2.cells[q]? := fun q hq => by
            rw [show ((k2 : Int) - 1).toNat = k2 - 1 by omega, ← Nat.add_mul, show k + (k2 - 1) = k + k2 - 1 by omega]; exact rows_get Fnd.cells 2 fnd2 A (k + k2 - 1) q y2 (by rw [hAx _ (Nat.le_refl _)]; exact hy2) hq
          (repeat (first | refine el_pure rfl rfl rfl rfl ?_ | refine ej_seq ?_ | refine ej_region ?_ | refine el_nil ?_ | refine eq_seq ?_ | refine eq_calm ?_ | refine ej_true rfl ?_ | refine ej_false rfl ?_ | refine el_skip rfl rfl rfl ?_ | refine ej_ret ?_ | refine ej_skip ?_ | refine ej_exit ?_ | refine ej_block ?_ | refine eq_seq_ret ?_ | refine eq_seq_exit ?_ | refine eq_block ?_ | refine eq_block_exit ?_ | refine eq_block_ret ?_ | refine eq_block_exit_ne rfl ?_ | refine eq_back_ret ?_ | refine eq_back_exit ?_))
          refine ej_held [rowC (some (g, c)) T_audit_Finding 2 (rows Fnd.cells A) n] ?_
          refine eh_take 0 (held (.cons i hi2 .nil)) rfl (by kernel_rfl) (by kernel_rfl) (by kernel_rfl) rfl rfl rfl rfl ?_
          refine eh_take 1 (held (.cons i hi2 .nil)) rfl (by kernel_rfl) (by kernel_rfl) (by kernel_rfl) rfl rfl rfl rfl ?_
          refine eh_take 4 (held (.cons i hi2 .nil)) rfl (by kernel_rfl) (by kernel_rfl) (by kernel_rfl) rfl rfl rfl rfl ?_
          refine eh_take 5 (held (.cons i hi2 .nil)) rfl (by kernel_rfl) (by kernel_rfl) (by kernel_rfl) rfl rfl rfl rfl ?_
          refine eh_load 6 (held (.cons i hi2 .nil)) rfl (by kernel_rfl) (by kernel_rfl) (by kernel_rfl) rfl rfl rfl (er_arith rfl rfl rfl rfl ⟨by omega, by omega⟩) ?_
          refine eh_load 2 (held (.cons i hi2 .nil)) rfl (by kernel_rfl) (by kernel_rfl) (by kernel_rfl) rfl rfl rfl (er_idxv rfl rfl rfl rfl rfl rfl rfl ⟨by omega, by omega⟩) ?_
          refine eh_load 3 (held (.cons i hi2 .nil)) rfl (by kernel_rfl) (by kernel_rfl) (by kernel_rfl) rfl rfl rfl (er_ldrA 0 (cs := x2.cells) rfl rfl rfl rfl rfl rfl hgx2) ?_
          refine eh_load 7 (held (.cons i hi2 .nil)) rfl (by kernel_rfl) (by kernel_rfl) (by kernel_rfl) rfl rfl rfl (er_idxv rfl rfl rfl rfl rfl rfl rfl ⟨by omega, by omega⟩) ?_
          refine eh_load 8 (held (.cons i hi2 .nil)) rfl (by kernel_rfl) (by kernel_rfl) (by kernel_rfl) rfl rfl rfl (er_ldrA 0 (cs := y2.cells) rfl rfl rfl rfl rfl rfl hgy2) ?_
          refine eh_load 9 (held (.cons i hi2 .nil)) rfl (by kernel_rfl) (by kernel_rfl) (by kernel_rfl) rfl rfl rfl (er_eqA rfl (.inr rfl) rfl rfl guard_F (same_F x2 y2)) ?_
          refine eh_val 44 (u := .bool (decide (¬ x2 = y2))) rfl (by rw [decide_not]; rfl) ?_
          refine eh_done (by kernel_rfl) ?_
          (repeat (first | refine el_pure rfl rfl rfl rfl ?_ | refine ej_seq ?_ | refine ej_region ?_ | refine el_nil ?_ | refine eq_seq ?_ | refine eq_calm ?_ | refine ej_true rfl ?_ | refine ej_false rfl ?_ | refine el_skip rfl rfl rfl ?_ | refine ej_ret ?_ | refine ej_skip ?_ | refine ej_exit ?_ | refine ej_block ?_ | refine eq_seq_ret ?_ | refine eq_seq_exit ?_ | refine eq_block ?_ | refine eq_block_exit ?_ | refine eq_block_ret ?_ | refine eq_block_exit_ne rfl ?_ | refine eq_back_ret ?_ | refine eq_back_exit ?_))
          refine ej_dec rfl (fun hne => ?_) (fun hne => ?_)
          · rw [if_neg (fun e => hne e.symm)] at hct2
            (repeat (first | refine el_pure rfl rfl rfl rfl ?_ | refine ej_seq ?_ | refine ej_region ?_ | refine el_nil ?_ | refine eq_seq ?_ | refine eq_calm ?_ | refine ej_true rfl ?_ | refine ej_false rfl ?_ | refine el_skip rfl rfl rfl ?_ | refine ej_ret ?_ | refine ej_skip ?_ | refine ej_exit ?_ | refine ej_block ?_ | refine eq_seq_ret ?_ | refine eq_seq_exit ?_ | refine eq_block ?_ | refine eq_block_exit ?_ | refine eq_block_ret ?_ | refine eq_block_exit_ne rfl ?_ | refine eq_back_ret ?_ | refine eq_back_exit ?_))
            refine el_cons rfl (eo_idx rfl rfl rfl rfl rfl rfl rfl rfl ⟨by omega, by omega⟩ ?_)
            refine el_cons rfl (eo_ldrA i (r := some (g, c)) (cs := x2.cells) rfl rfl rfl rfl rfl rfl hi2 rfl hgx2 ?_)
            refine el_cons rfl (eo_idx rfl rfl rfl rfl rfl rfl rfl rfl ⟨by omega, by omega⟩ ?_)
            refine el_cons rfl (eo_strA i (r := some (g, c)) rfl rfl rfl rfl rfl rfl rfl hi2 ?_ ?_ ?_)
            · show 0 + (kk : Int).toNat * 2 + 2 ≤ _
              rw [rows_length _ 2 fnd2]; omega
            · rw [rows_length _ 2 fnd2]; omega
            (repeat (first | refine el_pure rfl rfl rfl rfl ?_ | refine ej_seq ?_ | refine ej_region ?_ | refine el_nil ?_ | refine eq_seq ?_ | refine eq_calm ?_ | refine ej_true rfl ?_ | refine ej_false rfl ?_ | refine el_skip rfl rfl rfl ?_ | refine ej_ret ?_ | refine ej_skip ?_ | refine ej_exit ?_ | refine ej_block ?_ | refine eq_seq_ret ?_ | refine eq_seq_exit ?_ | refine eq_block ?_ | refine eq_block_exit ?_ | refine eq_block_ret ?_ | refine eq_block_exit_ne rfl ?_ | refine eq_back_ret ?_ | refine eq_back_exit ?_ | refine el_cons rfl (eo_lenv rfl rfl rfl rfl rfl rfl ?_) | refine el_cons rfl (eo_arith rfl rfl rfl rfl rfl rfl ⟨by omega, by omega⟩ ?_)))
            refine eq_backP (k2 + 1, kk + 1, A.set kk x2) ⟨by show 1 ≤ k2 + 1; omega, by show k + (k2 + 1) ≤ n; omega, by show (A.set kk x2).length = n; simp [z3], ?_, ?_, by show 1 ≤ kk + 1; omega, by show kk + 1 ≤ k + (k2 + 1) - 1; omega⟩ (by show n - (k2 + 1) < n - k2; omega) (le_of _ _ rfl) ?_
            · show (A.set kk x2).take (kk + 1) = compactL (xs.take (k + (k2 + 1)))
              rw [← Nat.add_assoc, hct2, ← z4, List.take_succ_eq_append_getElem (by simp; omega), List.take_set_of_le (Nat.le_refl _)]
              simp
            · show (A.set kk x2).drop (k + (k2 + 1) - 1) = xs.drop (k + (k2 + 1) - 1)
              rw [List.drop_set_of_lt (by omega), show k + (k2 + 1) - 1 = (k + k2 - 1) + 1 by omega, ← List.drop_drop, ← List.drop_drop, z5]
            · intro w hw
              show S w0 (l.set i (rowC (some (g, c)) T_audit_Finding 2 (rows Fnd.cells (A.set kk x2)) n)) w
              rw [← rows_set Fnd.cells 2 fnd2 A kk x2 (by omega)]
              have hw2 : S w0 ((l.set i (rowC (some (g, c)) T_audit_Finding 2 (rows Fnd.cells A) n)).set i (rowC (some (g, c)) T_audit_Finding 2 (splice (rows Fnd.cells A) (0 + (kk : Int).toNat * 2) x2.cells) n)) w := hw
              rw [List.set_set, Nat.zero_add] at hw2
              exact hw2
          · have hne : x2 = y2 := Decidable.not_not.1 hne
            rw [if_pos hne.symm] at hct2
            (repeat (first | refine el_pure rfl rfl rfl rfl ?_ | refine ej_seq ?_ | refine ej_region ?_ | refine el_nil ?_ | refine eq_seq ?_ | refine eq_calm ?_ | refine ej_true rfl ?_ | refine ej_false rfl ?_ | refine el_skip rfl rfl rfl ?_ | refine ej_ret ?_ | refine ej_skip ?_ | refine ej_exit ?_ | refine ej_block ?_ | refine eq_seq_ret ?_ | refine eq_seq_exit ?_ | refine eq_block ?_ | refine eq_block_exit ?_ | refine eq_block_ret ?_ | refine eq_block_exit_ne rfl ?_ | refine eq_back_ret ?_ | refine eq_back_exit ?_ | refine el_cons rfl (eo_lenv rfl rfl rfl rfl rfl rfl ?_) | refine el_cons rfl (eo_arith rfl rfl rfl rfl rfl rfl ⟨by omega, by omega⟩ ?_)))
            refine eq_backP (k2 + 1, kk, A) ⟨by show 1 ≤ k2 + 1; omega, by show k + (k2 + 1) ≤ n; omega, z3, ?_, ?_, z6, by show kk ≤ k + (k2 + 1) - 1; omega⟩ (by show n - (k2 + 1) < n - k2; omega) (le_of _ _ rfl) fun w hw => hw
            · show A.take kk = compactL (xs.take (k + (k2 + 1)))
              rw [← Nat.add_assoc, hct2, z4]
            · show A.drop (k + (k2 + 1) - 1) = xs.drop (k + (k2 + 1) - 1)
              rw [show k + (k2 + 1) - 1 = (k + k2 - 1) + 1 by omega, ← List.drop_drop, ← List.drop_drop, z5]
        · have hlt2 : ¬ (k2 : Int) < ((n - k : Nat) : Int) := hlt2
          have hkn2 : k + k2 = n := by omega
          rw [hkn2, show xs.take n = xs by rw [← hn, List.take_length]] at z4
          have hkl : (compactL xs).length = kk := by rw [← z4, List.length_take]; omega
          have hV2 : View w0 (l.set i (rowC (some (g, c)) T_audit_Finding 2 (rows Fnd.cells A) n)) 2 (some ⟨g, 0, none⟩) (rows Fnd.cells A) n c := View.of_row (r := some (g, c)) hi2 (by rw [rows_length _ 2 fnd2, z3])
          rw [hkl]
          (repeat (first | refine el_pure rfl rfl rfl rfl ?_ | refine ej_seq ?_ | refine ej_region ?_ | refine el_nil ?_ | refine eq_seq ?_ | refine eq_calm ?_ | refine ej_true rfl ?_ | refine ej_false rfl ?_ | refine el_skip rfl rfl rfl ?_ | refine ej_ret ?_ | refine ej_skip ?_ | refine ej_exit ?_ | refine ej_block ?_ | refine eq_seq_ret ?_ | refine eq_seq_exit ?_ | refine eq_block ?_ | refine eq_block_exit ?_ | refine eq_block_ret ?_ | refine eq_block_exit_ne rfl ?_ | refine eq_back_ret ?_ | refine eq_back_exit ?_))
          refine el_cons rfl (eo_slice kk n rfl rfl rfl rfl ⟨_, rfl⟩ rfl rfl rfl rfl hV2 (by omega) (Nat.le_refl _) ?_)
          refine el_val 56 (u := .slice (some ⟨g, kk * 2, none⟩) (n - kk) (c - kk)) rfl (by show Value.slice (subA _ _ _ 2) _ _ = _; rw [hsub kk (by omega)]) ?_
          refine el_cons rfl (eo_clear i rfl rfl rfl rfl rfl rfl rfl rfl hi2 ?_ fun vs hvs => ?_)
          · rw [rows_length _ 2 fnd2, z3]; show kk * 2 + (n - kk) * 2 ≤ n * 2; omega
          generalize hZ : splice (rows Fnd.cells A) (kk * 2) vs = Z
          have hZl : Z.length = n * 2 := by rw [← hZ, splice_length, rows_length _ 2 fnd2, z3]
          have hZt : Z.take (kk * 2) = rows Fnd.cells (compactL xs) := by
            rw [← hZ, splice_take, ← z4]
            have h1 := rows_length Fnd.cells 2 fnd2 (A.take kk)
            have h2 : rows Fnd.cells A = rows Fnd.cells (A.take kk) ++ rows Fnd.cells (A.drop kk) := by
              rw [rows, rows, rows, ← List.flatten_append, ← List.map_append, List.take_append_drop]
            rw [h2, List.take_left' (by rw [h1, List.length_take]; congr 1; omega)]
          rw [List.set_set]
          have hi3 : (l.set i (rowC (some (g, c)) T_audit_Finding 2 Z n))[i]? = some (rowC (some (g, c)) T_audit_Finding 2 Z n) := by simp [hil]
          have hV3 : View w0 (l.set i (rowC (some (g, c)) T_audit_Finding 2 Z n)) 2 (some ⟨g, 0, none⟩) Z n c := View.of_row (r := some (g, c)) hi3 hZl
          (repeat (first | refine el_pure rfl rfl rfl rfl ?_ | refine ej_seq ?_ | refine ej_region ?_ | refine el_nil ?_ | refine eq_seq ?_ | refine eq_calm ?_ | refine ej_true rfl ?_ | refine ej_false rfl ?_ | refine el_skip rfl rfl rfl ?_ | refine ej_ret ?_ | refine ej_skip ?_ | refine ej_exit ?_ | refine ej_block ?_ | refine eq_seq_ret ?_ | refine eq_seq_exit ?_ | refine eq_block ?_ | refine eq_block_exit ?_ | refine eq_block_ret ?_ | refine eq_block_exit_ne rfl ?_ | refine eq_back_ret ?_ | refine eq_back_exit ?_))
          refine el_cons rfl (eo_slice 0 kk rfl rfl rfl rfl rfl ⟨_, rfl⟩ rfl rfl rfl hV3 (Nat.zero_le _) (by omega) ?_)
          refine el_val 59 (u := .slice (some ⟨g, 0, none⟩) kk c) rfl (by show Value.slice (subA _ _ _ 2) _ _ = _; rw [hsub 0 (by omega)]; rfl) ?_
          (repeat (first | refine el_pure rfl rfl rfl rfl ?_ | refine ej_seq ?_ | refine ej_region ?_ | refine el_nil ?_ | refine eq_seq ?_ | refine eq_calm ?_ | refine ej_true rfl ?_ | refine ej_false rfl ?_ | refine el_skip rfl rfl rfl ?_ | refine ej_ret ?_ | refine ej_skip ?_ | refine ej_exit ?_ | refine ej_block ?_ | refine eq_seq_ret ?_ | refine eq_seq_exit ?_ | refine eq_block ?_ | refine eq_block_exit ?_ | refine eq_block_ret ?_ | refine eq_block_exit_ne rfl ?_ | refine eq_back_ret ?_ | refine eq_back_exit ?_))
          refine eq_rett rfl fun w hw => ⟨(some ⟨g, 0, none⟩, c, rowC (some (g, c)) T_audit_Finding 2 Z n), rfl, ?_, hw⟩
          have hV4 : View w0 [rowC (some (g, c)) T_audit_Finding 2 Z n] 2 (some ⟨g, 0, none⟩) Z n c := View.of_row (r := some (g, c)) (i := 0) rfl hZl
          have hV5 := hV4.sub (lo := 0) (hi := kk) (Nat.zero_le _) (by omega)
          rw [hsub 0 (by omega)] at hV5
          have e5 : subX Z 0 kk 2 = rows Fnd.cells (compactL xs) := by rw [← hZt]; simp [subX]
          rw [e5, Nat.sub_zero, Nat.sub_zero] at hV5
          exact hV5
      · have hxy : ¬ x = y := hxy
        rw [if_neg (fun e => hxy e.symm), hck] at hct
        (repeat (first | refine el_pure rfl rfl rfl rfl ?_ | refine ej_seq ?_ | refine ej_region ?_ | refine el_nil ?_ | refine eq_seq ?_ | refine eq_calm ?_ | refine ej_true rfl ?_ | refine ej_false rfl ?_ | refine el_skip rfl rfl rfl ?_ | refine ej_ret ?_ | refine ej_skip ?_ | refine ej_exit ?_ | refine ej_block ?_ | refine eq_seq_ret ?_ | refine eq_seq_exit ?_ | refine eq_block ?_ | refine eq_block_exit ?_ | refine eq_block_ret ?_ | refine eq_block_exit_ne rfl ?_ | refine eq_back_ret ?_ | refine eq_back_exit ?_ | refine el_cons rfl (eo_lenv rfl rfl rfl rfl rfl rfl ?_) | refine el_cons rfl (eo_arith rfl rfl rfl rfl rfl rfl ⟨by omega, by omega⟩ ?_)))
        refine eq_backP (k + 1) ⟨by omega, by omega, ?_⟩ (by omega) (le_of _ _ rfl) fun w hw => hw
        rw [hct]
        exact (take_snoc hx).symm
    · have hlt : ¬ (k : Int) < n := hlt
      obtain rfl : k = n := by omega
      have hc : compactL xs = xs := by rw [← hn, List.take_length] at hck; exact hck
      rw [hc, hn]
      (repeat (first | refine el_pure rfl rfl rfl rfl ?_ | refine ej_seq ?_ | refine ej_region ?_ | refine el_nil ?_ | refine eq_seq ?_ | refine eq_calm ?_ | refine ej_true rfl ?_ | refine ej_false rfl ?_ | refine el_skip rfl rfl rfl ?_ | refine ej_ret ?_ | refine ej_skip ?_ | refine ej_exit ?_ | refine ej_block ?_ | refine eq_seq_ret ?_ | refine eq_seq_exit ?_ | refine eq_block ?_ | refine eq_block_exit ?_ | refine eq_block_ret ?_ | refine eq_block_exit_ne rfl ?_ | refine eq_back_ret ?_ | refine eq_back_exit ?_))
      refine eq_rett rfl fun w hw => ⟨(some ⟨g, 0, none⟩, c, rowC (some (g, c)) T_audit_Finding 2 (rows Fnd.cells xs) k), rfl, View.of_row (i := 0) (r := some (g, c)) rfl (by rw [rows_length _ 2 fnd2, hn]), ?_⟩
      rw [set_perm_front _ _ _ hi]; exact hw

end Go.Proofs.Ytkpbpjnabbfdiaa
