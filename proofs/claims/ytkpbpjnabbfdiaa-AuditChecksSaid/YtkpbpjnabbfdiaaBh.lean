/- The document's audit: what is wrong with a thread. -/
import Derived.Test.YtkpbpjnabbfdiaaBg
namespace Go.Proofs.Ytkpbpjnabbfdiaa
open Go Go.SE

variable {w0 w : World} {l : List HP} {i : Nat} {r : Option (Nat × Nat)} {p : HP}

abbrev k1 (b : Bool) (k : Int) : List Int := if b = true then [k] else []
theorem k1_le (b : Bool) (k : Int) : (k1 b k).length ≤ 1 := by cases b <;> simp [k1]
theorem k1_true {xs : List Int} {k : Int} : xs ++ k1 true k = xs ++ [k] := rfl
theorem k1_false {xs : List Int} {k : Int} : xs ++ k1 false k = xs := List.append_nil _
theorem ints_snoc (xs : List Int) (k : Int) : ints (xs ++ [k]) = ints xs ++ [int k] := by simp
def badMask (ds : List Dm) (t : Th) : Bool := match domOf ds t.dom with
  | none => false
  | some d => !has (effM d t.mask) t.core
def badRound (ds : List Dm) (t : Th) : Bool := match domOf ds t.dom with
  | none => false
  | some d => !decide (roundOk d t)
def kn (ds : List Dm) (t : Th) : Bool := decide (0 ≤ t.dom ∧ t.dom < ds.length)
def thR (ds : List Dm) (cs : List Cr) (q : Int) (t : Th) : List Int :=
  k1 (decide (placesN cs t.id = 0)) 3 ++ k1 (decide (placesN cs t.id = 1) && !placedB ds cs t) 6 ++ k1 (!decide (placesN cs t.id = 1) && !kn ds t) 6 ++ k1 (badMask ds t) 7 ++ k1 (badRound ds t) 8 ++ k1 (badSlice q t) 9

set_option maxHeartbeats 6400000 in
theorem thread_ref {v : Hd} {ds : List Dm} {cs : List Cr} {ts : List Th} (t : Th) (hm : t.mask < 18446744073709551616) (htag : 0 ≤ t.tag ∧ t.tag ≤ 9223372036854775807) (hi : l[i]? = some p) (hv : DoV w0 p v ds cs ts) :
    Does cx F_ref21_thread [v.val, .agg t.doc.toArray] (S w0 l) fun u w => ∃ r', u = sv r' (thR ds cs v.q t).length ∧ True ∧ S w0 (rowC r' T_int 1 (ints (thR ds cs v.q t)) (thR ds cs v.q t).length :: l) w := by
  refine fn_enter (n := N_ref21_thread) fn_ref21_thread rfl rfl rfl ?_
  refine ej_seq (ej_region (el_cons rfl (eo_box rfl rfl rfl rfl fun b2 => el_cons rfl (eo_box rfl rfl rfl rfl fun b3 => ?_))))
  have hplc := fun (l' : List HP) (h : l'[i + 3]? = some p) => places_ref (w0 := w0) (l := l') t.id h hv
  have hpld := fun (l' : List HP) (h : l'[i + 3]? = some p) => placed_ref (w0 := w0) (l := l') t h hv
  have hkn := fun (l' : List HP) => known_ref (w0 := w0) (l := l') t hv
  have hmk := fun (l' : List HP) (d : Dm) (hd : domOf ds t.dom = some d) (h : l'[i + 3]? = some p) => masked_ref (w0 := w0) (l := l') t d hm hd h hv
  have hrd := fun (l' : List HP) (d : Dm) (hd : domOf ds t.dom = some d) (h : l'[i + 3]? = some p) => round_ref (w0 := w0) (l := l') t d htag hd h hv
  have hkd : kn ds t = (domOf ds t.dom).isSome := by
    unfold kn domOf
    by_cases h : 0 ≤ t.dom ∧ t.dom < ds.length
    · rw [if_pos h, List.getElem?_eq_getElem (by omega), decide_eq_true h]; rfl
    · rw [if_neg h, decide_eq_false h]; rfl
  have hbs : badSlice v.q t = (decide (t.slice < 1) || decide (v.q < t.slice)) := rfl
  obtain ⟨q, ad, nd, cd, ac, nc, cc, at', nt, ct⟩ := v
  obtain ⟨tid, dom, mask, awake, running, core, tag, left, slice⟩ := t
  unfold thR
  have hkn' : kn ds ⟨tid, dom, mask, awake, running, core, tag, left, slice⟩ = decide (0 ≤ dom ∧ dom < ds.length) := rfl
  rw [← hkn'] at hkn
  generalize hP : placesN cs (Th.id ⟨tid, dom, mask, awake, running, core, tag, left, slice⟩) = P at *
  generalize placedB ds cs ⟨tid, dom, mask, awake, running, core, tag, left, slice⟩ = pb at *
  (repeat (first | refine el_pure rfl rfl rfl rfl ?_ | refine ej_seq ?_ | refine ej_region ?_ | refine el_nil ?_ | refine eq_seq ?_ | refine eq_calm ?_ | refine ej_true rfl ?_ | refine ej_false rfl ?_ | refine el_skip rfl rfl rfl ?_ | refine ej_ret ?_ | refine ej_skip ?_ | refine ej_exit ?_ | refine ej_block ?_ | refine eq_seq_ret ?_ | refine eq_seq_exit ?_ | refine eq_block ?_ | refine eq_block_exit ?_ | refine eq_block_ret ?_ | refine eq_block_exit_ne rfl ?_ | refine eq_back_ret ?_ | refine eq_back_exit ?_))
  refine el_imp (H' := S w0 (rowC none T_int 1 (ints ([] : List Int)) (([] : List Int)).length :: cells b3 T_ref21_T (Th.doc ⟨tid, dom, mask, awake, running, core, tag, left, slice⟩) :: cells b2 T_ref21_V (Hd.cells ⟨q, ad, nd, cd, ac, nc, cc, at', nt, ct⟩) :: l)) (fun w hw => S.row_new hw) ?_
  refine el_cons rfl (eo_ldW 2 rfl rfl rfl rfl rfl rfl rfl rfl ?_)
  (repeat (first | refine el_pure rfl rfl rfl rfl ?_ | refine ej_seq ?_ | refine ej_region ?_ | refine el_nil ?_ | refine eq_seq ?_ | refine eq_calm ?_ | refine ej_true rfl ?_ | refine ej_false rfl ?_ | refine el_skip rfl rfl rfl ?_ | refine ej_ret ?_ | refine ej_skip ?_ | refine ej_exit ?_ | refine ej_block ?_ | refine eq_seq_ret ?_ | refine eq_seq_exit ?_ | refine eq_block ?_ | refine eq_block_exit ?_ | refine eq_block_ret ?_ | refine eq_block_exit_ne rfl ?_ | refine eq_back_ret ?_ | refine eq_back_exit ?_))
  refine el_cons rfl (eo_ld 1 rfl rfl rfl rfl rfl rfl rfl rfl ?_)
  refine el_cons rfl (eo_call1 rfl rfl rfl rfl rfl real_ref21_places (hplc _ hi) ?_)
  have hl0 : ([] : List Int).length ≤ 0 := Nat.le_refl _
  generalize hO0 : ([] : List Int) = O0 at *
  refine el_contQ [(2, ptr b2), (3, ptr b3), (5, sv none O0.length), (6, int P)] (S w0 (rowC none T_int 1 (ints O0) (O0).length :: cells b3 T_ref21_T (Th.doc ⟨tid, dom, mask, awake, running, core, tag, left, slice⟩) :: cells b2 T_ref21_V (Hd.cells ⟨q, ad, nd, cd, ac, nc, cc, at', nt, ct⟩) :: l)) (fun cont => ?_) ?_
  · (repeat (first | refine el_pure rfl rfl rfl rfl ?_ | refine el_skip rfl rfl rfl ?_))
    refine el_nil (eq_le cont (by rw [← hO0]; exact le_of _ _ rfl) fun w hw => hw)
  refine eq_seq (ej_seq (ej_seq (ej_region ?_)))
  refine el_contQ [(2, ptr b2), (3, ptr b3), (5, sv none (O0).length), (6, int P), (12, .bool (decide (P = 0)))] (S w0 (rowC none T_int 1 (ints O0) (O0).length :: cells b3 T_ref21_T (Th.doc ⟨tid, dom, mask, awake, running, core, tag, left, slice⟩) :: cells b2 T_ref21_V (Hd.cells ⟨q, ad, nd, cd, ac, nc, cc, at', nt, ct⟩) :: l)) (fun cont => ?_) ?_
  · (repeat (first | refine el_pure rfl rfl rfl rfl ?_ | refine el_skip rfl rfl rfl ?_))
    refine el_nil (eq_le cont (le_cons rfl (le_cons rfl (le_cons rfl (le_cons rfl (le_cons ?_ (le_nil _)))))) fun w hw => hw)
    show some _ = some _
    congr 2
    exact decide_eq_decide.2 (by omega)
  refine eq_seq ?_
  refine ej_cont (α := Option (Nat × Nat)) (fun r9 => [(2, ptr b2), (3, ptr b3), (5, sv r9 (O0 ++ k1 (decide (P = 0)) 3).length), (6, int P)]) (fun r9 => S w0 (rowC r9 T_int 1 (ints (O0 ++ k1 (decide (P = 0)) 3)) ((O0 ++ k1 (decide (P = 0)) 3)).length :: cells b3 T_ref21_T (Th.doc ⟨tid, dom, mask, awake, running, core, tag, left, slice⟩) :: cells b2 T_ref21_V (Hd.cells ⟨q, ad, nd, cd, ac, nc, cc, at', nt, ct⟩) :: l)) (fun cont => ?_) (fun r1 => ?_)
  · generalize (decide (P = 0)) = u at *
    cases u with
    | false => exact ej_false rfl (ej_skip (eq_le (cont none) (by rw [k1_false]; exact le_of _ _ rfl) fun w hw => by rw [k1_false]; exact hw))
    | true =>
      refine ej_true rfl (ej_region ?_)
      (repeat (first | refine el_pure rfl rfl rfl rfl ?_ | refine el_skip rfl rfl rfl ?_))
      refine el_cons rfl (eo_buildS (cs := [int 3]) rfl rfl rfl rfl rfl rfl rfl rfl rfl rfl fun b9 => ?_)
      refine el_cons rfl (eo_append 1 (r := none) (xs := ints (O0)) (n' := (O0).length) [int 3] rfl rfl rfl rfl rfl rfl rfl rfl rfl rfl rfl (fun w hw j u hu => ?_) rfl (by decide) ?_ ?_ fun r9 => ?_)
      · rw [addr_add, Nat.zero_add]; exact hw.cell (i := 0) rfl hu
      · show ((O0).length + 1) * 8 ≤ 140737488355328; omega
      · show (O0).length + 1 ≤ 9223372036854775807; omega
      (repeat (first | refine el_pure rfl rfl rfl rfl ?_ | refine el_skip rfl rfl rfl ?_))
      have e9 : (O0 ++ k1 true 3).length = (O0).length + 1 := by rw [k1_true, List.length_append]; rfl
      refine el_nil (eq_le (cont r9) (by rw [e9]; exact le_of _ _ rfl) fun w hw => ?_)
      rw [e9, k1_true, ints_snoc]
      exact hw.erase 0
  have hl1 : (O0 ++ k1 (decide (P = 0)) 3).length ≤ 1 := by have := k1_le (decide (P = 0)) 3; rw [List.length_append]; omega
  generalize hO1 : O0 ++ k1 (decide (P = 0)) 3 = O1 at *
  refine eq_seq (ej_seq (ej_seq (ej_region ?_)))
  (repeat (first | refine el_pure rfl rfl rfl rfl ?_ | refine el_skip rfl rfl rfl ?_))
  refine el_contQ [(2, ptr b2), (3, ptr b3), (5, sv r1 (O1).length), (6, int P), (23, .bool (decide (P = 1) && !pb))] (S w0 (rowC r1 T_int 1 (ints O1) (O1).length :: cells b3 T_ref21_T (Th.doc ⟨tid, dom, mask, awake, running, core, tag, left, slice⟩) :: cells b2 T_ref21_V (Hd.cells ⟨q, ad, nd, cd, ac, nc, cc, at', nt, ct⟩) :: l)) (fun cont => ?_) ?_
  · refine el_val 18 (u := .bool (decide (P = 1))) rfl (by congr 1; exact decide_eq_decide.2 (by omega)) ?_
    generalize decide (P = 1) = u1 at *
    cases u1 with
    | false =>
      (repeat (first | refine el_pure rfl rfl rfl rfl ?_ | refine el_skip rfl rfl rfl ?_))
      exact el_nil (eq_le cont (le_of _ _ rfl) fun w hw => hw)
    | true =>
      refine el_cons rfl (eo_ldW 2 rfl rfl rfl rfl rfl rfl rfl rfl ?_)
      refine el_cons rfl (eo_ldW 1 rfl rfl rfl rfl rfl rfl rfl rfl ?_)
      refine el_cons rfl (eo_call1 rfl rfl rfl rfl rfl real_ref21_placed (hpld _ hi) ?_)
      (repeat (first | refine el_pure rfl rfl rfl rfl ?_ | refine el_skip rfl rfl rfl ?_))
      exact el_nil (eq_le cont (le_of _ _ rfl) fun w hw => hw)
  refine eq_seq ?_
  refine ej_cont (α := Option (Nat × Nat)) (fun r9 => [(2, ptr b2), (3, ptr b3), (5, sv r9 (O1 ++ k1 (decide (P = 1) && !pb) 6).length), (6, int P)]) (fun r9 => S w0 (rowC r9 T_int 1 (ints (O1 ++ k1 (decide (P = 1) && !pb) 6)) ((O1 ++ k1 (decide (P = 1) && !pb) 6)).length :: cells b3 T_ref21_T (Th.doc ⟨tid, dom, mask, awake, running, core, tag, left, slice⟩) :: cells b2 T_ref21_V (Hd.cells ⟨q, ad, nd, cd, ac, nc, cc, at', nt, ct⟩) :: l)) (fun cont => ?_) (fun r2 => ?_)
  · generalize (decide (P = 1) && !pb) = u at *
    cases u with
    | false => exact ej_false rfl (ej_skip (eq_le (cont r1) (by rw [k1_false]; exact le_of _ _ rfl) fun w hw => by rw [k1_false]; exact hw))
    | true =>
      refine ej_true rfl (ej_region ?_)
      (repeat (first | refine el_pure rfl rfl rfl rfl ?_ | refine el_skip rfl rfl rfl ?_))
      refine el_cons rfl (eo_buildS (cs := [int 6]) rfl rfl rfl rfl rfl rfl rfl rfl rfl rfl fun b9 => ?_)
      refine el_cons rfl (eo_append 1 (r := r1) (xs := ints (O1)) (n' := (O1).length) [int 6] rfl rfl rfl rfl rfl rfl rfl rfl rfl rfl rfl (fun w hw j u hu => ?_) rfl (by decide) ?_ ?_ fun r9 => ?_)
      · rw [addr_add, Nat.zero_add]; exact hw.cell (i := 0) rfl hu
      · show ((O1).length + 1) * 8 ≤ 140737488355328; omega
      · show (O1).length + 1 ≤ 9223372036854775807; omega
      (repeat (first | refine el_pure rfl rfl rfl rfl ?_ | refine el_skip rfl rfl rfl ?_))
      have e9 : (O1 ++ k1 true 6).length = (O1).length + 1 := by rw [k1_true, List.length_append]; rfl
      refine el_nil (eq_le (cont r9) (by rw [e9]; exact le_of _ _ rfl) fun w hw => ?_)
      rw [e9, k1_true, ints_snoc]
      exact hw.erase 0
  have hl2 : (O1 ++ k1 (decide (P = 1) && !pb) 6).length ≤ 2 := by have := k1_le (decide (P = 1) && !pb) 6; rw [List.length_append]; omega
  generalize hO2 : O1 ++ k1 (decide (P = 1) && !pb) 6 = O2 at *
  refine eq_seq (ej_seq (ej_seq (ej_region ?_)))
  (repeat (first | refine el_pure rfl rfl rfl rfl ?_ | refine el_skip rfl rfl rfl ?_))
  refine el_contQ [(2, ptr b2), (3, ptr b3), (5, sv r2 (O2).length), (6, int P), (34, .bool (!decide (P = 1) && !kn ds ⟨tid, dom, mask, awake, running, core, tag, left, slice⟩))] (S w0 (rowC r2 T_int 1 (ints O2) (O2).length :: cells b3 T_ref21_T (Th.doc ⟨tid, dom, mask, awake, running, core, tag, left, slice⟩) :: cells b2 T_ref21_V (Hd.cells ⟨q, ad, nd, cd, ac, nc, cc, at', nt, ct⟩) :: l)) (fun cont => ?_) ?_
  · refine el_val 29 (u := .bool (!decide (P = 1))) rfl (by rw [← decide_not]; congr 1; exact decide_eq_decide.2 (by omega)) ?_
    generalize decide (P = 1) = u1 at *
    cases u1 with
    | true =>
      (repeat (first | refine el_pure rfl rfl rfl rfl ?_ | refine el_skip rfl rfl rfl ?_))
      exact el_nil (eq_le cont (le_of _ _ rfl) fun w hw => hw)
    | false =>
      refine el_cons rfl (eo_ldW 2 rfl rfl rfl rfl rfl rfl rfl rfl ?_)
      refine el_cons rfl (eo_ldW 1 rfl rfl rfl rfl rfl rfl rfl rfl ?_)
      refine el_cons rfl (eo_call1 rfl rfl rfl rfl rfl real_ref21_known (hkn _) ?_)
      (repeat (first | refine el_pure rfl rfl rfl rfl ?_ | refine el_skip rfl rfl rfl ?_))
      exact el_nil (eq_le cont (le_of _ _ rfl) fun w hw => hw)
  refine eq_seq ?_
  refine ej_cont (α := Option (Nat × Nat)) (fun r9 => [(2, ptr b2), (3, ptr b3), (5, sv r9 (O2 ++ k1 (!decide (P = 1) && !kn ds ⟨tid, dom, mask, awake, running, core, tag, left, slice⟩) 6).length), (6, int P)]) (fun r9 => S w0 (rowC r9 T_int 1 (ints (O2 ++ k1 (!decide (P = 1) && !kn ds ⟨tid, dom, mask, awake, running, core, tag, left, slice⟩) 6)) ((O2 ++ k1 (!decide (P = 1) && !kn ds ⟨tid, dom, mask, awake, running, core, tag, left, slice⟩) 6)).length :: cells b3 T_ref21_T (Th.doc ⟨tid, dom, mask, awake, running, core, tag, left, slice⟩) :: cells b2 T_ref21_V (Hd.cells ⟨q, ad, nd, cd, ac, nc, cc, at', nt, ct⟩) :: l)) (fun cont => ?_) (fun r3 => ?_)
  · generalize (!decide (P = 1) && !kn ds ⟨tid, dom, mask, awake, running, core, tag, left, slice⟩) = u at *
    cases u with
    | false => exact ej_false rfl (ej_skip (eq_le (cont r2) (by rw [k1_false]; exact le_of _ _ rfl) fun w hw => by rw [k1_false]; exact hw))
    | true =>
      refine ej_true rfl (ej_region ?_)
      (repeat (first | refine el_pure rfl rfl rfl rfl ?_ | refine el_skip rfl rfl rfl ?_))
      refine el_cons rfl (eo_buildS (cs := [int 6]) rfl rfl rfl rfl rfl rfl rfl rfl rfl rfl fun b9 => ?_)
      refine el_cons rfl (eo_append 1 (r := r2) (xs := ints (O2)) (n' := (O2).length) [int 6] rfl rfl rfl rfl rfl rfl rfl rfl rfl rfl rfl (fun w hw j u hu => ?_) rfl (by decide) ?_ ?_ fun r9 => ?_)
      · rw [addr_add, Nat.zero_add]; exact hw.cell (i := 0) rfl hu
      · show ((O2).length + 1) * 8 ≤ 140737488355328; omega
      · show (O2).length + 1 ≤ 9223372036854775807; omega
      (repeat (first | refine el_pure rfl rfl rfl rfl ?_ | refine el_skip rfl rfl rfl ?_))
      have e9 : (O2 ++ k1 true 6).length = (O2).length + 1 := by rw [k1_true, List.length_append]; rfl
      refine el_nil (eq_le (cont r9) (by rw [e9]; exact le_of _ _ rfl) fun w hw => ?_)
      rw [e9, k1_true, ints_snoc]
      exact hw.erase 0
  have hl3 : (O2 ++ k1 (!decide (P = 1) && !kn ds ⟨tid, dom, mask, awake, running, core, tag, left, slice⟩) 6).length ≤ 3 := by have := k1_le (!decide (P = 1) && !kn ds ⟨tid, dom, mask, awake, running, core, tag, left, slice⟩) 6; rw [List.length_append]; omega
  generalize hO3 : O2 ++ k1 (!decide (P = 1) && !kn ds ⟨tid, dom, mask, awake, running, core, tag, left, slice⟩) 6 = O3 at *
  refine eq_seq (ej_seq (ej_seq (ej_region ?_)))
  refine el_contQ [(2, ptr b2), (3, ptr b3), (5, sv r3 (O3).length), (6, int P), (46, .bool (badMask ds ⟨tid, dom, mask, awake, running, core, tag, left, slice⟩))] (S w0 (rowC r3 T_int 1 (ints O3) (O3).length :: cells b3 T_ref21_T (Th.doc ⟨tid, dom, mask, awake, running, core, tag, left, slice⟩) :: cells b2 T_ref21_V (Hd.cells ⟨q, ad, nd, cd, ac, nc, cc, at', nt, ct⟩) :: l)) (fun cont => ?_) ?_
  · have hkd : kn ds ⟨tid, dom, mask, awake, running, core, tag, left, slice⟩ = (domOf ds dom).isSome := hkd
    have hbm : badMask ds ⟨tid, dom, mask, awake, running, core, tag, left, slice⟩ = match domOf ds dom with
      | none => false
      | some d => !has (effM d mask) core := rfl
    have hX := fun (l' : List HP) (d : Dm) (hd : domOf ds dom = some d) (h : l'[i + 3]? = some p) => hmk l' d hd h
    cases hd : domOf ds dom with
    | none =>
      rw [hd] at hkd hbm
      rw [hkd] at hkn
      refine el_cons rfl (eo_ldW 2 rfl rfl rfl rfl rfl rfl rfl rfl ?_)
      refine el_cons rfl (eo_ldW 1 rfl rfl rfl rfl rfl rfl rfl rfl ?_)
      refine el_cons rfl (eo_call1 rfl rfl rfl rfl rfl real_ref21_known (hkn _) ?_)
      (repeat (first | refine el_pure rfl rfl rfl rfl ?_ | refine el_skip rfl rfl rfl ?_))
      refine el_nil (eq_le cont (le_cons rfl (le_cons rfl (le_cons rfl (le_cons rfl (le_cons ?_ (le_nil _)))))) fun w hw => hw)
      show some _ = some _
      rw [hbm]
    | some d =>
      rw [hd] at hkd hbm
      rw [hkd] at hkn
      refine el_cons rfl (eo_ldW 2 rfl rfl rfl rfl rfl rfl rfl rfl ?_)
      refine el_cons rfl (eo_ldW 1 rfl rfl rfl rfl rfl rfl rfl rfl ?_)
      refine el_cons rfl (eo_call1 rfl rfl rfl rfl rfl real_ref21_known (hkn _) ?_)
      (repeat (first | refine el_pure rfl rfl rfl rfl ?_ | refine el_skip rfl rfl rfl ?_))
      refine el_cons rfl (eo_ldW 2 rfl rfl rfl rfl rfl rfl rfl rfl ?_)
      refine el_cons rfl (eo_ldW 1 rfl rfl rfl rfl rfl rfl rfl rfl ?_)
      refine el_cons rfl (eo_call1 rfl rfl rfl rfl rfl real_ref21_masked (hX _ d hd hi) ?_)
      (repeat (first | refine el_pure rfl rfl rfl rfl ?_ | refine el_skip rfl rfl rfl ?_))
      refine el_nil (eq_le cont (le_cons rfl (le_cons rfl (le_cons rfl (le_cons rfl (le_cons ?_ (le_nil _)))))) fun w hw => hw)
      show some _ = some _
      rw [hbm]
  refine eq_seq ?_
  refine ej_cont (α := Option (Nat × Nat)) (fun r9 => [(2, ptr b2), (3, ptr b3), (5, sv r9 (O3 ++ k1 (badMask ds ⟨tid, dom, mask, awake, running, core, tag, left, slice⟩) 7).length), (6, int P)]) (fun r9 => S w0 (rowC r9 T_int 1 (ints (O3 ++ k1 (badMask ds ⟨tid, dom, mask, awake, running, core, tag, left, slice⟩) 7)) ((O3 ++ k1 (badMask ds ⟨tid, dom, mask, awake, running, core, tag, left, slice⟩) 7)).length :: cells b3 T_ref21_T (Th.doc ⟨tid, dom, mask, awake, running, core, tag, left, slice⟩) :: cells b2 T_ref21_V (Hd.cells ⟨q, ad, nd, cd, ac, nc, cc, at', nt, ct⟩) :: l)) (fun cont => ?_) (fun r4 => ?_)
  · generalize (badMask ds ⟨tid, dom, mask, awake, running, core, tag, left, slice⟩) = u at *
    cases u with
    | false => exact ej_false rfl (ej_skip (eq_le (cont r3) (by rw [k1_false]; exact le_of _ _ rfl) fun w hw => by rw [k1_false]; exact hw))
    | true =>
      refine ej_true rfl (ej_region ?_)
      (repeat (first | refine el_pure rfl rfl rfl rfl ?_ | refine el_skip rfl rfl rfl ?_))
      refine el_cons rfl (eo_buildS (cs := [int 7]) rfl rfl rfl rfl rfl rfl rfl rfl rfl rfl fun b9 => ?_)
      refine el_cons rfl (eo_append 1 (r := r3) (xs := ints (O3)) (n' := (O3).length) [int 7] rfl rfl rfl rfl rfl rfl rfl rfl rfl rfl rfl (fun w hw j u hu => ?_) rfl (by decide) ?_ ?_ fun r9 => ?_)
      · rw [addr_add, Nat.zero_add]; exact hw.cell (i := 0) rfl hu
      · show ((O3).length + 1) * 8 ≤ 140737488355328; omega
      · show (O3).length + 1 ≤ 9223372036854775807; omega
      (repeat (first | refine el_pure rfl rfl rfl rfl ?_ | refine el_skip rfl rfl rfl ?_))
      have e9 : (O3 ++ k1 true 7).length = (O3).length + 1 := by rw [k1_true, List.length_append]; rfl
      refine el_nil (eq_le (cont r9) (by rw [e9]; exact le_of _ _ rfl) fun w hw => ?_)
      rw [e9, k1_true, ints_snoc]
      exact hw.erase 0
  have hl4 : (O3 ++ k1 (badMask ds ⟨tid, dom, mask, awake, running, core, tag, left, slice⟩) 7).length ≤ 4 := by have := k1_le (badMask ds ⟨tid, dom, mask, awake, running, core, tag, left, slice⟩) 7; rw [List.length_append]; omega
  generalize hO4 : O3 ++ k1 (badMask ds ⟨tid, dom, mask, awake, running, core, tag, left, slice⟩) 7 = O4 at *
  refine eq_seq (ej_seq (ej_seq (ej_region ?_)))
  refine el_contQ [(2, ptr b2), (3, ptr b3), (5, sv r4 (O4).length), (6, int P), (58, .bool (badRound ds ⟨tid, dom, mask, awake, running, core, tag, left, slice⟩))] (S w0 (rowC r4 T_int 1 (ints O4) (O4).length :: cells b3 T_ref21_T (Th.doc ⟨tid, dom, mask, awake, running, core, tag, left, slice⟩) :: cells b2 T_ref21_V (Hd.cells ⟨q, ad, nd, cd, ac, nc, cc, at', nt, ct⟩) :: l)) (fun cont => ?_) ?_
  · have hkd : kn ds ⟨tid, dom, mask, awake, running, core, tag, left, slice⟩ = (domOf ds dom).isSome := hkd
    have hbm : badRound ds ⟨tid, dom, mask, awake, running, core, tag, left, slice⟩ = match domOf ds dom with
      | none => false
      | some d => !decide (roundOk d ⟨tid, dom, mask, awake, running, core, tag, left, slice⟩) := rfl
    have hX := fun (l' : List HP) (d : Dm) (hd : domOf ds dom = some d) (h : l'[i + 3]? = some p) => hrd l' d hd h
    cases hd : domOf ds dom with
    | none =>
      rw [hd] at hkd hbm
      rw [hkd] at hkn
      refine el_cons rfl (eo_ldW 2 rfl rfl rfl rfl rfl rfl rfl rfl ?_)
      refine el_cons rfl (eo_ldW 1 rfl rfl rfl rfl rfl rfl rfl rfl ?_)
      refine el_cons rfl (eo_call1 rfl rfl rfl rfl rfl real_ref21_known (hkn _) ?_)
      (repeat (first | refine el_pure rfl rfl rfl rfl ?_ | refine el_skip rfl rfl rfl ?_))
      refine el_nil (eq_le cont (le_cons rfl (le_cons rfl (le_cons rfl (le_cons rfl (le_cons ?_ (le_nil _)))))) fun w hw => hw)
      show some _ = some _
      rw [hbm]
    | some d =>
      rw [hd] at hkd hbm
      rw [hkd] at hkn
      refine el_cons rfl (eo_ldW 2 rfl rfl rfl rfl rfl rfl rfl rfl ?_)
      refine el_cons rfl (eo_ldW 1 rfl rfl rfl rfl rfl rfl rfl rfl ?_)
      refine el_cons rfl (eo_call1 rfl rfl rfl rfl rfl real_ref21_known (hkn _) ?_)
      (repeat (first | refine el_pure rfl rfl rfl rfl ?_ | refine el_skip rfl rfl rfl ?_))
      refine el_cons rfl (eo_ldW 2 rfl rfl rfl rfl rfl rfl rfl rfl ?_)
      refine el_cons rfl (eo_ldW 1 rfl rfl rfl rfl rfl rfl rfl rfl ?_)
      refine el_cons rfl (eo_call1 rfl rfl rfl rfl rfl real_ref21_round (hX _ d hd hi) ?_)
      (repeat (first | refine el_pure rfl rfl rfl rfl ?_ | refine el_skip rfl rfl rfl ?_))
      refine el_nil (eq_le cont (le_cons rfl (le_cons rfl (le_cons rfl (le_cons rfl (le_cons ?_ (le_nil _)))))) fun w hw => hw)
      show some _ = some _
      rw [hbm]
  refine eq_seq ?_
  refine ej_cont (α := Option (Nat × Nat)) (fun r9 => [(2, ptr b2), (3, ptr b3), (5, sv r9 (O4 ++ k1 (badRound ds ⟨tid, dom, mask, awake, running, core, tag, left, slice⟩) 8).length), (6, int P)]) (fun r9 => S w0 (rowC r9 T_int 1 (ints (O4 ++ k1 (badRound ds ⟨tid, dom, mask, awake, running, core, tag, left, slice⟩) 8)) ((O4 ++ k1 (badRound ds ⟨tid, dom, mask, awake, running, core, tag, left, slice⟩) 8)).length :: cells b3 T_ref21_T (Th.doc ⟨tid, dom, mask, awake, running, core, tag, left, slice⟩) :: cells b2 T_ref21_V (Hd.cells ⟨q, ad, nd, cd, ac, nc, cc, at', nt, ct⟩) :: l)) (fun cont => ?_) (fun r5 => ?_)
  · generalize (badRound ds ⟨tid, dom, mask, awake, running, core, tag, left, slice⟩) = u at *
    cases u with
    | false => exact ej_false rfl (ej_skip (eq_le (cont r4) (by rw [k1_false]; exact le_of _ _ rfl) fun w hw => by rw [k1_false]; exact hw))
    | true =>
      refine ej_true rfl (ej_region ?_)
      (repeat (first | refine el_pure rfl rfl rfl rfl ?_ | refine el_skip rfl rfl rfl ?_))
      refine el_cons rfl (eo_buildS (cs := [int 8]) rfl rfl rfl rfl rfl rfl rfl rfl rfl rfl fun b9 => ?_)
      refine el_cons rfl (eo_append 1 (r := r4) (xs := ints (O4)) (n' := (O4).length) [int 8] rfl rfl rfl rfl rfl rfl rfl rfl rfl rfl rfl (fun w hw j u hu => ?_) rfl (by decide) ?_ ?_ fun r9 => ?_)
      · rw [addr_add, Nat.zero_add]; exact hw.cell (i := 0) rfl hu
      · show ((O4).length + 1) * 8 ≤ 140737488355328; omega
      · show (O4).length + 1 ≤ 9223372036854775807; omega
      (repeat (first | refine el_pure rfl rfl rfl rfl ?_ | refine el_skip rfl rfl rfl ?_))
      have e9 : (O4 ++ k1 true 8).length = (O4).length + 1 := by rw [k1_true, List.length_append]; rfl
      refine el_nil (eq_le (cont r9) (by rw [e9]; exact le_of _ _ rfl) fun w hw => ?_)
      rw [e9, k1_true, ints_snoc]
      exact hw.erase 0
  have hl5 : (O4 ++ k1 (badRound ds ⟨tid, dom, mask, awake, running, core, tag, left, slice⟩) 8).length ≤ 5 := by have := k1_le (badRound ds ⟨tid, dom, mask, awake, running, core, tag, left, slice⟩) 8; rw [List.length_append]; omega
  generalize hO5 : O4 ++ k1 (badRound ds ⟨tid, dom, mask, awake, running, core, tag, left, slice⟩) 8 = O5 at *
  refine eq_seq (ej_seq (ej_seq (ej_region ?_)))
  refine el_contQ [(2, ptr b2), (3, ptr b3), (5, sv r5 (O5).length), (6, int P), (71, .bool (badSlice q ⟨tid, dom, mask, awake, running, core, tag, left, slice⟩))] (S w0 (rowC r5 T_int 1 (ints O5) (O5).length :: cells b3 T_ref21_T (Th.doc ⟨tid, dom, mask, awake, running, core, tag, left, slice⟩) :: cells b2 T_ref21_V (Hd.cells ⟨q, ad, nd, cd, ac, nc, cc, at', nt, ct⟩) :: l)) (fun cont => ?_) ?_
  · have hbs : badSlice q ⟨tid, dom, mask, awake, running, core, tag, left, slice⟩ = (decide (slice < 1) || decide (q < slice)) := hbs
    (repeat (first | refine el_pure rfl rfl rfl rfl ?_ | refine el_skip rfl rfl rfl ?_))
    refine el_cons rfl (eo_ld 1 rfl rfl rfl rfl rfl rfl rfl rfl ?_)
    (repeat (first | refine el_pure rfl rfl rfl rfl ?_ | refine el_skip rfl rfl rfl ?_))
    by_cases h1 : slice < 1
    · refine el_val 65 (u := .bool true) rfl (by rw [decide_eq_true h1]) ?_
      rw [decide_eq_true h1, Bool.true_or] at hbs
      (repeat (first | refine el_pure rfl rfl rfl rfl ?_ | refine el_skip rfl rfl rfl ?_))
      refine el_nil (eq_le cont (le_cons rfl (le_cons rfl (le_cons rfl (le_cons rfl (le_cons ?_ (le_nil _)))))) fun w hw => hw)
      show some _ = some _
      rw [hbs]
    · refine el_val 65 (u := .bool false) rfl (by rw [decide_eq_false h1]) ?_
      rw [decide_eq_false h1, Bool.false_or] at hbs
      (repeat (first | refine el_pure rfl rfl rfl rfl ?_ | refine el_skip rfl rfl rfl ?_))
      refine el_cons rfl (eo_ld 1 rfl rfl rfl rfl rfl rfl rfl rfl ?_)
      (repeat (first | refine el_pure rfl rfl rfl rfl ?_ | refine el_skip rfl rfl rfl ?_))
      refine el_cons rfl (eo_ld 2 rfl rfl rfl rfl rfl rfl rfl rfl ?_)
      (repeat (first | refine el_pure rfl rfl rfl rfl ?_ | refine el_skip rfl rfl rfl ?_))
      refine el_nil (eq_le cont (le_cons rfl (le_cons rfl (le_cons rfl (le_cons rfl (le_cons ?_ (le_nil _)))))) fun w hw => hw)
      show some _ = some _
      rw [hbs]
  refine eq_seq ?_
  refine ej_cont (α := Option (Nat × Nat)) (fun r9 => [(2, ptr b2), (3, ptr b3), (5, sv r9 (O5 ++ k1 (badSlice q ⟨tid, dom, mask, awake, running, core, tag, left, slice⟩) 9).length), (6, int P)]) (fun r9 => S w0 (rowC r9 T_int 1 (ints (O5 ++ k1 (badSlice q ⟨tid, dom, mask, awake, running, core, tag, left, slice⟩) 9)) ((O5 ++ k1 (badSlice q ⟨tid, dom, mask, awake, running, core, tag, left, slice⟩) 9)).length :: cells b3 T_ref21_T (Th.doc ⟨tid, dom, mask, awake, running, core, tag, left, slice⟩) :: cells b2 T_ref21_V (Hd.cells ⟨q, ad, nd, cd, ac, nc, cc, at', nt, ct⟩) :: l)) (fun cont => ?_) (fun r6 => ?_)
  · generalize (badSlice q ⟨tid, dom, mask, awake, running, core, tag, left, slice⟩) = u at *
    cases u with
    | false => exact ej_false rfl (ej_skip (eq_le (cont r5) (by rw [k1_false]; exact le_of _ _ rfl) fun w hw => by rw [k1_false]; exact hw))
    | true =>
      refine ej_true rfl (ej_region ?_)
      (repeat (first | refine el_pure rfl rfl rfl rfl ?_ | refine el_skip rfl rfl rfl ?_))
      refine el_cons rfl (eo_buildS (cs := [int 9]) rfl rfl rfl rfl rfl rfl rfl rfl rfl rfl fun b9 => ?_)
      refine el_cons rfl (eo_append 1 (r := r5) (xs := ints (O5)) (n' := (O5).length) [int 9] rfl rfl rfl rfl rfl rfl rfl rfl rfl rfl rfl (fun w hw j u hu => ?_) rfl (by decide) ?_ ?_ fun r9 => ?_)
      · rw [addr_add, Nat.zero_add]; exact hw.cell (i := 0) rfl hu
      · show ((O5).length + 1) * 8 ≤ 140737488355328; omega
      · show (O5).length + 1 ≤ 9223372036854775807; omega
      (repeat (first | refine el_pure rfl rfl rfl rfl ?_ | refine el_skip rfl rfl rfl ?_))
      have e9 : (O5 ++ k1 true 9).length = (O5).length + 1 := by rw [k1_true, List.length_append]; rfl
      refine el_nil (eq_le (cont r9) (by rw [e9]; exact le_of _ _ rfl) fun w hw => ?_)
      rw [e9, k1_true, ints_snoc]
      exact hw.erase 0
  have hl6 : (O5 ++ k1 (badSlice q ⟨tid, dom, mask, awake, running, core, tag, left, slice⟩) 9).length ≤ 6 := by have := k1_le (badSlice q ⟨tid, dom, mask, awake, running, core, tag, left, slice⟩) 9; rw [List.length_append]; omega
  generalize hO6 : O5 ++ k1 (badSlice q ⟨tid, dom, mask, awake, running, core, tag, left, slice⟩) 9 = O6 at *
  have hfin : k1 (decide (P = 0)) 3 ++ k1 (decide (P = 1) && !pb) 6 ++ k1 (!decide (P = 1) && !kn ds ⟨tid, dom, mask, awake, running, core, tag, left, slice⟩) 6 ++ k1 (badMask ds ⟨tid, dom, mask, awake, running, core, tag, left, slice⟩) 7 ++ k1 (badRound ds ⟨tid, dom, mask, awake, running, core, tag, left, slice⟩) 8 ++ k1 (badSlice q ⟨tid, dom, mask, awake, running, core, tag, left, slice⟩) 9 = O6 := by
    rw [← hO6, ← hO5, ← hO4, ← hO3, ← hO2, ← hO1, ← hO0, List.nil_append]
  (repeat (first | refine el_pure rfl rfl rfl rfl ?_ | refine ej_seq ?_ | refine ej_region ?_ | refine el_nil ?_ | refine eq_seq ?_ | refine eq_calm ?_ | refine ej_true rfl ?_ | refine ej_false rfl ?_ | refine el_skip rfl rfl rfl ?_ | refine ej_ret ?_ | refine ej_skip ?_ | refine ej_exit ?_ | refine ej_block ?_ | refine eq_seq_ret ?_ | refine eq_seq_exit ?_ | refine eq_block ?_ | refine eq_block_exit ?_ | refine eq_block_ret ?_ | refine eq_block_exit_ne rfl ?_ | refine eq_back_ret ?_ | refine eq_back_exit ?_))
  refine eq_rett rfl fun w hw => ⟨r6, ?_, trivial, ?_⟩
  · rw [← hfin]; rfl
  · rw [hfin]; exact (hw.erase 1).erase 1

end Go.Proofs.Ytkpbpjnabbfdiaa
