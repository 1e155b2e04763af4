/- The document's audit: low domains; lanes' order. -/
import Derived.Test.YtkpbpjnabbfdiaaBe
namespace Go.Proofs.Ytkpbpjnabbfdiaa
open Go Go.SE

variable {w0 w : World} {l : List HP} {i : Nat} {r : Option (Nat × Nat)} {p : HP}

set_option maxHeartbeats 3200000 in
theorem low_ref {v : Hd} {ds : List Dm} {cs : List Cr} {ts : List Th} (k : Nat) (d : Dm) (hd : ds[k]? = some d) (hi : l[i]? = some p) (hv : DoV w0 p v ds cs ts) :
    Does cx F_ref21_low [v.val, int k] (S w0 l) fun u w => u = .bool (someIn (ts.filter (·.awake)) k && !firstIn (ts.filter (·.awake)) k d.low) ∧ S w0 l w := by
  refine fn_enter (n := N_ref21_low) fn_ref21_low rfl rfl rfl ?_
  refine ej_seq (ej_region (el_cons rfl (eo_box rfl rfl rfl rfl fun b2 => ?_)))
  obtain ⟨q, ad, nd, cd, ac, nc, cc, at', nt, ct⟩ := v
  obtain rfl : nd = ds.length := hv.nd
  obtain rfl : nt = ts.length := hv.nt
  have hV := hv.lies.t
  have hVd := hv.lies.d
  have hfew := hv.few
  have hkl := (List.getElem?_eq_some_iff.1 hd).1
  have hgd : ∀ j, j < 3 → (rows Dm.cells ds)[k * 3 + j]? = d.cells[j]? := fun j hj => rows_get Dm.cells 3 dm3 ds k j d hd hj
  obtain ⟨dc, don, low⟩ := d
  (repeat (first | refine el_pure rfl rfl rfl rfl ?_ | refine ej_seq ?_ | refine ej_region ?_ | refine el_nil ?_ | refine eq_seq ?_ | refine eq_calm ?_ | refine ej_true rfl ?_ | refine ej_false rfl ?_ | refine el_skip rfl rfl rfl ?_ | refine ej_ret ?_ | refine ej_skip ?_ | refine ej_exit ?_ | refine ej_block ?_ | refine eq_seq_ret ?_ | refine eq_seq_exit ?_ | refine eq_block ?_ | refine eq_block_exit ?_ | refine eq_block_ret ?_ | refine eq_block_exit_ne rfl ?_ | refine eq_back_ret ?_ | refine eq_back_exit ?_))
  refine el_cons rfl (eo_ld 0 rfl rfl rfl rfl rfl rfl rfl rfl ?_)
  (repeat (first | refine el_pure rfl rfl rfl rfl ?_ | refine ej_seq ?_ | refine ej_region ?_ | refine el_nil ?_ | refine eq_seq ?_ | refine eq_calm ?_ | refine ej_true rfl ?_ | refine ej_false rfl ?_ | refine el_skip rfl rfl rfl ?_ | refine ej_ret ?_ | refine ej_skip ?_ | refine ej_exit ?_ | refine ej_block ?_ | refine eq_seq_ret ?_ | refine eq_seq_exit ?_ | refine eq_block ?_ | refine eq_block_exit ?_ | refine eq_block_ret ?_ | refine eq_block_exit_ne rfl ?_ | refine eq_back_ret ?_ | refine eq_back_exit ?_ | refine el_cons rfl (eo_lenv rfl rfl rfl rfl rfl rfl ?_) | refine el_cons rfl (eo_arith rfl rfl rfl rfl rfl rfl ⟨by omega, by omega⟩ ?_)))
  refine ej_loopP (fun j : Nat => j ≤ ts.length ∧ firstIn ((ts.take j).filter (·.awake)) k low = false) (fun j => [(1, int k), (2, ptr b2), (5, .bool (someIn ((ts.take j).filter (·.awake)) k)), (10, int ts.length), (11, int j)]) (fun _ => S w0 (cells b2 T_ref21_V (Hd.cells ⟨q, ad, ds.length, cd, ac, nc, cc, at', ts.length, ct⟩) :: l)) (fun j => ts.length - j) 0 ⟨Nat.zero_le _, by simp [firstIn]⟩ (le_of _ _ rfl) (fun w hw => hw) ?_
  rintro j ⟨hj, hno⟩
  (repeat (first | refine el_pure rfl rfl rfl rfl ?_ | refine ej_seq ?_ | refine ej_region ?_ | refine el_nil ?_ | refine eq_seq ?_ | refine eq_calm ?_ | refine ej_true rfl ?_ | refine ej_false rfl ?_ | refine el_skip rfl rfl rfl ?_ | refine ej_ret ?_ | refine ej_skip ?_ | refine ej_exit ?_ | refine ej_block ?_ | refine eq_seq_ret ?_ | refine eq_seq_exit ?_ | refine eq_block ?_ | refine eq_block_exit ?_ | refine eq_block_ret ?_ | refine eq_block_exit_ne rfl ?_ | refine eq_back_ret ?_ | refine eq_back_exit ?_))
  refine ej_dec rfl (fun hlt => ?_) (fun hlt => ?_)
  · have hlt' : j < ts.length := by omega
    have hx' : ts[j]? = some ts[j] := by simp [hlt']
    have htk : ts.take (j + 1) = ts.take j ++ [ts[j]] := List.take_succ_eq_append_getElem hlt'
    generalize ts[j] = t at *
    have hg : ∀ z, z < 9 → (rows Th.doc ts)[j * 9 + z]? = t.doc[z]? := fun z hz => rows_get Th.doc 9 th9 ts j z t hx' hz
    obtain ⟨tid, dom, mask, awake, running, core, tag, left, slice⟩ := t
    have hmem : ⟨tid, dom, mask, awake, running, core, tag, left, slice⟩ ∈ ts := List.mem_of_getElem? hx'
    (repeat (first | refine el_pure rfl rfl rfl rfl ?_ | refine ej_seq ?_ | refine ej_region ?_ | refine el_nil ?_ | refine eq_seq ?_ | refine eq_calm ?_ | refine ej_true rfl ?_ | refine ej_false rfl ?_ | refine el_skip rfl rfl rfl ?_ | refine ej_ret ?_ | refine ej_skip ?_ | refine ej_exit ?_ | refine ej_block ?_ | refine eq_seq_ret ?_ | refine eq_seq_exit ?_ | refine eq_block ?_ | refine eq_block_exit ?_ | refine eq_block_ret ?_ | refine eq_block_exit_ne rfl ?_ | refine eq_back_ret ?_ | refine eq_back_exit ?_))
    refine el_cons rfl (eo_ld 0 rfl rfl rfl rfl rfl rfl rfl rfl ?_)
    (repeat (first | refine el_pure rfl rfl rfl rfl ?_ | refine ej_seq ?_ | refine ej_region ?_ | refine el_nil ?_ | refine eq_seq ?_ | refine eq_calm ?_ | refine ej_true rfl ?_ | refine ej_false rfl ?_ | refine el_skip rfl rfl rfl ?_ | refine ej_ret ?_ | refine ej_skip ?_ | refine ej_exit ?_ | refine ej_block ?_ | refine eq_seq_ret ?_ | refine eq_seq_exit ?_ | refine eq_block ?_ | refine eq_block_exit ?_ | refine eq_block_ret ?_ | refine eq_block_exit_ne rfl ?_ | refine eq_back_ret ?_ | refine eq_back_exit ?_))
    refine el_cons rfl (eo_idxv rfl rfl rfl rfl rfl rfl rfl rfl rfl (hV.one (i := i + 1) hi) ⟨by omega, hlt⟩ ?_)
    refine el_cons rfl (eo_ldvA (j * 9) (cs := Th.doc ⟨tid, dom, mask, awake, running, core, tag, left, slice⟩) rfl rfl rfl (vaddr0 at' j 9) rfl rfl (hV.one (i := i + 1) hi) rfl hg ?_)
    refine el_cons rfl (eo_alloc rfl rfl rfl rfl fun b7 => ?_)
    refine el_cons rfl (eo_stA 0 rfl rfl rfl rfl rfl rfl rfl rfl rfl ?_)
    (repeat (first | refine el_pure rfl rfl rfl rfl ?_ | refine ej_seq ?_ | refine ej_region ?_ | refine el_nil ?_ | refine eq_seq ?_ | refine eq_calm ?_ | refine ej_true rfl ?_ | refine ej_false rfl ?_ | refine el_skip rfl rfl rfl ?_ | refine ej_ret ?_ | refine ej_skip ?_ | refine ej_exit ?_ | refine ej_block ?_ | refine eq_seq_ret ?_ | refine eq_seq_exit ?_ | refine eq_block ?_ | refine eq_block_exit ?_ | refine eq_block_ret ?_ | refine eq_block_exit_ne rfl ?_ | refine eq_back_ret ?_ | refine eq_back_exit ?_))
    refine el_cons rfl (eo_ld 0 rfl rfl rfl rfl rfl rfl rfl rfl ?_)
    cases awake with
    | false =>
      have hfl : (ts.take (j + 1)).filter (·.awake) = (ts.take j).filter (·.awake) := by rw [htk, List.filter_append]; simp
      (repeat (first | refine el_pure rfl rfl rfl rfl ?_ | refine ej_seq ?_ | refine ej_region ?_ | refine el_nil ?_ | refine eq_seq ?_ | refine eq_calm ?_ | refine ej_true rfl ?_ | refine ej_false rfl ?_ | refine el_skip rfl rfl rfl ?_ | refine ej_ret ?_ | refine ej_skip ?_ | refine ej_exit ?_ | refine ej_block ?_ | refine eq_seq_ret ?_ | refine eq_seq_exit ?_ | refine eq_block ?_ | refine eq_block_exit ?_ | refine eq_block_ret ?_ | refine eq_block_exit_ne rfl ?_ | refine eq_back_ret ?_ | refine eq_back_exit ?_ | refine el_cons rfl (eo_lenv rfl rfl rfl rfl rfl rfl ?_) | refine el_cons rfl (eo_arith rfl rfl rfl rfl rfl rfl ⟨by omega, by omega⟩ ?_)))
      refine eq_backP (j + 1) ⟨by omega, by rw [hfl]; exact hno⟩ (by omega) ?_ ?_
      · rw [hfl]; exact le_of _ _ rfl
      · intro w hw; exact hw.erase 0
    | true =>
      have hfl : (ts.take (j + 1)).filter (·.awake) = (ts.take j).filter (·.awake) ++ [⟨tid, dom, mask, true, running, core, tag, left, slice⟩] := by rw [htk, List.filter_append]; rfl
      have hs1 : someIn ((ts.take (j + 1)).filter (·.awake)) k = (someIn ((ts.take j).filter (·.awake)) k || decide (dom = k)) := by rw [hfl]; simp [someIn]
      have hs2 : firstIn ((ts.take (j + 1)).filter (·.awake)) k low = (firstIn ((ts.take j).filter (·.awake)) k low || (decide (dom = k) && decide (tag = low))) := by rw [hfl]; simp [firstIn]
      generalize hz : someIn ((ts.take j).filter (·.awake)) k = sm at *
      (repeat (first | refine el_pure rfl rfl rfl rfl ?_ | refine ej_seq ?_ | refine ej_region ?_ | refine el_nil ?_ | refine eq_seq ?_ | refine eq_calm ?_ | refine ej_true rfl ?_ | refine ej_false rfl ?_ | refine el_skip rfl rfl rfl ?_ | refine ej_ret ?_ | refine ej_skip ?_ | refine ej_exit ?_ | refine ej_block ?_ | refine eq_seq_ret ?_ | refine eq_seq_exit ?_ | refine eq_block ?_ | refine eq_block_exit ?_ | refine eq_block_ret ?_ | refine eq_block_exit_ne rfl ?_ | refine eq_back_ret ?_ | refine eq_back_exit ?_))
      refine el_cons rfl (eo_ld 0 rfl rfl rfl rfl rfl rfl rfl rfl ?_)
      (repeat (first | refine el_pure rfl rfl rfl rfl ?_ | refine ej_seq ?_ | refine ej_region ?_ | refine el_nil ?_ | refine eq_seq ?_ | refine eq_calm ?_ | refine ej_true rfl ?_ | refine ej_false rfl ?_ | refine el_skip rfl rfl rfl ?_ | refine ej_ret ?_ | refine ej_skip ?_ | refine ej_exit ?_ | refine ej_block ?_ | refine eq_seq_ret ?_ | refine eq_seq_exit ?_ | refine eq_block ?_ | refine eq_block_exit ?_ | refine eq_block_ret ?_ | refine eq_block_exit_ne rfl ?_ | refine eq_back_ret ?_ | refine eq_back_exit ?_))
      refine ej_dec rfl (fun h1 => ?_) (fun h1 => ?_)
      · have h1 : dom = k := h1
        (repeat (first | refine el_pure rfl rfl rfl rfl ?_ | refine ej_seq ?_ | refine ej_region ?_ | refine el_nil ?_ | refine eq_seq ?_ | refine eq_calm ?_ | refine ej_true rfl ?_ | refine ej_false rfl ?_ | refine el_skip rfl rfl rfl ?_ | refine ej_ret ?_ | refine ej_skip ?_ | refine ej_exit ?_ | refine ej_block ?_ | refine eq_seq_ret ?_ | refine eq_seq_exit ?_ | refine eq_block ?_ | refine eq_block_exit ?_ | refine eq_block_ret ?_ | refine eq_block_exit_ne rfl ?_ | refine eq_back_ret ?_ | refine eq_back_exit ?_))
        refine ej_know ((hVd.one (i := i + 2) hi).know) fun hkd => ?_
        have haddr := hkd.2 (by rw [rows_length _ 3 dm3]; omega)
        refine ej_held [cells b7 T_ref21_T (Th.doc ⟨tid, dom, mask, true, running, core, tag, left, slice⟩), cells b2 T_ref21_V (Hd.cells ⟨q, ad, ds.length, cd, ac, nc, cc, at', ts.length, ct⟩), p] ?_
        refine eh_take 0 (held (.cons 0 rfl (.cons 1 rfl (.cons (i + 2) hi .nil)))) rfl (by kernel_rfl) (by kernel_rfl) (by kernel_rfl) rfl rfl rfl rfl ?_
        refine eh_load 1 (held (.cons 0 rfl (.cons 1 rfl (.cons (i + 2) hi .nil)))) rfl (by kernel_rfl) (by kernel_rfl) (by kernel_rfl) rfl rfl rfl (er_ld 0 rfl rfl rfl rfl rfl rfl) ?_
        refine eh_take 2 (held (.cons 0 rfl (.cons 1 rfl (.cons (i + 2) hi .nil)))) rfl (by kernel_rfl) (by kernel_rfl) (by kernel_rfl) rfl rfl rfl rfl ?_
        refine eh_load 3 (held (.cons 0 rfl (.cons 1 rfl (.cons (i + 2) hi .nil)))) rfl (by kernel_rfl) (by kernel_rfl) (by kernel_rfl) rfl rfl rfl (er_ld 1 rfl rfl rfl rfl rfl rfl) ?_
        refine eh_take 4 (held (.cons 0 rfl (.cons 1 rfl (.cons (i + 2) hi .nil)))) rfl (by kernel_rfl) (by kernel_rfl) (by kernel_rfl) rfl rfl rfl rfl ?_
        refine eh_load 5 (held (.cons 0 rfl (.cons 1 rfl (.cons (i + 2) hi .nil)))) rfl (by kernel_rfl) (by kernel_rfl) (by kernel_rfl) rfl rfl rfl (er_idxv rfl rfl rfl rfl rfl rfl haddr ⟨by omega, by show (k : Int) < (ds.length : Nat); omega⟩) ?_
        refine eh_take 6 (held (.cons 0 rfl (.cons 1 rfl (.cons (i + 2) hi .nil)))) rfl (by kernel_rfl) (by kernel_rfl) (by kernel_rfl) rfl rfl rfl rfl ?_
        refine eh_load 7 (held (.cons 0 rfl (.cons 1 rfl (.cons (i + 2) hi .nil)))) rfl (by kernel_rfl) (by kernel_rfl) (by kernel_rfl) rfl rfl rfl (er_ldv 2 (q := k * 3 + 2) (v := int low) rfl (vaddr ad k 2 3) rfl rfl rfl hVd (hgd 2 (by decide))) ?_
        refine eh_take 8 (held (.cons 0 rfl (.cons 1 rfl (.cons (i + 2) hi .nil)))) rfl (by kernel_rfl) (by kernel_rfl) (by kernel_rfl) rfl rfl rfl rfl ?_
        refine eh_done (by kernel_rfl) ?_
        (repeat (first | refine el_pure rfl rfl rfl rfl ?_ | refine ej_seq ?_ | refine ej_region ?_ | refine el_nil ?_ | refine eq_seq ?_ | refine eq_calm ?_ | refine ej_true rfl ?_ | refine ej_false rfl ?_ | refine el_skip rfl rfl rfl ?_ | refine ej_ret ?_ | refine ej_skip ?_ | refine ej_exit ?_ | refine ej_block ?_ | refine eq_seq_ret ?_ | refine eq_seq_exit ?_ | refine eq_block ?_ | refine eq_block_exit ?_ | refine eq_block_ret ?_ | refine eq_block_exit_ne rfl ?_ | refine eq_back_ret ?_ | refine eq_back_exit ?_))
        refine ej_dec rfl (fun h2 => ?_) (fun h2 => ?_)
        · have h2 : tag = low := h2
          (repeat (first | refine el_pure rfl rfl rfl rfl ?_ | refine ej_seq ?_ | refine ej_region ?_ | refine el_nil ?_ | refine eq_seq ?_ | refine eq_calm ?_ | refine ej_true rfl ?_ | refine ej_false rfl ?_ | refine el_skip rfl rfl rfl ?_ | refine ej_ret ?_ | refine ej_skip ?_ | refine ej_exit ?_ | refine ej_block ?_ | refine eq_seq_ret ?_ | refine eq_seq_exit ?_ | refine eq_block ?_ | refine eq_block_exit ?_ | refine eq_block_ret ?_ | refine eq_block_exit_ne rfl ?_ | refine eq_back_ret ?_ | refine eq_back_exit ?_))
          refine eq_rett rfl fun w hw => ⟨?_, hw.drop 2⟩
          have : firstIn (ts.filter (·.awake)) k low = true := List.any_eq_true.2 ⟨_, List.mem_filter.2 ⟨hmem, rfl⟩, by simp [h1, h2]⟩
          rw [this]; simp [pack]
        · have h2 : ¬ tag = low := h2
          (repeat (first | refine el_pure rfl rfl rfl rfl ?_ | refine ej_seq ?_ | refine ej_region ?_ | refine el_nil ?_ | refine eq_seq ?_ | refine eq_calm ?_ | refine ej_true rfl ?_ | refine ej_false rfl ?_ | refine el_skip rfl rfl rfl ?_ | refine ej_ret ?_ | refine ej_skip ?_ | refine ej_exit ?_ | refine ej_block ?_ | refine eq_seq_ret ?_ | refine eq_seq_exit ?_ | refine eq_block ?_ | refine eq_block_exit ?_ | refine eq_block_ret ?_ | refine eq_block_exit_ne rfl ?_ | refine eq_back_ret ?_ | refine eq_back_exit ?_ | refine el_cons rfl (eo_lenv rfl rfl rfl rfl rfl rfl ?_) | refine el_cons rfl (eo_arith rfl rfl rfl rfl rfl rfl ⟨by omega, by omega⟩ ?_)))
          refine eq_backP (j + 1) ⟨by omega, by rw [hs2, hno]; simp [h2]⟩ (by omega) ?_ ?_
          · rw [hs1]; simp only [h1, decide_true, Bool.or_true]; exact le_of _ _ rfl
          · intro w hw; exact hw.erase 0
      · have h1 : ¬ dom = k := h1
        (repeat (first | refine el_pure rfl rfl rfl rfl ?_ | refine ej_seq ?_ | refine ej_region ?_ | refine el_nil ?_ | refine eq_seq ?_ | refine eq_calm ?_ | refine ej_true rfl ?_ | refine ej_false rfl ?_ | refine el_skip rfl rfl rfl ?_ | refine ej_ret ?_ | refine ej_skip ?_ | refine ej_exit ?_ | refine ej_block ?_ | refine eq_seq_ret ?_ | refine eq_seq_exit ?_ | refine eq_block ?_ | refine eq_block_exit ?_ | refine eq_block_ret ?_ | refine eq_block_exit_ne rfl ?_ | refine eq_back_ret ?_ | refine eq_back_exit ?_ | refine el_cons rfl (eo_lenv rfl rfl rfl rfl rfl rfl ?_) | refine el_cons rfl (eo_arith rfl rfl rfl rfl rfl rfl ⟨by omega, by omega⟩ ?_)))
        refine eq_backP (j + 1) ⟨by omega, by rw [hs2, hno]; simp [h1]⟩ (by omega) ?_ ?_
        · rw [hs1]; simp only [h1, decide_false, Bool.or_false]; exact le_of _ _ rfl
        · intro w hw; exact hw.erase 0
  · obtain rfl : j = ts.length := by omega
    rw [List.take_length] at hno ⊢
    (repeat (first | refine el_pure rfl rfl rfl rfl ?_ | refine ej_seq ?_ | refine ej_region ?_ | refine el_nil ?_ | refine eq_seq ?_ | refine eq_calm ?_ | refine ej_true rfl ?_ | refine ej_false rfl ?_ | refine el_skip rfl rfl rfl ?_ | refine ej_ret ?_ | refine ej_skip ?_ | refine ej_exit ?_ | refine ej_block ?_ | refine eq_seq_ret ?_ | refine eq_seq_exit ?_ | refine eq_block ?_ | refine eq_block_exit ?_ | refine eq_block_ret ?_ | refine eq_block_exit_ne rfl ?_ | refine eq_back_ret ?_ | refine eq_back_exit ?_))
    refine eq_rett rfl fun w hw => ⟨?_, hw.erase 0⟩
    rw [hno]; simp [pack]

def pairBad (ts : List Th) (x y : Int) : Bool := (tagOf ts x).2 && (tagOf ts y).2 && decide ((tagOf ts y).1 < (tagOf ts x).1)
def orderTo (ts : List Th) (lane : List Int) (y : Int) (j : Nat) : Bool := (List.range j).any fun z => pairBad ts (lane.getD z 0) y
def orderB (ts : List Th) (lane : List Int) (m : Nat) : Bool := (List.range m).any fun z => orderTo ts lane (lane.getD z 0) z
theorem orderTo_succ (ts : List Th) (lane : List Int) (y : Int) (j : Nat) : orderTo ts lane y (j + 1) = (orderTo ts lane y j || pairBad ts (lane.getD j 0) y) := by simp [orderTo, List.range_succ]
theorem orderB_succ (ts : List Th) (lane : List Int) (m : Nat) : orderB ts lane (m + 1) = (orderB ts lane m || orderTo ts lane (lane.getD m 0) m) := by simp [orderB, List.range_succ]
theorem any_range {f : Nat → Bool} {m j : Nat} (hj : j < m) (hf : f j = true) : (List.range m).any f = true := List.any_eq_true.2 ⟨j, List.mem_range.2 hj, hf⟩
set_option maxHeartbeats 3200000 in
theorem order_ref {v : Hd} {ds : List Dm} {cs : List Cr} {ts : List Th} (c : Cr) (hll : c.lane.length ≤ 1000) (hlane : View w0 [p] 1 c.a (ints c.lane) c.lane.length c.cap) (hi : l[i]? = some p) (hv : DoV w0 p v ds cs ts) :
    Does cx F_ref21_order [v.val, .agg c.cells.toArray] (S w0 l) fun u w => u = .bool (orderB ts c.lane c.lane.length) ∧ S w0 l w := by
  refine fn_enter (n := N_ref21_order) fn_ref21_order rfl rfl rfl ?_
  refine ej_seq (ej_region (el_cons rfl (eo_box rfl rfl rfl rfl fun b2 => el_cons rfl (eo_box rfl rfl rfl rfl fun b3 => ?_))))
  obtain ⟨q, ad, nd, cd, ac, nc, cc, at', nt, ct⟩ := v
  obtain ⟨num, cur, lane, la, lcap⟩ := c
  have hlane : View w0 [p] 1 la (ints lane) lane.length lcap := hlane
  have hll : lane.length ≤ 1000 := hll
  (repeat (first | refine el_pure rfl rfl rfl rfl ?_ | refine ej_seq ?_ | refine ej_region ?_ | refine el_nil ?_ | refine eq_seq ?_ | refine eq_calm ?_ | refine ej_true rfl ?_ | refine ej_false rfl ?_ | refine el_skip rfl rfl rfl ?_ | refine ej_ret ?_ | refine ej_skip ?_ | refine ej_exit ?_ | refine ej_block ?_ | refine eq_seq_ret ?_ | refine eq_seq_exit ?_ | refine eq_block ?_ | refine eq_block_exit ?_ | refine eq_block_ret ?_ | refine eq_block_exit_ne rfl ?_ | refine eq_back_ret ?_ | refine eq_back_exit ?_))
  refine el_cons rfl (eo_ld 0 rfl rfl rfl rfl rfl rfl rfl rfl ?_)
  (repeat (first | refine el_pure rfl rfl rfl rfl ?_ | refine ej_seq ?_ | refine ej_region ?_ | refine el_nil ?_ | refine eq_seq ?_ | refine eq_calm ?_ | refine ej_true rfl ?_ | refine ej_false rfl ?_ | refine el_skip rfl rfl rfl ?_ | refine ej_ret ?_ | refine ej_skip ?_ | refine ej_exit ?_ | refine ej_block ?_ | refine eq_seq_ret ?_ | refine eq_seq_exit ?_ | refine eq_block ?_ | refine eq_block_exit ?_ | refine eq_block_ret ?_ | refine eq_block_exit_ne rfl ?_ | refine eq_back_ret ?_ | refine eq_back_exit ?_ | refine el_cons rfl (eo_lenv rfl rfl rfl rfl rfl rfl ?_) | refine el_cons rfl (eo_arith rfl rfl rfl rfl rfl rfl ⟨by omega, by omega⟩ ?_)))
  refine ej_loopP (fun m : Nat => m ≤ lane.length ∧ orderB ts lane m = false) (fun m => [(2, ptr b2), (3, ptr b3), (13, int lane.length), (14, int m)]) (fun _ => S w0 (cells b3 T_ref21_C (Cr.cells ⟨num, cur, lane, la, lcap⟩) :: cells b2 T_ref21_V (Hd.cells ⟨q, ad, nd, cd, ac, nc, cc, at', nt, ct⟩) :: l)) (fun m => lane.length - m) 0 ⟨Nat.zero_le _, rfl⟩ (le_of _ _ rfl) (fun w hw => hw) ?_
  rintro m ⟨hm, hno⟩
  (repeat (first | refine el_pure rfl rfl rfl rfl ?_ | refine ej_seq ?_ | refine ej_region ?_ | refine el_nil ?_ | refine eq_seq ?_ | refine eq_calm ?_ | refine ej_true rfl ?_ | refine ej_false rfl ?_ | refine el_skip rfl rfl rfl ?_ | refine ej_ret ?_ | refine ej_skip ?_ | refine ej_exit ?_ | refine ej_block ?_ | refine eq_seq_ret ?_ | refine eq_seq_exit ?_ | refine eq_block ?_ | refine eq_block_exit ?_ | refine eq_block_ret ?_ | refine eq_block_exit_ne rfl ?_ | refine eq_back_ret ?_ | refine eq_back_exit ?_))
  refine ej_dec rfl (fun hlt => ?_) (fun hlt => ?_)
  · have hlt : (m : Int) < lane.length := hlt
    have hbs := orderB_succ ts lane m
    (repeat (first | refine el_pure rfl rfl rfl rfl ?_ | refine ej_seq ?_ | refine ej_region ?_ | refine el_nil ?_ | refine eq_seq ?_ | refine eq_calm ?_ | refine ej_true rfl ?_ | refine ej_false rfl ?_ | refine el_skip rfl rfl rfl ?_ | refine ej_ret ?_ | refine ej_skip ?_ | refine ej_exit ?_ | refine ej_block ?_ | refine eq_seq_ret ?_ | refine eq_seq_exit ?_ | refine eq_block ?_ | refine eq_block_exit ?_ | refine eq_block_ret ?_ | refine eq_block_exit_ne rfl ?_ | refine eq_back_ret ?_ | refine eq_back_exit ?_))
    refine ej_loopP (fun j : Nat => j ≤ m ∧ orderTo ts lane (lane.getD m 0) j = false) (fun j => [(2, ptr b2), (3, ptr b3), (5, int m), (6, int j), (13, int lane.length), (14, int m)]) (fun _ => S w0 (cells b3 T_ref21_C (Cr.cells ⟨num, cur, lane, la, lcap⟩) :: cells b2 T_ref21_V (Hd.cells ⟨q, ad, nd, cd, ac, nc, cc, at', nt, ct⟩) :: l)) (fun j => m - j) 0 ⟨Nat.zero_le _, rfl⟩ (le_of _ _ rfl) (fun w hw => hw) ?_
    rintro j ⟨hj, hno2⟩
    (repeat (first | refine el_pure rfl rfl rfl rfl ?_ | refine ej_seq ?_ | refine ej_region ?_ | refine el_nil ?_ | refine eq_seq ?_ | refine eq_calm ?_ | refine ej_true rfl ?_ | refine ej_false rfl ?_ | refine el_skip rfl rfl rfl ?_ | refine ej_ret ?_ | refine ej_skip ?_ | refine ej_exit ?_ | refine ej_block ?_ | refine eq_seq_ret ?_ | refine eq_seq_exit ?_ | refine eq_block ?_ | refine eq_block_exit ?_ | refine eq_block_ret ?_ | refine eq_block_exit_ne rfl ?_ | refine eq_back_ret ?_ | refine eq_back_exit ?_))
    refine ej_dec rfl (fun hlt2 => ?_) (fun hlt2 => ?_)
    · have hlt2 : (j : Int) < m := hlt2
      have hts := orderTo_succ ts lane (lane.getD m 0) j
      have hyes : pairBad ts (lane.getD j 0) (lane.getD m 0) = true → orderB ts lane lane.length = true := fun h => any_range (j := m) (by omega) (any_range (j := j) (by omega) h)
      (repeat (first | refine el_pure rfl rfl rfl rfl ?_ | refine ej_seq ?_ | refine ej_region ?_ | refine el_nil ?_ | refine eq_seq ?_ | refine eq_calm ?_ | refine ej_true rfl ?_ | refine ej_false rfl ?_ | refine el_skip rfl rfl rfl ?_ | refine ej_ret ?_ | refine ej_skip ?_ | refine ej_exit ?_ | refine ej_block ?_ | refine eq_seq_ret ?_ | refine eq_seq_exit ?_ | refine eq_block ?_ | refine eq_block_exit ?_ | refine eq_block_ret ?_ | refine eq_block_exit_ne rfl ?_ | refine eq_back_ret ?_ | refine eq_back_exit ?_))
      refine ej_know ((hlane.one (i := i + 2) hi).know) fun hkl => ?_
      have haddr := hkl.2 (by rw [List.length_map]; omega)
      refine ej_held [cells b3 T_ref21_C (Cr.cells ⟨num, cur, lane, la, lcap⟩), cells b2 T_ref21_V (Hd.cells ⟨q, ad, nd, cd, ac, nc, cc, at', nt, ct⟩), p] ?_
      refine eh_load 0 (held (.cons 0 rfl (.cons 1 rfl (.cons (i + 2) hi .nil)))) rfl (by kernel_rfl) (by kernel_rfl) (by kernel_rfl) rfl rfl rfl (er_ldW 1 rfl rfl rfl rfl rfl rfl) ?_
      refine eh_take 1 (held (.cons 0 rfl (.cons 1 rfl (.cons (i + 2) hi .nil)))) rfl (by kernel_rfl) (by kernel_rfl) (by kernel_rfl) rfl rfl rfl rfl ?_
      refine eh_load 2 (held (.cons 0 rfl (.cons 1 rfl (.cons (i + 2) hi .nil)))) rfl (by kernel_rfl) (by kernel_rfl) (by kernel_rfl) rfl rfl rfl (er_ld 0 rfl rfl rfl rfl rfl rfl) ?_
      refine eh_take 3 (held (.cons 0 rfl (.cons 1 rfl (.cons (i + 2) hi .nil)))) rfl (by kernel_rfl) (by kernel_rfl) (by kernel_rfl) rfl rfl rfl rfl ?_
      refine eh_load 4 (held (.cons 0 rfl (.cons 1 rfl (.cons (i + 2) hi .nil)))) rfl (by kernel_rfl) (by kernel_rfl) (by kernel_rfl) rfl rfl rfl (er_idxv rfl rfl rfl rfl rfl rfl haddr ⟨by omega, by show (j : Int) < (lane.length : Nat); omega⟩) ?_
      refine eh_load 5 (held (.cons 0 rfl (.cons 1 rfl (.cons (i + 2) hi .nil)))) rfl (by kernel_rfl) (by kernel_rfl) (by kernel_rfl) rfl rfl rfl (er_ldv 2 (q := j) (v := int (lane.getD j 0)) rfl (vaddr1 la j) rfl rfl rfl hlane (by rw [List.getElem?_map, List.getElem?_eq_getElem (show j < lane.length by omega), List.getD_eq_getElem?_getD, List.getElem?_eq_getElem (show j < lane.length by omega)]; rfl)) ?_
      refine eh_way 6 (by kernel_rfl) (hway rfl rfl (eo_call1 rfl rfl rfl rfl rfl real_ref21_tag (tag_ref (lane.getD j 0) (i := i + 2) hi hv) ⟨held (.cons 0 rfl (.cons 1 rfl (.cons (i + 2) hi .nil))), ?_⟩))
      refine eh_take 7 (held (.cons 0 rfl (.cons 1 rfl (.cons (i + 2) hi .nil)))) rfl (by kernel_rfl) (by kernel_rfl) (by kernel_rfl) rfl rfl rfl rfl ?_
      refine eh_take 8 (held (.cons 0 rfl (.cons 1 rfl (.cons (i + 2) hi .nil)))) rfl (by kernel_rfl) (by kernel_rfl) (by kernel_rfl) rfl rfl rfl rfl ?_
      refine eh_take 9 (held (.cons 0 rfl (.cons 1 rfl (.cons (i + 2) hi .nil)))) rfl (by kernel_rfl) (by kernel_rfl) (by kernel_rfl) rfl rfl rfl rfl ?_
      refine eh_take 10 (held (.cons 0 rfl (.cons 1 rfl (.cons (i + 2) hi .nil)))) rfl (by kernel_rfl) (by kernel_rfl) (by kernel_rfl) rfl rfl rfl rfl ?_
      refine eh_take 11 (held (.cons 0 rfl (.cons 1 rfl (.cons (i + 2) hi .nil)))) rfl (by kernel_rfl) (by kernel_rfl) (by kernel_rfl) rfl rfl rfl rfl ?_
      refine eh_done (by kernel_rfl) ?_
      (repeat (first | refine el_pure rfl rfl rfl rfl ?_ | refine ej_seq ?_ | refine ej_region ?_ | refine el_nil ?_ | refine eq_seq ?_ | refine eq_calm ?_ | refine ej_true rfl ?_ | refine ej_false rfl ?_ | refine el_skip rfl rfl rfl ?_ | refine ej_ret ?_ | refine ej_skip ?_ | refine ej_exit ?_ | refine ej_block ?_ | refine eq_seq_ret ?_ | refine eq_seq_exit ?_ | refine eq_block ?_ | refine eq_block_exit ?_ | refine eq_block_ret ?_ | refine eq_block_exit_ne rfl ?_ | refine eq_back_ret ?_ | refine eq_back_exit ?_))
      refine ej_know ((hlane.one (i := i + 2) hi).know) fun hkl => ?_
      have haddr := hkl.2 (by rw [List.length_map]; omega)
      refine ej_held [cells b3 T_ref21_C (Cr.cells ⟨num, cur, lane, la, lcap⟩), cells b2 T_ref21_V (Hd.cells ⟨q, ad, nd, cd, ac, nc, cc, at', nt, ct⟩), p] ?_
      refine eh_load 0 (held (.cons 0 rfl (.cons 1 rfl (.cons (i + 2) hi .nil)))) rfl (by kernel_rfl) (by kernel_rfl) (by kernel_rfl) rfl rfl rfl (er_ldW 1 rfl rfl rfl rfl rfl rfl) ?_
      refine eh_take 1 (held (.cons 0 rfl (.cons 1 rfl (.cons (i + 2) hi .nil)))) rfl (by kernel_rfl) (by kernel_rfl) (by kernel_rfl) rfl rfl rfl rfl ?_
      refine eh_load 2 (held (.cons 0 rfl (.cons 1 rfl (.cons (i + 2) hi .nil)))) rfl (by kernel_rfl) (by kernel_rfl) (by kernel_rfl) rfl rfl rfl (er_ld 0 rfl rfl rfl rfl rfl rfl) ?_
      refine eh_take 3 (held (.cons 0 rfl (.cons 1 rfl (.cons (i + 2) hi .nil)))) rfl (by kernel_rfl) (by kernel_rfl) (by kernel_rfl) rfl rfl rfl rfl ?_
      refine eh_load 4 (held (.cons 0 rfl (.cons 1 rfl (.cons (i + 2) hi .nil)))) rfl (by kernel_rfl) (by kernel_rfl) (by kernel_rfl) rfl rfl rfl (er_idxv rfl rfl rfl rfl rfl rfl haddr ⟨by omega, by show (m : Int) < (lane.length : Nat); omega⟩) ?_
      refine eh_load 5 (held (.cons 0 rfl (.cons 1 rfl (.cons (i + 2) hi .nil)))) rfl (by kernel_rfl) (by kernel_rfl) (by kernel_rfl) rfl rfl rfl (er_ldv 2 (q := m) (v := int (lane.getD m 0)) rfl (vaddr1 la m) rfl rfl rfl hlane (by rw [List.getElem?_map, List.getElem?_eq_getElem (show m < lane.length by omega), List.getD_eq_getElem?_getD, List.getElem?_eq_getElem (show m < lane.length by omega)]; rfl)) ?_
      refine eh_way 6 (by kernel_rfl) (hway rfl rfl (eo_call1 rfl rfl rfl rfl rfl real_ref21_tag (tag_ref (lane.getD m 0) (i := i + 2) hi hv) ⟨held (.cons 0 rfl (.cons 1 rfl (.cons (i + 2) hi .nil))), ?_⟩))
      refine eh_take 7 (held (.cons 0 rfl (.cons 1 rfl (.cons (i + 2) hi .nil)))) rfl (by kernel_rfl) (by kernel_rfl) (by kernel_rfl) rfl rfl rfl rfl ?_
      refine eh_take 8 (held (.cons 0 rfl (.cons 1 rfl (.cons (i + 2) hi .nil)))) rfl (by kernel_rfl) (by kernel_rfl) (by kernel_rfl) rfl rfl rfl rfl ?_
      refine eh_take 9 (held (.cons 0 rfl (.cons 1 rfl (.cons (i + 2) hi .nil)))) rfl (by kernel_rfl) (by kernel_rfl) (by kernel_rfl) rfl rfl rfl rfl ?_
      refine eh_take 10 (held (.cons 0 rfl (.cons 1 rfl (.cons (i + 2) hi .nil)))) rfl (by kernel_rfl) (by kernel_rfl) (by kernel_rfl) rfl rfl rfl rfl ?_
      refine eh_take 11 (held (.cons 0 rfl (.cons 1 rfl (.cons (i + 2) hi .nil)))) rfl (by kernel_rfl) (by kernel_rfl) (by kernel_rfl) rfl rfl rfl rfl ?_
      refine eh_done (by kernel_rfl) ?_
      (repeat (first | refine el_pure rfl rfl rfl rfl ?_ | refine ej_seq ?_ | refine ej_region ?_ | refine el_nil ?_ | refine eq_seq ?_ | refine eq_calm ?_ | refine ej_true rfl ?_ | refine ej_false rfl ?_ | refine el_skip rfl rfl rfl ?_ | refine ej_ret ?_ | refine ej_skip ?_ | refine ej_exit ?_ | refine ej_block ?_ | refine eq_seq_ret ?_ | refine eq_seq_exit ?_ | refine eq_block ?_ | refine eq_block_exit ?_ | refine eq_block_ret ?_ | refine eq_block_exit_ne rfl ?_ | refine eq_back_ret ?_ | refine eq_back_exit ?_))
      have hpb : pairBad ts (lane.getD j 0) (lane.getD m 0) = ((tagOf ts (lane.getD j 0)).2 && (tagOf ts (lane.getD m 0)).2 && decide ((tagOf ts (lane.getD m 0)).1 < (tagOf ts (lane.getD j 0)).1)) := rfl
      generalize tagOf ts (lane.getD j 0) = A at *
      generalize tagOf ts (lane.getD m 0) = B at *
      obtain ⟨a1, a2⟩ := A
      obtain ⟨b1, b2'⟩ := B
      cases a2 with
      | false =>
        (repeat (first | refine el_pure rfl rfl rfl rfl ?_ | refine ej_seq ?_ | refine ej_region ?_ | refine el_nil ?_ | refine eq_seq ?_ | refine eq_calm ?_ | refine ej_true rfl ?_ | refine ej_false rfl ?_ | refine el_skip rfl rfl rfl ?_ | refine ej_ret ?_ | refine ej_skip ?_ | refine ej_exit ?_ | refine ej_block ?_ | refine eq_seq_ret ?_ | refine eq_seq_exit ?_ | refine eq_block ?_ | refine eq_block_exit ?_ | refine eq_block_ret ?_ | refine eq_block_exit_ne rfl ?_ | refine eq_back_ret ?_ | refine eq_back_exit ?_ | refine el_cons rfl (eo_lenv rfl rfl rfl rfl rfl rfl ?_) | refine el_cons rfl (eo_arith rfl rfl rfl rfl rfl rfl ⟨by omega, by omega⟩ ?_)))
        exact eq_backP (j + 1) ⟨by omega, by rw [hts, hno2, hpb]; rfl⟩ (by omega) (le_of _ _ rfl) fun w hw => hw
      | true =>
        cases b2' with
        | false =>
          (repeat (first | refine el_pure rfl rfl rfl rfl ?_ | refine ej_seq ?_ | refine ej_region ?_ | refine el_nil ?_ | refine eq_seq ?_ | refine eq_calm ?_ | refine ej_true rfl ?_ | refine ej_false rfl ?_ | refine el_skip rfl rfl rfl ?_ | refine ej_ret ?_ | refine ej_skip ?_ | refine ej_exit ?_ | refine ej_block ?_ | refine eq_seq_ret ?_ | refine eq_seq_exit ?_ | refine eq_block ?_ | refine eq_block_exit ?_ | refine eq_block_ret ?_ | refine eq_block_exit_ne rfl ?_ | refine eq_back_ret ?_ | refine eq_back_exit ?_ | refine el_cons rfl (eo_lenv rfl rfl rfl rfl rfl rfl ?_) | refine el_cons rfl (eo_arith rfl rfl rfl rfl rfl rfl ⟨by omega, by omega⟩ ?_)))
          exact eq_backP (j + 1) ⟨by omega, by rw [hts, hno2, hpb]; rfl⟩ (by omega) (le_of _ _ rfl) fun w hw => hw
        | true =>
          (repeat (first | refine el_pure rfl rfl rfl rfl ?_ | refine ej_seq ?_ | refine ej_region ?_ | refine el_nil ?_ | refine eq_seq ?_ | refine eq_calm ?_ | refine ej_true rfl ?_ | refine ej_false rfl ?_ | refine el_skip rfl rfl rfl ?_ | refine ej_ret ?_ | refine ej_skip ?_ | refine ej_exit ?_ | refine ej_block ?_ | refine eq_seq_ret ?_ | refine eq_seq_exit ?_ | refine eq_block ?_ | refine eq_block_exit ?_ | refine eq_block_ret ?_ | refine eq_block_exit_ne rfl ?_ | refine eq_back_ret ?_ | refine eq_back_exit ?_))
          refine ej_dec rfl (fun h => ?_) (fun h => ?_)
          · have h : b1 < a1 := h
            (repeat (first | refine el_pure rfl rfl rfl rfl ?_ | refine ej_seq ?_ | refine ej_region ?_ | refine el_nil ?_ | refine eq_seq ?_ | refine eq_calm ?_ | refine ej_true rfl ?_ | refine ej_false rfl ?_ | refine el_skip rfl rfl rfl ?_ | refine ej_ret ?_ | refine ej_skip ?_ | refine ej_exit ?_ | refine ej_block ?_ | refine eq_seq_ret ?_ | refine eq_seq_exit ?_ | refine eq_block ?_ | refine eq_block_exit ?_ | refine eq_block_ret ?_ | refine eq_block_exit_ne rfl ?_ | refine eq_back_ret ?_ | refine eq_back_exit ?_))
            refine eq_rett rfl fun w hw => ⟨?_, hw.drop 2⟩
            rw [hyes (by rw [hpb]; simp [h])]; rfl
          · have h : ¬ b1 < a1 := h
            (repeat (first | refine el_pure rfl rfl rfl rfl ?_ | refine ej_seq ?_ | refine ej_region ?_ | refine el_nil ?_ | refine eq_seq ?_ | refine eq_calm ?_ | refine ej_true rfl ?_ | refine ej_false rfl ?_ | refine el_skip rfl rfl rfl ?_ | refine ej_ret ?_ | refine ej_skip ?_ | refine ej_exit ?_ | refine ej_block ?_ | refine eq_seq_ret ?_ | refine eq_seq_exit ?_ | refine eq_block ?_ | refine eq_block_exit ?_ | refine eq_block_ret ?_ | refine eq_block_exit_ne rfl ?_ | refine eq_back_ret ?_ | refine eq_back_exit ?_ | refine el_cons rfl (eo_lenv rfl rfl rfl rfl rfl rfl ?_) | refine el_cons rfl (eo_arith rfl rfl rfl rfl rfl rfl ⟨by omega, by omega⟩ ?_)))
            exact eq_backP (j + 1) ⟨by omega, by rw [hts, hno2, hpb]; simp [h]⟩ (by omega) (le_of _ _ rfl) fun w hw => hw
    · obtain rfl : j = m := by omega
      (repeat (first | refine el_pure rfl rfl rfl rfl ?_ | refine ej_seq ?_ | refine ej_region ?_ | refine el_nil ?_ | refine eq_seq ?_ | refine eq_calm ?_ | refine ej_true rfl ?_ | refine ej_false rfl ?_ | refine el_skip rfl rfl rfl ?_ | refine ej_ret ?_ | refine ej_skip ?_ | refine ej_exit ?_ | refine ej_block ?_ | refine eq_seq_ret ?_ | refine eq_seq_exit ?_ | refine eq_block ?_ | refine eq_block_exit ?_ | refine eq_block_ret ?_ | refine eq_block_exit_ne rfl ?_ | refine eq_back_ret ?_ | refine eq_back_exit ?_ | refine el_cons rfl (eo_lenv rfl rfl rfl rfl rfl rfl ?_) | refine el_cons rfl (eo_arith rfl rfl rfl rfl rfl rfl ⟨by omega, by omega⟩ ?_)))
      exact eq_backP (j + 1) ⟨by omega, by rw [hbs, hno, hno2]; rfl⟩ (by omega) (le_of _ _ rfl) fun w hw => hw
  · obtain rfl : m = lane.length := by omega
    (repeat (first | refine el_pure rfl rfl rfl rfl ?_ | refine ej_seq ?_ | refine ej_region ?_ | refine el_nil ?_ | refine eq_seq ?_ | refine eq_calm ?_ | refine ej_true rfl ?_ | refine ej_false rfl ?_ | refine el_skip rfl rfl rfl ?_ | refine ej_ret ?_ | refine ej_skip ?_ | refine ej_exit ?_ | refine ej_block ?_ | refine eq_seq_ret ?_ | refine eq_seq_exit ?_ | refine eq_block ?_ | refine eq_block_exit ?_ | refine eq_block_ret ?_ | refine eq_block_exit_ne rfl ?_ | refine eq_back_ret ?_ | refine eq_back_exit ?_))
    refine eq_rett rfl fun w hw => ⟨?_, hw.drop 2⟩
    show Value.bool false = .bool (orderB ts lane lane.length)
    rw [hno]

end Go.Proofs.Ytkpbpjnabbfdiaa
