/- The document's audit: is a thread at its core, as it is told? -/
import Derived.Test.YtkpbpjnabbfdiaaBf
namespace Go.Proofs.Ytkpbpjnabbfdiaa
open Go Go.SE

variable {w0 w : World} {l : List HP} {i : Nat} {r : Option (Nat × Nat)} {p : HP}

def curBad (c : Cr) (t : Th) : Bool := decide (c.cur = t.id ∧ t.id ≠ 0) && !(decide (c.num = t.core) && t.running)
def laneBad (c : Cr) (t : Th) (x : Int) : Bool := decide (x = t.id) && !(decide (c.num = t.core) && !t.running)
def hereOk (c : Cr) (t : Th) : Bool := !curBad c t && c.lane.all fun x => !laneBad c t x
def hasDom (ds : List Dm) (t : Th) : Bool := match domOf ds t.dom with
  | none => false
  | some d => has d.cores t.core
def placedB (ds : List Dm) (cs : List Cr) (t : Th) : Bool := hasDom ds t && cs.all fun c => hereOk c t
theorem all_snoc {α : Type} {xs : List α} {k : Nat} {x : α} (h : xs[k]? = some x) (f : α → Bool) : (xs.take (k + 1)).all f = ((xs.take k).all f && f x) := by rw [take_snoc h]; simp
theorem all_not {α : Type} {xs : List α} {k : Nat} {x : α} (h : xs[k]? = some x) (f : α → Bool) (hf : f x = false) : xs.all f = false := by
  cases ha : xs.all f with
  | false => rfl
  | true => have := List.all_eq_true.1 ha x (List.mem_of_getElem? h); rw [hf] at this; cases this

set_option maxHeartbeats 6400000 in
theorem placed_ref {v : Hd} {ds : List Dm} {cs : List Cr} {ts : List Th} (t : Th) (hi : l[i]? = some p) (hv : DoV w0 p v ds cs ts) :
    Does cx F_ref21_placed [v.val, .agg t.doc.toArray] (S w0 l) fun u w => u = .bool (placedB ds cs t) ∧ S w0 l w := by
  refine fn_enter (n := N_ref21_placed) fn_ref21_placed rfl rfl rfl ?_
  refine ej_seq (ej_region (el_cons rfl (eo_box rfl rfl rfl rfl fun b2 => el_cons rfl (eo_box rfl rfl rfl rfl fun b3 => ?_))))
  have hkn := known_ref (l := cells b3 T_ref21_T t.doc :: cells b2 T_ref21_V (Hd.cells v) :: l) t hv
  obtain ⟨q, ad, nd, cd, ac, nc, cc, at', nt, ct⟩ := v
  obtain rfl : nd = ds.length := hv.nd
  obtain rfl : nc = cs.length := hv.nc
  have hVd := hv.lies.d
  have hV := hv.lies.c
  have hfew := hv.few
  obtain ⟨tid, dom, mask, awake, running, core, tag, left, slice⟩ := t
  have hpl : placedB ds cs ⟨tid, dom, mask, awake, running, core, tag, left, slice⟩ = (hasDom ds ⟨tid, dom, mask, awake, running, core, tag, left, slice⟩ && cs.all fun c => hereOk c ⟨tid, dom, mask, awake, running, core, tag, left, slice⟩) := rfl
  (repeat (first | refine el_pure rfl rfl rfl rfl ?_ | refine ej_seq ?_ | refine ej_region ?_ | refine el_nil ?_ | refine eq_seq ?_ | refine eq_calm ?_ | refine ej_true rfl ?_ | refine ej_false rfl ?_ | refine el_skip rfl rfl rfl ?_ | refine ej_ret ?_ | refine ej_skip ?_ | refine ej_exit ?_ | refine ej_block ?_ | refine eq_seq_ret ?_ | refine eq_seq_exit ?_ | refine eq_block ?_ | refine eq_block_exit ?_ | refine eq_block_ret ?_ | refine eq_block_exit_ne rfl ?_ | refine eq_back_ret ?_ | refine eq_back_exit ?_))
  refine ej_know ((hVd.one (i := i + 2) hi).know) fun hkd => ?_
  refine ej_held [cells b3 T_ref21_T (Th.doc ⟨tid, dom, mask, awake, running, core, tag, left, slice⟩), cells b2 T_ref21_V (Hd.cells ⟨q, ad, ds.length, cd, ac, cs.length, cc, at', nt, ct⟩), p] ?_
  refine eh_cont (fun _ : Unit => [(2, ptr b2), (3, ptr b3), (24, .bool (!hasDom ds ⟨tid, dom, mask, awake, running, core, tag, left, slice⟩))]) (fun _ => S w0 (cells b3 T_ref21_T (Th.doc ⟨tid, dom, mask, awake, running, core, tag, left, slice⟩) :: cells b2 T_ref21_V (Hd.cells ⟨q, ad, ds.length, cd, ac, cs.length, cc, at', nt, ct⟩) :: l)) (fun cont => ?_) (fun _ => ?_)
  · by_cases hdom : 0 ≤ dom ∧ dom < ds.length
    · have hdo : domOf ds dom = ds[dom.toNat]? := if_pos hdom
      obtain ⟨d, hd⟩ : ∃ d, ds[dom.toNat]? = some d := ⟨ds[dom.toNat]'(by omega), List.getElem?_eq_getElem _⟩
      have hhd : hasDom ds ⟨tid, dom, mask, awake, running, core, tag, left, slice⟩ = has d.cores core := by
        show (match domOf ds dom with | none => false | some d => has d.cores core) = _
        rw [hdo, hd]
      have hdk := hv.lies.dOk d (List.mem_of_getElem? hd)
      obtain ⟨k, rfl⟩ := Int.eq_ofNat_of_zero_le hdom.1
      rw [Int.toNat_natCast] at hd
      have hgd : ∀ j, j < 3 → (rows Dm.cells ds)[k * 3 + j]? = d.cells[j]? := fun j hj => rows_get Dm.cells 3 dm3 ds k j d hd hj
      rw [decide_eq_true hdom] at hkn
      rw [hhd] at cont
      have haddr : ad = some ⟨ob ad, oo ad, none⟩ := hkd.2 (by rw [rows_length _ 3 dm3]; omega)
      refine eh_load 0 (held (.cons 0 rfl (.cons 1 rfl (.cons (i + 2) hi .nil)))) rfl (by kernel_rfl) (by kernel_rfl) (by kernel_rfl) rfl rfl rfl (er_ldW 1 rfl rfl rfl rfl rfl rfl) ?_
      refine eh_load 1 (held (.cons 0 rfl (.cons 1 rfl (.cons (i + 2) hi .nil)))) rfl (by kernel_rfl) (by kernel_rfl) (by kernel_rfl) rfl rfl rfl (er_ldW 0 rfl rfl rfl rfl rfl rfl) ?_
      refine eh_way 2 (by kernel_rfl) (hway rfl rfl (eo_call1 rfl rfl rfl rfl rfl real_ref21_known hkn ⟨held (.cons 0 rfl (.cons 1 rfl (.cons (i + 2) hi .nil))), ?_⟩))
      refine eh_take 3 (held (.cons 0 rfl (.cons 1 rfl (.cons (i + 2) hi .nil)))) rfl (by kernel_rfl) (by kernel_rfl) (by kernel_rfl) rfl rfl rfl rfl ?_
      refine eh_take 4 (held (.cons 0 rfl (.cons 1 rfl (.cons (i + 2) hi .nil)))) rfl (by kernel_rfl) (by kernel_rfl) (by kernel_rfl) rfl rfl rfl rfl ?_
      refine eh_take 5 (held (.cons 0 rfl (.cons 1 rfl (.cons (i + 2) hi .nil)))) rfl (by kernel_rfl) (by kernel_rfl) (by kernel_rfl) rfl rfl rfl rfl ?_
      refine eh_load 6 (held (.cons 0 rfl (.cons 1 rfl (.cons (i + 2) hi .nil)))) rfl (by kernel_rfl) (by kernel_rfl) (by kernel_rfl) rfl rfl rfl (er_ld 1 rfl rfl rfl rfl rfl rfl) ?_
      refine eh_take 7 (held (.cons 0 rfl (.cons 1 rfl (.cons (i + 2) hi .nil)))) rfl (by kernel_rfl) (by kernel_rfl) (by kernel_rfl) rfl rfl rfl rfl ?_
      refine eh_load 8 (held (.cons 0 rfl (.cons 1 rfl (.cons (i + 2) hi .nil)))) rfl (by kernel_rfl) (by kernel_rfl) (by kernel_rfl) rfl rfl rfl (er_ld 0 rfl rfl rfl rfl rfl rfl) ?_
      refine eh_load 9 (held (.cons 0 rfl (.cons 1 rfl (.cons (i + 2) hi .nil)))) rfl (by kernel_rfl) (by kernel_rfl) (by kernel_rfl) rfl rfl rfl (er_idxv rfl rfl rfl rfl rfl rfl haddr hdom) ?_
      refine eh_take 10 (held (.cons 0 rfl (.cons 1 rfl (.cons (i + 2) hi .nil)))) rfl (by kernel_rfl) (by kernel_rfl) (by kernel_rfl) rfl rfl rfl rfl ?_
      refine eh_load 11 (held (.cons 0 rfl (.cons 1 rfl (.cons (i + 2) hi .nil)))) rfl (by kernel_rfl) (by kernel_rfl) (by kernel_rfl) rfl rfl rfl (er_ldv 2 (q := k * 3 + 0) (v := u64 d.cores) rfl (vaddr ad k 0 3) rfl rfl rfl hVd (hgd 0 (by decide))) ?_
      refine eh_take 12 (held (.cons 0 rfl (.cons 1 rfl (.cons (i + 2) hi .nil)))) rfl (by kernel_rfl) (by kernel_rfl) (by kernel_rfl) rfl rfl rfl rfl ?_
      refine eh_load 13 (held (.cons 0 rfl (.cons 1 rfl (.cons (i + 2) hi .nil)))) rfl (by kernel_rfl) (by kernel_rfl) (by kernel_rfl) rfl rfl rfl (er_ld 0 rfl rfl rfl rfl rfl rfl) ?_
      refine eh_way 14 (by kernel_rfl) (hway rfl rfl (eo_call1 rfl rfl rfl rfl rfl real_ref21_has (has_ref d.cores core hdk.cores) ⟨held (.cons 0 rfl (.cons 1 rfl (.cons (i + 2) hi .nil))), ?_⟩))
      refine eh_take 15 (held (.cons 0 rfl (.cons 1 rfl (.cons (i + 2) hi .nil)))) rfl (by kernel_rfl) (by kernel_rfl) (by kernel_rfl) rfl rfl rfl rfl ?_
      refine eh_take 16 (held (.cons 0 rfl (.cons 1 rfl (.cons (i + 2) hi .nil)))) rfl (by kernel_rfl) (by kernel_rfl) (by kernel_rfl) rfl rfl rfl rfl ?_
      exact eh_done (by kernel_rfl) (eq_le (cont ()) (le_of _ _ rfl) fun w hw => hw)
    · have hdo : domOf ds dom = none := if_neg hdom
      have hhd : hasDom ds ⟨tid, dom, mask, awake, running, core, tag, left, slice⟩ = false := by
        show (match domOf ds dom with | none => false | some d => has d.cores core) = _
        rw [hdo]
      rw [decide_eq_false hdom] at hkn
      rw [hhd] at cont
      refine eh_load 0 (held (.cons 0 rfl (.cons 1 rfl (.cons (i + 2) hi .nil)))) rfl (by kernel_rfl) (by kernel_rfl) (by kernel_rfl) rfl rfl rfl (er_ldW 1 rfl rfl rfl rfl rfl rfl) ?_
      refine eh_load 1 (held (.cons 0 rfl (.cons 1 rfl (.cons (i + 2) hi .nil)))) rfl (by kernel_rfl) (by kernel_rfl) (by kernel_rfl) rfl rfl rfl (er_ldW 0 rfl rfl rfl rfl rfl rfl) ?_
      refine eh_way 2 (by kernel_rfl) (hway rfl rfl (eo_call1 rfl rfl rfl rfl rfl real_ref21_known hkn ⟨held (.cons 0 rfl (.cons 1 rfl (.cons (i + 2) hi .nil))), ?_⟩))
      refine eh_take 3 (held (.cons 0 rfl (.cons 1 rfl (.cons (i + 2) hi .nil)))) rfl (by kernel_rfl) (by kernel_rfl) (by kernel_rfl) rfl rfl rfl rfl ?_
      refine eh_take 4 (held (.cons 0 rfl (.cons 1 rfl (.cons (i + 2) hi .nil)))) rfl (by kernel_rfl) (by kernel_rfl) (by kernel_rfl) rfl rfl rfl rfl ?_
      refine eh_skip 5 (held (.cons 0 rfl (.cons 1 rfl (.cons (i + 2) hi .nil)))) rfl (by kernel_rfl) (by kernel_rfl) (by kernel_rfl) rfl rfl rfl ?_
      refine eh_skip 6 (held (.cons 0 rfl (.cons 1 rfl (.cons (i + 2) hi .nil)))) rfl (by kernel_rfl) (by kernel_rfl) (by kernel_rfl) rfl rfl rfl ?_
      refine eh_skip 7 (held (.cons 0 rfl (.cons 1 rfl (.cons (i + 2) hi .nil)))) rfl (by kernel_rfl) (by kernel_rfl) (by kernel_rfl) rfl rfl rfl ?_
      refine eh_skip 8 (held (.cons 0 rfl (.cons 1 rfl (.cons (i + 2) hi .nil)))) rfl (by kernel_rfl) (by kernel_rfl) (by kernel_rfl) rfl rfl rfl ?_
      refine eh_skip 9 (held (.cons 0 rfl (.cons 1 rfl (.cons (i + 2) hi .nil)))) rfl (by kernel_rfl) (by kernel_rfl) (by kernel_rfl) rfl rfl rfl ?_
      refine eh_skip 10 (held (.cons 0 rfl (.cons 1 rfl (.cons (i + 2) hi .nil)))) rfl (by kernel_rfl) (by kernel_rfl) (by kernel_rfl) rfl rfl rfl ?_
      refine eh_skip 11 (held (.cons 0 rfl (.cons 1 rfl (.cons (i + 2) hi .nil)))) rfl (by kernel_rfl) (by kernel_rfl) (by kernel_rfl) rfl rfl rfl ?_
      refine eh_skip 12 (held (.cons 0 rfl (.cons 1 rfl (.cons (i + 2) hi .nil)))) rfl (by kernel_rfl) (by kernel_rfl) (by kernel_rfl) rfl rfl rfl ?_
      refine eh_skip 13 (held (.cons 0 rfl (.cons 1 rfl (.cons (i + 2) hi .nil)))) rfl (by kernel_rfl) (by kernel_rfl) (by kernel_rfl) rfl rfl rfl ?_
      refine eh_skip 14 (held (.cons 0 rfl (.cons 1 rfl (.cons (i + 2) hi .nil)))) rfl (by kernel_rfl) (by kernel_rfl) (by kernel_rfl) rfl rfl rfl ?_
      refine eh_skip 15 (held (.cons 0 rfl (.cons 1 rfl (.cons (i + 2) hi .nil)))) rfl (by kernel_rfl) (by kernel_rfl) (by kernel_rfl) rfl rfl rfl ?_
      refine eh_take 16 (held (.cons 0 rfl (.cons 1 rfl (.cons (i + 2) hi .nil)))) rfl (by kernel_rfl) (by kernel_rfl) (by kernel_rfl) rfl rfl rfl rfl ?_
      exact eh_done (by kernel_rfl) (eq_le (cont ()) (le_of _ _ rfl) fun w hw => hw)
  generalize hasDom ds ⟨tid, dom, mask, awake, running, core, tag, left, slice⟩ = hu at *
  cases hu with
  | false =>
    (repeat (first | refine el_pure rfl rfl rfl rfl ?_ | refine ej_seq ?_ | refine ej_region ?_ | refine el_nil ?_ | refine eq_seq ?_ | refine eq_calm ?_ | refine ej_true rfl ?_ | refine ej_false rfl ?_ | refine el_skip rfl rfl rfl ?_ | refine ej_ret ?_ | refine ej_skip ?_ | refine ej_exit ?_ | refine ej_block ?_ | refine eq_seq_ret ?_ | refine eq_seq_exit ?_ | refine eq_block ?_ | refine eq_block_exit ?_ | refine eq_block_ret ?_ | refine eq_block_exit_ne rfl ?_ | refine eq_back_ret ?_ | refine eq_back_exit ?_))
    refine eq_rett rfl fun w hw => ⟨?_, hw.drop 2⟩
    rw [hpl]; rfl
  | true =>
    rw [Bool.true_and] at hpl
    (repeat (first | refine el_pure rfl rfl rfl rfl ?_ | refine ej_seq ?_ | refine ej_region ?_ | refine el_nil ?_ | refine eq_seq ?_ | refine eq_calm ?_ | refine ej_true rfl ?_ | refine ej_false rfl ?_ | refine el_skip rfl rfl rfl ?_ | refine ej_ret ?_ | refine ej_skip ?_ | refine ej_exit ?_ | refine ej_block ?_ | refine eq_seq_ret ?_ | refine eq_seq_exit ?_ | refine eq_block ?_ | refine eq_block_exit ?_ | refine eq_block_ret ?_ | refine eq_block_exit_ne rfl ?_ | refine eq_back_ret ?_ | refine eq_back_exit ?_))
    refine el_cons rfl (eo_ld 1 rfl rfl rfl rfl rfl rfl rfl rfl ?_)
    (repeat (first | refine el_pure rfl rfl rfl rfl ?_ | refine ej_seq ?_ | refine ej_region ?_ | refine el_nil ?_ | refine eq_seq ?_ | refine eq_calm ?_ | refine ej_true rfl ?_ | refine ej_false rfl ?_ | refine el_skip rfl rfl rfl ?_ | refine ej_ret ?_ | refine ej_skip ?_ | refine ej_exit ?_ | refine ej_block ?_ | refine eq_seq_ret ?_ | refine eq_seq_exit ?_ | refine eq_block ?_ | refine eq_block_exit ?_ | refine eq_block_ret ?_ | refine eq_block_exit_ne rfl ?_ | refine eq_back_ret ?_ | refine eq_back_exit ?_ | refine el_cons rfl (eo_lenv rfl rfl rfl rfl rfl rfl ?_) | refine el_cons rfl (eo_arith rfl rfl rfl rfl rfl rfl ⟨by omega, by omega⟩ ?_)))
    refine ej_loopP (fun k : Nat => k ≤ cs.length ∧ (cs.take k).all (fun c => hereOk c ⟨tid, dom, mask, awake, running, core, tag, left, slice⟩) = true) (fun k => [(2, ptr b2), (3, ptr b3), (27, int cs.length), (28, int k)]) (fun _ => S w0 (cells b3 T_ref21_T (Th.doc ⟨tid, dom, mask, awake, running, core, tag, left, slice⟩) :: cells b2 T_ref21_V (Hd.cells ⟨q, ad, ds.length, cd, ac, cs.length, cc, at', nt, ct⟩) :: l)) (fun k => cs.length - k) 0 ⟨Nat.zero_le _, by simp⟩ (le_of _ _ rfl) (fun w hw => hw) ?_
    rintro k ⟨hk, hall⟩
    (repeat (first | refine el_pure rfl rfl rfl rfl ?_ | refine ej_seq ?_ | refine ej_region ?_ | refine el_nil ?_ | refine eq_seq ?_ | refine eq_calm ?_ | refine ej_true rfl ?_ | refine ej_false rfl ?_ | refine el_skip rfl rfl rfl ?_ | refine ej_ret ?_ | refine ej_skip ?_ | refine ej_exit ?_ | refine ej_block ?_ | refine eq_seq_ret ?_ | refine eq_seq_exit ?_ | refine eq_block ?_ | refine eq_block_exit ?_ | refine eq_block_ret ?_ | refine eq_block_exit_ne rfl ?_ | refine eq_back_ret ?_ | refine eq_back_exit ?_))
    refine ej_dec rfl (fun hlt => ?_) (fun hlt => ?_)
    · have hlt' : k < cs.length := by omega
      have hx' : cs[k]? = some cs[k] := by simp [hlt']
      have hmem := List.getElem_mem hlt'
      have hlane := hv.lies.lane _ hmem
      have hll := hv.lanes _ hmem
      have hsn := all_snoc hx' (fun c => hereOk c ⟨tid, dom, mask, awake, running, core, tag, left, slice⟩)
      have hnot := all_not hx' (fun c => hereOk c ⟨tid, dom, mask, awake, running, core, tag, left, slice⟩)
      generalize cs[k] = c at *
      have hg : ∀ j, j < 3 → (rows Cr.cells cs)[k * 3 + j]? = c.cells[j]? := fun j hj => rows_get Cr.cells 3 cr3 cs k j c hx' hj
      obtain ⟨num, cur, lane, la, lcap⟩ := c
      have hlane : View w0 [p] 1 la (ints lane) lane.length lcap := hlane
      have hll : lane.length ≤ 1000 := hll
      have hok : hereOk ⟨num, cur, lane, la, lcap⟩ ⟨tid, dom, mask, awake, running, core, tag, left, slice⟩ = (!curBad ⟨num, cur, lane, la, lcap⟩ ⟨tid, dom, mask, awake, running, core, tag, left, slice⟩ && lane.all fun x => !laneBad ⟨num, cur, lane, la, lcap⟩ ⟨tid, dom, mask, awake, running, core, tag, left, slice⟩ x) := rfl
      have hcb : curBad ⟨num, cur, lane, la, lcap⟩ ⟨tid, dom, mask, awake, running, core, tag, left, slice⟩ = (decide (cur = tid ∧ tid ≠ 0) && !(decide (num = core) && running)) := rfl
      (repeat (first | refine el_pure rfl rfl rfl rfl ?_ | refine ej_seq ?_ | refine ej_region ?_ | refine el_nil ?_ | refine eq_seq ?_ | refine eq_calm ?_ | refine ej_true rfl ?_ | refine ej_false rfl ?_ | refine el_skip rfl rfl rfl ?_ | refine ej_ret ?_ | refine ej_skip ?_ | refine ej_exit ?_ | refine ej_block ?_ | refine eq_seq_ret ?_ | refine eq_seq_exit ?_ | refine eq_block ?_ | refine eq_block_exit ?_ | refine eq_block_ret ?_ | refine eq_block_exit_ne rfl ?_ | refine eq_back_ret ?_ | refine eq_back_exit ?_))
      refine ej_know ((hV.one (i := i + 2) hi).know) fun hkc => ?_
      have haddr := hkc.2 (by rw [rows_length _ 3 cr3]; omega)
      refine ej_held [cells b3 T_ref21_T (Th.doc ⟨tid, dom, mask, awake, running, core, tag, left, slice⟩), cells b2 T_ref21_V (Hd.cells ⟨q, ad, ds.length, cd, ac, cs.length, cc, at', nt, ct⟩), p] ?_
      refine eh_cont (fun _ : Unit => [(2, ptr b2), (3, ptr b3), (5, int k), (27, int cs.length), (28, int k), (6, .bool (decide (cur = tid ∧ tid ≠ 0)))]) (fun _ => S w0 (cells b3 T_ref21_T (Th.doc ⟨tid, dom, mask, awake, running, core, tag, left, slice⟩) :: cells b2 T_ref21_V (Hd.cells ⟨q, ad, ds.length, cd, ac, cs.length, cc, at', nt, ct⟩) :: l)) (fun cont => ?_) (fun _ => ?_)
      · skip
        refine eh_take 0 (held (.cons 0 rfl (.cons 1 rfl (.cons (i + 2) hi .nil)))) rfl (by kernel_rfl) (by kernel_rfl) (by kernel_rfl) rfl rfl rfl rfl ?_
        refine eh_load 1 (held (.cons 0 rfl (.cons 1 rfl (.cons (i + 2) hi .nil)))) rfl (by kernel_rfl) (by kernel_rfl) (by kernel_rfl) rfl rfl rfl (er_ld 1 rfl rfl rfl rfl rfl rfl) ?_
        refine eh_take 2 (held (.cons 0 rfl (.cons 1 rfl (.cons (i + 2) hi .nil)))) rfl (by kernel_rfl) (by kernel_rfl) (by kernel_rfl) rfl rfl rfl rfl ?_
        refine eh_load 3 (held (.cons 0 rfl (.cons 1 rfl (.cons (i + 2) hi .nil)))) rfl (by kernel_rfl) (by kernel_rfl) (by kernel_rfl) rfl rfl rfl (er_idxv rfl rfl rfl rfl rfl rfl haddr ⟨by omega, hlt⟩) ?_
        refine eh_take 4 (held (.cons 0 rfl (.cons 1 rfl (.cons (i + 2) hi .nil)))) rfl (by kernel_rfl) (by kernel_rfl) (by kernel_rfl) rfl rfl rfl rfl ?_
        refine eh_load 5 (held (.cons 0 rfl (.cons 1 rfl (.cons (i + 2) hi .nil)))) rfl (by kernel_rfl) (by kernel_rfl) (by kernel_rfl) rfl rfl rfl (er_ldv 2 (q := k * 3 + 1) (v := int cur) rfl (vaddr ac k 1 3) rfl rfl rfl hV (hg 1 (by decide))) ?_
        refine eh_take 6 (held (.cons 0 rfl (.cons 1 rfl (.cons (i + 2) hi .nil)))) rfl (by kernel_rfl) (by kernel_rfl) (by kernel_rfl) rfl rfl rfl rfl ?_
        refine eh_load 7 (held (.cons 0 rfl (.cons 1 rfl (.cons (i + 2) hi .nil)))) rfl (by kernel_rfl) (by kernel_rfl) (by kernel_rfl) rfl rfl rfl (er_ld 0 rfl rfl rfl rfl rfl rfl) ?_
        refine eh_take 8 (held (.cons 0 rfl (.cons 1 rfl (.cons (i + 2) hi .nil)))) rfl (by kernel_rfl) (by kernel_rfl) (by kernel_rfl) rfl rfl rfl rfl ?_
        refine eh_take 9 (held (.cons 0 rfl (.cons 1 rfl (.cons (i + 2) hi .nil)))) rfl (by kernel_rfl) (by kernel_rfl) (by kernel_rfl) rfl rfl rfl rfl ?_
        by_cases h1 : cur = tid
        · refine eh_val 40 (u := .bool true) rfl (by rw [decide_eq_true h1]) ?_
          refine eh_take 10 (held (.cons 0 rfl (.cons 1 rfl (.cons (i + 2) hi .nil)))) rfl (by kernel_rfl) (by kernel_rfl) (by kernel_rfl) rfl rfl rfl rfl ?_
          refine eh_load 11 (held (.cons 0 rfl (.cons 1 rfl (.cons (i + 2) hi .nil)))) rfl (by kernel_rfl) (by kernel_rfl) (by kernel_rfl) rfl rfl rfl (er_ld 0 rfl rfl rfl rfl rfl rfl) ?_
          refine eh_take 12 (held (.cons 0 rfl (.cons 1 rfl (.cons (i + 2) hi .nil)))) rfl (by kernel_rfl) (by kernel_rfl) (by kernel_rfl) rfl rfl rfl rfl ?_
          refine eh_take 13 (held (.cons 0 rfl (.cons 1 rfl (.cons (i + 2) hi .nil)))) rfl (by kernel_rfl) (by kernel_rfl) (by kernel_rfl) rfl rfl rfl rfl ?_
          refine eh_take 14 (held (.cons 0 rfl (.cons 1 rfl (.cons (i + 2) hi .nil)))) rfl (by kernel_rfl) (by kernel_rfl) (by kernel_rfl) rfl rfl rfl rfl ?_
          refine eh_done (by kernel_rfl) (eq_le (cont ()) (le_cons rfl (le_cons rfl (le_cons rfl (le_cons rfl (le_cons rfl (le_cons ?_ (le_nil _))))))) fun w hw => hw)
          show some _ = some _
          simp [h1]
        · refine eh_val 40 (u := .bool false) rfl (by rw [decide_eq_false h1]) ?_
          refine eh_skip 10 (held (.cons 0 rfl (.cons 1 rfl (.cons (i + 2) hi .nil)))) rfl (by kernel_rfl) (by kernel_rfl) (by kernel_rfl) rfl rfl rfl ?_
          refine eh_skip 11 (held (.cons 0 rfl (.cons 1 rfl (.cons (i + 2) hi .nil)))) rfl (by kernel_rfl) (by kernel_rfl) (by kernel_rfl) rfl rfl rfl ?_
          refine eh_skip 12 (held (.cons 0 rfl (.cons 1 rfl (.cons (i + 2) hi .nil)))) rfl (by kernel_rfl) (by kernel_rfl) (by kernel_rfl) rfl rfl rfl ?_
          refine eh_take 13 (held (.cons 0 rfl (.cons 1 rfl (.cons (i + 2) hi .nil)))) rfl (by kernel_rfl) (by kernel_rfl) (by kernel_rfl) rfl rfl rfl rfl ?_
          refine eh_take 14 (held (.cons 0 rfl (.cons 1 rfl (.cons (i + 2) hi .nil)))) rfl (by kernel_rfl) (by kernel_rfl) (by kernel_rfl) rfl rfl rfl rfl ?_
          refine eh_done (by kernel_rfl) (eq_le (cont ()) (le_cons rfl (le_cons rfl (le_cons rfl (le_cons rfl (le_cons rfl (le_cons ?_ (le_nil _))))))) fun w hw => hw)
          show some _ = some _
          simp [h1]
      (repeat (first | refine el_pure rfl rfl rfl rfl ?_ | refine ej_seq ?_ | refine ej_region ?_ | refine el_nil ?_ | refine eq_seq ?_ | refine eq_calm ?_ | refine ej_true rfl ?_ | refine ej_false rfl ?_ | refine el_skip rfl rfl rfl ?_ | refine ej_ret ?_ | refine ej_skip ?_ | refine ej_exit ?_ | refine ej_block ?_ | refine eq_seq_ret ?_ | refine eq_seq_exit ?_ | refine eq_block ?_ | refine eq_block_exit ?_ | refine eq_block_ret ?_ | refine eq_block_exit_ne rfl ?_ | refine eq_back_ret ?_ | refine eq_back_exit ?_))
      refine ej_held [cells b3 T_ref21_T (Th.doc ⟨tid, dom, mask, awake, running, core, tag, left, slice⟩), cells b2 T_ref21_V (Hd.cells ⟨q, ad, ds.length, cd, ac, cs.length, cc, at', nt, ct⟩), p] ?_
      refine eh_cont (fun _ : Unit => [(2, ptr b2), (3, ptr b3), (5, int k), (27, int cs.length), (28, int k), (61, .bool (curBad ⟨num, cur, lane, la, lcap⟩ ⟨tid, dom, mask, awake, running, core, tag, left, slice⟩))]) (fun _ => S w0 (cells b3 T_ref21_T (Th.doc ⟨tid, dom, mask, awake, running, core, tag, left, slice⟩) :: cells b2 T_ref21_V (Hd.cells ⟨q, ad, ds.length, cd, ac, cs.length, cc, at', nt, ct⟩) :: l)) (fun cont => ?_) (fun _ => ?_)
      · generalize decide (cur = tid ∧ tid ≠ 0) = here at *
        cases here with
        | false =>
          rw [hcb] at cont
          refine eh_take 0 (held (.cons 0 rfl (.cons 1 rfl (.cons (i + 2) hi .nil)))) rfl (by kernel_rfl) (by kernel_rfl) (by kernel_rfl) rfl rfl rfl rfl ?_
          refine eh_take 1 (held (.cons 0 rfl (.cons 1 rfl (.cons (i + 2) hi .nil)))) rfl (by kernel_rfl) (by kernel_rfl) (by kernel_rfl) rfl rfl rfl rfl ?_
          refine eh_skip 2 (held (.cons 0 rfl (.cons 1 rfl (.cons (i + 2) hi .nil)))) rfl (by kernel_rfl) (by kernel_rfl) (by kernel_rfl) rfl rfl rfl ?_
          refine eh_skip 3 (held (.cons 0 rfl (.cons 1 rfl (.cons (i + 2) hi .nil)))) rfl (by kernel_rfl) (by kernel_rfl) (by kernel_rfl) rfl rfl rfl ?_
          refine eh_skip 4 (held (.cons 0 rfl (.cons 1 rfl (.cons (i + 2) hi .nil)))) rfl (by kernel_rfl) (by kernel_rfl) (by kernel_rfl) rfl rfl rfl ?_
          refine eh_skip 5 (held (.cons 0 rfl (.cons 1 rfl (.cons (i + 2) hi .nil)))) rfl (by kernel_rfl) (by kernel_rfl) (by kernel_rfl) rfl rfl rfl ?_
          refine eh_skip 6 (held (.cons 0 rfl (.cons 1 rfl (.cons (i + 2) hi .nil)))) rfl (by kernel_rfl) (by kernel_rfl) (by kernel_rfl) rfl rfl rfl ?_
          refine eh_skip 7 (held (.cons 0 rfl (.cons 1 rfl (.cons (i + 2) hi .nil)))) rfl (by kernel_rfl) (by kernel_rfl) (by kernel_rfl) rfl rfl rfl ?_
          refine eh_skip 8 (held (.cons 0 rfl (.cons 1 rfl (.cons (i + 2) hi .nil)))) rfl (by kernel_rfl) (by kernel_rfl) (by kernel_rfl) rfl rfl rfl ?_
          refine eh_skip 9 (held (.cons 0 rfl (.cons 1 rfl (.cons (i + 2) hi .nil)))) rfl (by kernel_rfl) (by kernel_rfl) (by kernel_rfl) rfl rfl rfl ?_
          refine eh_skip 10 (held (.cons 0 rfl (.cons 1 rfl (.cons (i + 2) hi .nil)))) rfl (by kernel_rfl) (by kernel_rfl) (by kernel_rfl) rfl rfl rfl ?_
          refine eh_skip 11 (held (.cons 0 rfl (.cons 1 rfl (.cons (i + 2) hi .nil)))) rfl (by kernel_rfl) (by kernel_rfl) (by kernel_rfl) rfl rfl rfl ?_
          refine eh_skip 12 (held (.cons 0 rfl (.cons 1 rfl (.cons (i + 2) hi .nil)))) rfl (by kernel_rfl) (by kernel_rfl) (by kernel_rfl) rfl rfl rfl ?_
          refine eh_skip 13 (held (.cons 0 rfl (.cons 1 rfl (.cons (i + 2) hi .nil)))) rfl (by kernel_rfl) (by kernel_rfl) (by kernel_rfl) rfl rfl rfl ?_
          refine eh_skip 14 (held (.cons 0 rfl (.cons 1 rfl (.cons (i + 2) hi .nil)))) rfl (by kernel_rfl) (by kernel_rfl) (by kernel_rfl) rfl rfl rfl ?_
          refine eh_skip 15 (held (.cons 0 rfl (.cons 1 rfl (.cons (i + 2) hi .nil)))) rfl (by kernel_rfl) (by kernel_rfl) (by kernel_rfl) rfl rfl rfl ?_
          refine eh_take 16 (held (.cons 0 rfl (.cons 1 rfl (.cons (i + 2) hi .nil)))) rfl (by kernel_rfl) (by kernel_rfl) (by kernel_rfl) rfl rfl rfl rfl ?_
          exact eh_done (by kernel_rfl) (eq_le (cont ()) (le_of _ _ rfl) fun w hw => hw)
        | true =>
          refine eh_take 0 (held (.cons 0 rfl (.cons 1 rfl (.cons (i + 2) hi .nil)))) rfl (by kernel_rfl) (by kernel_rfl) (by kernel_rfl) rfl rfl rfl rfl ?_
          refine eh_take 1 (held (.cons 0 rfl (.cons 1 rfl (.cons (i + 2) hi .nil)))) rfl (by kernel_rfl) (by kernel_rfl) (by kernel_rfl) rfl rfl rfl rfl ?_
          refine eh_take 2 (held (.cons 0 rfl (.cons 1 rfl (.cons (i + 2) hi .nil)))) rfl (by kernel_rfl) (by kernel_rfl) (by kernel_rfl) rfl rfl rfl rfl ?_
          refine eh_load 3 (held (.cons 0 rfl (.cons 1 rfl (.cons (i + 2) hi .nil)))) rfl (by kernel_rfl) (by kernel_rfl) (by kernel_rfl) rfl rfl rfl (er_ld 1 rfl rfl rfl rfl rfl rfl) ?_
          refine eh_take 4 (held (.cons 0 rfl (.cons 1 rfl (.cons (i + 2) hi .nil)))) rfl (by kernel_rfl) (by kernel_rfl) (by kernel_rfl) rfl rfl rfl rfl ?_
          refine eh_load 5 (held (.cons 0 rfl (.cons 1 rfl (.cons (i + 2) hi .nil)))) rfl (by kernel_rfl) (by kernel_rfl) (by kernel_rfl) rfl rfl rfl (er_idxv rfl rfl rfl rfl rfl rfl haddr ⟨by omega, hlt⟩) ?_
          refine eh_take 6 (held (.cons 0 rfl (.cons 1 rfl (.cons (i + 2) hi .nil)))) rfl (by kernel_rfl) (by kernel_rfl) (by kernel_rfl) rfl rfl rfl rfl ?_
          refine eh_load 7 (held (.cons 0 rfl (.cons 1 rfl (.cons (i + 2) hi .nil)))) rfl (by kernel_rfl) (by kernel_rfl) (by kernel_rfl) rfl rfl rfl (er_ldv 2 (q := k * 3 + 0) (v := int num) rfl (vaddr ac k 0 3) rfl rfl rfl hV (hg 0 (by decide))) ?_
          refine eh_take 8 (held (.cons 0 rfl (.cons 1 rfl (.cons (i + 2) hi .nil)))) rfl (by kernel_rfl) (by kernel_rfl) (by kernel_rfl) rfl rfl rfl rfl ?_
          refine eh_load 9 (held (.cons 0 rfl (.cons 1 rfl (.cons (i + 2) hi .nil)))) rfl (by kernel_rfl) (by kernel_rfl) (by kernel_rfl) rfl rfl rfl (er_ld 0 rfl rfl rfl rfl rfl rfl) ?_
          refine eh_take 10 (held (.cons 0 rfl (.cons 1 rfl (.cons (i + 2) hi .nil)))) rfl (by kernel_rfl) (by kernel_rfl) (by kernel_rfl) rfl rfl rfl rfl ?_
          refine eh_take 11 (held (.cons 0 rfl (.cons 1 rfl (.cons (i + 2) hi .nil)))) rfl (by kernel_rfl) (by kernel_rfl) (by kernel_rfl) rfl rfl rfl rfl ?_
          by_cases h2 : num = core
          · refine eh_val 56 (u := .bool false) rfl (by simp [h2]) ?_
            refine eh_take 12 (held (.cons 0 rfl (.cons 1 rfl (.cons (i + 2) hi .nil)))) rfl (by kernel_rfl) (by kernel_rfl) (by kernel_rfl) rfl rfl rfl rfl ?_
            refine eh_load 13 (held (.cons 0 rfl (.cons 1 rfl (.cons (i + 2) hi .nil)))) rfl (by kernel_rfl) (by kernel_rfl) (by kernel_rfl) rfl rfl rfl (er_ld 0 rfl rfl rfl rfl rfl rfl) ?_
            refine eh_take 14 (held (.cons 0 rfl (.cons 1 rfl (.cons (i + 2) hi .nil)))) rfl (by kernel_rfl) (by kernel_rfl) (by kernel_rfl) rfl rfl rfl rfl ?_
            refine eh_take 15 (held (.cons 0 rfl (.cons 1 rfl (.cons (i + 2) hi .nil)))) rfl (by kernel_rfl) (by kernel_rfl) (by kernel_rfl) rfl rfl rfl rfl ?_
            refine eh_take 16 (held (.cons 0 rfl (.cons 1 rfl (.cons (i + 2) hi .nil)))) rfl (by kernel_rfl) (by kernel_rfl) (by kernel_rfl) rfl rfl rfl rfl ?_
            refine eh_done (by kernel_rfl) (eq_le (cont ()) (le_cons rfl (le_cons rfl (le_cons rfl (le_cons rfl (le_cons rfl (le_cons ?_ (le_nil _))))))) fun w hw => hw)
            show some _ = some _
            rw [hcb]; simp [h2]
          · refine eh_val 56 (u := .bool true) rfl (by simp [h2]) ?_
            refine eh_skip 12 (held (.cons 0 rfl (.cons 1 rfl (.cons (i + 2) hi .nil)))) rfl (by kernel_rfl) (by kernel_rfl) (by kernel_rfl) rfl rfl rfl ?_
            refine eh_skip 13 (held (.cons 0 rfl (.cons 1 rfl (.cons (i + 2) hi .nil)))) rfl (by kernel_rfl) (by kernel_rfl) (by kernel_rfl) rfl rfl rfl ?_
            refine eh_skip 14 (held (.cons 0 rfl (.cons 1 rfl (.cons (i + 2) hi .nil)))) rfl (by kernel_rfl) (by kernel_rfl) (by kernel_rfl) rfl rfl rfl ?_
            refine eh_take 15 (held (.cons 0 rfl (.cons 1 rfl (.cons (i + 2) hi .nil)))) rfl (by kernel_rfl) (by kernel_rfl) (by kernel_rfl) rfl rfl rfl rfl ?_
            refine eh_take 16 (held (.cons 0 rfl (.cons 1 rfl (.cons (i + 2) hi .nil)))) rfl (by kernel_rfl) (by kernel_rfl) (by kernel_rfl) rfl rfl rfl rfl ?_
            refine eh_done (by kernel_rfl) (eq_le (cont ()) (le_cons rfl (le_cons rfl (le_cons rfl (le_cons rfl (le_cons rfl (le_cons ?_ (le_nil _))))))) fun w hw => hw)
            show some _ = some _
            rw [hcb]; simp [h2]
      generalize curBad ⟨num, cur, lane, la, lcap⟩ ⟨tid, dom, mask, awake, running, core, tag, left, slice⟩ = cb at *
      cases cb with
      | true =>
        (repeat (first | refine el_pure rfl rfl rfl rfl ?_ | refine ej_seq ?_ | refine ej_region ?_ | refine el_nil ?_ | refine eq_seq ?_ | refine eq_calm ?_ | refine ej_true rfl ?_ | refine ej_false rfl ?_ | refine el_skip rfl rfl rfl ?_ | refine ej_ret ?_ | refine ej_skip ?_ | refine ej_exit ?_ | refine ej_block ?_ | refine eq_seq_ret ?_ | refine eq_seq_exit ?_ | refine eq_block ?_ | refine eq_block_exit ?_ | refine eq_block_ret ?_ | refine eq_block_exit_ne rfl ?_ | refine eq_back_ret ?_ | refine eq_back_exit ?_))
        refine eq_rett rfl fun w hw => ⟨?_, hw.drop 2⟩
        rw [hpl, hnot hok]; rfl
      | false =>
        rw [Bool.not_false, Bool.true_and] at hok
        (repeat (first | refine el_pure rfl rfl rfl rfl ?_ | refine ej_seq ?_ | refine ej_region ?_ | refine el_nil ?_ | refine eq_seq ?_ | refine eq_calm ?_ | refine ej_true rfl ?_ | refine ej_false rfl ?_ | refine el_skip rfl rfl rfl ?_ | refine ej_ret ?_ | refine ej_skip ?_ | refine ej_exit ?_ | refine ej_block ?_ | refine eq_seq_ret ?_ | refine eq_seq_exit ?_ | refine eq_block ?_ | refine eq_block_exit ?_ | refine eq_block_ret ?_ | refine eq_block_exit_ne rfl ?_ | refine eq_back_ret ?_ | refine eq_back_exit ?_))
        refine el_cons rfl (eo_ld 1 rfl rfl rfl rfl rfl rfl rfl rfl ?_)
        (repeat (first | refine el_pure rfl rfl rfl rfl ?_ | refine ej_seq ?_ | refine ej_region ?_ | refine el_nil ?_ | refine eq_seq ?_ | refine eq_calm ?_ | refine ej_true rfl ?_ | refine ej_false rfl ?_ | refine el_skip rfl rfl rfl ?_ | refine ej_ret ?_ | refine ej_skip ?_ | refine ej_exit ?_ | refine ej_block ?_ | refine eq_seq_ret ?_ | refine eq_seq_exit ?_ | refine eq_block ?_ | refine eq_block_exit ?_ | refine eq_block_ret ?_ | refine eq_block_exit_ne rfl ?_ | refine eq_back_ret ?_ | refine eq_back_exit ?_))
        refine el_cons rfl (eo_idxv rfl rfl rfl rfl rfl rfl rfl rfl rfl (hV.one (i := i + 2) hi) ⟨by omega, hlt⟩ ?_)
        (repeat (first | refine el_pure rfl rfl rfl rfl ?_ | refine ej_seq ?_ | refine ej_region ?_ | refine el_nil ?_ | refine eq_seq ?_ | refine eq_calm ?_ | refine ej_true rfl ?_ | refine ej_false rfl ?_ | refine el_skip rfl rfl rfl ?_ | refine ej_ret ?_ | refine ej_skip ?_ | refine ej_exit ?_ | refine ej_block ?_ | refine eq_seq_ret ?_ | refine eq_seq_exit ?_ | refine eq_block ?_ | refine eq_block_exit ?_ | refine eq_block_ret ?_ | refine eq_block_exit_ne rfl ?_ | refine eq_back_ret ?_ | refine eq_back_exit ?_))
        refine el_cons rfl (eo_ldv (k * 3 + 2) (v := .slice la lane.length lcap) rfl rfl rfl (vaddr ac k 2 3) rfl rfl (hV.one (i := i + 2) hi) (hg 2 (by decide)) ?_)
        (repeat (first | refine el_pure rfl rfl rfl rfl ?_ | refine ej_seq ?_ | refine ej_region ?_ | refine el_nil ?_ | refine eq_seq ?_ | refine eq_calm ?_ | refine ej_true rfl ?_ | refine ej_false rfl ?_ | refine el_skip rfl rfl rfl ?_ | refine ej_ret ?_ | refine ej_skip ?_ | refine ej_exit ?_ | refine ej_block ?_ | refine eq_seq_ret ?_ | refine eq_seq_exit ?_ | refine eq_block ?_ | refine eq_block_exit ?_ | refine eq_block_ret ?_ | refine eq_block_exit_ne rfl ?_ | refine eq_back_ret ?_ | refine eq_back_exit ?_ | refine el_cons rfl (eo_lenv rfl rfl rfl rfl rfl rfl ?_) | refine el_cons rfl (eo_arith rfl rfl rfl rfl rfl rfl ⟨by omega, by omega⟩ ?_)))
        refine ej_loopP (fun j : Nat => j ≤ lane.length ∧ (lane.take j).all (fun x => !laneBad ⟨num, cur, lane, la, lcap⟩ ⟨tid, dom, mask, awake, running, core, tag, left, slice⟩ x) = true) (fun j => [(2, ptr b2), (3, ptr b3), (5, int k), (27, int cs.length), (28, int k), (68, int lane.length), (69, int j)]) (fun _ => S w0 (cells b3 T_ref21_T (Th.doc ⟨tid, dom, mask, awake, running, core, tag, left, slice⟩) :: cells b2 T_ref21_V (Hd.cells ⟨q, ad, ds.length, cd, ac, cs.length, cc, at', nt, ct⟩) :: l)) (fun j => lane.length - j) 0 ⟨Nat.zero_le _, by simp⟩ (le_of _ _ rfl) (fun w hw => hw) ?_
        rintro j ⟨hj, hall2⟩
        (repeat (first | refine el_pure rfl rfl rfl rfl ?_ | refine ej_seq ?_ | refine ej_region ?_ | refine el_nil ?_ | refine eq_seq ?_ | refine eq_calm ?_ | refine ej_true rfl ?_ | refine ej_false rfl ?_ | refine el_skip rfl rfl rfl ?_ | refine ej_ret ?_ | refine ej_skip ?_ | refine ej_exit ?_ | refine ej_block ?_ | refine eq_seq_ret ?_ | refine eq_seq_exit ?_ | refine eq_block ?_ | refine eq_block_exit ?_ | refine eq_block_ret ?_ | refine eq_block_exit_ne rfl ?_ | refine eq_back_ret ?_ | refine eq_back_exit ?_))
        refine ej_dec rfl (fun hlt2 => ?_) (fun hlt2 => ?_)
        · have hlt3 : j < lane.length := by omega
          have hx3 : lane[j]? = some lane[j] := by simp [hlt3]
          have hi3 : (ints lane)[j]? = some (int lane[j]) := by simp [hlt3]
          have hsn3 := all_snoc hx3 (fun x => !laneBad ⟨num, cur, lane, la, lcap⟩ ⟨tid, dom, mask, awake, running, core, tag, left, slice⟩ x)
          have hnot3 := all_not hx3 (fun x => !laneBad ⟨num, cur, lane, la, lcap⟩ ⟨tid, dom, mask, awake, running, core, tag, left, slice⟩ x)
          generalize lane[j] = y at *
          have hlb : laneBad ⟨num, cur, lane, la, lcap⟩ ⟨tid, dom, mask, awake, running, core, tag, left, slice⟩ y = (decide (y = tid) && !(decide (num = core) && !running)) := rfl
          (repeat (first | refine el_pure rfl rfl rfl rfl ?_ | refine ej_seq ?_ | refine ej_region ?_ | refine el_nil ?_ | refine eq_seq ?_ | refine eq_calm ?_ | refine ej_true rfl ?_ | refine ej_false rfl ?_ | refine el_skip rfl rfl rfl ?_ | refine ej_ret ?_ | refine ej_skip ?_ | refine ej_exit ?_ | refine ej_block ?_ | refine eq_seq_ret ?_ | refine eq_seq_exit ?_ | refine eq_block ?_ | refine eq_block_exit ?_ | refine eq_block_ret ?_ | refine eq_block_exit_ne rfl ?_ | refine eq_back_ret ?_ | refine eq_back_exit ?_))
          refine ej_know ((hlane.one (i := i + 2) hi).know) fun hkl => ?_
          have haddr2 := hkl.2 (by rw [List.length_map]; omega)
          refine ej_held [cells b3 T_ref21_T (Th.doc ⟨tid, dom, mask, awake, running, core, tag, left, slice⟩), cells b2 T_ref21_V (Hd.cells ⟨q, ad, ds.length, cd, ac, cs.length, cc, at', nt, ct⟩), p] ?_
          refine eh_cont (fun _ : Unit => [(2, ptr b2), (3, ptr b3), (5, int k), (27, int cs.length), (28, int k), (68, int lane.length), (69, int j), (98, .bool (laneBad ⟨num, cur, lane, la, lcap⟩ ⟨tid, dom, mask, awake, running, core, tag, left, slice⟩ y))]) (fun _ => S w0 (cells b3 T_ref21_T (Th.doc ⟨tid, dom, mask, awake, running, core, tag, left, slice⟩) :: cells b2 T_ref21_V (Hd.cells ⟨q, ad, ds.length, cd, ac, cs.length, cc, at', nt, ct⟩) :: l)) (fun cont => ?_) (fun _ => ?_)
          · skip
            refine eh_take 0 (held (.cons 0 rfl (.cons 1 rfl (.cons (i + 2) hi .nil)))) rfl (by kernel_rfl) (by kernel_rfl) (by kernel_rfl) rfl rfl rfl rfl ?_
            refine eh_load 1 (held (.cons 0 rfl (.cons 1 rfl (.cons (i + 2) hi .nil)))) rfl (by kernel_rfl) (by kernel_rfl) (by kernel_rfl) rfl rfl rfl (er_ld 1 rfl rfl rfl rfl rfl rfl) ?_
            refine eh_take 2 (held (.cons 0 rfl (.cons 1 rfl (.cons (i + 2) hi .nil)))) rfl (by kernel_rfl) (by kernel_rfl) (by kernel_rfl) rfl rfl rfl rfl ?_
            refine eh_load 3 (held (.cons 0 rfl (.cons 1 rfl (.cons (i + 2) hi .nil)))) rfl (by kernel_rfl) (by kernel_rfl) (by kernel_rfl) rfl rfl rfl (er_idxv rfl rfl rfl rfl rfl rfl haddr ⟨by omega, hlt⟩) ?_
            refine eh_take 4 (held (.cons 0 rfl (.cons 1 rfl (.cons (i + 2) hi .nil)))) rfl (by kernel_rfl) (by kernel_rfl) (by kernel_rfl) rfl rfl rfl rfl ?_
            refine eh_load 5 (held (.cons 0 rfl (.cons 1 rfl (.cons (i + 2) hi .nil)))) rfl (by kernel_rfl) (by kernel_rfl) (by kernel_rfl) rfl rfl rfl (er_ldv 2 (q := k * 3 + 2) (v := .slice la lane.length lcap) rfl (vaddr ac k 2 3) rfl rfl rfl hV (hg 2 (by decide))) ?_
            refine eh_take 6 (held (.cons 0 rfl (.cons 1 rfl (.cons (i + 2) hi .nil)))) rfl (by kernel_rfl) (by kernel_rfl) (by kernel_rfl) rfl rfl rfl rfl ?_
            refine eh_load 7 (held (.cons 0 rfl (.cons 1 rfl (.cons (i + 2) hi .nil)))) rfl (by kernel_rfl) (by kernel_rfl) (by kernel_rfl) rfl rfl rfl (er_idxv rfl rfl rfl rfl rfl rfl haddr2 ⟨by omega, hlt2⟩) ?_
            refine eh_load 8 (held (.cons 0 rfl (.cons 1 rfl (.cons (i + 2) hi .nil)))) rfl (by kernel_rfl) (by kernel_rfl) (by kernel_rfl) rfl rfl rfl (er_ldv 2 (q := j) (v := int y) rfl (vaddr1 la j) rfl rfl rfl hlane hi3) ?_
            refine eh_take 9 (held (.cons 0 rfl (.cons 1 rfl (.cons (i + 2) hi .nil)))) rfl (by kernel_rfl) (by kernel_rfl) (by kernel_rfl) rfl rfl rfl rfl ?_
            refine eh_load 10 (held (.cons 0 rfl (.cons 1 rfl (.cons (i + 2) hi .nil)))) rfl (by kernel_rfl) (by kernel_rfl) (by kernel_rfl) rfl rfl rfl (er_ld 0 rfl rfl rfl rfl rfl rfl) ?_
            refine eh_take 11 (held (.cons 0 rfl (.cons 1 rfl (.cons (i + 2) hi .nil)))) rfl (by kernel_rfl) (by kernel_rfl) (by kernel_rfl) rfl rfl rfl rfl ?_
            refine eh_take 12 (held (.cons 0 rfl (.cons 1 rfl (.cons (i + 2) hi .nil)))) rfl (by kernel_rfl) (by kernel_rfl) (by kernel_rfl) rfl rfl rfl rfl ?_
            by_cases h1 : y = tid
            · refine eh_val 84 (u := .bool true) rfl (by rw [decide_eq_true h1]) ?_
              refine eh_take 13 (held (.cons 0 rfl (.cons 1 rfl (.cons (i + 2) hi .nil)))) rfl (by kernel_rfl) (by kernel_rfl) (by kernel_rfl) rfl rfl rfl rfl ?_
              refine eh_load 14 (held (.cons 0 rfl (.cons 1 rfl (.cons (i + 2) hi .nil)))) rfl (by kernel_rfl) (by kernel_rfl) (by kernel_rfl) rfl rfl rfl (er_ld 1 rfl rfl rfl rfl rfl rfl) ?_
              refine eh_take 15 (held (.cons 0 rfl (.cons 1 rfl (.cons (i + 2) hi .nil)))) rfl (by kernel_rfl) (by kernel_rfl) (by kernel_rfl) rfl rfl rfl rfl ?_
              refine eh_load 16 (held (.cons 0 rfl (.cons 1 rfl (.cons (i + 2) hi .nil)))) rfl (by kernel_rfl) (by kernel_rfl) (by kernel_rfl) rfl rfl rfl (er_idxv rfl rfl rfl rfl rfl rfl haddr ⟨by omega, hlt⟩) ?_
              refine eh_take 17 (held (.cons 0 rfl (.cons 1 rfl (.cons (i + 2) hi .nil)))) rfl (by kernel_rfl) (by kernel_rfl) (by kernel_rfl) rfl rfl rfl rfl ?_
              refine eh_load 18 (held (.cons 0 rfl (.cons 1 rfl (.cons (i + 2) hi .nil)))) rfl (by kernel_rfl) (by kernel_rfl) (by kernel_rfl) rfl rfl rfl (er_ldv 2 (q := k * 3 + 0) (v := int num) rfl (vaddr ac k 0 3) rfl rfl rfl hV (hg 0 (by decide))) ?_
              refine eh_take 19 (held (.cons 0 rfl (.cons 1 rfl (.cons (i + 2) hi .nil)))) rfl (by kernel_rfl) (by kernel_rfl) (by kernel_rfl) rfl rfl rfl rfl ?_
              refine eh_load 20 (held (.cons 0 rfl (.cons 1 rfl (.cons (i + 2) hi .nil)))) rfl (by kernel_rfl) (by kernel_rfl) (by kernel_rfl) rfl rfl rfl (er_ld 0 rfl rfl rfl rfl rfl rfl) ?_
              refine eh_take 21 (held (.cons 0 rfl (.cons 1 rfl (.cons (i + 2) hi .nil)))) rfl (by kernel_rfl) (by kernel_rfl) (by kernel_rfl) rfl rfl rfl rfl ?_
              refine eh_take 22 (held (.cons 0 rfl (.cons 1 rfl (.cons (i + 2) hi .nil)))) rfl (by kernel_rfl) (by kernel_rfl) (by kernel_rfl) rfl rfl rfl rfl ?_
              by_cases h2 : num = core
              · refine eh_val 94 (u := .bool false) rfl (by simp [h2]) ?_
                refine eh_take 23 (held (.cons 0 rfl (.cons 1 rfl (.cons (i + 2) hi .nil)))) rfl (by kernel_rfl) (by kernel_rfl) (by kernel_rfl) rfl rfl rfl rfl ?_
                refine eh_load 24 (held (.cons 0 rfl (.cons 1 rfl (.cons (i + 2) hi .nil)))) rfl (by kernel_rfl) (by kernel_rfl) (by kernel_rfl) rfl rfl rfl (er_ld 0 rfl rfl rfl rfl rfl rfl) ?_
                refine eh_take 25 (held (.cons 0 rfl (.cons 1 rfl (.cons (i + 2) hi .nil)))) rfl (by kernel_rfl) (by kernel_rfl) (by kernel_rfl) rfl rfl rfl rfl ?_
                refine eh_take 26 (held (.cons 0 rfl (.cons 1 rfl (.cons (i + 2) hi .nil)))) rfl (by kernel_rfl) (by kernel_rfl) (by kernel_rfl) rfl rfl rfl rfl ?_
                refine eh_done (by kernel_rfl) (eq_le (cont ()) (le_cons rfl (le_cons rfl (le_cons rfl (le_cons rfl (le_cons rfl (le_cons rfl (le_cons rfl (le_cons ?_ (le_nil _))))))))) fun w hw => hw)
                show some _ = some _
                rw [hlb]; simp [h1, h2]
              · refine eh_val 94 (u := .bool true) rfl (by simp [h2]) ?_
                refine eh_skip 23 (held (.cons 0 rfl (.cons 1 rfl (.cons (i + 2) hi .nil)))) rfl (by kernel_rfl) (by kernel_rfl) (by kernel_rfl) rfl rfl rfl ?_
                refine eh_skip 24 (held (.cons 0 rfl (.cons 1 rfl (.cons (i + 2) hi .nil)))) rfl (by kernel_rfl) (by kernel_rfl) (by kernel_rfl) rfl rfl rfl ?_
                refine eh_take 25 (held (.cons 0 rfl (.cons 1 rfl (.cons (i + 2) hi .nil)))) rfl (by kernel_rfl) (by kernel_rfl) (by kernel_rfl) rfl rfl rfl rfl ?_
                refine eh_take 26 (held (.cons 0 rfl (.cons 1 rfl (.cons (i + 2) hi .nil)))) rfl (by kernel_rfl) (by kernel_rfl) (by kernel_rfl) rfl rfl rfl rfl ?_
                refine eh_done (by kernel_rfl) (eq_le (cont ()) (le_cons rfl (le_cons rfl (le_cons rfl (le_cons rfl (le_cons rfl (le_cons rfl (le_cons rfl (le_cons ?_ (le_nil _))))))))) fun w hw => hw)
                show some _ = some _
                rw [hlb]; simp [h1, h2]
            · refine eh_val 84 (u := .bool false) rfl (by rw [decide_eq_false h1]) ?_
              refine eh_skip 13 (held (.cons 0 rfl (.cons 1 rfl (.cons (i + 2) hi .nil)))) rfl (by kernel_rfl) (by kernel_rfl) (by kernel_rfl) rfl rfl rfl ?_
              refine eh_skip 14 (held (.cons 0 rfl (.cons 1 rfl (.cons (i + 2) hi .nil)))) rfl (by kernel_rfl) (by kernel_rfl) (by kernel_rfl) rfl rfl rfl ?_
              refine eh_skip 15 (held (.cons 0 rfl (.cons 1 rfl (.cons (i + 2) hi .nil)))) rfl (by kernel_rfl) (by kernel_rfl) (by kernel_rfl) rfl rfl rfl ?_
              refine eh_skip 16 (held (.cons 0 rfl (.cons 1 rfl (.cons (i + 2) hi .nil)))) rfl (by kernel_rfl) (by kernel_rfl) (by kernel_rfl) rfl rfl rfl ?_
              refine eh_skip 17 (held (.cons 0 rfl (.cons 1 rfl (.cons (i + 2) hi .nil)))) rfl (by kernel_rfl) (by kernel_rfl) (by kernel_rfl) rfl rfl rfl ?_
              refine eh_skip 18 (held (.cons 0 rfl (.cons 1 rfl (.cons (i + 2) hi .nil)))) rfl (by kernel_rfl) (by kernel_rfl) (by kernel_rfl) rfl rfl rfl ?_
              refine eh_skip 19 (held (.cons 0 rfl (.cons 1 rfl (.cons (i + 2) hi .nil)))) rfl (by kernel_rfl) (by kernel_rfl) (by kernel_rfl) rfl rfl rfl ?_
              refine eh_skip 20 (held (.cons 0 rfl (.cons 1 rfl (.cons (i + 2) hi .nil)))) rfl (by kernel_rfl) (by kernel_rfl) (by kernel_rfl) rfl rfl rfl ?_
              refine eh_skip 21 (held (.cons 0 rfl (.cons 1 rfl (.cons (i + 2) hi .nil)))) rfl (by kernel_rfl) (by kernel_rfl) (by kernel_rfl) rfl rfl rfl ?_
              refine eh_skip 22 (held (.cons 0 rfl (.cons 1 rfl (.cons (i + 2) hi .nil)))) rfl (by kernel_rfl) (by kernel_rfl) (by kernel_rfl) rfl rfl rfl ?_
              refine eh_skip 23 (held (.cons 0 rfl (.cons 1 rfl (.cons (i + 2) hi .nil)))) rfl (by kernel_rfl) (by kernel_rfl) (by kernel_rfl) rfl rfl rfl ?_
              refine eh_skip 24 (held (.cons 0 rfl (.cons 1 rfl (.cons (i + 2) hi .nil)))) rfl (by kernel_rfl) (by kernel_rfl) (by kernel_rfl) rfl rfl rfl ?_
              refine eh_skip 25 (held (.cons 0 rfl (.cons 1 rfl (.cons (i + 2) hi .nil)))) rfl (by kernel_rfl) (by kernel_rfl) (by kernel_rfl) rfl rfl rfl ?_
              refine eh_take 26 (held (.cons 0 rfl (.cons 1 rfl (.cons (i + 2) hi .nil)))) rfl (by kernel_rfl) (by kernel_rfl) (by kernel_rfl) rfl rfl rfl rfl ?_
              refine eh_done (by kernel_rfl) (eq_le (cont ()) (le_cons rfl (le_cons rfl (le_cons rfl (le_cons rfl (le_cons rfl (le_cons rfl (le_cons rfl (le_cons ?_ (le_nil _))))))))) fun w hw => hw)
              show some _ = some _
              rw [hlb]; simp [h1]
          generalize laneBad ⟨num, cur, lane, la, lcap⟩ ⟨tid, dom, mask, awake, running, core, tag, left, slice⟩ y = lb at *
          cases lb with
          | true =>
            (repeat (first | refine el_pure rfl rfl rfl rfl ?_ | refine ej_seq ?_ | refine ej_region ?_ | refine el_nil ?_ | refine eq_seq ?_ | refine eq_calm ?_ | refine ej_true rfl ?_ | refine ej_false rfl ?_ | refine el_skip rfl rfl rfl ?_ | refine ej_ret ?_ | refine ej_skip ?_ | refine ej_exit ?_ | refine ej_block ?_ | refine eq_seq_ret ?_ | refine eq_seq_exit ?_ | refine eq_block ?_ | refine eq_block_exit ?_ | refine eq_block_ret ?_ | refine eq_block_exit_ne rfl ?_ | refine eq_back_ret ?_ | refine eq_back_exit ?_))
            refine eq_rett rfl fun w hw => ⟨?_, hw.drop 2⟩
            rw [hpl, hnot (by rw [hok]; exact hnot3 rfl)]; rfl
          | false =>
            (repeat (first | refine el_pure rfl rfl rfl rfl ?_ | refine ej_seq ?_ | refine ej_region ?_ | refine el_nil ?_ | refine eq_seq ?_ | refine eq_calm ?_ | refine ej_true rfl ?_ | refine ej_false rfl ?_ | refine el_skip rfl rfl rfl ?_ | refine ej_ret ?_ | refine ej_skip ?_ | refine ej_exit ?_ | refine ej_block ?_ | refine eq_seq_ret ?_ | refine eq_seq_exit ?_ | refine eq_block ?_ | refine eq_block_exit ?_ | refine eq_block_ret ?_ | refine eq_block_exit_ne rfl ?_ | refine eq_back_ret ?_ | refine eq_back_exit ?_ | refine el_cons rfl (eo_lenv rfl rfl rfl rfl rfl rfl ?_) | refine el_cons rfl (eo_arith rfl rfl rfl rfl rfl rfl ⟨by omega, by omega⟩ ?_)))
            exact eq_backP (j + 1) ⟨by omega, by rw [hsn3, hall2]; rfl⟩ (by omega) (le_of _ _ rfl) fun w hw => hw
        · obtain rfl : j = lane.length := by omega
          rw [List.take_length] at hall2
          (repeat (first | refine el_pure rfl rfl rfl rfl ?_ | refine ej_seq ?_ | refine ej_region ?_ | refine el_nil ?_ | refine eq_seq ?_ | refine eq_calm ?_ | refine ej_true rfl ?_ | refine ej_false rfl ?_ | refine el_skip rfl rfl rfl ?_ | refine ej_ret ?_ | refine ej_skip ?_ | refine ej_exit ?_ | refine ej_block ?_ | refine eq_seq_ret ?_ | refine eq_seq_exit ?_ | refine eq_block ?_ | refine eq_block_exit ?_ | refine eq_block_ret ?_ | refine eq_block_exit_ne rfl ?_ | refine eq_back_ret ?_ | refine eq_back_exit ?_ | refine el_cons rfl (eo_lenv rfl rfl rfl rfl rfl rfl ?_) | refine el_cons rfl (eo_arith rfl rfl rfl rfl rfl rfl ⟨by omega, by omega⟩ ?_)))
          exact eq_backP (k + 1) ⟨by omega, by rw [hsn, hall, hok, hall2]; rfl⟩ (by omega) (le_of _ _ rfl) fun w hw => hw
    · obtain rfl : k = cs.length := by omega
      rw [List.take_length] at hall
      (repeat (first | refine el_pure rfl rfl rfl rfl ?_ | refine ej_seq ?_ | refine ej_region ?_ | refine el_nil ?_ | refine eq_seq ?_ | refine eq_calm ?_ | refine ej_true rfl ?_ | refine ej_false rfl ?_ | refine el_skip rfl rfl rfl ?_ | refine ej_ret ?_ | refine ej_skip ?_ | refine ej_exit ?_ | refine ej_block ?_ | refine eq_seq_ret ?_ | refine eq_seq_exit ?_ | refine eq_block ?_ | refine eq_block_exit ?_ | refine eq_block_ret ?_ | refine eq_block_exit_ne rfl ?_ | refine eq_back_ret ?_ | refine eq_back_exit ?_))
      refine eq_rett rfl fun w hw => ⟨?_, hw.drop 2⟩
      rw [hpl, hall]; rfl

end Go.Proofs.Ytkpbpjnabbfdiaa
