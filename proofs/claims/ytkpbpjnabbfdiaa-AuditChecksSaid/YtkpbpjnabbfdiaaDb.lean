/- The document's view, as the program's. -/
import Derived.Test.YtkpbpjnabbfdiaaDa
namespace Go.Proofs.Ytkpbpjnabbfdiaa
open Go Go.SE

variable {w0 w : World} {l : List HP} {i : Nat} {r : Option (Nat × Nat)} {p : HP}

def cpy (c : Cr) (r : Option (Nat × Nat)) : Cr := ⟨c.num, c.cur, c.lane, r.map fun p => ⟨p.1, 0, none⟩, (r.map (·.2)).getD 0⟩
abbrev QC := Cr × Option (Nat × Nat)
abbrev cpyQ (q : QC) : Cr := cpy q.1 q.2
abbrev laneR (q : QC) : HP := rowC q.2 T_int 1 (ints q.1.lane) q.1.lane.length
def lanesO (qs : List QC) : HP := stars (qs.map laneR)
theorem View.of_stars {ps : List HP} {sz n c : Nat} {a : Option Addr} {xs : List Value} (h : View w0 ps sz a xs n c) : View w0 [stars ps] sz a xs n c :=
  ⟨h.len, fun w hw => h.ok w (by have := S.spread hw; rwa [List.append_nil] at this)⟩
theorem lane_view (qs : List QC) (j : Nat) (q : QC) (hj : qs[j]? = some q) : View w0 [lanesO qs] 1 (cpyQ q).a (ints q.1.lane) q.1.lane.length (cpyQ q).cap :=
  View.of_stars (View.of_row (i := j) (T := T_int) (by rw [List.getElem?_map, hj]; rfl) (by simp))
theorem lanes_snoc (qs : List QC) (q : QC) (h : S w0 (lanesO qs :: laneR q :: l) w) : S w0 (lanesO (qs ++ [q]) :: l) w :=
  h.join2 fun hh hst => by
    rw [lanesO, List.map_append]
    exact stars_snoc _ _ _ hst

abbrev Hd' (q : Int) (rd : Option (Nat × Nat)) (nd : Nat) (rc : Option (Nat × Nat)) (nc : Nat) (rt : Option (Nat × Nat)) (nt : Nat) : Hd :=
  ⟨q, rd.map fun p => ⟨p.1, 0, none⟩, nd, (rd.map (·.2)).getD 0, rc.map fun p => ⟨p.1, 0, none⟩, nc, (rc.map (·.2)).getD 0, rt.map fun p => ⟨p.1, 0, none⟩, nt, (rt.map (·.2)).getD 0⟩
set_option maxHeartbeats 12800000 in
theorem Real_any {v : Hd} {ds : List Dm} {cs : List Cr} {ts : List Th} (hi : l[i]? = some p) (hv : DoV w0 p v ds cs ts) :
    Does cx F_law21_Real [v.val] (S w0 l) fun u w => ∃ x : Hd × List QC × HP, u = x.1.val ∧ (AuV w0 x.2.2 x.1 ds (x.2.1.map cpyQ) ts ∧ x.1.q = v.q ∧ x.2.1.map (·.1) = cs) ∧ S w0 (x.2.2 :: l) w := by
  refine fn_enter (n := N_law21_Real) fn_law21_Real rfl rfl rfl ?_
  refine ej_seq (ej_region (el_cons rfl (eo_box rfl rfl rfl rfl fun b1 => ?_)))
  obtain ⟨q, ad, nd, cd, ac, nc, cc, at', nt, ct⟩ := v
  obtain rfl : nd = ds.length := hv.nd
  obtain rfl : nc = cs.length := hv.nc
  obtain rfl : nt = ts.length := hv.nt
  have hVd := hv.lies.d
  have hVc := hv.lies.c
  have hVt := hv.lies.t
  have hfew := hv.few
  have hlanes := hv.lanes
  refine el_cons rfl (eo_alloc rfl rfl rfl rfl fun b2 => ?_)
  (repeat (first | refine el_pure rfl rfl rfl rfl ?_ | refine ej_seq ?_ | refine ej_region ?_ | refine el_nil ?_ | refine eq_seq ?_ | refine eq_calm ?_ | refine ej_true rfl ?_ | refine ej_false rfl ?_ | refine el_skip rfl rfl rfl ?_ | refine ej_ret ?_ | refine ej_skip ?_ | refine ej_exit ?_ | refine ej_block ?_ | refine eq_seq_ret ?_ | refine eq_seq_exit ?_ | refine eq_block ?_ | refine eq_block_exit ?_ | refine eq_block_ret ?_ | refine eq_block_exit_ne rfl ?_ | refine eq_back_ret ?_ | refine eq_back_exit ?_))
  refine el_cons rfl (eo_ld 1 rfl rfl rfl rfl rfl rfl rfl rfl ?_)
  refine el_cons rfl (eo_build (cs := [int q, .slice none 0 0, .slice none 0 0, .slice none 0 0]) rfl rfl rfl rfl rfl rfl rfl rfl ?_)
  refine el_cons rfl (eo_alloc rfl rfl rfl rfl fun b3 => ?_)
  refine el_cons rfl (eo_stA 0 rfl rfl rfl rfl rfl rfl rfl rfl rfl ?_)
  (repeat (first | refine el_pure rfl rfl rfl rfl ?_ | refine ej_seq ?_ | refine ej_region ?_ | refine el_nil ?_ | refine eq_seq ?_ | refine eq_calm ?_ | refine ej_true rfl ?_ | refine ej_false rfl ?_ | refine el_skip rfl rfl rfl ?_ | refine ej_ret ?_ | refine ej_skip ?_ | refine ej_exit ?_ | refine ej_block ?_ | refine eq_seq_ret ?_ | refine eq_seq_exit ?_ | refine eq_block ?_ | refine eq_block_exit ?_ | refine eq_block_ret ?_ | refine eq_block_exit_ne rfl ?_ | refine eq_back_ret ?_ | refine eq_back_exit ?_))
  refine el_imp (H' := S w0 (rowC none T_audit_Domain 3 (rows Dm.cells (ds.take 0)) 0 :: cells b3 T_audit_View [int q, .slice none 0 0, .slice none 0 0, .slice none 0 0] :: cells b2 T_audit_View [int 0, .slice none 0 0, .slice none 0 0, .slice none 0 0] :: cells b1 T_ref21_V (Hd.cells ⟨q, ad, ds.length, cd, ac, cs.length, cc, at', ts.length, ct⟩) :: l)) (fun w hw => S.row_new hw) ?_
  refine el_cons rfl (eo_ld 3 rfl rfl rfl rfl rfl rfl rfl rfl ?_)
  (repeat (first | refine el_pure rfl rfl rfl rfl ?_ | refine ej_seq ?_ | refine ej_region ?_ | refine el_nil ?_ | refine eq_seq ?_ | refine eq_calm ?_ | refine ej_true rfl ?_ | refine ej_false rfl ?_ | refine el_skip rfl rfl rfl ?_ | refine ej_ret ?_ | refine ej_skip ?_ | refine ej_exit ?_ | refine ej_block ?_ | refine eq_seq_ret ?_ | refine eq_seq_exit ?_ | refine eq_block ?_ | refine eq_block_exit ?_ | refine eq_block_ret ?_ | refine eq_block_exit_ne rfl ?_ | refine eq_back_ret ?_ | refine eq_back_exit ?_ | refine el_cons rfl (eo_lenv rfl rfl rfl rfl rfl rfl ?_) | refine el_cons rfl (eo_arith rfl rfl rfl rfl rfl rfl ⟨by omega, by omega⟩ ?_)))
  refine ej_loopP (α := Nat × Option (Nat × Nat)) (fun z => z.1 ≤ ds.length) (fun z => [(1, ptr b1), (2, ptr b2), (3, ptr b3), (14, .slice ad ds.length cd), (15, int ds.length), (16, int z.1)]) (fun z => S w0 (rowC z.2 T_audit_Domain 3 (rows Dm.cells (ds.take z.1)) z.1 :: cells b3 T_audit_View [int q, sv z.2 z.1, .slice none 0 0, .slice none 0 0] :: cells b2 T_audit_View [int 0, .slice none 0 0, .slice none 0 0, .slice none 0 0] :: cells b1 T_ref21_V (Hd.cells ⟨q, ad, ds.length, cd, ac, cs.length, cc, at', ts.length, ct⟩) :: l)) (fun z => ds.length - z.1) (0, none) (Nat.zero_le _) (le_of _ _ rfl) (fun w hw => hw) ?_
  rintro ⟨k, rd⟩ hk
  have hk : k ≤ ds.length := hk
  (repeat (first | refine el_pure rfl rfl rfl rfl ?_ | refine ej_seq ?_ | refine ej_region ?_ | refine el_nil ?_ | refine eq_seq ?_ | refine eq_calm ?_ | refine ej_true rfl ?_ | refine ej_false rfl ?_ | refine el_skip rfl rfl rfl ?_ | refine ej_ret ?_ | refine ej_skip ?_ | refine ej_exit ?_ | refine ej_block ?_ | refine eq_seq_ret ?_ | refine eq_seq_exit ?_ | refine eq_block ?_ | refine eq_block_exit ?_ | refine eq_block_ret ?_ | refine eq_block_exit_ne rfl ?_ | refine eq_back_ret ?_ | refine eq_back_exit ?_))
  refine ej_dec rfl (fun hlt => ?_) (fun hlt => ?_)
  · have hlt' : k < ds.length := by omega
    have hx : ds[k]? = some ds[k] := by simp [hlt']
    have hsn : rows Dm.cells (ds.take (k + 1)) = rows Dm.cells (ds.take k) ++ ds[k].cells := by rw [take_snoc hx, rows_snoc]
    generalize ds[k] = d at *
    have hg : ∀ j, j < 3 → (rows Dm.cells ds)[k * 3 + j]? = d.cells[j]? := fun j hj => rows_get Dm.cells 3 dm3 ds k j d hx hj
    obtain ⟨dc, don, low⟩ := d
    (repeat (first | refine el_pure rfl rfl rfl rfl ?_ | refine ej_seq ?_ | refine ej_region ?_ | refine el_nil ?_ | refine eq_seq ?_ | refine eq_calm ?_ | refine ej_true rfl ?_ | refine ej_false rfl ?_ | refine el_skip rfl rfl rfl ?_ | refine ej_ret ?_ | refine ej_skip ?_ | refine ej_exit ?_ | refine ej_block ?_ | refine eq_seq_ret ?_ | refine eq_seq_exit ?_ | refine eq_block ?_ | refine eq_block_exit ?_ | refine eq_block_ret ?_ | refine eq_block_exit_ne rfl ?_ | refine eq_back_ret ?_ | refine eq_back_exit ?_))
    refine el_cons rfl (eo_idxv rfl rfl rfl rfl rfl rfl rfl rfl rfl (hVd.one (i := i + 4) hi) ⟨by omega, hlt⟩ ?_)
    refine el_cons rfl (eo_ldvA (k * 3) (cs := Dm.cells ⟨dc, don, low⟩) rfl rfl rfl (vaddr0 ad k 3) rfl rfl (hVd.one (i := i + 4) hi) rfl hg ?_)
    refine el_cons rfl (eo_alloc rfl rfl rfl rfl fun b5 => ?_)
    refine el_cons rfl (eo_stA 0 rfl rfl rfl rfl rfl rfl rfl rfl rfl ?_)
    (repeat (first | refine el_pure rfl rfl rfl rfl ?_ | refine ej_seq ?_ | refine ej_region ?_ | refine el_nil ?_ | refine eq_seq ?_ | refine eq_calm ?_ | refine ej_true rfl ?_ | refine ej_false rfl ?_ | refine el_skip rfl rfl rfl ?_ | refine ej_ret ?_ | refine ej_skip ?_ | refine ej_exit ?_ | refine ej_block ?_ | refine eq_seq_ret ?_ | refine eq_seq_exit ?_ | refine eq_block ?_ | refine eq_block_exit ?_ | refine eq_block_ret ?_ | refine eq_block_exit_ne rfl ?_ | refine eq_back_ret ?_ | refine eq_back_exit ?_))
    refine el_cons rfl (eo_ld 2 rfl rfl rfl rfl rfl rfl rfl rfl ?_)
    (repeat (first | refine el_pure rfl rfl rfl rfl ?_ | refine ej_seq ?_ | refine ej_region ?_ | refine el_nil ?_ | refine eq_seq ?_ | refine eq_calm ?_ | refine ej_true rfl ?_ | refine ej_false rfl ?_ | refine el_skip rfl rfl rfl ?_ | refine ej_ret ?_ | refine ej_skip ?_ | refine ej_exit ?_ | refine ej_block ?_ | refine eq_seq_ret ?_ | refine eq_seq_exit ?_ | refine eq_block ?_ | refine eq_block_exit ?_ | refine eq_block_ret ?_ | refine eq_block_exit_ne rfl ?_ | refine eq_back_ret ?_ | refine eq_back_exit ?_))
    refine el_cons rfl (eo_ld 0 rfl rfl rfl rfl rfl rfl rfl rfl ?_)
    (repeat (first | refine el_pure rfl rfl rfl rfl ?_ | refine ej_seq ?_ | refine ej_region ?_ | refine el_nil ?_ | refine eq_seq ?_ | refine eq_calm ?_ | refine ej_true rfl ?_ | refine ej_false rfl ?_ | refine el_skip rfl rfl rfl ?_ | refine ej_ret ?_ | refine ej_skip ?_ | refine ej_exit ?_ | refine ej_block ?_ | refine eq_seq_ret ?_ | refine eq_seq_exit ?_ | refine eq_block ?_ | refine eq_block_exit ?_ | refine eq_block_ret ?_ | refine eq_block_exit_ne rfl ?_ | refine eq_back_ret ?_ | refine eq_back_exit ?_))
    refine el_cons rfl (eo_ld 0 rfl rfl rfl rfl rfl rfl rfl rfl ?_)
    (repeat (first | refine el_pure rfl rfl rfl rfl ?_ | refine ej_seq ?_ | refine ej_region ?_ | refine el_nil ?_ | refine eq_seq ?_ | refine eq_calm ?_ | refine ej_true rfl ?_ | refine ej_false rfl ?_ | refine el_skip rfl rfl rfl ?_ | refine ej_ret ?_ | refine ej_skip ?_ | refine ej_exit ?_ | refine ej_block ?_ | refine eq_seq_ret ?_ | refine eq_seq_exit ?_ | refine eq_block ?_ | refine eq_block_exit ?_ | refine eq_block_ret ?_ | refine eq_block_exit_ne rfl ?_ | refine eq_back_ret ?_ | refine eq_back_exit ?_))
    refine el_cons rfl (eo_ld 0 rfl rfl rfl rfl rfl rfl rfl rfl ?_)
    refine el_cons rfl (eo_build (cs := Dm.cells ⟨dc, don, low⟩) rfl rfl rfl rfl rfl rfl rfl rfl ?_)
    refine el_cons rfl (eo_buildS (cs := Dm.cells ⟨dc, don, low⟩) rfl rfl rfl rfl rfl rfl rfl rfl rfl rfl fun b9 => ?_)
    refine el_cons rfl (eo_append 2 (r := rd) (xs := rows Dm.cells (ds.take k)) (n' := k) (Dm.cells ⟨dc, don, low⟩) rfl rfl rfl rfl rfl rfl rfl rfl rfl rfl rfl (fun w hw j u hu => ?_) rfl (by decide) ?_ ?_ fun rd2 => ?_)
    · rw [addr_add, Nat.zero_add]; exact hw.cell (i := 0) rfl hu
    · show (k + 1) * 24 ≤ 140737488355328; omega
    · show k + 1 ≤ 9223372036854775807; omega
    (repeat (first | refine el_pure rfl rfl rfl rfl ?_ | refine ej_seq ?_ | refine ej_region ?_ | refine el_nil ?_ | refine eq_seq ?_ | refine eq_calm ?_ | refine ej_true rfl ?_ | refine ej_false rfl ?_ | refine el_skip rfl rfl rfl ?_ | refine ej_ret ?_ | refine ej_skip ?_ | refine ej_exit ?_ | refine ej_block ?_ | refine eq_seq_ret ?_ | refine eq_seq_exit ?_ | refine eq_block ?_ | refine eq_block_exit ?_ | refine eq_block_ret ?_ | refine eq_block_exit_ne rfl ?_ | refine eq_back_ret ?_ | refine eq_back_exit ?_))
    refine el_cons rfl (eo_st 3 rfl rfl rfl rfl rfl rfl rfl rfl rfl ?_)
    (repeat (first | refine el_pure rfl rfl rfl rfl ?_ | refine ej_seq ?_ | refine ej_region ?_ | refine el_nil ?_ | refine eq_seq ?_ | refine eq_calm ?_ | refine ej_true rfl ?_ | refine ej_false rfl ?_ | refine el_skip rfl rfl rfl ?_ | refine ej_ret ?_ | refine ej_skip ?_ | refine ej_exit ?_ | refine ej_block ?_ | refine eq_seq_ret ?_ | refine eq_seq_exit ?_ | refine eq_block ?_ | refine eq_block_exit ?_ | refine eq_block_ret ?_ | refine eq_block_exit_ne rfl ?_ | refine eq_back_ret ?_ | refine eq_back_exit ?_ | refine el_cons rfl (eo_lenv rfl rfl rfl rfl rfl rfl ?_) | refine el_cons rfl (eo_arith rfl rfl rfl rfl rfl rfl ⟨by omega, by omega⟩ ?_)))
    refine eq_backP (k + 1, rd2) (by show k + 1 ≤ ds.length; omega) (by show ds.length - (k + 1) < ds.length - k; omega) (le_of _ _ rfl) fun w hw => ?_
    show S w0 (rowC rd2 T_audit_Domain 3 (rows Dm.cells (ds.take (k + 1))) (k + 1) :: _) w
    rw [hsn]; exact (hw.erase 0).erase 0
  · obtain rfl : k = ds.length := by omega
    rw [List.take_length]
    generalize hRD : rowC rd T_audit_Domain 3 (rows Dm.cells ds) ds.length = RD
    (repeat (first | refine el_pure rfl rfl rfl rfl ?_ | refine ej_seq ?_ | refine ej_region ?_ | refine el_nil ?_ | refine eq_seq ?_ | refine eq_calm ?_ | refine ej_true rfl ?_ | refine ej_false rfl ?_ | refine el_skip rfl rfl rfl ?_ | refine ej_ret ?_ | refine ej_skip ?_ | refine ej_exit ?_ | refine ej_block ?_ | refine eq_seq_ret ?_ | refine eq_seq_exit ?_ | refine eq_block ?_ | refine eq_block_exit ?_ | refine eq_block_ret ?_ | refine eq_block_exit_ne rfl ?_ | refine eq_back_ret ?_ | refine eq_back_exit ?_))
    refine el_imp (H' := S w0 (lanesO [] :: rowC none T_audit_Core 3 [] 0 :: RD :: cells b3 T_audit_View [int q, sv rd ds.length, .slice none 0 0, .slice none 0 0] :: cells b2 T_audit_View [int 0, .slice none 0 0, .slice none 0 0, .slice none 0 0] :: cells b1 T_ref21_V (Hd.cells ⟨q, ad, ds.length, cd, ac, cs.length, cc, at', ts.length, ct⟩) :: l)) (fun w hw => S.gather (ps := []) (S.row_new hw)) ?_
    refine el_cons rfl (eo_ld 5 rfl rfl rfl rfl rfl rfl rfl rfl ?_)
    (repeat (first | refine el_pure rfl rfl rfl rfl ?_ | refine ej_seq ?_ | refine ej_region ?_ | refine el_nil ?_ | refine eq_seq ?_ | refine eq_calm ?_ | refine ej_true rfl ?_ | refine ej_false rfl ?_ | refine el_skip rfl rfl rfl ?_ | refine ej_ret ?_ | refine ej_skip ?_ | refine ej_exit ?_ | refine ej_block ?_ | refine eq_seq_ret ?_ | refine eq_seq_exit ?_ | refine eq_block ?_ | refine eq_block_exit ?_ | refine eq_block_ret ?_ | refine eq_block_exit_ne rfl ?_ | refine eq_back_ret ?_ | refine eq_back_exit ?_ | refine el_cons rfl (eo_lenv rfl rfl rfl rfl rfl rfl ?_) | refine el_cons rfl (eo_arith rfl rfl rfl rfl rfl rfl ⟨by omega, by omega⟩ ?_)))
    refine ej_loopP (α := Nat × Option (Nat × Nat) × List QC) (fun z => z.1 ≤ cs.length ∧ z.2.2.map (·.1) = cs.take z.1) (fun z => [(1, ptr b1), (2, ptr b2), (3, ptr b3), (34, .slice ac cs.length cc), (35, int cs.length), (36, int z.1)]) (fun z => S w0 (lanesO z.2.2 :: rowC z.2.1 T_audit_Core 3 (rows Cr.cells (z.2.2.map cpyQ)) z.1 :: RD :: cells b3 T_audit_View [int q, sv rd ds.length, sv z.2.1 z.1, .slice none 0 0] :: cells b2 T_audit_View [int 0, .slice none 0 0, .slice none 0 0, .slice none 0 0] :: cells b1 T_ref21_V (Hd.cells ⟨q, ad, ds.length, cd, ac, cs.length, cc, at', ts.length, ct⟩) :: l)) (fun z => cs.length - z.1) (0, none, []) ⟨Nat.zero_le _, rfl⟩ (le_of _ _ rfl) (fun w hw => hw) ?_
    rintro ⟨k, rc, qs⟩ ⟨hk, hqs⟩
    have hk : k ≤ cs.length := hk
    have hqs : qs.map (·.1) = cs.take k := hqs
    (repeat (first | refine el_pure rfl rfl rfl rfl ?_ | refine ej_seq ?_ | refine ej_region ?_ | refine el_nil ?_ | refine eq_seq ?_ | refine eq_calm ?_ | refine ej_true rfl ?_ | refine ej_false rfl ?_ | refine el_skip rfl rfl rfl ?_ | refine ej_ret ?_ | refine ej_skip ?_ | refine ej_exit ?_ | refine ej_block ?_ | refine eq_seq_ret ?_ | refine eq_seq_exit ?_ | refine eq_block ?_ | refine eq_block_exit ?_ | refine eq_block_ret ?_ | refine eq_block_exit_ne rfl ?_ | refine eq_back_ret ?_ | refine eq_back_exit ?_))
    refine ej_dec rfl (fun hlt => ?_) (fun hlt => ?_)
    · have hlt' : k < cs.length := by omega
      have hx : cs[k]? = some cs[k] := by simp [hlt']
      have hmem := List.getElem_mem hlt'
      have hlane := hv.lies.lane _ hmem
      have hll := hlanes _ hmem
      have hsn := take_snoc hx
      generalize cs[k] = c at *
      have hg : ∀ j, j < 3 → (rows Cr.cells cs)[k * 3 + j]? = c.cells[j]? := fun j hj => rows_get Cr.cells 3 cr3 cs k j c hx hj
      obtain ⟨num, cur, lane, la, lcap⟩ := c
      have hlane : View w0 [p] 1 la (ints lane) lane.length lcap := hlane
      have hll : lane.length ≤ 1000 := hll
      (repeat (first | refine el_pure rfl rfl rfl rfl ?_ | refine ej_seq ?_ | refine ej_region ?_ | refine el_nil ?_ | refine eq_seq ?_ | refine eq_calm ?_ | refine ej_true rfl ?_ | refine ej_false rfl ?_ | refine el_skip rfl rfl rfl ?_ | refine ej_ret ?_ | refine ej_skip ?_ | refine ej_exit ?_ | refine ej_block ?_ | refine eq_seq_ret ?_ | refine eq_seq_exit ?_ | refine eq_block ?_ | refine eq_block_exit ?_ | refine eq_block_ret ?_ | refine eq_block_exit_ne rfl ?_ | refine eq_back_ret ?_ | refine eq_back_exit ?_))
      refine el_cons rfl (eo_idxv rfl rfl rfl rfl rfl rfl rfl rfl rfl (hVc.one (i := i + 6) hi) ⟨by omega, hlt⟩ ?_)
      refine el_cons rfl (eo_ldvA (k * 3) (cs := Cr.cells ⟨num, cur, lane, la, lcap⟩) rfl rfl rfl (vaddr0 ac k 3) rfl rfl (hVc.one (i := i + 6) hi) rfl hg ?_)
      refine el_cons rfl (eo_alloc rfl rfl rfl rfl fun b7 => ?_)
      refine el_cons rfl (eo_stA 0 rfl rfl rfl rfl rfl rfl rfl rfl rfl ?_)
      (repeat (first | refine el_pure rfl rfl rfl rfl ?_ | refine ej_seq ?_ | refine ej_region ?_ | refine el_nil ?_ | refine eq_seq ?_ | refine eq_calm ?_ | refine ej_true rfl ?_ | refine ej_false rfl ?_ | refine el_skip rfl rfl rfl ?_ | refine ej_ret ?_ | refine ej_skip ?_ | refine ej_exit ?_ | refine ej_block ?_ | refine eq_seq_ret ?_ | refine eq_seq_exit ?_ | refine eq_block ?_ | refine eq_block_exit ?_ | refine eq_block_ret ?_ | refine eq_block_exit_ne rfl ?_ | refine eq_back_ret ?_ | refine eq_back_exit ?_))
      refine ej_held [cells b7 T_ref21_C (Cr.cells ⟨num, cur, lane, la, lcap⟩)] ?_
      refine eh_cont (fun _ : Option (Nat × Nat) × Option (Nat × Nat) => [(1, ptr b1), (2, ptr b2), (3, ptr b3), (34, .slice ac cs.length cc), (35, int cs.length), (36, int k)]) (fun x => S w0 (lanesO qs :: laneR (⟨num, cur, lane, la, lcap⟩, x.1) :: rowC x.2 T_audit_Core 3 (rows Cr.cells (qs.map cpyQ) ++ Cr.cells (cpy ⟨num, cur, lane, la, lcap⟩ x.1)) (k + 1) :: RD :: cells b3 T_audit_View [int q, sv rd ds.length, sv x.2 (k + 1), .slice none 0 0] :: cells b2 T_audit_View [int 0, .slice none 0 0, .slice none 0 0, .slice none 0 0] :: cells b1 T_ref21_V (Hd.cells ⟨q, ad, ds.length, cd, ac, cs.length, cc, at', ts.length, ct⟩) :: l)) (fun cont => ?_) (fun x => ?_)
      · skip
        refine eh_take 0 (held (.cons 0 rfl .nil)) rfl (by kernel_rfl) (by kernel_rfl) (by kernel_rfl) rfl rfl rfl rfl ?_
        refine eh_take 2 (held (.cons 0 rfl .nil)) rfl (by kernel_rfl) (by kernel_rfl) (by kernel_rfl) rfl rfl rfl rfl ?_
        refine eh_load 3 (held (.cons 0 rfl .nil)) rfl (by kernel_rfl) (by kernel_rfl) (by kernel_rfl) rfl rfl rfl (er_ld 0 rfl rfl rfl rfl rfl rfl) ?_
        refine eh_take 4 (held (.cons 0 rfl .nil)) rfl (by kernel_rfl) (by kernel_rfl) (by kernel_rfl) rfl rfl rfl rfl ?_
        refine eh_load 5 (held (.cons 0 rfl .nil)) rfl (by kernel_rfl) (by kernel_rfl) (by kernel_rfl) rfl rfl rfl (er_ld 0 rfl rfl rfl rfl rfl rfl) ?_
        refine eh_take 7 (held (.cons 0 rfl .nil)) rfl (by kernel_rfl) (by kernel_rfl) (by kernel_rfl) rfl rfl rfl rfl ?_
        refine eh_load 8 (held (.cons 0 rfl .nil)) rfl (by kernel_rfl) (by kernel_rfl) (by kernel_rfl) rfl rfl rfl (er_ld 0 rfl rfl rfl rfl rfl rfl) ?_
        refine eh_ways [1, 6] (by kernel_rfl) rfl (.cons (hway rfl rfl (eo_ld 4 rfl rfl rfl rfl rfl rfl rfl rfl ⟨(held (.cons 0 rfl .nil)), ?_⟩)) (.cons (hway rfl rfl (eo_post (eo_buildS (cs := []) rfl rfl rfl rfl rfl rfl rfl rfl rfl rfl fun b9 => ⟨S w0 (rowC (some (b9, 0)) T_int 1 [] 0 :: cells b7 T_ref21_C (Cr.cells ⟨num, cur, lane, la, lcap⟩) :: lanesO qs :: rowC rc T_audit_Core 3 (rows Cr.cells (qs.map cpyQ)) k :: RD :: cells b3 T_audit_View [int q, sv rd ds.length, sv rc k, .slice none 0 0] :: cells b2 T_audit_View [int 0, .slice none 0 0, .slice none 0 0, .slice none 0 0] :: cells b1 T_ref21_V (Hd.cells ⟨q, ad, ds.length, cd, ac, cs.length, cc, at', ts.length, ct⟩) :: l), fun w hw => hw.imp (i := 0) rfl (fun h hp => row_of_cells (m := 0) rfl (by decide) hp), (held (.cons 1 rfl .nil)), ?_⟩))) .nil))
        · refine eh_way 6 (by kernel_rfl) (hway rfl rfl (eo_post (eo_buildS (cs := []) rfl rfl rfl rfl rfl rfl rfl rfl rfl rfl fun b9 => ⟨S w0 (rowC (some (b9, 0)) T_int 1 [] 0 :: cells b7 T_ref21_C (Cr.cells ⟨num, cur, lane, la, lcap⟩) :: lanesO qs :: rowC rc T_audit_Core 3 (rows Cr.cells (qs.map cpyQ)) k :: RD :: cells b3 T_audit_View [int q, sv rd ds.length, sv rc k, .slice none 0 0] :: cells b2 T_audit_View [int 0, .slice none 0 0, .slice none 0 0, .slice none 0 0] :: cells b1 T_ref21_V (Hd.cells ⟨q, ad, ds.length, cd, ac, cs.length, cc, at', ts.length, ct⟩) :: l), fun w hw => hw.imp (i := 0) rfl (fun h hp => row_of_cells (m := 0) rfl (by decide) hp), (held (.cons 1 rfl .nil)), ?_⟩)))
          refine eh_way 9 (by kernel_rfl) (hway rfl rfl (eo_appendV 0 (r := some (b9, 0)) (xs := []) (n' := 0) (news := ints lane) rfl rfl rfl rfl rfl rfl rfl rfl rfl rfl rfl (hlane.one (i := i + 8) hi) (all_ints _) (by show (0 + lane.length) * 8 ≤ _; omega) (by simp only [maxLen]; omega) fun r9 => ⟨(held (.cons 1 rfl .nil)), ?_⟩))
          rw [List.nil_append, Nat.zero_add]
          refine eh_load 10 (held (.cons 1 rfl .nil)) rfl (by kernel_rfl) (by kernel_rfl) (by kernel_rfl) rfl rfl rfl (er_build (cs := Cr.cells (cpy ⟨num, cur, lane, la, lcap⟩ r9)) rfl rfl rfl rfl rfl rfl) ?_
          refine eh_way 11 (by kernel_rfl) (hway rfl rfl (eo_buildS (cs := Cr.cells (cpy ⟨num, cur, lane, la, lcap⟩ r9)) rfl rfl rfl rfl rfl rfl rfl rfl rfl rfl fun b11 => ⟨(held (.cons 2 rfl .nil)), ?_⟩))
          refine eh_way 12 (by kernel_rfl) (hway rfl rfl (eo_append 4 (r := rc) (xs := rows Cr.cells (qs.map cpyQ)) (n' := k) (Cr.cells (cpy ⟨num, cur, lane, la, lcap⟩ r9)) rfl rfl rfl rfl rfl rfl rfl rfl rfl rfl rfl (fun w hw j u hu => (addr_add _ _ _).symm ▸ (Nat.zero_add _).symm ▸ hw.cell (i := 0) rfl hu) rfl (by decide) (by show (k + 1) * 40 ≤ 140737488355328; omega) (by simp only [maxLen]; omega) fun rc2 => ⟨(held (.cons 2 rfl .nil)), ?_⟩))
          refine eh_take 13 (held (.cons 2 rfl .nil)) rfl (by kernel_rfl) (by kernel_rfl) (by kernel_rfl) rfl rfl rfl rfl ?_
          refine eh_way 14 (by kernel_rfl) (hway rfl rfl (eo_st 6 rfl rfl rfl rfl rfl rfl rfl rfl rfl ⟨(held (.cons 2 rfl .nil)), ?_⟩))
          exact eh_done (by kernel_rfl) (eq_le (cont (r9, rc2)) (le_of _ _ rfl) fun w hw => ((hw.erase 0).erase 1).front (i := 1) rfl)
        · refine eh_ways [1, 9] (by kernel_rfl) rfl (.cons (hway rfl rfl (eo_ld 5 rfl rfl rfl rfl rfl rfl rfl rfl ⟨(held (.cons 1 rfl .nil)), ?_⟩)) (.cons (hway rfl rfl (eo_appendV 0 (r := some (b9, 0)) (xs := []) (n' := 0) (news := ints lane) rfl rfl rfl rfl rfl rfl rfl rfl rfl rfl rfl (hlane.one (i := i + 8) hi) (all_ints _) (by show (0 + lane.length) * 8 ≤ _; omega) (by simp only [maxLen]; omega) fun r9 => ⟨(held (.cons 1 rfl .nil)), ?_⟩)) .nil))
          · refine eh_way 9 (by kernel_rfl) (hway rfl rfl (eo_appendV 0 (r := some (b9, 0)) (xs := []) (n' := 0) (news := ints lane) rfl rfl rfl rfl rfl rfl rfl rfl rfl rfl rfl (hlane.one (i := i + 8) hi) (all_ints _) (by show (0 + lane.length) * 8 ≤ _; omega) (by simp only [maxLen]; omega) fun r9 => ⟨(held (.cons 1 rfl .nil)), ?_⟩))
            rw [List.nil_append, Nat.zero_add]
            refine eh_load 10 (held (.cons 1 rfl .nil)) rfl (by kernel_rfl) (by kernel_rfl) (by kernel_rfl) rfl rfl rfl (er_build (cs := Cr.cells (cpy ⟨num, cur, lane, la, lcap⟩ r9)) rfl rfl rfl rfl rfl rfl) ?_
            refine eh_way 11 (by kernel_rfl) (hway rfl rfl (eo_buildS (cs := Cr.cells (cpy ⟨num, cur, lane, la, lcap⟩ r9)) rfl rfl rfl rfl rfl rfl rfl rfl rfl rfl fun b11 => ⟨(held (.cons 2 rfl .nil)), ?_⟩))
            refine eh_way 12 (by kernel_rfl) (hway rfl rfl (eo_append 4 (r := rc) (xs := rows Cr.cells (qs.map cpyQ)) (n' := k) (Cr.cells (cpy ⟨num, cur, lane, la, lcap⟩ r9)) rfl rfl rfl rfl rfl rfl rfl rfl rfl rfl rfl (fun w hw j u hu => (addr_add _ _ _).symm ▸ (Nat.zero_add _).symm ▸ hw.cell (i := 0) rfl hu) rfl (by decide) (by show (k + 1) * 40 ≤ 140737488355328; omega) (by simp only [maxLen]; omega) fun rc2 => ⟨(held (.cons 2 rfl .nil)), ?_⟩))
            refine eh_take 13 (held (.cons 2 rfl .nil)) rfl (by kernel_rfl) (by kernel_rfl) (by kernel_rfl) rfl rfl rfl rfl ?_
            refine eh_way 14 (by kernel_rfl) (hway rfl rfl (eo_st 6 rfl rfl rfl rfl rfl rfl rfl rfl rfl ⟨(held (.cons 2 rfl .nil)), ?_⟩))
            exact eh_done (by kernel_rfl) (eq_le (cont (r9, rc2)) (le_of _ _ rfl) fun w hw => ((hw.erase 0).erase 1).front (i := 1) rfl)
          · rw [List.nil_append, Nat.zero_add]
            refine eh_load 10 (held (.cons 1 rfl .nil)) rfl (by kernel_rfl) (by kernel_rfl) (by kernel_rfl) rfl rfl rfl (er_build (cs := Cr.cells (cpy ⟨num, cur, lane, la, lcap⟩ r9)) rfl rfl rfl rfl rfl rfl) ?_
            refine eh_ways [1, 11] (by kernel_rfl) rfl (.cons (hway rfl rfl (eo_ld 5 rfl rfl rfl rfl rfl rfl rfl rfl ⟨(held (.cons 1 rfl .nil)), ?_⟩)) (.cons (hway rfl rfl (eo_buildS (cs := Cr.cells (cpy ⟨num, cur, lane, la, lcap⟩ r9)) rfl rfl rfl rfl rfl rfl rfl rfl rfl rfl fun b11 => ⟨(held (.cons 2 rfl .nil)), ?_⟩)) .nil))
            · refine eh_way 11 (by kernel_rfl) (hway rfl rfl (eo_buildS (cs := Cr.cells (cpy ⟨num, cur, lane, la, lcap⟩ r9)) rfl rfl rfl rfl rfl rfl rfl rfl rfl rfl fun b11 => ⟨(held (.cons 2 rfl .nil)), ?_⟩))
              refine eh_way 12 (by kernel_rfl) (hway rfl rfl (eo_append 4 (r := rc) (xs := rows Cr.cells (qs.map cpyQ)) (n' := k) (Cr.cells (cpy ⟨num, cur, lane, la, lcap⟩ r9)) rfl rfl rfl rfl rfl rfl rfl rfl rfl rfl rfl (fun w hw j u hu => (addr_add _ _ _).symm ▸ (Nat.zero_add _).symm ▸ hw.cell (i := 0) rfl hu) rfl (by decide) (by show (k + 1) * 40 ≤ 140737488355328; omega) (by simp only [maxLen]; omega) fun rc2 => ⟨(held (.cons 2 rfl .nil)), ?_⟩))
              refine eh_take 13 (held (.cons 2 rfl .nil)) rfl (by kernel_rfl) (by kernel_rfl) (by kernel_rfl) rfl rfl rfl rfl ?_
              refine eh_way 14 (by kernel_rfl) (hway rfl rfl (eo_st 6 rfl rfl rfl rfl rfl rfl rfl rfl rfl ⟨(held (.cons 2 rfl .nil)), ?_⟩))
              exact eh_done (by kernel_rfl) (eq_le (cont (r9, rc2)) (le_of _ _ rfl) fun w hw => ((hw.erase 0).erase 1).front (i := 1) rfl)
            · refine eh_way 1 (by kernel_rfl) (hway rfl rfl (eo_ld 6 rfl rfl rfl rfl rfl rfl rfl rfl ⟨(held (.cons 2 rfl .nil)), ?_⟩))
              refine eh_way 12 (by kernel_rfl) (hway rfl rfl (eo_append 4 (r := rc) (xs := rows Cr.cells (qs.map cpyQ)) (n' := k) (Cr.cells (cpy ⟨num, cur, lane, la, lcap⟩ r9)) rfl rfl rfl rfl rfl rfl rfl rfl rfl rfl rfl (fun w hw j u hu => (addr_add _ _ _).symm ▸ (Nat.zero_add _).symm ▸ hw.cell (i := 0) rfl hu) rfl (by decide) (by show (k + 1) * 40 ≤ 140737488355328; omega) (by simp only [maxLen]; omega) fun rc2 => ⟨(held (.cons 2 rfl .nil)), ?_⟩))
              refine eh_take 13 (held (.cons 2 rfl .nil)) rfl (by kernel_rfl) (by kernel_rfl) (by kernel_rfl) rfl rfl rfl rfl ?_
              refine eh_way 14 (by kernel_rfl) (hway rfl rfl (eo_st 6 rfl rfl rfl rfl rfl rfl rfl rfl rfl ⟨(held (.cons 2 rfl .nil)), ?_⟩))
              exact eh_done (by kernel_rfl) (eq_le (cont (r9, rc2)) (le_of _ _ rfl) fun w hw => ((hw.erase 0).erase 1).front (i := 1) rfl)
      obtain ⟨r9, rc2⟩ := x
      (repeat (first | refine el_pure rfl rfl rfl rfl ?_ | refine ej_seq ?_ | refine ej_region ?_ | refine el_nil ?_ | refine eq_seq ?_ | refine eq_calm ?_ | refine ej_true rfl ?_ | refine ej_false rfl ?_ | refine el_skip rfl rfl rfl ?_ | refine ej_ret ?_ | refine ej_skip ?_ | refine ej_exit ?_ | refine ej_block ?_ | refine eq_seq_ret ?_ | refine eq_seq_exit ?_ | refine eq_block ?_ | refine eq_block_exit ?_ | refine eq_block_ret ?_ | refine eq_block_exit_ne rfl ?_ | refine eq_back_ret ?_ | refine eq_back_exit ?_ | refine el_cons rfl (eo_lenv rfl rfl rfl rfl rfl rfl ?_) | refine el_cons rfl (eo_arith rfl rfl rfl rfl rfl rfl ⟨by omega, by omega⟩ ?_)))
      refine eq_backP (k + 1, rc2, qs ++ [((⟨num, cur, lane, la, lcap⟩ : Cr), r9)]) ⟨by show k + 1 ≤ cs.length; omega, by show (qs ++ [((⟨num, cur, lane, la, lcap⟩ : Cr), r9)]).map (fun z : QC => z.1) = cs.take (k + 1); rw [List.map_append, hqs, hsn]; rfl⟩ (by show cs.length - (k + 1) < cs.length - k; omega) (le_of _ _ rfl) fun w hw => ?_
      show S w0 (lanesO (qs ++ [((⟨num, cur, lane, la, lcap⟩ : Cr), r9)]) :: rowC rc2 T_audit_Core 3 (rows Cr.cells ((qs ++ [((⟨num, cur, lane, la, lcap⟩ : Cr), r9)]).map cpyQ)) (k + 1) :: _) w
      rw [List.map_append, List.map_cons, List.map_nil, rows_snoc]
      exact lanes_snoc qs (⟨num, cur, lane, la, lcap⟩, r9) hw
    · obtain rfl : k = cs.length := by omega
      rw [List.take_length] at hqs
      generalize hRC : rowC rc T_audit_Core 3 (rows Cr.cells (qs.map cpyQ)) cs.length = RC
      (repeat (first | refine el_pure rfl rfl rfl rfl ?_ | refine ej_seq ?_ | refine ej_region ?_ | refine el_nil ?_ | refine eq_seq ?_ | refine eq_calm ?_ | refine ej_true rfl ?_ | refine ej_false rfl ?_ | refine el_skip rfl rfl rfl ?_ | refine ej_ret ?_ | refine ej_skip ?_ | refine ej_exit ?_ | refine ej_block ?_ | refine eq_seq_ret ?_ | refine eq_seq_exit ?_ | refine eq_block ?_ | refine eq_block_exit ?_ | refine eq_block_ret ?_ | refine eq_block_exit_ne rfl ?_ | refine eq_back_ret ?_ | refine eq_back_exit ?_))
      refine el_imp (H' := S w0 (rowC none T_state_Thread 11 (rows Th.prog (ts.take 0)) 0 :: lanesO qs :: RC :: RD :: cells b3 T_audit_View [int q, sv rd ds.length, sv rc cs.length, .slice none 0 0] :: cells b2 T_audit_View [int 0, .slice none 0 0, .slice none 0 0, .slice none 0 0] :: cells b1 T_ref21_V (Hd.cells ⟨q, ad, ds.length, cd, ac, cs.length, cc, at', ts.length, ct⟩) :: l)) (fun w hw => S.row_new hw) ?_
      refine el_cons rfl (eo_ld 6 rfl rfl rfl rfl rfl rfl rfl rfl ?_)
      (repeat (first | refine el_pure rfl rfl rfl rfl ?_ | refine ej_seq ?_ | refine ej_region ?_ | refine el_nil ?_ | refine eq_seq ?_ | refine eq_calm ?_ | refine ej_true rfl ?_ | refine ej_false rfl ?_ | refine el_skip rfl rfl rfl ?_ | refine ej_ret ?_ | refine ej_skip ?_ | refine ej_exit ?_ | refine ej_block ?_ | refine eq_seq_ret ?_ | refine eq_seq_exit ?_ | refine eq_block ?_ | refine eq_block_exit ?_ | refine eq_block_ret ?_ | refine eq_block_exit_ne rfl ?_ | refine eq_back_ret ?_ | refine eq_back_exit ?_ | refine el_cons rfl (eo_lenv rfl rfl rfl rfl rfl rfl ?_) | refine el_cons rfl (eo_arith rfl rfl rfl rfl rfl rfl ⟨by omega, by omega⟩ ?_)))
      refine ej_loopP (α := Nat × Option (Nat × Nat)) (fun z => z.1 ≤ ts.length) (fun z => [(1, ptr b1), (2, ptr b2), (3, ptr b3), (56, .slice at' ts.length ct), (57, int ts.length), (58, int z.1)]) (fun z => S w0 (rowC z.2 T_state_Thread 11 (rows Th.prog (ts.take z.1)) z.1 :: lanesO qs :: RC :: RD :: cells b3 T_audit_View [int q, sv rd ds.length, sv rc cs.length, sv z.2 z.1] :: cells b2 T_audit_View [int 0, .slice none 0 0, .slice none 0 0, .slice none 0 0] :: cells b1 T_ref21_V (Hd.cells ⟨q, ad, ds.length, cd, ac, cs.length, cc, at', ts.length, ct⟩) :: l)) (fun z => ts.length - z.1) (0, none) (Nat.zero_le _) (le_of _ _ rfl) (fun w hw => hw) ?_
      rintro ⟨k, rt⟩ hk
      have hk : k ≤ ts.length := hk
      (repeat (first | refine el_pure rfl rfl rfl rfl ?_ | refine ej_seq ?_ | refine ej_region ?_ | refine el_nil ?_ | refine eq_seq ?_ | refine eq_calm ?_ | refine ej_true rfl ?_ | refine ej_false rfl ?_ | refine el_skip rfl rfl rfl ?_ | refine ej_ret ?_ | refine ej_skip ?_ | refine ej_exit ?_ | refine ej_block ?_ | refine eq_seq_ret ?_ | refine eq_seq_exit ?_ | refine eq_block ?_ | refine eq_block_exit ?_ | refine eq_block_ret ?_ | refine eq_block_exit_ne rfl ?_ | refine eq_back_ret ?_ | refine eq_back_exit ?_))
      refine ej_dec rfl (fun hlt => ?_) (fun hlt => ?_)
      · have hlt' : k < ts.length := by omega
        have hx : ts[k]? = some ts[k] := by simp [hlt']
        have hsn : rows Th.prog (ts.take (k + 1)) = rows Th.prog (ts.take k) ++ ts[k].prog := by rw [take_snoc hx, rows_snoc]
        generalize ts[k] = t at *
        have hg : ∀ j, j < 9 → (rows Th.doc ts)[k * 9 + j]? = t.doc[j]? := fun j hj => rows_get Th.doc 9 th9 ts k j t hx hj
        obtain ⟨tid, dom, mask, awake, running, core, tag, left, slice⟩ := t
        (repeat (first | refine el_pure rfl rfl rfl rfl ?_ | refine ej_seq ?_ | refine ej_region ?_ | refine el_nil ?_ | refine eq_seq ?_ | refine eq_calm ?_ | refine ej_true rfl ?_ | refine ej_false rfl ?_ | refine el_skip rfl rfl rfl ?_ | refine ej_ret ?_ | refine ej_skip ?_ | refine ej_exit ?_ | refine ej_block ?_ | refine eq_seq_ret ?_ | refine eq_seq_exit ?_ | refine eq_block ?_ | refine eq_block_exit ?_ | refine eq_block_ret ?_ | refine eq_block_exit_ne rfl ?_ | refine eq_back_ret ?_ | refine eq_back_exit ?_))
        refine el_cons rfl (eo_idxv rfl rfl rfl rfl rfl rfl rfl rfl rfl (hVt.one (i := i + 7) hi) ⟨by omega, hlt⟩ ?_)
        refine el_cons rfl (eo_ldvA (k * 9) (cs := Th.doc ⟨tid, dom, mask, awake, running, core, tag, left, slice⟩) rfl rfl rfl (vaddr0 at' k 9) rfl rfl (hVt.one (i := i + 7) hi) rfl hg ?_)
        refine el_cons rfl (eo_alloc rfl rfl rfl rfl fun b5 => ?_)
        refine el_cons rfl (eo_stA 0 rfl rfl rfl rfl rfl rfl rfl rfl rfl ?_)
        (repeat (first | refine el_pure rfl rfl rfl rfl ?_ | refine ej_seq ?_ | refine ej_region ?_ | refine el_nil ?_ | refine eq_seq ?_ | refine eq_calm ?_ | refine ej_true rfl ?_ | refine ej_false rfl ?_ | refine el_skip rfl rfl rfl ?_ | refine ej_ret ?_ | refine ej_skip ?_ | refine ej_exit ?_ | refine ej_block ?_ | refine eq_seq_ret ?_ | refine eq_seq_exit ?_ | refine eq_block ?_ | refine eq_block_exit ?_ | refine eq_block_ret ?_ | refine eq_block_exit_ne rfl ?_ | refine eq_back_ret ?_ | refine eq_back_exit ?_))
        refine el_cons rfl (eo_ld 5 rfl rfl rfl rfl rfl rfl rfl rfl ?_)
        (repeat (first | refine el_pure rfl rfl rfl rfl ?_ | refine ej_seq ?_ | refine ej_region ?_ | refine el_nil ?_ | refine eq_seq ?_ | refine eq_calm ?_ | refine ej_true rfl ?_ | refine ej_false rfl ?_ | refine el_skip rfl rfl rfl ?_ | refine ej_ret ?_ | refine ej_skip ?_ | refine ej_exit ?_ | refine ej_block ?_ | refine eq_seq_ret ?_ | refine eq_seq_exit ?_ | refine eq_block ?_ | refine eq_block_exit ?_ | refine eq_block_ret ?_ | refine eq_block_exit_ne rfl ?_ | refine eq_back_ret ?_ | refine eq_back_exit ?_))
        refine el_cons rfl (eo_ld 0 rfl rfl rfl rfl rfl rfl rfl rfl ?_)
        (repeat (first | refine el_pure rfl rfl rfl rfl ?_ | refine ej_seq ?_ | refine ej_region ?_ | refine el_nil ?_ | refine eq_seq ?_ | refine eq_calm ?_ | refine ej_true rfl ?_ | refine ej_false rfl ?_ | refine el_skip rfl rfl rfl ?_ | refine ej_ret ?_ | refine ej_skip ?_ | refine ej_exit ?_ | refine ej_block ?_ | refine eq_seq_ret ?_ | refine eq_seq_exit ?_ | refine eq_block ?_ | refine eq_block_exit ?_ | refine eq_block_ret ?_ | refine eq_block_exit_ne rfl ?_ | refine eq_back_ret ?_ | refine eq_back_exit ?_))
        refine el_cons rfl (eo_ld 0 rfl rfl rfl rfl rfl rfl rfl rfl ?_)
        (repeat (first | refine el_pure rfl rfl rfl rfl ?_ | refine ej_seq ?_ | refine ej_region ?_ | refine el_nil ?_ | refine eq_seq ?_ | refine eq_calm ?_ | refine ej_true rfl ?_ | refine ej_false rfl ?_ | refine el_skip rfl rfl rfl ?_ | refine ej_ret ?_ | refine ej_skip ?_ | refine ej_exit ?_ | refine ej_block ?_ | refine eq_seq_ret ?_ | refine eq_seq_exit ?_ | refine eq_block ?_ | refine eq_block_exit ?_ | refine eq_block_ret ?_ | refine eq_block_exit_ne rfl ?_ | refine eq_back_ret ?_ | refine eq_back_exit ?_))
        refine el_cons rfl (eo_ld 0 rfl rfl rfl rfl rfl rfl rfl rfl ?_)
        (repeat (first | refine el_pure rfl rfl rfl rfl ?_ | refine ej_seq ?_ | refine ej_region ?_ | refine el_nil ?_ | refine eq_seq ?_ | refine eq_calm ?_ | refine ej_true rfl ?_ | refine ej_false rfl ?_ | refine el_skip rfl rfl rfl ?_ | refine ej_ret ?_ | refine ej_skip ?_ | refine ej_exit ?_ | refine ej_block ?_ | refine eq_seq_ret ?_ | refine eq_seq_exit ?_ | refine eq_block ?_ | refine eq_block_exit ?_ | refine eq_block_ret ?_ | refine eq_block_exit_ne rfl ?_ | refine eq_back_ret ?_ | refine eq_back_exit ?_))
        refine el_cons rfl (eo_ld 0 rfl rfl rfl rfl rfl rfl rfl rfl ?_)
        (repeat (first | refine el_pure rfl rfl rfl rfl ?_ | refine ej_seq ?_ | refine ej_region ?_ | refine el_nil ?_ | refine eq_seq ?_ | refine eq_calm ?_ | refine ej_true rfl ?_ | refine ej_false rfl ?_ | refine el_skip rfl rfl rfl ?_ | refine ej_ret ?_ | refine ej_skip ?_ | refine ej_exit ?_ | refine ej_block ?_ | refine eq_seq_ret ?_ | refine eq_seq_exit ?_ | refine eq_block ?_ | refine eq_block_exit ?_ | refine eq_block_ret ?_ | refine eq_block_exit_ne rfl ?_ | refine eq_back_ret ?_ | refine eq_back_exit ?_))
        refine el_cons rfl (eo_ld 0 rfl rfl rfl rfl rfl rfl rfl rfl ?_)
        (repeat (first | refine el_pure rfl rfl rfl rfl ?_ | refine ej_seq ?_ | refine ej_region ?_ | refine el_nil ?_ | refine eq_seq ?_ | refine eq_calm ?_ | refine ej_true rfl ?_ | refine ej_false rfl ?_ | refine el_skip rfl rfl rfl ?_ | refine ej_ret ?_ | refine ej_skip ?_ | refine ej_exit ?_ | refine ej_block ?_ | refine eq_seq_ret ?_ | refine eq_seq_exit ?_ | refine eq_block ?_ | refine eq_block_exit ?_ | refine eq_block_ret ?_ | refine eq_block_exit_ne rfl ?_ | refine eq_back_ret ?_ | refine eq_back_exit ?_))
        refine el_cons rfl (eo_ld 0 rfl rfl rfl rfl rfl rfl rfl rfl ?_)
        (repeat (first | refine el_pure rfl rfl rfl rfl ?_ | refine ej_seq ?_ | refine ej_region ?_ | refine el_nil ?_ | refine eq_seq ?_ | refine eq_calm ?_ | refine ej_true rfl ?_ | refine ej_false rfl ?_ | refine el_skip rfl rfl rfl ?_ | refine ej_ret ?_ | refine ej_skip ?_ | refine ej_exit ?_ | refine ej_block ?_ | refine eq_seq_ret ?_ | refine eq_seq_exit ?_ | refine eq_block ?_ | refine eq_block_exit ?_ | refine eq_block_ret ?_ | refine eq_block_exit_ne rfl ?_ | refine eq_back_ret ?_ | refine eq_back_exit ?_))
        refine el_cons rfl (eo_ld 0 rfl rfl rfl rfl rfl rfl rfl rfl ?_)
        (repeat (first | refine el_pure rfl rfl rfl rfl ?_ | refine ej_seq ?_ | refine ej_region ?_ | refine el_nil ?_ | refine eq_seq ?_ | refine eq_calm ?_ | refine ej_true rfl ?_ | refine ej_false rfl ?_ | refine el_skip rfl rfl rfl ?_ | refine ej_ret ?_ | refine ej_skip ?_ | refine ej_exit ?_ | refine ej_block ?_ | refine eq_seq_ret ?_ | refine eq_seq_exit ?_ | refine eq_block ?_ | refine eq_block_exit ?_ | refine eq_block_ret ?_ | refine eq_block_exit_ne rfl ?_ | refine eq_back_ret ?_ | refine eq_back_exit ?_))
        refine el_cons rfl (eo_ld 0 rfl rfl rfl rfl rfl rfl rfl rfl ?_)
        (repeat (first | refine el_pure rfl rfl rfl rfl ?_ | refine ej_seq ?_ | refine ej_region ?_ | refine el_nil ?_ | refine eq_seq ?_ | refine eq_calm ?_ | refine ej_true rfl ?_ | refine ej_false rfl ?_ | refine el_skip rfl rfl rfl ?_ | refine ej_ret ?_ | refine ej_skip ?_ | refine ej_exit ?_ | refine ej_block ?_ | refine eq_seq_ret ?_ | refine eq_seq_exit ?_ | refine eq_block ?_ | refine eq_block_exit ?_ | refine eq_block_ret ?_ | refine eq_block_exit_ne rfl ?_ | refine eq_back_ret ?_ | refine eq_back_exit ?_))
        refine el_cons rfl (eo_ld 0 rfl rfl rfl rfl rfl rfl rfl rfl ?_)
        refine el_cons rfl (eo_build (cs := Th.prog ⟨tid, dom, mask, awake, running, core, tag, left, slice⟩) rfl rfl rfl rfl rfl rfl rfl rfl ?_)
        refine el_cons rfl (eo_buildS (cs := Th.prog ⟨tid, dom, mask, awake, running, core, tag, left, slice⟩) rfl rfl rfl rfl rfl rfl rfl rfl rfl rfl fun b9 => ?_)
        refine el_cons rfl (eo_append 2 (r := rt) (xs := rows Th.prog (ts.take k)) (n' := k) (Th.prog ⟨tid, dom, mask, awake, running, core, tag, left, slice⟩) rfl rfl rfl rfl rfl rfl rfl rfl rfl rfl rfl (fun w hw j u hu => ?_) rfl (by decide) ?_ ?_ fun rt2 => ?_)
        · rw [addr_add, Nat.zero_add]; exact hw.cell (i := 0) rfl hu
        · show (k + 1) * 80 ≤ 140737488355328; omega
        · show k + 1 ≤ 9223372036854775807; omega
        (repeat (first | refine el_pure rfl rfl rfl rfl ?_ | refine ej_seq ?_ | refine ej_region ?_ | refine el_nil ?_ | refine eq_seq ?_ | refine eq_calm ?_ | refine ej_true rfl ?_ | refine ej_false rfl ?_ | refine el_skip rfl rfl rfl ?_ | refine ej_ret ?_ | refine ej_skip ?_ | refine ej_exit ?_ | refine ej_block ?_ | refine eq_seq_ret ?_ | refine eq_seq_exit ?_ | refine eq_block ?_ | refine eq_block_exit ?_ | refine eq_block_ret ?_ | refine eq_block_exit_ne rfl ?_ | refine eq_back_ret ?_ | refine eq_back_exit ?_))
        refine el_cons rfl (eo_st 6 rfl rfl rfl rfl rfl rfl rfl rfl rfl ?_)
        (repeat (first | refine el_pure rfl rfl rfl rfl ?_ | refine ej_seq ?_ | refine ej_region ?_ | refine el_nil ?_ | refine eq_seq ?_ | refine eq_calm ?_ | refine ej_true rfl ?_ | refine ej_false rfl ?_ | refine el_skip rfl rfl rfl ?_ | refine ej_ret ?_ | refine ej_skip ?_ | refine ej_exit ?_ | refine ej_block ?_ | refine eq_seq_ret ?_ | refine eq_seq_exit ?_ | refine eq_block ?_ | refine eq_block_exit ?_ | refine eq_block_ret ?_ | refine eq_block_exit_ne rfl ?_ | refine eq_back_ret ?_ | refine eq_back_exit ?_ | refine el_cons rfl (eo_lenv rfl rfl rfl rfl rfl rfl ?_) | refine el_cons rfl (eo_arith rfl rfl rfl rfl rfl rfl ⟨by omega, by omega⟩ ?_)))
        refine eq_backP (k + 1, rt2) (by show k + 1 ≤ ts.length; omega) (by show ts.length - (k + 1) < ts.length - k; omega) (le_of _ _ rfl) fun w hw => ?_
        show S w0 (rowC rt2 T_state_Thread 11 (rows Th.prog (ts.take (k + 1))) (k + 1) :: _) w
        rw [hsn]; exact (hw.erase 0).erase 0
      · obtain rfl : k = ts.length := by omega
        rw [List.take_length]
        (repeat (first | refine el_pure rfl rfl rfl rfl ?_ | refine ej_seq ?_ | refine ej_region ?_ | refine el_nil ?_ | refine eq_seq ?_ | refine eq_calm ?_ | refine ej_true rfl ?_ | refine ej_false rfl ?_ | refine el_skip rfl rfl rfl ?_ | refine ej_ret ?_ | refine ej_skip ?_ | refine ej_exit ?_ | refine ej_block ?_ | refine eq_seq_ret ?_ | refine eq_seq_exit ?_ | refine eq_block ?_ | refine eq_block_exit ?_ | refine eq_block_ret ?_ | refine eq_block_exit_ne rfl ?_ | refine eq_back_ret ?_ | refine eq_back_exit ?_))
        refine el_cons rfl (eo_ldW 4 rfl rfl rfl rfl rfl rfl rfl rfl ?_)
        refine el_cons rfl (eo_stA 5 rfl rfl rfl rfl rfl rfl rfl rfl rfl ?_)
        (repeat (first | refine el_pure rfl rfl rfl rfl ?_ | refine ej_seq ?_ | refine ej_region ?_ | refine el_nil ?_ | refine eq_seq ?_ | refine eq_calm ?_ | refine ej_true rfl ?_ | refine ej_false rfl ?_ | refine el_skip rfl rfl rfl ?_ | refine ej_ret ?_ | refine ej_skip ?_ | refine ej_exit ?_ | refine ej_block ?_ | refine eq_seq_ret ?_ | refine eq_seq_exit ?_ | refine eq_block ?_ | refine eq_block_exit ?_ | refine eq_block_ret ?_ | refine eq_block_exit_ne rfl ?_ | refine eq_back_ret ?_ | refine eq_back_exit ?_))
        subst hRC hRD
        refine eq_ret _ (rvs_cell 5 rfl rfl rfl rfl rfl rvs_nil) fun w hw => ⟨(Hd' q rd ds.length rc cs.length rt ts.length, qs, stars [rowC rt T_state_Thread 11 (rows Th.prog ts) ts.length, lanesO qs, rowC rc T_audit_Core 3 (rows Cr.cells (qs.map cpyQ)) cs.length, rowC rd T_audit_Domain 3 (rows Dm.cells ds) ds.length]), rfl, ⟨?_, rfl, hqs⟩, ?_⟩
        · have hlen : (qs.map cpyQ).length = cs.length := by rw [← hqs]; simp
          refine ⟨⟨?_, ?_, ?_, ?_, hv.lies.dOk, hv.lies.tOk⟩, rfl, hlen.symm, rfl, ⟨hfew.1, by rw [hlen]; exact hfew.2.1, hfew.2.2⟩, ?_⟩
          · exact View.of_stars (View.of_row (i := 3) rfl (rows_length _ 3 dm3 _))
          · rw [hlen]; exact View.of_stars (View.of_row (i := 2) rfl (by rw [rows_length _ 3 cr3, hlen]))
          · intro x hx
            obtain ⟨z, hz, rfl⟩ := List.mem_map.1 hx
            obtain ⟨j, hj⟩ := List.getElem?_of_mem hz
            exact View.of_stars ((lane_view qs j z hj).one (i := 1) rfl)
          · exact View.of_stars (View.of_row (i := 0) rfl (rows_length _ 11 th11 _))
          · intro x hx
            obtain ⟨z, hz, rfl⟩ := List.mem_map.1 hx
            exact hlanes z.1 (by rw [← hqs]; exact List.mem_map_of_mem hz)
        · exact S.gather (ps := [_, _, _, _]) (((hw.erase 4).erase 4).erase 4)

end Go.Proofs.Ytkpbpjnabbfdiaa
