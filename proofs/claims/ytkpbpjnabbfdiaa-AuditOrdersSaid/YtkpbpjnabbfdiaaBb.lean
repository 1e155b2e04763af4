/- The document's audit: where ids are, who is awake, tags. -/
import Derived.Test.YtkpbpjnabbfdiaaBa
namespace Go.Proofs.Ytkpbpjnabbfdiaa
open Go Go.SE

variable {w0 w : World} {l : List HP} {i : Nat} {r : Option (Nat × Nat)} {p : HP}

structure DoV (w0 : World) (p : HP) (v : Hd) (ds : List Dm) (cs : List Cr) (ts : List Th) : Prop where
  lies : Lies w0 p ds cs ts v.ad v.ac v.at' v.cd v.cc v.ct 9 Th.doc
  nd : v.nd = ds.length
  nc : v.nc = cs.length
  nt : v.nt = ts.length
  few : ds.length ≤ 1000 ∧ cs.length ≤ 100 ∧ ts.length ≤ 1000
  lanes : ∀ c ∈ cs, c.lane.length ≤ 1000
abbrev Hd.val (v : Hd) : Value := .agg (Hd.cells v).toArray
theorem vaddr (a : Option Addr) (k off sz : Nat) : some (Value.pointer (some ⟨ob a, oo a + ((k : Nat) : Int).toNat * sz + off, none⟩)) = some (.pointer (some ⟨ob a, oo a + (k * sz + off), none⟩)) := by simp [Nat.add_assoc]
theorem vaddr0 (a : Option Addr) (k sz : Nat) : some (Value.pointer (some ⟨ob a, oo a + ((k : Nat) : Int).toNat * sz, none⟩)) = some (.pointer (some ⟨ob a, oo a + k * sz, none⟩)) := by simp
theorem vaddr1 (a : Option Addr) (k : Nat) : some (Value.pointer (some ⟨ob a, oo a + ((k : Nat) : Int).toNat * 1, none⟩)) = some (.pointer (some ⟨ob a, oo a + k, none⟩)) := by simp

theorem el_contQ {C : Cx} {n : Nat} {Q : Kont} {e : Env} {H : WP} {ops : Array Oper} {rest : List Oper} (E0 : Env) (H0 : WP) (h1 : EQ C n .normal Q E0 H0 → EL C n rest ops Q e H) (h2 : EQ C n .normal Q E0 H0) : EL C n rest ops Q e H := h1 h2
def inC (c : Cr) (id : Int) : Nat := (if c.cur = id ∧ id ≠ 0 then 1 else 0) + c.lane.count id
def placesN (cs : List Cr) (id : Int) : Nat := (cs.map fun c => inC c id).sum
theorem inC_le (c : Cr) (id : Int) : inC c id ≤ 1 + c.lane.length := by
  have := List.count_le_length (a := id) (l := c.lane)
  unfold inC
  split <;> omega
theorem placesN_snoc (cs : List Cr) (c : Cr) (id : Int) : placesN (cs ++ [c]) id = placesN cs id + inC c id := by simp [placesN]
theorem placesN_le (cs : List Cr) (id : Int) (h : ∀ c ∈ cs, c.lane.length ≤ 1000) : placesN cs id ≤ 1001 * cs.length := by
  induction cs with
  | nil => simp [placesN]
  | cons c cs ih =>
    have h1 := h c (by simp)
    have h2 := ih fun c hc => h c (by simp [hc])
    have h3 := inC_le c id
    simp only [placesN, List.map_cons, List.sum_cons, List.length_cons] at h2 ⊢
    omega

set_option maxHeartbeats 3200000 in
theorem places_ref {v : Hd} {ds : List Dm} {cs : List Cr} {ts : List Th} (id : Int) (hi : l[i]? = some p) (hv : DoV w0 p v ds cs ts) :
    Does cx F_ref21_places [v.val, int id] (S w0 l) fun u w => u = int (placesN cs id) ∧ S w0 l w := by
  refine fn_enter (n := N_ref21_places) fn_ref21_places rfl rfl rfl ?_
  refine ej_seq (ej_region (el_cons rfl (eo_box rfl rfl rfl rfl fun b2 => ?_)))
  obtain ⟨q, ad, nd, cd, ac, nc, cc, at', nt, ct⟩ := v
  obtain rfl : nc = cs.length := hv.nc
  have hV := hv.lies.c
  have hfew := hv.few
  (repeat (first | refine el_pure rfl rfl rfl rfl ?_ | refine ej_seq ?_ | refine ej_region ?_ | refine el_nil ?_ | refine eq_seq ?_ | refine eq_calm ?_ | refine ej_true rfl ?_ | refine ej_false rfl ?_ | refine el_skip rfl rfl rfl ?_ | refine ej_ret ?_ | refine ej_skip ?_ | refine ej_exit ?_ | refine ej_block ?_ | refine eq_seq_ret ?_ | refine eq_seq_exit ?_ | refine eq_block ?_ | refine eq_block_exit ?_ | refine eq_block_ret ?_ | refine eq_block_exit_ne rfl ?_ | refine eq_back_ret ?_ | refine eq_back_exit ?_))
  refine el_cons rfl (eo_ld 0 rfl rfl rfl rfl rfl rfl rfl rfl ?_)
  (repeat (first | refine el_pure rfl rfl rfl rfl ?_ | refine ej_seq ?_ | refine ej_region ?_ | refine el_nil ?_ | refine eq_seq ?_ | refine eq_calm ?_ | refine ej_true rfl ?_ | refine ej_false rfl ?_ | refine el_skip rfl rfl rfl ?_ | refine ej_ret ?_ | refine ej_skip ?_ | refine ej_exit ?_ | refine ej_block ?_ | refine eq_seq_ret ?_ | refine eq_seq_exit ?_ | refine eq_block ?_ | refine eq_block_exit ?_ | refine eq_block_ret ?_ | refine eq_block_exit_ne rfl ?_ | refine eq_back_ret ?_ | refine eq_back_exit ?_ | refine el_cons rfl (eo_lenv rfl rfl rfl rfl rfl rfl ?_) | refine el_cons rfl (eo_arith rfl rfl rfl rfl rfl rfl ⟨by omega, by omega⟩ ?_)))
  refine ej_loopP (fun k : Nat => k ≤ cs.length) (fun k => [(1, int id), (2, ptr b2), (5, int (placesN (cs.take k) id)), (10, int cs.length), (11, int k)]) (fun _ => S w0 (cells b2 T_ref21_V (Hd.cells ⟨q, ad, nd, cd, ac, cs.length, cc, at', nt, ct⟩) :: l)) (fun k => cs.length - k) 0 (Nat.zero_le _) (le_of _ _ rfl) (fun w hw => hw) ?_
  intro k hk
  (repeat (first | refine el_pure rfl rfl rfl rfl ?_ | refine ej_seq ?_ | refine ej_region ?_ | refine el_nil ?_ | refine eq_seq ?_ | refine eq_calm ?_ | refine ej_true rfl ?_ | refine ej_false rfl ?_ | refine el_skip rfl rfl rfl ?_ | refine ej_ret ?_ | refine ej_skip ?_ | refine ej_exit ?_ | refine ej_block ?_ | refine eq_seq_ret ?_ | refine eq_seq_exit ?_ | refine eq_block ?_ | refine eq_block_exit ?_ | refine eq_block_ret ?_ | refine eq_block_exit_ne rfl ?_ | refine eq_back_ret ?_ | refine eq_back_exit ?_))
  refine ej_dec rfl (fun hlt => ?_) (fun hlt => ?_)
  · have hlt' : k < cs.length := by omega
    have hx' : cs[k]? = some cs[k] := by simp [hlt']
    have hmem := List.getElem_mem hlt'
    have hlane := hv.lies.lane _ hmem
    have hll := hv.lanes _ hmem
    have hsn : placesN (cs.take (k + 1)) id = placesN (cs.take k) id + inC cs[k] id := by rw [List.take_succ_eq_append_getElem hlt', placesN_snoc]
    have hpl := placesN_le (cs.take k) id fun c hc => hv.lanes c (List.mem_of_mem_take hc)
    rw [List.length_take] at hpl
    generalize placesN (cs.take k) id = m at *
    generalize cs[k] = c at *
    have hg : ∀ j, j < 3 → (rows Cr.cells cs)[k * 3 + j]? = c.cells[j]? := fun j hj => rows_get Cr.cells 3 cr3 cs k j c hx' hj
    obtain ⟨num, cur, lane, la, lcap⟩ := c
    have hlane : View w0 [p] 1 la (ints lane) lane.length lcap := hlane
    have hll : lane.length ≤ 1000 := hll
    have hin : inC ⟨num, cur, lane, la, lcap⟩ id = (if cur = id ∧ id ≠ 0 then 1 else 0) + lane.count id := rfl
    (repeat (first | refine el_pure rfl rfl rfl rfl ?_ | refine ej_seq ?_ | refine ej_region ?_ | refine el_nil ?_ | refine eq_seq ?_ | refine eq_calm ?_ | refine ej_true rfl ?_ | refine ej_false rfl ?_ | refine el_skip rfl rfl rfl ?_ | refine ej_ret ?_ | refine ej_skip ?_ | refine ej_exit ?_ | refine ej_block ?_ | refine eq_seq_ret ?_ | refine eq_seq_exit ?_ | refine eq_block ?_ | refine eq_block_exit ?_ | refine eq_block_ret ?_ | refine eq_block_exit_ne rfl ?_ | refine eq_back_ret ?_ | refine eq_back_exit ?_))
    refine el_cons rfl (eo_ld 0 rfl rfl rfl rfl rfl rfl rfl rfl ?_)
    (repeat (first | refine el_pure rfl rfl rfl rfl ?_ | refine ej_seq ?_ | refine ej_region ?_ | refine el_nil ?_ | refine eq_seq ?_ | refine eq_calm ?_ | refine ej_true rfl ?_ | refine ej_false rfl ?_ | refine el_skip rfl rfl rfl ?_ | refine ej_ret ?_ | refine ej_skip ?_ | refine ej_exit ?_ | refine ej_block ?_ | refine eq_seq_ret ?_ | refine eq_seq_exit ?_ | refine eq_block ?_ | refine eq_block_exit ?_ | refine eq_block_ret ?_ | refine eq_block_exit_ne rfl ?_ | refine eq_back_ret ?_ | refine eq_back_exit ?_))
    refine el_cons rfl (eo_idxv rfl rfl rfl rfl rfl rfl rfl rfl rfl (hV.one (i := i + 1) hi) ⟨by omega, hlt⟩ ?_)
    (repeat (first | refine el_pure rfl rfl rfl rfl ?_ | refine ej_seq ?_ | refine ej_region ?_ | refine el_nil ?_ | refine eq_seq ?_ | refine eq_calm ?_ | refine ej_true rfl ?_ | refine ej_false rfl ?_ | refine el_skip rfl rfl rfl ?_ | refine ej_ret ?_ | refine ej_skip ?_ | refine ej_exit ?_ | refine ej_block ?_ | refine eq_seq_ret ?_ | refine eq_seq_exit ?_ | refine eq_block ?_ | refine eq_block_exit ?_ | refine eq_block_ret ?_ | refine eq_block_exit_ne rfl ?_ | refine eq_back_ret ?_ | refine eq_back_exit ?_))
    refine el_cons rfl (eo_ldv (k * 3 + 1) (v := int cur) rfl rfl rfl (vaddr ac k 1 3) rfl rfl (hV.one (i := i + 1) hi) (hg 1 (by decide)) ?_)
    (repeat (first | refine el_pure rfl rfl rfl rfl ?_ | refine ej_seq ?_ | refine ej_region ?_ | refine el_nil ?_ | refine eq_seq ?_ | refine eq_calm ?_ | refine ej_true rfl ?_ | refine ej_false rfl ?_ | refine el_skip rfl rfl rfl ?_ | refine ej_ret ?_ | refine ej_skip ?_ | refine ej_exit ?_ | refine ej_block ?_ | refine eq_seq_ret ?_ | refine eq_seq_exit ?_ | refine eq_block ?_ | refine eq_block_exit ?_ | refine eq_block_ret ?_ | refine eq_block_exit_ne rfl ?_ | refine eq_back_ret ?_ | refine eq_back_exit ?_))
    refine el_contQ [(1, int id), (2, ptr b2), (5, int m), (6, int k), (10, int cs.length), (11, int k), (25, .bool (decide (cur = id ∧ id ≠ 0)))] (S w0 (cells b2 T_ref21_V (Hd.cells ⟨q, ad, nd, cd, ac, cs.length, cc, at', nt, ct⟩) :: l)) (fun cont => ?_) ?_
    · refine el_gdec rfl rfl (fun h1 => ?_) (fun h1 => ?_)
      · have h1 : cur = id := h1
        (repeat (first | refine el_pure rfl rfl rfl rfl ?_ | refine el_skip rfl rfl rfl ?_))
        refine el_nil (eq_le cont (le_cons rfl (le_cons rfl (le_cons rfl (le_cons rfl (le_cons rfl (le_cons rfl (le_cons ?_ (le_nil _)))))))) fun w hw => hw)
        show some _ = some _
        simp [h1]
      · have h1 : ¬ cur = id := h1
        (repeat (first | refine el_pure rfl rfl rfl rfl ?_ | refine el_skip rfl rfl rfl ?_))
        refine el_nil (eq_le cont (le_cons rfl (le_cons rfl (le_cons rfl (le_cons rfl (le_cons rfl (le_cons rfl (le_cons ?_ (le_nil _)))))))) fun w hw => hw)
        show some _ = some _
        simp [h1]
    refine eq_seq ?_
    refine ej_cont (α := Unit) (fun _ => [(1, int id), (2, ptr b2), (5, int ((m + (if cur = id ∧ id ≠ 0 then 1 else 0) : Nat))), (6, int k), (10, int cs.length), (11, int k)]) (fun _ => S w0 (cells b2 T_ref21_V (Hd.cells ⟨q, ad, nd, cd, ac, cs.length, cc, at', nt, ct⟩) :: l)) (fun cont => ?_) (fun _ => ?_)
    · refine ej_dec rfl (fun h1 => ?_) (fun h1 => ?_)
      · rw [if_pos h1] at cont
        refine ej_region ?_
        (repeat (first | refine el_pure rfl rfl rfl rfl ?_ | refine el_skip rfl rfl rfl ?_))
        refine el_cons rfl (eo_arith rfl rfl rfl rfl rfl rfl ⟨by omega, by omega⟩ ?_)
        (repeat (first | refine el_pure rfl rfl rfl rfl ?_ | refine el_skip rfl rfl rfl ?_))
        exact el_nil (eq_le (cont ()) (le_of _ _ rfl) fun w hw => hw)
      · rw [if_neg h1] at cont
        exact ej_skip (eq_le (cont ()) (le_of _ _ rfl) fun w hw => hw)
    have hm1 : m + (if cur = id ∧ id ≠ 0 then 1 else 0) ≤ m + 1 := by split <;> omega
    generalize hM : m + (if cur = id ∧ id ≠ 0 then 1 else 0) = M at *
    (repeat (first | refine el_pure rfl rfl rfl rfl ?_ | refine ej_seq ?_ | refine ej_region ?_ | refine el_nil ?_ | refine eq_seq ?_ | refine eq_calm ?_ | refine ej_true rfl ?_ | refine ej_false rfl ?_ | refine el_skip rfl rfl rfl ?_ | refine ej_ret ?_ | refine ej_skip ?_ | refine ej_exit ?_ | refine ej_block ?_ | refine eq_seq_ret ?_ | refine eq_seq_exit ?_ | refine eq_block ?_ | refine eq_block_exit ?_ | refine eq_block_ret ?_ | refine eq_block_exit_ne rfl ?_ | refine eq_back_ret ?_ | refine eq_back_exit ?_))
    refine el_cons rfl (eo_ld 0 rfl rfl rfl rfl rfl rfl rfl rfl ?_)
    (repeat (first | refine el_pure rfl rfl rfl rfl ?_ | refine ej_seq ?_ | refine ej_region ?_ | refine el_nil ?_ | refine eq_seq ?_ | refine eq_calm ?_ | refine ej_true rfl ?_ | refine ej_false rfl ?_ | refine el_skip rfl rfl rfl ?_ | refine ej_ret ?_ | refine ej_skip ?_ | refine ej_exit ?_ | refine ej_block ?_ | refine eq_seq_ret ?_ | refine eq_seq_exit ?_ | refine eq_block ?_ | refine eq_block_exit ?_ | refine eq_block_ret ?_ | refine eq_block_exit_ne rfl ?_ | refine eq_back_ret ?_ | refine eq_back_exit ?_))
    refine el_cons rfl (eo_idxv rfl rfl rfl rfl rfl rfl rfl rfl rfl (hV.one (i := i + 1) hi) ⟨by omega, hlt⟩ ?_)
    (repeat (first | refine el_pure rfl rfl rfl rfl ?_ | refine ej_seq ?_ | refine ej_region ?_ | refine el_nil ?_ | refine eq_seq ?_ | refine eq_calm ?_ | refine ej_true rfl ?_ | refine ej_false rfl ?_ | refine el_skip rfl rfl rfl ?_ | refine ej_ret ?_ | refine ej_skip ?_ | refine ej_exit ?_ | refine ej_block ?_ | refine eq_seq_ret ?_ | refine eq_seq_exit ?_ | refine eq_block ?_ | refine eq_block_exit ?_ | refine eq_block_ret ?_ | refine eq_block_exit_ne rfl ?_ | refine eq_back_ret ?_ | refine eq_back_exit ?_))
    refine el_cons rfl (eo_ldv (k * 3 + 2) (v := .slice la lane.length lcap) rfl rfl rfl (vaddr ac k 2 3) rfl rfl (hV.one (i := i + 1) hi) (hg 2 (by decide)) ?_)
    (repeat (first | refine el_pure rfl rfl rfl rfl ?_ | refine ej_seq ?_ | refine ej_region ?_ | refine el_nil ?_ | refine eq_seq ?_ | refine eq_calm ?_ | refine ej_true rfl ?_ | refine ej_false rfl ?_ | refine el_skip rfl rfl rfl ?_ | refine ej_ret ?_ | refine ej_skip ?_ | refine ej_exit ?_ | refine ej_block ?_ | refine eq_seq_ret ?_ | refine eq_seq_exit ?_ | refine eq_block ?_ | refine eq_block_exit ?_ | refine eq_block_ret ?_ | refine eq_block_exit_ne rfl ?_ | refine eq_back_ret ?_ | refine eq_back_exit ?_ | refine el_cons rfl (eo_lenv rfl rfl rfl rfl rfl rfl ?_) | refine el_cons rfl (eo_arith rfl rfl rfl rfl rfl rfl ⟨by omega, by omega⟩ ?_)))
    refine ej_loopP (fun j : Nat => j ≤ lane.length) (fun j => [(1, int id), (2, ptr b2), (5, int ((M + (lane.take j).count id : Nat))), (6, int k), (10, int cs.length), (11, int k), (34, int lane.length), (35, int j)]) (fun _ => S w0 (cells b2 T_ref21_V (Hd.cells ⟨q, ad, nd, cd, ac, cs.length, cc, at', nt, ct⟩) :: l)) (fun j => lane.length - j) 0 (Nat.zero_le _) (le_of _ _ rfl) (fun w hw => hw) ?_
    intro j hj
    (repeat (first | refine el_pure rfl rfl rfl rfl ?_ | refine ej_seq ?_ | refine ej_region ?_ | refine el_nil ?_ | refine eq_seq ?_ | refine eq_calm ?_ | refine ej_true rfl ?_ | refine ej_false rfl ?_ | refine el_skip rfl rfl rfl ?_ | refine ej_ret ?_ | refine ej_skip ?_ | refine ej_exit ?_ | refine ej_block ?_ | refine eq_seq_ret ?_ | refine eq_seq_exit ?_ | refine eq_block ?_ | refine eq_block_exit ?_ | refine eq_block_ret ?_ | refine eq_block_exit_ne rfl ?_ | refine eq_back_ret ?_ | refine eq_back_exit ?_))
    refine ej_dec rfl (fun hlt3 => ?_) (fun hlt3 => ?_)
    · have hlt4 : j < lane.length := by omega
      have hx3 : (ints lane)[j]? = some (int lane[j]) := by simp [hlt4]
      have hc3 : (lane.take (j + 1)).count id = (lane.take j).count id + (if lane[j] = id then 1 else 0) := by
        rw [List.take_succ_eq_append_getElem hlt4, List.count_append, List.count_singleton]
        congr 1
        simp
      have hcl := List.count_le_length (a := id) (l := lane.take j)
      rw [List.length_take] at hcl
      generalize (lane.take j).count id = z at *
      generalize lane[j] = y at *
      (repeat (first | refine el_pure rfl rfl rfl rfl ?_ | refine ej_seq ?_ | refine ej_region ?_ | refine el_nil ?_ | refine eq_seq ?_ | refine eq_calm ?_ | refine ej_true rfl ?_ | refine ej_false rfl ?_ | refine el_skip rfl rfl rfl ?_ | refine ej_ret ?_ | refine ej_skip ?_ | refine ej_exit ?_ | refine ej_block ?_ | refine eq_seq_ret ?_ | refine eq_seq_exit ?_ | refine eq_block ?_ | refine eq_block_exit ?_ | refine eq_block_ret ?_ | refine eq_block_exit_ne rfl ?_ | refine eq_back_ret ?_ | refine eq_back_exit ?_))
      refine el_cons rfl (eo_ld 0 rfl rfl rfl rfl rfl rfl rfl rfl ?_)
      (repeat (first | refine el_pure rfl rfl rfl rfl ?_ | refine ej_seq ?_ | refine ej_region ?_ | refine el_nil ?_ | refine eq_seq ?_ | refine eq_calm ?_ | refine ej_true rfl ?_ | refine ej_false rfl ?_ | refine el_skip rfl rfl rfl ?_ | refine ej_ret ?_ | refine ej_skip ?_ | refine ej_exit ?_ | refine ej_block ?_ | refine eq_seq_ret ?_ | refine eq_seq_exit ?_ | refine eq_block ?_ | refine eq_block_exit ?_ | refine eq_block_ret ?_ | refine eq_block_exit_ne rfl ?_ | refine eq_back_ret ?_ | refine eq_back_exit ?_))
      refine el_cons rfl (eo_idxv rfl rfl rfl rfl rfl rfl rfl rfl rfl (hV.one (i := i + 1) hi) ⟨by omega, hlt⟩ ?_)
      (repeat (first | refine el_pure rfl rfl rfl rfl ?_ | refine ej_seq ?_ | refine ej_region ?_ | refine el_nil ?_ | refine eq_seq ?_ | refine eq_calm ?_ | refine ej_true rfl ?_ | refine ej_false rfl ?_ | refine el_skip rfl rfl rfl ?_ | refine ej_ret ?_ | refine ej_skip ?_ | refine ej_exit ?_ | refine ej_block ?_ | refine eq_seq_ret ?_ | refine eq_seq_exit ?_ | refine eq_block ?_ | refine eq_block_exit ?_ | refine eq_block_ret ?_ | refine eq_block_exit_ne rfl ?_ | refine eq_back_ret ?_ | refine eq_back_exit ?_))
      refine el_cons rfl (eo_ldv (k * 3 + 2) (v := .slice la lane.length lcap) rfl rfl rfl (vaddr ac k 2 3) rfl rfl (hV.one (i := i + 1) hi) (hg 2 (by decide)) ?_)
      (repeat (first | refine el_pure rfl rfl rfl rfl ?_ | refine ej_seq ?_ | refine ej_region ?_ | refine el_nil ?_ | refine eq_seq ?_ | refine eq_calm ?_ | refine ej_true rfl ?_ | refine ej_false rfl ?_ | refine el_skip rfl rfl rfl ?_ | refine ej_ret ?_ | refine ej_skip ?_ | refine ej_exit ?_ | refine ej_block ?_ | refine eq_seq_ret ?_ | refine eq_seq_exit ?_ | refine eq_block ?_ | refine eq_block_exit ?_ | refine eq_block_ret ?_ | refine eq_block_exit_ne rfl ?_ | refine eq_back_ret ?_ | refine eq_back_exit ?_))
      refine el_cons rfl (eo_idxv rfl rfl rfl rfl rfl rfl rfl rfl rfl (hlane.one (i := i + 1) hi) ⟨by omega, hlt3⟩ ?_)
      refine el_cons rfl (eo_ldv j (v := int y) rfl rfl rfl (vaddr1 la j) rfl rfl (hlane.one (i := i + 1) hi) hx3 ?_)
      (repeat (first | refine el_pure rfl rfl rfl rfl ?_ | refine ej_seq ?_ | refine ej_region ?_ | refine el_nil ?_ | refine eq_seq ?_ | refine eq_calm ?_ | refine ej_true rfl ?_ | refine ej_false rfl ?_ | refine el_skip rfl rfl rfl ?_ | refine ej_ret ?_ | refine ej_skip ?_ | refine ej_exit ?_ | refine ej_block ?_ | refine eq_seq_ret ?_ | refine eq_seq_exit ?_ | refine eq_block ?_ | refine eq_block_exit ?_ | refine eq_block_ret ?_ | refine eq_block_exit_ne rfl ?_ | refine eq_back_ret ?_ | refine eq_back_exit ?_))
      refine ej_dec rfl (fun h1 => ?_) (fun h1 => ?_)
      · rw [if_pos h1] at hc3
        (repeat (first | refine el_pure rfl rfl rfl rfl ?_ | refine ej_seq ?_ | refine ej_region ?_ | refine el_nil ?_ | refine eq_seq ?_ | refine eq_calm ?_ | refine ej_true rfl ?_ | refine ej_false rfl ?_ | refine el_skip rfl rfl rfl ?_ | refine ej_ret ?_ | refine ej_skip ?_ | refine ej_exit ?_ | refine ej_block ?_ | refine eq_seq_ret ?_ | refine eq_seq_exit ?_ | refine eq_block ?_ | refine eq_block_exit ?_ | refine eq_block_ret ?_ | refine eq_block_exit_ne rfl ?_ | refine eq_back_ret ?_ | refine eq_back_exit ?_ | refine el_cons rfl (eo_lenv rfl rfl rfl rfl rfl rfl ?_) | refine el_cons rfl (eo_arith rfl rfl rfl rfl rfl rfl ⟨by omega, by omega⟩ ?_)))
        refine eq_backP (j + 1) (by omega) (by omega) ?_ fun w hw => hw
        refine le_cons rfl (le_cons rfl (le_cons ?_ (le_of _ _ rfl)))
        show some (int (((M + z : Nat) : Int) + 1)) = some (int ((M + (lane.take (j + 1)).count id : Nat)))
        rw [hc3]; rfl
      · rw [if_neg h1] at hc3
        (repeat (first | refine el_pure rfl rfl rfl rfl ?_ | refine ej_seq ?_ | refine ej_region ?_ | refine el_nil ?_ | refine eq_seq ?_ | refine eq_calm ?_ | refine ej_true rfl ?_ | refine ej_false rfl ?_ | refine el_skip rfl rfl rfl ?_ | refine ej_ret ?_ | refine ej_skip ?_ | refine ej_exit ?_ | refine ej_block ?_ | refine eq_seq_ret ?_ | refine eq_seq_exit ?_ | refine eq_block ?_ | refine eq_block_exit ?_ | refine eq_block_ret ?_ | refine eq_block_exit_ne rfl ?_ | refine eq_back_ret ?_ | refine eq_back_exit ?_ | refine el_cons rfl (eo_lenv rfl rfl rfl rfl rfl rfl ?_) | refine el_cons rfl (eo_arith rfl rfl rfl rfl rfl rfl ⟨by omega, by omega⟩ ?_)))
        refine eq_backP (j + 1) (by omega) (by omega) ?_ fun w hw => hw
        refine le_cons rfl (le_cons rfl (le_cons ?_ (le_of _ _ rfl)))
        show some (int ((M + z : Nat))) = some (int ((M + (lane.take (j + 1)).count id : Nat)))
        rw [hc3]; rfl
    · obtain rfl : j = lane.length := by omega
      (repeat (first | refine el_pure rfl rfl rfl rfl ?_ | refine ej_seq ?_ | refine ej_region ?_ | refine el_nil ?_ | refine eq_seq ?_ | refine eq_calm ?_ | refine ej_true rfl ?_ | refine ej_false rfl ?_ | refine el_skip rfl rfl rfl ?_ | refine ej_ret ?_ | refine ej_skip ?_ | refine ej_exit ?_ | refine ej_block ?_ | refine eq_seq_ret ?_ | refine eq_seq_exit ?_ | refine eq_block ?_ | refine eq_block_exit ?_ | refine eq_block_ret ?_ | refine eq_block_exit_ne rfl ?_ | refine eq_back_ret ?_ | refine eq_back_exit ?_ | refine el_cons rfl (eo_lenv rfl rfl rfl rfl rfl rfl ?_) | refine el_cons rfl (eo_arith rfl rfl rfl rfl rfl rfl ⟨by omega, by omega⟩ ?_)))
      refine eq_backP (k + 1) (by omega) (by omega) ?_ fun w hw => hw
      refine le_cons rfl (le_cons rfl (le_cons ?_ (le_of _ _ rfl)))
      show some (int ((M + (lane.take lane.length).count id : Nat))) = some (int (placesN (cs.take (k + 1)) id))
      rw [hsn, hin, List.take_length, ← hM, Nat.add_assoc]
  · obtain rfl : k = cs.length := by omega
    rw [List.take_length]
    (repeat (first | refine el_pure rfl rfl rfl rfl ?_ | refine ej_seq ?_ | refine ej_region ?_ | refine el_nil ?_ | refine eq_seq ?_ | refine eq_calm ?_ | refine ej_true rfl ?_ | refine ej_false rfl ?_ | refine el_skip rfl rfl rfl ?_ | refine ej_ret ?_ | refine ej_skip ?_ | refine ej_exit ?_ | refine ej_block ?_ | refine eq_seq_ret ?_ | refine eq_seq_exit ?_ | refine eq_block ?_ | refine eq_block_exit ?_ | refine eq_block_ret ?_ | refine eq_block_exit_ne rfl ?_ | refine eq_back_ret ?_ | refine eq_back_exit ?_))
    exact eq_rett rfl fun w hw => ⟨rfl, hw.erase 0⟩

end Go.Proofs.Ytkpbpjnabbfdiaa
