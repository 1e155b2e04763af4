/- The program's Check. -/
import Derived.Test.YtkpbpjnabbfdiaaAi
namespace Go.Proofs.Ytkpbpjnabbfdiaa
open Go Go.SE

variable {w0 w : World} {l : List HP} {i : Nat} {r : Option (Nat × Nat)} {p : HP}

/-- who is put where, one by one -/
def laneP (num : Int) (lane : List Int) : List (Int × Spot) := lane.map fun id => (id, ⟨num, false⟩)
def curP (c : Cr) : List (Int × Spot) := if c.cur = 0 then [] else [(c.cur, ⟨c.num, true⟩)]
def coreP (c : Cr) : List (Int × Spot) := curP c ++ laneP c.num c.lane
def gfold (ps : List (Int × Spot)) : List (Int × List Spot) := ps.foldl (fun sp q => gadd sp q.1 q.2) []
theorem gfold_snoc (ps : List (Int × Spot)) (id : Int) (s : Spot) : gfold (ps ++ [(id, s)]) = gadd (gfold ps) id s := by simp [gfold]
def spOf (cs : List Cr) : List (Int × List Spot) := gfold (cs.map coreP).flatten
theorem ej_cont {C : Cx} {n : Nat} {c : Code} {Q : Kont} {e : Env} {H : WP} {α : Type} (E0 : α → Env) (H0 : α → WP) (h1 : (∀ x, EQ C n .normal Q (E0 x) (H0 x)) → EJ C n c Q e H) (h2 : ∀ x, EQ C n .normal Q (E0 x) (H0 x)) : EJ C n c Q e H := h1 h2
theorem gadd_len (sp : List (Int × List Spot)) (id : Int) (s : Spot) (m : Nat) (h : ∀ g ∈ sp, g.2.length ≤ m) : ∀ g ∈ gadd sp id s, g.2.length ≤ m + 1 := by
  intro g hg
  unfold gadd at hg
  split at hg
  · obtain ⟨g2, h2, rfl⟩ := List.mem_map.1 hg
    have := h g2 h2
    split
    · simp; omega
    · omega
  · rcases List.mem_append.1 hg with hg | hg
    · have := h g hg; omega
    · simp at hg; subst hg; simp
theorem gadd_many (sp : List (Int × List Spot)) (id : Int) (s : Spot) : (gadd sp id s).length ≤ sp.length + 1 := by
  unfold gadd
  split <;> simp
theorem gfold_len : ∀ (n : Nat) (ps : List (Int × Spot)), ps.length = n → (∀ g ∈ gfold ps, g.2.length ≤ n) ∧ (gfold ps).length ≤ n
  | 0, ps, h => by
    have := List.eq_nil_of_length_eq_zero h; subst this
    simp [gfold]
  | n + 1, ps, h => by
    have hne : ps ≠ [] := by rintro rfl; simp at h
    obtain ⟨qs, q, rfl⟩ : ∃ qs q, ps = qs ++ [q] := ⟨ps.dropLast, ps.getLast hne, (List.dropLast_concat_getLast hne).symm⟩
    obtain ⟨h1, h2⟩ := gfold_len n qs (by simpa using h)
    obtain ⟨id, s⟩ := q
    rw [gfold_snoc]
    exact ⟨gadd_len _ _ _ _ h1, by have := gadd_many (gfold qs) id s; omega⟩
theorem At.len {gs : List Grp} {id : Int} {r0 : Option (Nat × Nat)} {s0 : List Spot} {m : Nat} (h : At gs id r0 s0) (hm : ∀ g ∈ (gs.map fun g => (g.id, g.sp)), g.2.length ≤ m) : s0.length ≤ m := by
  rcases h.is with ⟨_, _, rfl⟩ | ⟨j, g, hj, _, _, rfl, _⟩
  · simp
  · exact hm (g.id, g.sp) (List.mem_map.2 ⟨g, List.mem_of_getElem? hj, rfl⟩)

/-- the groups so far -/
structure Gs (gs : List Grp) (ps : List (Int × Spot)) : Prop where
  eq : (gs.map fun g => (g.id, g.sp)) = gfold ps
  nd : (gs.map (·.id)).Nodup
theorem Gs.put {gs : List Grp} {ps : List (Int × Spot)} (h : Gs gs ps) {id : Int} {r0 : Option (Nat × Nat)} {s0 : List Spot} (hA : At gs id r0 s0) (r : Option (Nat × Nat)) (s : Spot) : Gs (gput gs id r (s0 ++ [s])) (ps ++ [(id, s)]) :=
  ⟨by rw [gput_id h.nd hA, h.eq, gfold_snoc], gput_nodup h.nd _ _ _⟩
theorem Gs.len {gs : List Grp} {ps : List (Int × Spot)} (h : Gs gs ps) {id : Int} {r0 : Option (Nat × Nat)} {s0 : List Spot} (hA : At gs id r0 s0) : s0.length ≤ ps.length :=
  hA.len (by rw [h.eq]; exact (gfold_len _ ps rfl).1)
theorem posts_le (cs : List Cr) (h : ∀ c ∈ cs, c.lane.length ≤ 1000) : ((cs.map coreP).flatten).length ≤ 1001 * cs.length := by
  induction cs with
  | nil => simp
  | cons c cs ih =>
    have h1 := h c (by simp)
    have h2 := ih fun c hc => h c (by simp [hc])
    have h3 : (coreP c).length ≤ 1001 := by
      rw [coreP, List.length_append, laneP, List.length_map, curP]
      split
      · simp only [List.length_nil]; omega
      · simp only [List.length_singleton]; omega
    rw [List.map_cons, List.flatten_cons, List.length_append, List.length_cons]
    omega

theorem ch_put {X Y : HP} {bs : Nat} {gs : List Grp} {id : Int} {r9 : Option (Nat × Nat)} {s0 : List Spot} {s : Spot} {rest : List HP} (hw : S w0 (X :: Y :: mapO bs .i64 (kput (gs.map Grp.kv) id (sv r9 (s0.length + 1))) :: rest) w) :
    S w0 (X :: Y :: mapO bs .i64 ((gput gs id r9 (s0 ++ [s])).map Grp.kv) :: rest) w := by rw [gput_kv, List.length_append]; exact hw
theorem thF_le (ds : List Dm) (sp : List (Int × List Spot)) (q : Int) (t : Th) : (thF ds sp q t).length ≤ 6 := by
  unfold thF
  have h := one_le
  simp only [List.length_append]
  have h1 := h (decide (spotOf sp t.id = [])) 3 t.id
  have h2 := h (badSlice q t) 9 t.id
  cases domOf ds t.dom with
  | none => simp only [List.length_singleton]; omega
  | some d =>
    simp only [List.length_append]
    have h3 := h (badSpot d (spotOf sp t.id) t) 6 t.id
    have h4 := h (!has (effM d t.mask) t.core) 7 t.id
    have h5 := h (!decide (roundOk d t)) 8 t.id
    omega
theorem flat_six {α β : Type} (f : α → List β) (h : ∀ x, (f x).length ≤ 6) (xs : List α) : (xs.map f).flatten.length ≤ 6 * xs.length := by
  induction xs with
  | nil => simp
  | cons x xs ih => have := h x; rw [List.map_cons, List.flatten_cons, List.length_append, List.length_cons]; omega
abbrev chL (b b1 : Nat) (v : Hd) (bs bw : Nat) (gs : List Grp) (aw : List Th) : List HP :=
  [cells b T_audit_auditor [int v.q, .slice v.ad v.nd v.cd, .slice v.ac v.nc v.cc, .slice v.at' v.nt v.ct, .map (some bs), .map (some bw), .slice none 0 0],
   mapO bs .i64 (gs.map Grp.kv), grpsO gs, awO bw aw, rowC none T_audit_Finding 2 [] 0, cells b1 T_audit_View [int v.q, .slice v.ad v.nd v.cd, .slice v.ac v.nc v.cc, .slice v.at' v.nt v.ct]]

set_option maxHeartbeats 12800000 in
theorem Check_any {v : Hd} {ds : List Dm} {cs : List Cr} {ts : List Th} (htag : ∀ t ∈ ts, 0 ≤ t.tag ∧ t.tag ≤ 9223372036854775807) (hids : (ts.map (·.id)).Nodup) (hi : l[i]? = some p) (hv : AuV w0 p v ds cs ts) :
    Does cx F_audit_Check [.agg (Hd.cells v).toArray] (S w0 l) fun u w => ∃ x : Option Addr × Nat × HP × List Fnd × List (Int × List Spot) × List Th, u = .slice x.1 (compactL (sortF x.2.2.2.1)).length x.2.1 ∧
      (View w0 [x.2.2.1] 2 x.1 (rows Fnd.cells (compactL (sortF x.2.2.2.1))) (compactL (sortF x.2.2.2.1)).length x.2.1 ∧ x.2.2.2.2.1.Perm (spOf cs) ∧ x.2.2.2.2.2.Perm (ts.filter (·.awake)) ∧
        x.2.2.2.1 = domT (ts.filter (·.awake)) ds ds.length ++ (x.2.2.2.2.1.map (grpF (ts.filter (·.awake)))).flatten ++ (cs.map (coreAt ds (ts.filter (·.awake)))).flatten ++ (x.2.2.2.2.2.map (thF ds (spOf cs) v.q)).flatten) ∧ S w0 (x.2.2.1 :: l) w := by
  refine fn_enter (n := N_audit_Check) fn_audit_Check rfl rfl rfl ?_
  refine ej_seq (ej_region (el_cons rfl (eo_box rfl rfl rfl rfl fun b1 => ?_)))
  obtain ⟨q, ad, nd, cd, ac, nc, cc, at', nt, ct⟩ := v
  obtain rfl : nd = ds.length := hv.nd
  obtain rfl : nc = cs.length := hv.nc
  obtain rfl : nt = ts.length := hv.nt
  have hfew := hv.few
  have hlanes := hv.lanes
  (repeat (first | refine el_pure rfl rfl rfl rfl ?_ | refine ej_seq ?_ | refine ej_region ?_ | refine el_nil ?_ | refine eq_seq ?_ | refine eq_calm ?_ | refine ej_true rfl ?_ | refine ej_false rfl ?_ | refine el_skip rfl rfl rfl ?_ | refine ej_ret ?_ | refine ej_skip ?_ | refine ej_exit ?_ | refine ej_block ?_ | refine eq_seq_ret ?_ | refine eq_seq_exit ?_ | refine eq_block ?_ | refine eq_block_exit ?_ | refine eq_block_ret ?_ | refine eq_block_exit_ne rfl ?_ | refine eq_back_ret ?_ | refine eq_back_exit ?_))
  refine el_cons rfl (eo_ldW 0 rfl rfl rfl rfl rfl rfl rfl rfl ?_)
  refine el_cons rfl (eo_mkmap rfl rfl rfl .i64 fun bs => ?_)
  refine el_cons rfl (eo_mkmap rfl rfl rfl .i64 fun bw => ?_)
  refine el_cons rfl (eo_build (cs := [int q, .slice ad ds.length cd, .slice ac cs.length cc, .slice at' ts.length ct, .map (some bs), .map (some bw), .slice none 0 0]) rfl rfl rfl rfl rfl rfl rfl rfl ?_)
  refine el_cons rfl (eo_box rfl rfl rfl rfl fun b => ?_)
  refine el_imp (H' := S w0 (chL b b1 ⟨q, ad, ds.length, cd, ac, cs.length, cc, at', ts.length, ct⟩ bs bw [] [] ++ l)) (fun w hw => by
    have h1 := S.gather (ps := []) (hw.row_new (T := T_audit_Finding) (sz := 2))
    exact ((((h1.front (i := 1) rfl).front (i := 3) rfl).front (i := 2) rfl).front (i := 4) rfl).front (i := 4) rfl) ?_
  (repeat (first | refine el_pure rfl rfl rfl rfl ?_ | refine ej_seq ?_ | refine ej_region ?_ | refine el_nil ?_ | refine eq_seq ?_ | refine eq_calm ?_ | refine ej_true rfl ?_ | refine ej_false rfl ?_ | refine el_skip rfl rfl rfl ?_ | refine ej_ret ?_ | refine ej_skip ?_ | refine ej_exit ?_ | refine ej_block ?_ | refine eq_seq_ret ?_ | refine eq_seq_exit ?_ | refine eq_block ?_ | refine eq_block_exit ?_ | refine eq_block_ret ?_ | refine eq_block_exit_ne rfl ?_ | refine eq_back_ret ?_ | refine eq_back_exit ?_))
  refine el_cons rfl (eo_ld 5 rfl rfl rfl rfl rfl rfl rfl rfl ?_)
  (repeat (first | refine el_pure rfl rfl rfl rfl ?_ | refine ej_seq ?_ | refine ej_region ?_ | refine el_nil ?_ | refine eq_seq ?_ | refine eq_calm ?_ | refine ej_true rfl ?_ | refine ej_false rfl ?_ | refine el_skip rfl rfl rfl ?_ | refine ej_ret ?_ | refine ej_skip ?_ | refine ej_exit ?_ | refine ej_block ?_ | refine eq_seq_ret ?_ | refine eq_seq_exit ?_ | refine eq_block ?_ | refine eq_block_exit ?_ | refine eq_block_ret ?_ | refine eq_block_exit_ne rfl ?_ | refine eq_back_ret ?_ | refine eq_back_exit ?_ | refine el_cons rfl (eo_lenv rfl rfl rfl rfl rfl rfl ?_) | refine el_cons rfl (eo_arith rfl rfl rfl rfl rfl rfl ⟨by omega, by omega⟩ ?_)))
  have hVc := hv.lies.c
  have hVt := hv.lies.t
  refine ej_loopP (α := Nat × List Grp) (fun y => y.1 ≤ cs.length ∧ Gs y.2 ((cs.take y.1).map coreP).flatten) (fun y => [(1, ptr b1), (3, ptr b), (18, .slice ac cs.length cc), (19, int cs.length), (20, int y.1)])
    (fun y => S w0 (chL b b1 ⟨q, ad, ds.length, cd, ac, cs.length, cc, at', ts.length, ct⟩ bs bw y.2 [] ++ l)) (fun y => cs.length - y.1) (0, []) ⟨Nat.zero_le _, ⟨rfl, by simp⟩⟩ (le_of _ _ rfl) (fun w hw => hw) ?_
  rintro ⟨k, gs⟩ ⟨hk, hG⟩
  have hk : k ≤ cs.length := hk
  have hG : Gs gs ((cs.take k).map coreP).flatten := hG
  (repeat (first | refine el_pure rfl rfl rfl rfl ?_ | refine ej_seq ?_ | refine ej_region ?_ | refine el_nil ?_ | refine eq_seq ?_ | refine eq_calm ?_ | refine ej_true rfl ?_ | refine ej_false rfl ?_ | refine el_skip rfl rfl rfl ?_ | refine ej_ret ?_ | refine ej_skip ?_ | refine ej_exit ?_ | refine ej_block ?_ | refine eq_seq_ret ?_ | refine eq_seq_exit ?_ | refine eq_block ?_ | refine eq_block_exit ?_ | refine eq_block_ret ?_ | refine eq_block_exit_ne rfl ?_ | refine eq_back_ret ?_ | refine eq_back_exit ?_))
  refine ej_dec rfl (fun hlt => ?_) (fun hlt => ?_)
  · have hlt : (k : Int) < cs.length := hlt
    have hlt' : k < cs.length := by omega
    have hx' : cs[k]? = some cs[k] := by simp [hlt']
    have hmem := List.getElem_mem hlt'
    have hlane := hv.lies.lane _ hmem
    have hll := hlanes _ hmem
    have hsn : ((cs.take (k + 1)).map coreP).flatten = ((cs.take k).map coreP).flatten ++ coreP cs[k] := by
      rw [List.take_succ_eq_append_getElem hlt', flat_snoc]
    have hpl : (((cs.take k).map coreP).flatten).length ≤ 1001 * k := by
      have := posts_le (cs.take k) fun c hc => hlanes c (List.mem_of_mem_take hc)
      rw [List.length_take] at this; omega
    generalize ((cs.take k).map coreP).flatten = P at *
    generalize cs[k] = c at *
    have hg : ∀ j, j < 3 → (rows Cr.cells cs)[k * 3 + j]? = c.cells[j]? := fun j hj => rows_get Cr.cells 3 cr3 cs k j c hx' hj
    obtain ⟨num, cur, lane, la, lcap⟩ := c
    have hlane : View w0 [p] 1 la (ints lane) lane.length lcap := hlane
    have hll : lane.length ≤ 1000 := hll
    have hcP : coreP ⟨num, cur, lane, la, lcap⟩ = curP ⟨num, cur, lane, la, lcap⟩ ++ laneP num lane := rfl
    (repeat (first | refine el_pure rfl rfl rfl rfl ?_ | refine ej_seq ?_ | refine ej_region ?_ | refine el_nil ?_ | refine eq_seq ?_ | refine eq_calm ?_ | refine ej_true rfl ?_ | refine ej_false rfl ?_ | refine el_skip rfl rfl rfl ?_ | refine ej_ret ?_ | refine ej_skip ?_ | refine ej_exit ?_ | refine ej_block ?_ | refine eq_seq_ret ?_ | refine eq_seq_exit ?_ | refine eq_block ?_ | refine eq_block_exit ?_ | refine eq_block_ret ?_ | refine eq_block_exit_ne rfl ?_ | refine eq_back_ret ?_ | refine eq_back_exit ?_))
    refine el_cons rfl (eo_idxv rfl rfl rfl rfl rfl rfl rfl rfl rfl (hVc.one (i := i + 6) hi) ⟨by omega, hlt⟩ ?_)
    refine el_cons rfl (eo_ldvA (k * 3) (cs := Cr.cells ⟨num, cur, lane, la, lcap⟩) rfl rfl rfl rfl rfl rfl (hVc.one (i := i + 6) hi) rfl hg ?_)
    refine el_cons rfl (eo_alloc rfl rfl rfl rfl fun b5 => ?_)
    refine el_cons rfl (eo_stA 0 rfl rfl rfl rfl rfl rfl rfl rfl rfl ?_)
    (repeat (first | refine el_pure rfl rfl rfl rfl ?_ | refine ej_seq ?_ | refine ej_region ?_ | refine el_nil ?_ | refine eq_seq ?_ | refine eq_calm ?_ | refine ej_true rfl ?_ | refine ej_false rfl ?_ | refine el_skip rfl rfl rfl ?_ | refine ej_ret ?_ | refine ej_skip ?_ | refine ej_exit ?_ | refine ej_block ?_ | refine eq_seq_ret ?_ | refine eq_seq_exit ?_ | refine eq_block ?_ | refine eq_block_exit ?_ | refine eq_block_ret ?_ | refine eq_block_exit_ne rfl ?_ | refine eq_back_ret ?_ | refine eq_back_exit ?_))
    refine el_cons rfl (eo_ld 0 rfl rfl rfl rfl rfl rfl rfl rfl ?_)
    (repeat (first | refine el_pure rfl rfl rfl rfl ?_ | refine ej_seq ?_ | refine ej_region ?_ | refine el_nil ?_ | refine eq_seq ?_ | refine eq_calm ?_ | refine ej_true rfl ?_ | refine ej_false rfl ?_ | refine el_skip rfl rfl rfl ?_ | refine ej_ret ?_ | refine ej_skip ?_ | refine ej_exit ?_ | refine ej_block ?_ | refine eq_seq_ret ?_ | refine eq_seq_exit ?_ | refine eq_block ?_ | refine eq_block_exit ?_ | refine eq_block_ret ?_ | refine eq_block_exit_ne rfl ?_ | refine eq_back_ret ?_ | refine eq_back_exit ?_))
    refine ej_cont (α := { gs' : List Grp // Gs gs' (P ++ curP ⟨num, cur, lane, la, lcap⟩) }) (fun _ => [(1, ptr b1), (3, ptr b), (5, ptr b5), (18, .slice ac cs.length cc), (19, int cs.length), (20, int k)])
      (fun y => S w0 (cells b5 T_audit_Core (Cr.cells ⟨num, cur, lane, la, lcap⟩) :: (chL b b1 ⟨q, ad, ds.length, cd, ac, cs.length, cc, at', ts.length, ct⟩ bs bw y.1 [] ++ l))) (fun cont => ?_) ?_
    · refine ej_dec rfl (fun hc => ?_) (fun hc => ?_)
      · have hc : ¬ cur = 0 := hc
        obtain ⟨r0, s0, hA, hlook⟩ := grp_look gs cur
        have hnd := hG.nd
        have hs0 : s0.length ≤ 100000000 := by have := hG.len hA; omega
        have hcur : curP ⟨num, cur, lane, la, lcap⟩ = [(cur, ⟨num, true⟩)] := if_neg hc
        have hput := fun r9 => hG.put hA r9 ⟨num, true⟩
        rw [← hcur] at hput
        (repeat (first | refine el_pure rfl rfl rfl rfl ?_ | refine ej_seq ?_ | refine ej_region ?_ | refine el_nil ?_ | refine eq_seq ?_ | refine eq_calm ?_ | refine ej_true rfl ?_ | refine ej_false rfl ?_ | refine el_skip rfl rfl rfl ?_ | refine ej_ret ?_ | refine ej_skip ?_ | refine ej_exit ?_ | refine ej_block ?_ | refine eq_seq_ret ?_ | refine eq_seq_exit ?_ | refine eq_block ?_ | refine eq_block_exit ?_ | refine eq_block_ret ?_ | refine eq_block_exit_ne rfl ?_ | refine eq_back_ret ?_ | refine eq_back_exit ?_))
        refine ej_held [cells b5 T_audit_Core (Cr.cells ⟨num, cur, lane, la, lcap⟩), cells b T_audit_auditor [int q, .slice ad ds.length cd, .slice ac cs.length cc, .slice at' ts.length ct, .map (some bs), .map (some bw), .slice none 0 0]] ?_
        refine eh_take 0 (held (.cons 0 rfl (.cons 1 rfl .nil))) rfl (by kernel_rfl) (by kernel_rfl) (by kernel_rfl) rfl rfl rfl rfl ?_
        refine eh_take 1 (held (.cons 0 rfl (.cons 1 rfl .nil))) rfl (by kernel_rfl) (by kernel_rfl) (by kernel_rfl) rfl rfl rfl rfl ?_
        refine eh_take 2 (held (.cons 0 rfl (.cons 1 rfl .nil))) rfl (by kernel_rfl) (by kernel_rfl) (by kernel_rfl) rfl rfl rfl rfl ?_
        refine eh_load 3 (held (.cons 0 rfl (.cons 1 rfl .nil))) rfl (by kernel_rfl) (by kernel_rfl) (by kernel_rfl) rfl rfl rfl (er_ld 1 rfl rfl rfl rfl rfl rfl) ?_
        refine eh_take 4 (held (.cons 0 rfl (.cons 1 rfl .nil))) rfl (by kernel_rfl) (by kernel_rfl) (by kernel_rfl) rfl rfl rfl rfl ?_
        refine eh_load 5 (held (.cons 0 rfl (.cons 1 rfl .nil))) rfl (by kernel_rfl) (by kernel_rfl) (by kernel_rfl) rfl rfl rfl (er_ld 0 rfl rfl rfl rfl rfl rfl) ?_
        refine eh_take 6 (held (.cons 0 rfl (.cons 1 rfl .nil))) rfl (by kernel_rfl) (by kernel_rfl) (by kernel_rfl) rfl rfl rfl rfl ?_
        refine eh_take 7 (held (.cons 0 rfl (.cons 1 rfl .nil))) rfl (by kernel_rfl) (by kernel_rfl) (by kernel_rfl) rfl rfl rfl rfl ?_
        refine eh_take 8 (held (.cons 0 rfl (.cons 1 rfl .nil))) rfl (by kernel_rfl) (by kernel_rfl) (by kernel_rfl) rfl rfl rfl rfl ?_
        refine eh_load 9 (held (.cons 0 rfl (.cons 1 rfl .nil))) rfl (by kernel_rfl) (by kernel_rfl) (by kernel_rfl) rfl rfl rfl (er_ld 1 rfl rfl rfl rfl rfl rfl) ?_
        refine eh_take 10 (held (.cons 0 rfl (.cons 1 rfl .nil))) rfl (by kernel_rfl) (by kernel_rfl) (by kernel_rfl) rfl rfl rfl rfl ?_
        refine eh_load 11 (held (.cons 0 rfl (.cons 1 rfl .nil))) rfl (by kernel_rfl) (by kernel_rfl) (by kernel_rfl) rfl rfl rfl (er_ld 0 rfl rfl rfl rfl rfl rfl) ?_
        refine eh_take 13 (held (.cons 0 rfl (.cons 1 rfl .nil))) rfl (by kernel_rfl) (by kernel_rfl) (by kernel_rfl) rfl rfl rfl rfl ?_
        refine eh_load 14 (held (.cons 0 rfl (.cons 1 rfl .nil))) rfl (by kernel_rfl) (by kernel_rfl) (by kernel_rfl) rfl rfl rfl (er_ld 0 rfl rfl rfl rfl rfl rfl) ?_
        refine eh_load 15 (held (.cons 0 rfl (.cons 1 rfl .nil))) rfl (by kernel_rfl) (by kernel_rfl) (by kernel_rfl) rfl rfl rfl (er_build (cs := Spot.cells ⟨num, true⟩) rfl rfl rfl rfl rfl rfl) ?_
        refine eh_ways [12, 16] (by kernel_rfl) rfl (.cons (hway rfl rfl (eo_lookup 2 rfl rfl rfl rfl rfl rfl rfl rfl rfl rfl rfl ⟨held (.cons 0 rfl (.cons 1 rfl .nil)), ?_⟩)) (.cons (hway rfl rfl (eo_buildS (cs := Spot.cells ⟨num, true⟩) rfl rfl rfl rfl rfl rfl rfl rfl rfl rfl fun b4 => ⟨held (.cons 1 rfl (.cons 2 rfl .nil)), ?_⟩)) .nil))
        · refine eh_val 39 rfl hlook ?_
          refine eh_way 16 (by kernel_rfl) (hway rfl rfl (eo_buildS (cs := Spot.cells ⟨num, true⟩) rfl rfl rfl rfl rfl rfl rfl rfl rfl rfl fun b4 => ⟨held (.cons 1 rfl (.cons 2 rfl .nil)), ?_⟩))
          refine eh_way 17 (by kernel_rfl) (hway rfl rfl (eo_appendG 4 ⟨num, true⟩ rfl rfl rfl rfl rfl rfl rfl rfl rfl rfl rfl rfl hnd hA hs0 (fun w hw j u hu => by rw [addr_add, Nat.zero_add]; exact hw.cell (i := 0) rfl hu) fun r9 => ⟨held (.cons 1 rfl (.cons 2 rfl .nil)), ?_⟩))
          refine eh_way 18 (by kernel_rfl) (hway rfl rfl (eo_mapset 3 rfl rfl rfl rfl rfl rfl rfl rfl rfl rfl ⟨held (.cons 1 rfl (.cons 2 rfl .nil)), ?_⟩))
          refine eh_done (by kernel_rfl) (eq_calm (eq_le (cont ⟨_, hput r9⟩) (le_of _ _ rfl) fun w hw => ch_put (hw.erase 0)))
        · refine eh_way 12 (by kernel_rfl) (hway rfl rfl (eo_lookup 3 rfl rfl rfl rfl rfl rfl rfl rfl rfl rfl rfl ⟨held (.cons 1 rfl (.cons 2 rfl .nil)), ?_⟩))
          refine eh_val 39 rfl hlook ?_
          refine eh_way 17 (by kernel_rfl) (hway rfl rfl (eo_appendG 4 ⟨num, true⟩ rfl rfl rfl rfl rfl rfl rfl rfl rfl rfl rfl rfl hnd hA hs0 (fun w hw j u hu => by rw [addr_add, Nat.zero_add]; exact hw.cell (i := 0) rfl hu) fun r9 => ⟨held (.cons 1 rfl (.cons 2 rfl .nil)), ?_⟩))
          refine eh_way 18 (by kernel_rfl) (hway rfl rfl (eo_mapset 3 rfl rfl rfl rfl rfl rfl rfl rfl rfl rfl ⟨held (.cons 1 rfl (.cons 2 rfl .nil)), ?_⟩))
          refine eh_done (by kernel_rfl) (eq_calm (eq_le (cont ⟨_, hput r9⟩) (le_of _ _ rfl) fun w hw => ch_put (hw.erase 0)))
      · have hc : cur = 0 := Decidable.not_not.1 hc
        have hcur : curP ⟨num, cur, lane, la, lcap⟩ = [] := if_pos hc
        exact ej_skip (eq_le (cont ⟨gs, by rw [hcur, List.append_nil]; exact hG⟩) (le_of _ _ rfl) fun w hw => hw)
    rintro ⟨gs1, hG1⟩
    (repeat (first | refine el_pure rfl rfl rfl rfl ?_ | refine ej_seq ?_ | refine ej_region ?_ | refine el_nil ?_ | refine eq_seq ?_ | refine eq_calm ?_ | refine ej_true rfl ?_ | refine ej_false rfl ?_ | refine el_skip rfl rfl rfl ?_ | refine ej_ret ?_ | refine ej_skip ?_ | refine ej_exit ?_ | refine ej_block ?_ | refine eq_seq_ret ?_ | refine eq_seq_exit ?_ | refine eq_block ?_ | refine eq_block_exit ?_ | refine eq_block_ret ?_ | refine eq_block_exit_ne rfl ?_ | refine eq_back_ret ?_ | refine eq_back_exit ?_))
    refine el_cons rfl (eo_ld 0 rfl rfl rfl rfl rfl rfl rfl rfl ?_)
    (repeat (first | refine el_pure rfl rfl rfl rfl ?_ | refine ej_seq ?_ | refine ej_region ?_ | refine el_nil ?_ | refine eq_seq ?_ | refine eq_calm ?_ | refine ej_true rfl ?_ | refine ej_false rfl ?_ | refine el_skip rfl rfl rfl ?_ | refine ej_ret ?_ | refine ej_skip ?_ | refine ej_exit ?_ | refine ej_block ?_ | refine eq_seq_ret ?_ | refine eq_seq_exit ?_ | refine eq_block ?_ | refine eq_block_exit ?_ | refine eq_block_ret ?_ | refine eq_block_exit_ne rfl ?_ | refine eq_back_ret ?_ | refine eq_back_exit ?_ | refine el_cons rfl (eo_lenv rfl rfl rfl rfl rfl rfl ?_) | refine el_cons rfl (eo_arith rfl rfl rfl rfl rfl rfl ⟨by omega, by omega⟩ ?_)))
    refine ej_loopP (α := Nat × List Grp) (fun y => y.1 ≤ lane.length ∧ Gs y.2 (P ++ curP ⟨num, cur, lane, la, lcap⟩ ++ laneP num (lane.take y.1))) (fun y => [(1, ptr b1), (3, ptr b), (5, ptr b5), (18, .slice ac cs.length cc), (19, int cs.length), (20, int k), (46, .slice la lane.length lcap), (47, int lane.length), (48, int y.1)])
      (fun y => S w0 (cells b5 T_audit_Core (Cr.cells ⟨num, cur, lane, la, lcap⟩) :: (chL b b1 ⟨q, ad, ds.length, cd, ac, cs.length, cc, at', ts.length, ct⟩ bs bw y.2 [] ++ l))) (fun y => lane.length - y.1) (0, gs1) ⟨Nat.zero_le _, by simpa [laneP] using hG1⟩ (le_of _ _ rfl) (fun w hw => hw) ?_
    rintro ⟨j, gs2⟩ ⟨hj, hG2⟩
    have hj : j ≤ lane.length := hj
    have hG2 : Gs gs2 (P ++ curP ⟨num, cur, lane, la, lcap⟩ ++ laneP num (lane.take j)) := hG2
    (repeat (first | refine el_pure rfl rfl rfl rfl ?_ | refine ej_seq ?_ | refine ej_region ?_ | refine el_nil ?_ | refine eq_seq ?_ | refine eq_calm ?_ | refine ej_true rfl ?_ | refine ej_false rfl ?_ | refine el_skip rfl rfl rfl ?_ | refine ej_ret ?_ | refine ej_skip ?_ | refine ej_exit ?_ | refine ej_block ?_ | refine eq_seq_ret ?_ | refine eq_seq_exit ?_ | refine eq_block ?_ | refine eq_block_exit ?_ | refine eq_block_ret ?_ | refine eq_block_exit_ne rfl ?_ | refine eq_back_ret ?_ | refine eq_back_exit ?_))
    refine ej_dec rfl (fun hlt3 => ?_) (fun hlt3 => ?_)
    · have hlt3 : (j : Int) < lane.length := hlt3
      have hlt4 : j < lane.length := by omega
      have hx3 : (ints lane)[j]? = some (int lane[j]) := by simp [hlt4]
      have hsn3 : laneP num (lane.take (j + 1)) = laneP num (lane.take j) ++ [(lane[j], ⟨num, false⟩)] := by
        rw [laneP, laneP, List.take_succ_eq_append_getElem hlt4, List.map_append]; rfl
      generalize lane[j] = id at *
      obtain ⟨r0, s0, hA, hlook⟩ := grp_look gs2 id
      have hnd := hG2.nd
      have hs0 : s0.length ≤ 100000000 := by
        have h1 := hG2.len hA
        have h2 : (curP ⟨num, cur, lane, la, lcap⟩).length ≤ 1 := by unfold curP; split <;> simp
        rw [List.length_append, List.length_append, laneP, List.length_map, List.length_take] at h1
        omega
      have hput := fun r9 => hG2.put hA r9 ⟨num, false⟩
      rw [List.append_assoc (P ++ curP ⟨num, cur, lane, la, lcap⟩), ← hsn3] at hput
      (repeat (first | refine el_pure rfl rfl rfl rfl ?_ | refine ej_seq ?_ | refine ej_region ?_ | refine el_nil ?_ | refine eq_seq ?_ | refine eq_calm ?_ | refine ej_true rfl ?_ | refine ej_false rfl ?_ | refine el_skip rfl rfl rfl ?_ | refine ej_ret ?_ | refine ej_skip ?_ | refine ej_exit ?_ | refine ej_block ?_ | refine eq_seq_ret ?_ | refine eq_seq_exit ?_ | refine eq_block ?_ | refine eq_block_exit ?_ | refine eq_block_ret ?_ | refine eq_block_exit_ne rfl ?_ | refine eq_back_ret ?_ | refine eq_back_exit ?_))
      refine el_cons rfl (eo_idxv rfl rfl rfl rfl rfl rfl rfl rfl rfl (hlane.one (i := i + 7) hi) ⟨by omega, hlt3⟩ ?_)
      refine el_cons rfl (eo_ldv j (v := int id) rfl rfl rfl (by show some (Value.pointer (some ⟨ob la, oo la + ((j : Nat) : Int).toNat * 1, none⟩)) = _; simp) rfl rfl (hlane.one (i := i + 7) hi) hx3 ?_)
      (repeat (first | refine el_pure rfl rfl rfl rfl ?_ | refine ej_seq ?_ | refine ej_region ?_ | refine el_nil ?_ | refine eq_seq ?_ | refine eq_calm ?_ | refine ej_true rfl ?_ | refine ej_false rfl ?_ | refine el_skip rfl rfl rfl ?_ | refine ej_ret ?_ | refine ej_skip ?_ | refine ej_exit ?_ | refine ej_block ?_ | refine eq_seq_ret ?_ | refine eq_seq_exit ?_ | refine eq_block ?_ | refine eq_block_exit ?_ | refine eq_block_ret ?_ | refine eq_block_exit_ne rfl ?_ | refine eq_back_ret ?_ | refine eq_back_exit ?_))
      refine ej_held [cells b5 T_audit_Core (Cr.cells ⟨num, cur, lane, la, lcap⟩), cells b T_audit_auditor [int q, .slice ad ds.length cd, .slice ac cs.length cc, .slice at' ts.length ct, .map (some bs), .map (some bw), .slice none 0 0]] ?_
      refine eh_cont (fun _ : Option (Nat × Nat) => [(1, ptr b1), (3, ptr b), (5, ptr b5), (18, .slice ac cs.length cc), (19, int cs.length), (20, int k), (46, .slice la lane.length lcap), (47, int lane.length), (48, int j)])
        (fun r9 => S w0 (cells b5 T_audit_Core (Cr.cells ⟨num, cur, lane, la, lcap⟩) :: (chL b b1 ⟨q, ad, ds.length, cd, ac, cs.length, cc, at', ts.length, ct⟩ bs bw (gput gs2 id r9 (s0 ++ [⟨num, false⟩])) [] ++ l))) (fun cont => ?_) (fun r9 => ?_)
      · refine eh_take 0 (held (.cons 0 rfl (.cons 1 rfl .nil))) rfl (by kernel_rfl) (by kernel_rfl) (by kernel_rfl) rfl rfl rfl rfl ?_
        refine eh_take 1 (held (.cons 0 rfl (.cons 1 rfl .nil))) rfl (by kernel_rfl) (by kernel_rfl) (by kernel_rfl) rfl rfl rfl rfl ?_
        refine eh_take 2 (held (.cons 0 rfl (.cons 1 rfl .nil))) rfl (by kernel_rfl) (by kernel_rfl) (by kernel_rfl) rfl rfl rfl rfl ?_
        refine eh_load 3 (held (.cons 0 rfl (.cons 1 rfl .nil))) rfl (by kernel_rfl) (by kernel_rfl) (by kernel_rfl) rfl rfl rfl (er_ld 1 rfl rfl rfl rfl rfl rfl) ?_
        refine eh_take 4 (held (.cons 0 rfl (.cons 1 rfl .nil))) rfl (by kernel_rfl) (by kernel_rfl) (by kernel_rfl) rfl rfl rfl rfl ?_
        refine eh_take 5 (held (.cons 0 rfl (.cons 1 rfl .nil))) rfl (by kernel_rfl) (by kernel_rfl) (by kernel_rfl) rfl rfl rfl rfl ?_
        refine eh_take 6 (held (.cons 0 rfl (.cons 1 rfl .nil))) rfl (by kernel_rfl) (by kernel_rfl) (by kernel_rfl) rfl rfl rfl rfl ?_
        refine eh_take 7 (held (.cons 0 rfl (.cons 1 rfl .nil))) rfl (by kernel_rfl) (by kernel_rfl) (by kernel_rfl) rfl rfl rfl rfl ?_
        refine eh_load 8 (held (.cons 0 rfl (.cons 1 rfl .nil))) rfl (by kernel_rfl) (by kernel_rfl) (by kernel_rfl) rfl rfl rfl (er_ld 1 rfl rfl rfl rfl rfl rfl) ?_
        refine eh_take 9 (held (.cons 0 rfl (.cons 1 rfl .nil))) rfl (by kernel_rfl) (by kernel_rfl) (by kernel_rfl) rfl rfl rfl rfl ?_
        refine eh_take 11 (held (.cons 0 rfl (.cons 1 rfl .nil))) rfl (by kernel_rfl) (by kernel_rfl) (by kernel_rfl) rfl rfl rfl rfl ?_
        refine eh_load 12 (held (.cons 0 rfl (.cons 1 rfl .nil))) rfl (by kernel_rfl) (by kernel_rfl) (by kernel_rfl) rfl rfl rfl (er_ld 0 rfl rfl rfl rfl rfl rfl) ?_
        refine eh_load 13 (held (.cons 0 rfl (.cons 1 rfl .nil))) rfl (by kernel_rfl) (by kernel_rfl) (by kernel_rfl) rfl rfl rfl (er_build (cs := Spot.cells ⟨num, false⟩) rfl rfl rfl rfl rfl rfl) ?_
        refine eh_ways [10, 14] (by kernel_rfl) rfl (.cons (hway rfl rfl (eo_lookup 2 rfl rfl rfl rfl rfl rfl rfl rfl rfl rfl rfl ⟨held (.cons 0 rfl (.cons 1 rfl .nil)), ?_⟩)) (.cons (hway rfl rfl (eo_buildS (cs := Spot.cells ⟨num, false⟩) rfl rfl rfl rfl rfl rfl rfl rfl rfl rfl fun b4 => ⟨held (.cons 1 rfl (.cons 2 rfl .nil)), ?_⟩)) .nil))
        · refine eh_val 62 rfl hlook ?_
          refine eh_way 14 (by kernel_rfl) (hway rfl rfl (eo_buildS (cs := Spot.cells ⟨num, false⟩) rfl rfl rfl rfl rfl rfl rfl rfl rfl rfl fun b4 => ⟨held (.cons 1 rfl (.cons 2 rfl .nil)), ?_⟩))
          refine eh_way 15 (by kernel_rfl) (hway rfl rfl (eo_appendG 4 ⟨num, false⟩ rfl rfl rfl rfl rfl rfl rfl rfl rfl rfl rfl rfl hnd hA hs0 (fun w hw j u hu => by rw [addr_add, Nat.zero_add]; exact hw.cell (i := 0) rfl hu) fun r9 => ⟨held (.cons 1 rfl (.cons 2 rfl .nil)), ?_⟩))
          refine eh_way 16 (by kernel_rfl) (hway rfl rfl (eo_mapset 3 rfl rfl rfl rfl rfl rfl rfl rfl rfl rfl ⟨held (.cons 1 rfl (.cons 2 rfl .nil)), ?_⟩))
          refine eh_done (by kernel_rfl) (eq_le (cont r9) (le_of _ _ rfl) fun w hw => ch_put (hw.erase 0))
        · refine eh_way 10 (by kernel_rfl) (hway rfl rfl (eo_lookup 3 rfl rfl rfl rfl rfl rfl rfl rfl rfl rfl rfl ⟨held (.cons 1 rfl (.cons 2 rfl .nil)), ?_⟩))
          refine eh_val 62 rfl hlook ?_
          refine eh_way 15 (by kernel_rfl) (hway rfl rfl (eo_appendG 4 ⟨num, false⟩ rfl rfl rfl rfl rfl rfl rfl rfl rfl rfl rfl rfl hnd hA hs0 (fun w hw j u hu => by rw [addr_add, Nat.zero_add]; exact hw.cell (i := 0) rfl hu) fun r9 => ⟨held (.cons 1 rfl (.cons 2 rfl .nil)), ?_⟩))
          refine eh_way 16 (by kernel_rfl) (hway rfl rfl (eo_mapset 3 rfl rfl rfl rfl rfl rfl rfl rfl rfl rfl ⟨held (.cons 1 rfl (.cons 2 rfl .nil)), ?_⟩))
          refine eh_done (by kernel_rfl) (eq_le (cont r9) (le_of _ _ rfl) fun w hw => ch_put (hw.erase 0))
      · (repeat (first | refine el_pure rfl rfl rfl rfl ?_ | refine ej_seq ?_ | refine ej_region ?_ | refine el_nil ?_ | refine eq_seq ?_ | refine eq_calm ?_ | refine ej_true rfl ?_ | refine ej_false rfl ?_ | refine el_skip rfl rfl rfl ?_ | refine ej_ret ?_ | refine ej_skip ?_ | refine ej_exit ?_ | refine ej_block ?_ | refine eq_seq_ret ?_ | refine eq_seq_exit ?_ | refine eq_block ?_ | refine eq_block_exit ?_ | refine eq_block_ret ?_ | refine eq_block_exit_ne rfl ?_ | refine eq_back_ret ?_ | refine eq_back_exit ?_ | refine el_cons rfl (eo_lenv rfl rfl rfl rfl rfl rfl ?_) | refine el_cons rfl (eo_arith rfl rfl rfl rfl rfl rfl ⟨by omega, by omega⟩ ?_)))
        exact eq_backP (j + 1, gput gs2 id r9 (s0 ++ [⟨num, false⟩])) ⟨by show j + 1 ≤ _; omega, hput r9⟩ (by show _ - (j + 1) < _ - j; omega) (le_of _ _ rfl) fun w hw => hw
    · have hlt3 : ¬ (j : Int) < lane.length := hlt3
      obtain rfl : j = lane.length := by omega
      rw [List.take_length, List.append_assoc, ← hcP, ← hsn] at hG2
      (repeat (first | refine el_pure rfl rfl rfl rfl ?_ | refine ej_seq ?_ | refine ej_region ?_ | refine el_nil ?_ | refine eq_seq ?_ | refine eq_calm ?_ | refine ej_true rfl ?_ | refine ej_false rfl ?_ | refine el_skip rfl rfl rfl ?_ | refine ej_ret ?_ | refine ej_skip ?_ | refine ej_exit ?_ | refine ej_block ?_ | refine eq_seq_ret ?_ | refine eq_seq_exit ?_ | refine eq_block ?_ | refine eq_block_exit ?_ | refine eq_block_ret ?_ | refine eq_block_exit_ne rfl ?_ | refine eq_back_ret ?_ | refine eq_back_exit ?_ | refine el_cons rfl (eo_lenv rfl rfl rfl rfl rfl rfl ?_) | refine el_cons rfl (eo_arith rfl rfl rfl rfl rfl rfl ⟨by omega, by omega⟩ ?_)))
      refine eq_backP (k + 1, gs2) ⟨by show k + 1 ≤ _; omega, hG2⟩ (by show _ - (k + 1) < _ - k; omega) (le_of _ _ rfl) ?_
      intro w hw
      exact hw.erase 0
  · have hlt : ¬ (k : Int) < cs.length := hlt
    obtain rfl : k = cs.length := by omega
    rw [List.take_length] at hG
    have hsp : (gs.map fun g => (g.id, g.sp)) = spOf cs := hG.eq
    have hspl : (spOf cs).length ≤ 1000000 := by
      have := (gfold_len _ (cs.map coreP).flatten rfl).2
      have h2 := posts_le cs hlanes
      show (gfold _).length ≤ _
      omega
    (repeat (first | refine el_pure rfl rfl rfl rfl ?_ | refine ej_seq ?_ | refine ej_region ?_ | refine el_nil ?_ | refine eq_seq ?_ | refine eq_calm ?_ | refine ej_true rfl ?_ | refine ej_false rfl ?_ | refine el_skip rfl rfl rfl ?_ | refine ej_ret ?_ | refine ej_skip ?_ | refine ej_exit ?_ | refine ej_block ?_ | refine eq_seq_ret ?_ | refine eq_seq_exit ?_ | refine eq_block ?_ | refine eq_block_exit ?_ | refine eq_block_ret ?_ | refine eq_block_exit_ne rfl ?_ | refine eq_back_ret ?_ | refine eq_back_exit ?_))
    refine el_cons rfl (eo_ld 5 rfl rfl rfl rfl rfl rfl rfl rfl ?_)
    (repeat (first | refine el_pure rfl rfl rfl rfl ?_ | refine ej_seq ?_ | refine ej_region ?_ | refine el_nil ?_ | refine eq_seq ?_ | refine eq_calm ?_ | refine ej_true rfl ?_ | refine ej_false rfl ?_ | refine el_skip rfl rfl rfl ?_ | refine ej_ret ?_ | refine ej_skip ?_ | refine ej_exit ?_ | refine ej_block ?_ | refine eq_seq_ret ?_ | refine eq_seq_exit ?_ | refine eq_block ?_ | refine eq_block_exit ?_ | refine eq_block_ret ?_ | refine eq_block_exit_ne rfl ?_ | refine eq_back_ret ?_ | refine eq_back_exit ?_ | refine el_cons rfl (eo_lenv rfl rfl rfl rfl rfl rfl ?_) | refine el_cons rfl (eo_arith rfl rfl rfl rfl rfl rfl ⟨by omega, by omega⟩ ?_)))
    refine ej_loopP (fun k : Nat => k ≤ ts.length) (fun k => [(1, ptr b1), (3, ptr b), (71, .slice at' ts.length ct), (72, int ts.length), (73, int k)])
      (fun k => S w0 (chL b b1 ⟨q, ad, ds.length, cd, ac, cs.length, cc, at', ts.length, ct⟩ bs bw gs ((ts.take k).filter (·.awake)) ++ l)) (fun k => ts.length - k) 0 (Nat.zero_le _) (le_of _ _ rfl) (fun w hw => hw) ?_
    intro k hk5
    (repeat (first | refine el_pure rfl rfl rfl rfl ?_ | refine ej_seq ?_ | refine ej_region ?_ | refine el_nil ?_ | refine eq_seq ?_ | refine eq_calm ?_ | refine ej_true rfl ?_ | refine ej_false rfl ?_ | refine el_skip rfl rfl rfl ?_ | refine ej_ret ?_ | refine ej_skip ?_ | refine ej_exit ?_ | refine ej_block ?_ | refine eq_seq_ret ?_ | refine eq_seq_exit ?_ | refine eq_block ?_ | refine eq_block_exit ?_ | refine eq_block_ret ?_ | refine eq_block_exit_ne rfl ?_ | refine eq_back_ret ?_ | refine eq_back_exit ?_))
    refine ej_dec rfl (fun hlt5 => ?_) (fun hlt5 => ?_)
    · have hlt6 : k < ts.length := by omega
      have hx6 : ts[k]? = some ts[k] := by simp [hlt6]
      have htk : ts.take (k + 1) = ts.take k ++ [ts[k]] := List.take_succ_eq_append_getElem hlt6
      have hfresh : ∀ t ∈ (ts.take k).filter (·.awake), t.id ≠ ts[k].id := fun t ht e => by
        obtain ⟨j, hj⟩ := List.getElem?_of_mem (List.mem_filter.1 ht).1
        have hjl := (List.getElem?_eq_some_iff.1 hj).1
        rw [List.length_take] at hjl
        rw [List.getElem?_take, if_pos (by omega)] at hj
        have hje := (List.getElem?_eq_some_iff.1 hj).2
        exact nodup_ne hids (i := j) (j := k) (by simp; omega) (by simpa using hlt6) (by omega) (by simp only [List.getElem_map]; rw [hje, e])
      generalize ts[k] = t at *
      have hg6 : ∀ j, j < 11 → (rows Th.prog ts)[k * 11 + j]? = t.prog[j]? := fun j hj => rows_get Th.prog 11 th11 ts k j t hx6 hj
      obtain ⟨id, dom, mask, awake, running, core, tag, left, slice⟩ := t
      (repeat (first | refine el_pure rfl rfl rfl rfl ?_ | refine ej_seq ?_ | refine ej_region ?_ | refine el_nil ?_ | refine eq_seq ?_ | refine eq_calm ?_ | refine ej_true rfl ?_ | refine ej_false rfl ?_ | refine el_skip rfl rfl rfl ?_ | refine ej_ret ?_ | refine ej_skip ?_ | refine ej_exit ?_ | refine ej_block ?_ | refine eq_seq_ret ?_ | refine eq_seq_exit ?_ | refine eq_block ?_ | refine eq_block_exit ?_ | refine eq_block_ret ?_ | refine eq_block_exit_ne rfl ?_ | refine eq_back_ret ?_ | refine eq_back_exit ?_))
      refine el_cons rfl (eo_idxv rfl rfl rfl rfl rfl rfl rfl rfl rfl (hVt.one (i := i + 6) hi) ⟨by omega, hlt5⟩ ?_)
      refine el_cons rfl (eo_ldvA (k * 11) (cs := Th.prog ⟨id, dom, mask, awake, running, core, tag, left, slice⟩) rfl rfl rfl rfl rfl rfl (hVt.one (i := i + 6) hi) rfl hg6 ?_)
      refine el_cons rfl (eo_alloc rfl rfl rfl rfl fun b9 => ?_)
      refine el_cons rfl (eo_stA 0 rfl rfl rfl rfl rfl rfl rfl rfl rfl ?_)
      (repeat (first | refine el_pure rfl rfl rfl rfl ?_ | refine ej_seq ?_ | refine ej_region ?_ | refine el_nil ?_ | refine eq_seq ?_ | refine eq_calm ?_ | refine ej_true rfl ?_ | refine ej_false rfl ?_ | refine el_skip rfl rfl rfl ?_ | refine ej_ret ?_ | refine ej_skip ?_ | refine ej_exit ?_ | refine ej_block ?_ | refine eq_seq_ret ?_ | refine eq_seq_exit ?_ | refine eq_block ?_ | refine eq_block_exit ?_ | refine eq_block_ret ?_ | refine eq_block_exit_ne rfl ?_ | refine eq_back_ret ?_ | refine eq_back_exit ?_))
      refine el_cons rfl (eo_ld 0 rfl rfl rfl rfl rfl rfl rfl rfl ?_)
      (repeat (first | refine el_pure rfl rfl rfl rfl ?_ | refine ej_seq ?_ | refine ej_region ?_ | refine el_nil ?_ | refine eq_seq ?_ | refine eq_calm ?_ | refine ej_true rfl ?_ | refine ej_false rfl ?_ | refine el_skip rfl rfl rfl ?_ | refine ej_ret ?_ | refine ej_skip ?_ | refine ej_exit ?_ | refine ej_block ?_ | refine eq_seq_ret ?_ | refine eq_seq_exit ?_ | refine eq_block ?_ | refine eq_block_exit ?_ | refine eq_block_ret ?_ | refine eq_block_exit_ne rfl ?_ | refine eq_back_ret ?_ | refine eq_back_exit ?_))
      refine ej_cond rfl (fun ha => ?_) (fun ha => ?_)
      · have ha : awake = true := ha
        subst ha
        have hfl : (ts.take (k + 1)).filter (·.awake) = (ts.take k).filter (·.awake) ++ [⟨id, dom, mask, true, running, core, tag, left, slice⟩] := by
          rw [htk, List.filter_append]; rfl
        have hkp : kput (((ts.take k).filter (·.awake)).map kvT) id (.agg (Th.prog ⟨id, dom, mask, true, running, core, tag, left, slice⟩).toArray) = ((ts.take (k + 1)).filter (·.awake)).map kvT := by
          rw [hfl, List.map_append, kput, if_neg]
          · rfl
          · simpa using fun x h1 h2 => hfresh x (List.mem_filter.2 ⟨h1, h2⟩)
        (repeat (first | refine el_pure rfl rfl rfl rfl ?_ | refine ej_seq ?_ | refine ej_region ?_ | refine el_nil ?_ | refine eq_seq ?_ | refine eq_calm ?_ | refine ej_true rfl ?_ | refine ej_false rfl ?_ | refine el_skip rfl rfl rfl ?_ | refine ej_ret ?_ | refine ej_skip ?_ | refine ej_exit ?_ | refine ej_block ?_ | refine eq_seq_ret ?_ | refine eq_seq_exit ?_ | refine eq_block ?_ | refine eq_block_exit ?_ | refine eq_block_ret ?_ | refine eq_block_exit_ne rfl ?_ | refine eq_back_ret ?_ | refine eq_back_exit ?_))
        refine ej_held [cells b9 T_state_Thread (Th.prog ⟨id, dom, mask, true, running, core, tag, left, slice⟩), cells b T_audit_auditor [int q, .slice ad ds.length cd, .slice ac cs.length cc, .slice at' ts.length ct, .map (some bs), .map (some bw), .slice none 0 0]] ?_
        refine eh_take 0 (held (.cons 0 rfl (.cons 1 rfl .nil))) rfl (by kernel_rfl) (by kernel_rfl) (by kernel_rfl) rfl rfl rfl rfl ?_
        refine eh_take 1 (held (.cons 0 rfl (.cons 1 rfl .nil))) rfl (by kernel_rfl) (by kernel_rfl) (by kernel_rfl) rfl rfl rfl rfl ?_
        refine eh_take 2 (held (.cons 0 rfl (.cons 1 rfl .nil))) rfl (by kernel_rfl) (by kernel_rfl) (by kernel_rfl) rfl rfl rfl rfl ?_
        refine eh_load 3 (held (.cons 0 rfl (.cons 1 rfl .nil))) rfl (by kernel_rfl) (by kernel_rfl) (by kernel_rfl) rfl rfl rfl (er_ld 1 rfl rfl rfl rfl rfl rfl) ?_
        refine eh_take 4 (held (.cons 0 rfl (.cons 1 rfl .nil))) rfl (by kernel_rfl) (by kernel_rfl) (by kernel_rfl) rfl rfl rfl rfl ?_
        refine eh_load 5 (held (.cons 0 rfl (.cons 1 rfl .nil))) rfl (by kernel_rfl) (by kernel_rfl) (by kernel_rfl) rfl rfl rfl (er_ld 0 rfl rfl rfl rfl rfl rfl) ?_
        refine eh_load 6 (held (.cons 0 rfl (.cons 1 rfl .nil))) rfl (by kernel_rfl) (by kernel_rfl) (by kernel_rfl) rfl rfl rfl (er_ldW 0 rfl rfl rfl rfl rfl rfl) ?_
        refine eh_way 7 (by kernel_rfl) (hway rfl rfl (eo_mapset 4 rfl rfl rfl rfl rfl rfl rfl rfl rfl rfl ⟨held (.cons 0 rfl (.cons 1 rfl .nil)), ?_⟩))
        refine eh_done (by kernel_rfl) ?_
        (repeat (first | refine el_pure rfl rfl rfl rfl ?_ | refine ej_seq ?_ | refine ej_region ?_ | refine el_nil ?_ | refine eq_seq ?_ | refine eq_calm ?_ | refine ej_true rfl ?_ | refine ej_false rfl ?_ | refine el_skip rfl rfl rfl ?_ | refine ej_ret ?_ | refine ej_skip ?_ | refine ej_exit ?_ | refine ej_block ?_ | refine eq_seq_ret ?_ | refine eq_seq_exit ?_ | refine eq_block ?_ | refine eq_block_exit ?_ | refine eq_block_ret ?_ | refine eq_block_exit_ne rfl ?_ | refine eq_back_ret ?_ | refine eq_back_exit ?_ | refine el_cons rfl (eo_lenv rfl rfl rfl rfl rfl rfl ?_) | refine el_cons rfl (eo_arith rfl rfl rfl rfl rfl rfl ⟨by omega, by omega⟩ ?_)))
        refine eq_backP (k + 1) (by omega) (by omega) (le_of _ _ rfl) ?_
        intro w hw
        have hw := hw.erase 0
        show S w0 ([_, _, _, mapO bw .i64 (((ts.take (k + 1)).filter (·.awake)).map kvT), _, _] ++ l) w
        rw [← hkp]
        exact hw
      · have ha : awake = false := ha
        subst ha
        have hfl : (ts.take (k + 1)).filter (·.awake) = (ts.take k).filter (·.awake) := by
          rw [htk, List.filter_append]; simp
        (repeat (first | refine el_pure rfl rfl rfl rfl ?_ | refine ej_seq ?_ | refine ej_region ?_ | refine el_nil ?_ | refine eq_seq ?_ | refine eq_calm ?_ | refine ej_true rfl ?_ | refine ej_false rfl ?_ | refine el_skip rfl rfl rfl ?_ | refine ej_ret ?_ | refine ej_skip ?_ | refine ej_exit ?_ | refine ej_block ?_ | refine eq_seq_ret ?_ | refine eq_seq_exit ?_ | refine eq_block ?_ | refine eq_block_exit ?_ | refine eq_block_ret ?_ | refine eq_block_exit_ne rfl ?_ | refine eq_back_ret ?_ | refine eq_back_exit ?_ | refine el_cons rfl (eo_lenv rfl rfl rfl rfl rfl rfl ?_) | refine el_cons rfl (eo_arith rfl rfl rfl rfl rfl rfl ⟨by omega, by omega⟩ ?_)))
        refine eq_backP (k + 1) (by omega) (by omega) (le_of _ _ rfl) ?_
        intro w hw
        rw [hfl]
        exact hw.erase 0
    · obtain rfl : k = ts.length := by omega
      rw [List.take_length]
      have hawt : ∀ t ∈ ts.filter (·.awake), t ∈ ts := fun t ht => (List.mem_filter.1 ht).1
      have hawl : (ts.filter (·.awake)).length ≤ 1000 := by have := List.length_filter_le (·.awake) ts; omega
      generalize ts.filter (·.awake) = aw at *
      refine ej_imp' (H' := S w0 (auO b ⟨q, ad, ds.length, cd, ac, cs.length, cc, at', ts.length, ct⟩ (spOf cs) aw [] :: (cells b1 T_audit_View [int q, .slice ad ds.length cd, .slice ac cs.length cc, .slice at' ts.length ct] :: l))) (fun w hw => au_close (x := ⟨bs, bw, none, gs⟩) hsp w hw) ?_
      have hdl := domT_length aw ds ds.length
      (repeat (first | refine el_pure rfl rfl rfl rfl ?_ | refine ej_seq ?_ | refine ej_region ?_ | refine el_nil ?_ | refine eq_seq ?_ | refine eq_calm ?_ | refine ej_true rfl ?_ | refine ej_false rfl ?_ | refine el_skip rfl rfl rfl ?_ | refine ej_ret ?_ | refine ej_skip ?_ | refine ej_exit ?_ | refine ej_block ?_ | refine eq_seq_ret ?_ | refine eq_seq_exit ?_ | refine eq_block ?_ | refine eq_block_exit ?_ | refine eq_block_ret ?_ | refine eq_block_exit_ne rfl ?_ | refine eq_back_ret ?_ | refine eq_back_exit ?_))
      refine el_cons rfl (eo_call1 rfl rfl rfl rfl rfl real_audit_auditor_domains (domains_any (i := i + 1) (by simp) hi hv) ?_)
      rw [List.nil_append]
      generalize hO1 : domT aw ds ds.length = O1 at *
      (repeat (first | refine el_pure rfl rfl rfl rfl ?_ | refine ej_seq ?_ | refine ej_region ?_ | refine el_nil ?_ | refine eq_seq ?_ | refine eq_calm ?_ | refine ej_true rfl ?_ | refine ej_false rfl ?_ | refine el_skip rfl rfl rfl ?_ | refine ej_ret ?_ | refine ej_skip ?_ | refine ej_exit ?_ | refine ej_block ?_ | refine eq_seq_ret ?_ | refine eq_seq_exit ?_ | refine eq_block ?_ | refine eq_block_exit ?_ | refine eq_block_ret ?_ | refine eq_block_exit_ne rfl ?_ | refine eq_back_ret ?_ | refine eq_back_exit ?_))
      refine el_cons rfl (eo_callx rfl rfl rfl rfl rfl real_audit_auditor_cores (cores_any (i := i + 1) (by omega) hspl hi hv) fun O2 hO2 => ?_)
      obtain ⟨dn, hdn, hO2⟩ := hO2
      have hO2l : O2.length ≤ 3000000 := by
        have h1 := flat_le (grpF aw) (fun g => two_le _ _ _ _) dn
        have h2 := flat_le (coreAt ds aw) (fun g => two_le _ _ _ _) cs
        have h3 := hdn.length_eq
        rw [hO2, List.length_append, List.length_append]
        omega
      (repeat (first | refine el_pure rfl rfl rfl rfl ?_ | refine ej_seq ?_ | refine ej_region ?_ | refine el_nil ?_ | refine eq_seq ?_ | refine eq_calm ?_ | refine ej_true rfl ?_ | refine ej_false rfl ?_ | refine el_skip rfl rfl rfl ?_ | refine ej_ret ?_ | refine ej_skip ?_ | refine ej_exit ?_ | refine ej_block ?_ | refine eq_seq_ret ?_ | refine eq_seq_exit ?_ | refine eq_block ?_ | refine eq_block_exit ?_ | refine eq_block_ret ?_ | refine eq_block_exit_ne rfl ?_ | refine eq_back_ret ?_ | refine eq_back_exit ?_))
      refine el_exP au_open fun x2 hx2 => ?_
      refine el_cons rfl (eo_ld 0 rfl rfl rfl rfl rfl rfl rfl rfl ?_)
      refine el_cons rfl (eo_range 3 rfl rfl rfl rfl rfl rfl rfl fun it => ?_)
      refine el_imp (H' := S w0 (thM b ⟨q, ad, ds.length, cd, ac, cs.length, cc, at', ts.length, ct⟩ x2 x2.r O2 ++ (rangeO x2.bw it .i64 (aw.map kvT) (aw.map kvT) none :: cells b1 T_audit_View [int q, .slice ad ds.length cd, .slice ac cs.length cc, .slice at' ts.length ct] :: l))) (fun w hw => (hw.front (i := 4) rfl).front (i := 1) rfl) ?_
      (repeat (first | refine el_pure rfl rfl rfl rfl ?_ | refine ej_seq ?_ | refine ej_region ?_ | refine el_nil ?_ | refine eq_seq ?_ | refine eq_calm ?_ | refine ej_true rfl ?_ | refine ej_false rfl ?_ | refine el_skip rfl rfl rfl ?_ | refine ej_ret ?_ | refine ej_skip ?_ | refine ej_exit ?_ | refine ej_block ?_ | refine eq_seq_ret ?_ | refine eq_seq_exit ?_ | refine eq_block ?_ | refine eq_block_exit ?_ | refine eq_block_ret ?_ | refine eq_block_exit_ne rfl ?_ | refine eq_back_ret ?_ | refine eq_back_exit ?_))
      refine ej_loopP (α := List Th × List Th × Option (Int × Value) × Option (Nat × Nat)) (fun y => (y.1 ++ y.2.1).Perm aw) (fun y => [(1, ptr b1), (3, ptr b), (95, ptr it)])
        (fun y => S w0 (thM b ⟨q, ad, ds.length, cd, ac, cs.length, cc, at', ts.length, ct⟩ x2 y.2.2.2 (O2 ++ (y.1.map (thF ds (spOf cs) q)).flatten) ++ (rangeO x2.bw it .i64 (aw.map kvT) (y.2.1.map kvT) y.2.2.1 :: cells b1 T_audit_View [int q, .slice ad ds.length cd, .slice ac cs.length cc, .slice at' ts.length ct] :: l))) (fun y => y.2.1.length) ([], aw, none, x2.r) (List.Perm.refl _) (le_of _ _ rfl) (fun w hw => by simpa using hw) ?_
      rintro ⟨done, left, cur, r'⟩ hperm
      have hperm : (done ++ left).Perm aw := hperm
      have hdl2 : done.length ≤ 1000 := by have := hperm.length_eq; rw [List.length_append] at this; omega
      have hO3l : (O2 ++ (done.map (thF ds (spOf cs) q)).flatten).length ≤ 3000000 + 6 * done.length := by
        have := flat_six (thF ds (spOf cs) q) (thF_le ds (spOf cs) q) done
        rw [List.length_append]; omega
      (repeat (first | refine el_pure rfl rfl rfl rfl ?_ | refine ej_seq ?_ | refine ej_region ?_ | refine el_nil ?_ | refine eq_seq ?_ | refine eq_calm ?_ | refine ej_true rfl ?_ | refine ej_false rfl ?_ | refine el_skip rfl rfl rfl ?_ | refine ej_ret ?_ | refine ej_skip ?_ | refine ej_exit ?_ | refine ej_block ?_ | refine eq_seq_ret ?_ | refine eq_seq_exit ?_ | refine eq_block ?_ | refine eq_block_exit ?_ | refine eq_block_ret ?_ | refine eq_block_exit_ne rfl ?_ | refine eq_back_ret ?_ | refine eq_back_exit ?_))
      refine el_cons rfl (eo_next 4 rfl rfl rfl rfl rfl (fun hnil => ?_) (fun j qq hj => ?_))
      · have hnil : left = [] := by simpa using hnil
        subst hnil
        rw [List.append_nil] at hperm
        generalize hO3 : O2 ++ (done.map (thF ds (spOf cs) q)).flatten = O3 at *
        have hsl : (sortF O3).length = O3.length := by simp [sortF]
        have hso := fun (l' : List HP) (h : l'[1]? = some (rowC r' T_audit_Finding 2 (rows Fnd.cells O3) O3.length)) => sort_any (w0 := w0) (l := l') (i := 1) (r := r') O3 (by omega) h
        have hco := fun (l' : List HP) (h : l'[1]? = some (rowC r' T_audit_Finding 2 (rows Fnd.cells (sortF O3)) (sortF O3).length)) => Compact_any (w0 := w0) (l := l') (i := 1) (r := r') (sortF O3) (by omega) h
        rw [hsl] at hco
        (repeat (first | refine el_pure rfl rfl rfl rfl ?_ | refine ej_seq ?_ | refine ej_region ?_ | refine el_nil ?_ | refine eq_seq ?_ | refine eq_calm ?_ | refine ej_true rfl ?_ | refine ej_false rfl ?_ | refine el_skip rfl rfl rfl ?_ | refine ej_ret ?_ | refine ej_skip ?_ | refine ej_exit ?_ | refine ej_block ?_ | refine eq_seq_ret ?_ | refine eq_seq_exit ?_ | refine eq_block ?_ | refine eq_block_exit ?_ | refine eq_block_ret ?_ | refine eq_block_exit_ne rfl ?_ | refine eq_back_ret ?_ | refine eq_back_exit ?_))
        refine el_cons rfl (eo_ld 0 rfl rfl rfl rfl rfl rfl rfl rfl ?_)
        refine el_cons rfl (eo_call1 rfl rfl rfl rfl rfl real_slices_SortFunc_audit_Finding_audit_Finding (hso _ rfl) ?_)
        (repeat (first | refine el_pure rfl rfl rfl rfl ?_ | refine ej_seq ?_ | refine ej_region ?_ | refine el_nil ?_ | refine eq_seq ?_ | refine eq_calm ?_ | refine ej_true rfl ?_ | refine ej_false rfl ?_ | refine el_skip rfl rfl rfl ?_ | refine ej_ret ?_ | refine ej_skip ?_ | refine ej_exit ?_ | refine ej_block ?_ | refine eq_seq_ret ?_ | refine eq_seq_exit ?_ | refine eq_block ?_ | refine eq_block_exit ?_ | refine eq_block_ret ?_ | refine eq_block_exit_ne rfl ?_ | refine eq_back_ret ?_ | refine eq_back_exit ?_))
        refine el_cons rfl (eo_ld 0 rfl rfl rfl rfl rfl rfl rfl rfl ?_)
        refine el_cons rfl (eo_callx rfl rfl rfl rfl rfl real_slices_Compact_audit_Finding_audit_Finding (hco _ rfl) fun z hz => ?_)
        (repeat (first | refine el_pure rfl rfl rfl rfl ?_ | refine ej_seq ?_ | refine ej_region ?_ | refine el_nil ?_ | refine eq_seq ?_ | refine eq_calm ?_ | refine ej_true rfl ?_ | refine ej_false rfl ?_ | refine el_skip rfl rfl rfl ?_ | refine ej_ret ?_ | refine ej_skip ?_ | refine ej_exit ?_ | refine ej_block ?_ | refine eq_seq_ret ?_ | refine eq_seq_exit ?_ | refine eq_block ?_ | refine eq_block_exit ?_ | refine eq_block_ret ?_ | refine eq_block_exit_ne rfl ?_ | refine eq_back_ret ?_ | refine eq_back_exit ?_))
        refine eq_rett rfl fun w hw => ⟨(z.1, z.2.1, z.2.2, O3, dn, done), rfl, ⟨hz, hdn, hperm, ?_⟩, ?_⟩
        · rw [← hO3, hO2]
        · exact ((((((hw.front (i := 1) rfl).erase 1).erase 1).erase 1).erase 1).erase 1)
      · obtain ⟨t, ht, rfl⟩ := kv_get hj
        have hp2 := step_perm ht hperm
        have er : (left.map kvT).eraseIdx j = (left.eraseIdx j).map kvT := by rw [ChangeMaps.map_eraseIdx]
        have hjl : j < left.length := (List.getElem?_eq_some_iff.1 ht).1
        have hlen : (left.eraseIdx j).length < left.length := by
          rw [List.length_eraseIdx_of_lt hjl]; omega
        have htm : t ∈ ts := hawt t (hperm.mem_iff.1 (List.mem_append_right _ (List.mem_of_getElem? ht)))
        have hmask := hv.lies.tOk t htm
        have htg := htag t htm
        have hsn : ((done ++ [t]).map (thF ds (spOf cs) q)).flatten = (done.map (thF ds (spOf cs) q)).flatten ++ thF ds (spOf cs) q t := flat_snoc _ _ _
        rw [er]
        generalize (done.map (thF ds (spOf cs) q)).flatten = D at *
        have hO4 : O2 ++ (D ++ thF ds (spOf cs) q t) = (O2 ++ D) ++ thF ds (spOf cs) q t := (List.append_assoc _ _ _).symm
        (repeat (first | refine el_pure rfl rfl rfl rfl ?_ | refine ej_seq ?_ | refine ej_region ?_ | refine el_nil ?_ | refine eq_seq ?_ | refine eq_calm ?_ | refine ej_true rfl ?_ | refine ej_false rfl ?_ | refine el_skip rfl rfl rfl ?_ | refine ej_ret ?_ | refine ej_skip ?_ | refine ej_exit ?_ | refine ej_block ?_ | refine eq_seq_ret ?_ | refine eq_seq_exit ?_ | refine eq_block ?_ | refine eq_block_exit ?_ | refine eq_block_ret ?_ | refine eq_block_exit_ne rfl ?_ | refine eq_back_ret ?_ | refine eq_back_exit ?_))
        refine el_cons rfl (eo_entry 4 rfl rfl rfl rfl rfl ?_)
        (repeat (first | refine el_pure rfl rfl rfl rfl ?_ | refine ej_seq ?_ | refine ej_region ?_ | refine el_nil ?_ | refine eq_seq ?_ | refine eq_calm ?_ | refine ej_true rfl ?_ | refine ej_false rfl ?_ | refine el_skip rfl rfl rfl ?_ | refine ej_ret ?_ | refine ej_skip ?_ | refine ej_exit ?_ | refine ej_block ?_ | refine eq_seq_ret ?_ | refine eq_seq_exit ?_ | refine eq_block ?_ | refine eq_block_exit ?_ | refine eq_block_ret ?_ | refine eq_block_exit_ne rfl ?_ | refine eq_back_ret ?_ | refine eq_back_exit ?_))
        refine el_cons rfl (eo_alloc rfl rfl rfl rfl fun b11 => ?_)
        refine el_cons rfl (eo_stA 0 rfl rfl rfl rfl rfl rfl rfl rfl rfl ?_)
        (repeat (first | refine el_pure rfl rfl rfl rfl ?_ | refine ej_seq ?_ | refine ej_region ?_ | refine el_nil ?_ | refine eq_seq ?_ | refine eq_calm ?_ | refine ej_true rfl ?_ | refine ej_false rfl ?_ | refine el_skip rfl rfl rfl ?_ | refine ej_ret ?_ | refine ej_skip ?_ | refine ej_exit ?_ | refine ej_block ?_ | refine eq_seq_ret ?_ | refine eq_seq_exit ?_ | refine eq_block ?_ | refine eq_block_exit ?_ | refine eq_block_ret ?_ | refine eq_block_exit_ne rfl ?_ | refine eq_back_ret ?_ | refine eq_back_exit ?_))
        refine el_cons rfl (eo_ldW 0 rfl rfl rfl rfl rfl rfl rfl rfl ?_)
        refine el_imp (fun w hw => hw.erase 0) ?_
        refine el_cons rfl (eo_callx rfl rfl rfl rfl rfl real_audit_auditor_thread (thread_any (l := rangeO x2.bw it .i64 (aw.map kvT) ((left.eraseIdx j).map kvT) (some (kvT t)) :: cells b1 T_audit_View [int q, .slice ad ds.length cd, .slice ac cs.length cc, .slice at' ts.length ct] :: l) (r := r') (out := O2 ++ D) hx2 t hmask htg (by omega) (i := i + 2) hi hv) fun r9 _ => ?_)
        (repeat (first | refine el_pure rfl rfl rfl rfl ?_ | refine ej_seq ?_ | refine ej_region ?_ | refine el_nil ?_ | refine eq_seq ?_ | refine eq_calm ?_ | refine ej_true rfl ?_ | refine ej_false rfl ?_ | refine el_skip rfl rfl rfl ?_ | refine ej_ret ?_ | refine ej_skip ?_ | refine ej_exit ?_ | refine ej_block ?_ | refine eq_seq_ret ?_ | refine eq_seq_exit ?_ | refine eq_block ?_ | refine eq_block_exit ?_ | refine eq_block_ret ?_ | refine eq_block_exit_ne rfl ?_ | refine eq_back_ret ?_ | refine eq_back_exit ?_))
        refine eq_backP (done ++ [t], left.eraseIdx j, some (kvT t), r9) hp2 hlen (le_of _ _ rfl) ?_
        intro w hw
        show S w0 (thM b ⟨q, ad, ds.length, cd, ac, cs.length, cc, at', ts.length, ct⟩ x2 r9 (O2 ++ ((done ++ [t]).map (thF ds (spOf cs) q)).flatten) ++ (rangeO x2.bw it .i64 (aw.map kvT) ((left.eraseIdx j).map kvT) (some (kvT t)) :: cells b1 T_audit_View [int q, .slice ad ds.length cd, .slice ac cs.length cc, .slice at' ts.length ct] :: l)) w
        rw [hsn, hO4]
        exact hw

end Go.Proofs.Ytkpbpjnabbfdiaa
