/- The document's findings, all of them. -/
import Derived.Test.YtkpbpjnabbfdiaaCa
namespace Go.Proofs.Ytkpbpjnabbfdiaa
open Go Go.SE

variable {w0 w : World} {l : List HP} {i : Nat} {r : Option (Nat × Nat)} {p : HP}

def fs (F : List Fnd) : List Fnd := F.foldl putL []
theorem fs_snoc (F : List Fnd) (x : Fnd) : fs (F ++ [x]) = putL (fs F) x := by simp [fs]
theorem fs_len (F : List Fnd) : (fs F).length ≤ F.length := by
  have h : ∀ (F out : List Fnd), (F.foldl putL out).length ≤ out.length + F.length := by
    intro F
    induction F with
    | nil => intro out; simp
    | cons x F ih => intro out; have h1 := ih (putL out x); have h2 := putL_len out x; simp only [List.foldl_cons, List.length_cons]; omega
  have := h F []
  simpa [fs] using this
abbrev rowF (r : Option (Nat × Nat)) (F : List Fnd) : HP := rowC r T_ref21_F 2 (rows Fnd.cells (fs F)) (fs F).length
theorem putF_ref (F F1 : List Fnd) (x : Fnd) (h : F1 = F ++ [x]) (hl : F.length ≤ 1000000) :
    Does cx F_ref21_put [sv r (fs F).length, .agg x.cells.toArray] (S w0 (rowF r F :: l)) fun u w => ∃ r', u = sv r' (fs F1).length ∧ True ∧ S w0 (rowF r' F1 :: l) w := by
  subst h
  have := fs_len F
  simp only [rowF, fs_snoc]
  exact put_ref x (by omega)
theorem one1_len (b : Bool) (k n : Int) : (one1 b k n).length ≤ 1 := by cases b <;> simp [one1]
theorem one1_false {F : List Fnd} {k n : Int} : F ++ one1 false k n = F := List.append_nil _
/-- what is wrong with an id that is posted -/
def idR (cs : List Cr) (ts : List Th) (id : Int) : List Fnd := one1 (decide (1 < placesN cs id)) 2 id ++ one1 (!ts.any (isUp id)) 4 id
def idsC (c : Cr) : List Int := c.lane ++ (if c.cur ≠ 0 then [c.cur] else [])
def crR (ds : List Dm) (cs : List Cr) (ts : List Th) (c : Cr) : List Fnd := ((idsC c).map (idR cs ts)).flatten ++ one1 (offC ds c) 5 c.num ++ one1 (orderB ts c.lane c.lane.length) 11 c.num
def thK (ds : List Dm) (cs : List Cr) (q : Int) (t : Th) : List Fnd := if t.awake = true then (thR ds cs q t).map (fun k => (⟨k, t.id⟩ : Fnd)) else []
theorem flat_leN {α β : Type} (f : α → List β) (m : Nat) : ∀ (xs : List α), (∀ x ∈ xs, (f x).length ≤ m) → (xs.map f).flatten.length ≤ m * xs.length
  | [], _ => by simp
  | x :: xs, h => by
    have h1 := h x (by simp)
    have h2 := flat_leN f m xs fun y hy => h y (by simp [hy])
    simp only [List.map_cons, List.flatten_cons, List.length_append, List.length_cons]
    rw [Nat.mul_add]; omega
theorem idR_len (cs : List Cr) (ts : List Th) (id : Int) : (idR cs ts id).length ≤ 2 := two_le _ _ _ _
theorem idsC_len (c : Cr) : (idsC c).length ≤ c.lane.length + 1 := by
  unfold idsC
  rw [List.length_append]
  split <;> simp
theorem crR_len (ds : List Dm) (cs : List Cr) (ts : List Th) (c : Cr) (h : c.lane.length ≤ 1000) : (crR ds cs ts c).length ≤ 2004 := by
  have h1 := idsC_len c
  have h2 := flat_leN (idR cs ts) 2 (idsC c) fun x _ => idR_len cs ts x
  have h3 := one1_len (offC ds c) 5 c.num
  have h4 := one1_len (orderB ts c.lane c.lane.length) 11 c.num
  simp only [crR, List.length_append]; omega
theorem thR_len (ds : List Dm) (cs : List Cr) (q : Int) (t : Th) : (thR ds cs q t).length ≤ 6 := by
  simp only [thR, List.length_append]
  have h := k1_le
  have h1 := h (decide (placesN cs t.id = 0)) 3
  have h2 := h (decide (placesN cs t.id = 1) && !placedB ds cs t) 6
  have h3 := h (!decide (placesN cs t.id = 1) && !kn ds t) 6
  have h4 := h (badMask ds t) 7
  have h5 := h (badRound ds t) 8
  have h6 := h (badSlice q t) 9
  omega
theorem thK_len (ds : List Dm) (cs : List Cr) (q : Int) (t : Th) : (thK ds cs q t).length ≤ 6 := by
  have := thR_len ds cs q t
  unfold thK
  split
  · simpa using this
  · simp
def docL (ds : List Dm) (cs : List Cr) (ts : List Th) (q : Int) : List Fnd := domT (ts.filter (·.awake)) ds ds.length ++ (cs.map (crR ds cs ts)).flatten ++ (ts.map (thK ds cs q)).flatten

set_option maxHeartbeats 12800000 in
theorem Check_ref {v : Hd} {ds : List Dm} {cs : List Cr} {ts : List Th} (htag : ∀ t ∈ ts, 0 ≤ t.tag ∧ t.tag ≤ 9223372036854775807) (hi : l[i]? = some p) (hv : DoV w0 p v ds cs ts) :
    Does cx F_ref21_Check [v.val] (S w0 l) fun u w => ∃ r', u = sv r' (fs (docL ds cs ts v.q)).length ∧ True ∧ S w0 (rowF r' (docL ds cs ts v.q) :: l) w := by
  refine fn_enter (n := N_ref21_Check) fn_ref21_Check rfl rfl rfl ?_
  refine ej_seq (ej_region (el_cons rfl (eo_box rfl rfl rfl rfl fun b1 => ?_)))
  have hdark := fun (l' : List HP) (d : Dm) (h : d.Ok) => dark_ref (w0 := w0) (l := l') d h
  have hlow := fun (l' : List HP) (j : Nat) (h : l'[j]? = some p) (k : Nat) (d : Dm) (hd : ds[k]? = some d) => low_ref (w0 := w0) (l := l') k d hd h hv
  have hplc := fun (l' : List HP) (j : Nat) (h : l'[j]? = some p) (id : Int) => places_ref (w0 := w0) (l := l') id h hv
  have hup := fun (l' : List HP) (j : Nat) (h : l'[j]? = some p) (id : Int) => up_ref (w0 := w0) (l := l') id h hv
  have hoff := fun (l' : List HP) (j : Nat) (h : l'[j]? = some p) (c : Cr) => off_ref (w0 := w0) (l := l') c h hv
  have hord := fun (l' : List HP) (j : Nat) (h : l'[j]? = some p) (c : Cr) (h1 : c.lane.length ≤ 1000) (h2 : View w0 [p] 1 c.a (ints c.lane) c.lane.length c.cap) => order_ref (w0 := w0) (l := l') c h1 h2 h hv
  have hthr := fun (l' : List HP) (j : Nat) (h : l'[j]? = some p) (t : Th) (h1 : t.mask < 18446744073709551616) (h2 : 0 ≤ t.tag ∧ t.tag ≤ 9223372036854775807) => thread_ref (w0 := w0) (l := l') t h1 h2 h hv
  obtain ⟨q, ad, nd, cd, ac, nc, cc, at', nt, ct⟩ := v
  obtain rfl : nd = ds.length := hv.nd
  obtain rfl : nc = cs.length := hv.nc
  obtain rfl : nt = ts.length := hv.nt
  have hVd := hv.lies.d
  have hVc := hv.lies.c
  have hVt := hv.lies.t
  have hfew := hv.few
  have hlanes := hv.lanes
  have hall : docL ds cs ts q = domT (ts.filter (·.awake)) ds ds.length ++ (cs.map (crR ds cs ts)).flatten ++ (ts.map (thK ds cs q)).flatten := rfl
  have hdl := domT_length (ts.filter (·.awake)) ds ds.length
  (repeat (first | refine el_pure rfl rfl rfl rfl ?_ | refine ej_seq ?_ | refine ej_region ?_ | refine el_nil ?_ | refine eq_seq ?_ | refine eq_calm ?_ | refine ej_true rfl ?_ | refine ej_false rfl ?_ | refine el_skip rfl rfl rfl ?_ | refine ej_ret ?_ | refine ej_skip ?_ | refine ej_exit ?_ | refine ej_block ?_ | refine eq_seq_ret ?_ | refine eq_seq_exit ?_ | refine eq_block ?_ | refine eq_block_exit ?_ | refine eq_block_ret ?_ | refine eq_block_exit_ne rfl ?_ | refine eq_back_ret ?_ | refine eq_back_exit ?_))
  refine el_imp (H' := S w0 (rowF none [] :: cells b1 T_ref21_V (Hd.cells ⟨q, ad, ds.length, cd, ac, cs.length, cc, at', ts.length, ct⟩) :: l)) (fun w hw => S.row_new hw) ?_
  refine el_cons rfl (eo_ld 1 rfl rfl rfl rfl rfl rfl rfl rfl ?_)
  (repeat (first | refine el_pure rfl rfl rfl rfl ?_ | refine ej_seq ?_ | refine ej_region ?_ | refine el_nil ?_ | refine eq_seq ?_ | refine eq_calm ?_ | refine ej_true rfl ?_ | refine ej_false rfl ?_ | refine el_skip rfl rfl rfl ?_ | refine ej_ret ?_ | refine ej_skip ?_ | refine ej_exit ?_ | refine ej_block ?_ | refine eq_seq_ret ?_ | refine eq_seq_exit ?_ | refine eq_block ?_ | refine eq_block_exit ?_ | refine eq_block_ret ?_ | refine eq_block_exit_ne rfl ?_ | refine eq_back_ret ?_ | refine eq_back_exit ?_ | refine el_cons rfl (eo_lenv rfl rfl rfl rfl rfl rfl ?_) | refine el_cons rfl (eo_arith rfl rfl rfl rfl rfl rfl ⟨by omega, by omega⟩ ?_)))
  refine ej_loopP (α := Nat × Option (Nat × Nat)) (fun z => z.1 ≤ ds.length) (fun z => [(1, ptr b1), (2, .slice none 0 0), (3, sv z.2 (fs (domT (ts.filter (·.awake)) ds z.1)).length), (14, int ds.length), (15, int z.1)]) (fun z => S w0 (rowF z.2 (domT (ts.filter (·.awake)) ds z.1) :: cells b1 T_ref21_V (Hd.cells ⟨q, ad, ds.length, cd, ac, cs.length, cc, at', ts.length, ct⟩) :: l)) (fun z => ds.length - z.1) (0, none) (Nat.zero_le _) (le_of _ _ rfl) (fun w hw => hw) ?_
  rintro ⟨k, r0⟩ hk
  have hk : k ≤ ds.length := hk
  have hFl := domT_length (ts.filter (·.awake)) ds k
  have hdt : ∀ d, ds[k]? = some d → domT (ts.filter (·.awake)) ds (k + 1) = domT (ts.filter (·.awake)) ds k ++ (one1 (darkD d) 1 k ++ one1 (someIn (ts.filter (·.awake)) k && !firstIn (ts.filter (·.awake)) k d.low) 10 k) := fun d hd => by
    rw [domT, hd]; rfl
  (repeat (first | refine el_pure rfl rfl rfl rfl ?_ | refine ej_seq ?_ | refine ej_region ?_ | refine el_nil ?_ | refine eq_seq ?_ | refine eq_calm ?_ | refine ej_true rfl ?_ | refine ej_false rfl ?_ | refine el_skip rfl rfl rfl ?_ | refine ej_ret ?_ | refine ej_skip ?_ | refine ej_exit ?_ | refine ej_block ?_ | refine eq_seq_ret ?_ | refine eq_seq_exit ?_ | refine eq_block ?_ | refine eq_block_exit ?_ | refine eq_block_ret ?_ | refine eq_block_exit_ne rfl ?_ | refine eq_back_ret ?_ | refine eq_back_exit ?_))
  refine ej_dec rfl (fun hlt => ?_) (fun hlt => ?_)
  · have hlt' : k < ds.length := by omega
    have hx : ds[k]? = some ds[k] := by simp [hlt']
    have hOk := hv.lies.dOk _ (List.getElem_mem hlt')
    have hdt := hdt _ hx
    have hlw := fun (l' : List HP) (j : Nat) (h : l'[j]? = some p) => hlow l' j h k _ hx
    generalize ds[k] = d at *
    have hg : ∀ j, j < 3 → (rows Dm.cells ds)[k * 3 + j]? = d.cells[j]? := fun j hj => rows_get Dm.cells 3 dm3 ds k j d hx hj
    have hdk := fun (l' : List HP) => hdark l' d hOk
    generalize (someIn (ts.filter (·.awake)) k && !firstIn (ts.filter (·.awake)) k d.low) = u2 at *
    generalize darkD d = u1 at *
    generalize hF0 : domT (ts.filter (·.awake)) ds k = F0 at *
    (repeat (first | refine el_pure rfl rfl rfl rfl ?_ | refine ej_seq ?_ | refine ej_region ?_ | refine el_nil ?_ | refine eq_seq ?_ | refine eq_calm ?_ | refine ej_true rfl ?_ | refine ej_false rfl ?_ | refine el_skip rfl rfl rfl ?_ | refine ej_ret ?_ | refine ej_skip ?_ | refine ej_exit ?_ | refine ej_block ?_ | refine eq_seq_ret ?_ | refine eq_seq_exit ?_ | refine eq_block ?_ | refine eq_block_exit ?_ | refine eq_block_ret ?_ | refine eq_block_exit_ne rfl ?_ | refine eq_back_ret ?_ | refine eq_back_exit ?_))
    refine el_cons rfl (eo_ld 1 rfl rfl rfl rfl rfl rfl rfl rfl ?_)
    (repeat (first | refine el_pure rfl rfl rfl rfl ?_ | refine ej_seq ?_ | refine ej_region ?_ | refine el_nil ?_ | refine eq_seq ?_ | refine eq_calm ?_ | refine ej_true rfl ?_ | refine ej_false rfl ?_ | refine el_skip rfl rfl rfl ?_ | refine ej_ret ?_ | refine ej_skip ?_ | refine ej_exit ?_ | refine ej_block ?_ | refine eq_seq_ret ?_ | refine eq_seq_exit ?_ | refine eq_block ?_ | refine eq_block_exit ?_ | refine eq_block_ret ?_ | refine eq_block_exit_ne rfl ?_ | refine eq_back_ret ?_ | refine eq_back_exit ?_))
    refine el_cons rfl (eo_idxv rfl rfl rfl rfl rfl rfl rfl rfl rfl (hVd.one (i := i + 2) hi) ⟨by omega, hlt⟩ ?_)
    refine el_cons rfl (eo_ldvA (k * 3) (cs := d.cells) rfl rfl rfl (vaddr0 ad k 3) rfl rfl (hVd.one (i := i + 2) hi) rfl hg ?_)
    refine el_cons rfl (eo_call1 rfl rfl rfl rfl rfl real_ref21_dark (hdk _) ?_)
    (repeat (first | refine el_pure rfl rfl rfl rfl ?_ | refine ej_seq ?_ | refine ej_region ?_ | refine el_nil ?_ | refine eq_seq ?_ | refine eq_calm ?_ | refine ej_true rfl ?_ | refine ej_false rfl ?_ | refine el_skip rfl rfl rfl ?_ | refine ej_ret ?_ | refine ej_skip ?_ | refine ej_exit ?_ | refine ej_block ?_ | refine eq_seq_ret ?_ | refine eq_seq_exit ?_ | refine eq_block ?_ | refine eq_block_exit ?_ | refine eq_block_ret ?_ | refine eq_block_exit_ne rfl ?_ | refine eq_back_ret ?_ | refine eq_back_exit ?_))
    obtain ⟨F1, hF1⟩ : ∃ F', F' = F0 ++ one1 u1 1 k := ⟨_, rfl⟩
    have hlF1 : F1.length ≤ 2 * k + 1 := by have h1 := one1_len u1 1 k; rw [hF1, List.length_append]; omega
    refine ej_cont (α := Option (Nat × Nat)) (fun r' => [(1, ptr b1), (2, .slice none 0 0), (3, sv r' (fs F1).length), (4, int k), (14, int ds.length), (15, int k)]) (fun r' => S w0 (rowF r' F1 :: cells b1 T_ref21_V (Hd.cells ⟨q, ad, ds.length, cd, ac, cs.length, cc, at', ts.length, ct⟩) :: l)) (fun cont => ?_) (fun r1 => ?_)
    · cases u1 with
      | false =>
        obtain rfl : F1 = F0 := by rw [hF1]; exact one1_false
        exact ej_false rfl (ej_skip (eq_le (cont r0) (le_of _ _ rfl) fun w hw => hw))
      | true =>
        refine ej_true rfl (ej_region ?_)
        (repeat (first | refine el_pure rfl rfl rfl rfl ?_ | refine el_skip rfl rfl rfl ?_))
        refine el_cons rfl (eo_build (cs := Fnd.cells ⟨1, k⟩) rfl rfl rfl rfl rfl rfl rfl rfl ?_)
        refine el_cons rfl (eo_callx rfl rfl rfl rfl rfl real_ref21_put (Does.atx (i := 0) rfl (putF_ref F0 F1 ⟨1, k⟩ hF1 (by omega))) fun r9 _ => ?_)
        (repeat (first | refine el_pure rfl rfl rfl rfl ?_ | refine el_skip rfl rfl rfl ?_))
        exact el_nil (eq_le (cont r9) (le_of _ _ rfl) fun w hw => hw)
    (repeat (first | refine el_pure rfl rfl rfl rfl ?_ | refine ej_seq ?_ | refine ej_region ?_ | refine el_nil ?_ | refine eq_seq ?_ | refine eq_calm ?_ | refine ej_true rfl ?_ | refine ej_false rfl ?_ | refine el_skip rfl rfl rfl ?_ | refine ej_ret ?_ | refine ej_skip ?_ | refine ej_exit ?_ | refine ej_block ?_ | refine eq_seq_ret ?_ | refine eq_seq_exit ?_ | refine eq_block ?_ | refine eq_block_exit ?_ | refine eq_block_ret ?_ | refine eq_block_exit_ne rfl ?_ | refine eq_back_ret ?_ | refine eq_back_exit ?_))
    refine el_cons rfl (eo_ldW 1 rfl rfl rfl rfl rfl rfl rfl rfl ?_)
    (repeat (first | refine el_pure rfl rfl rfl rfl ?_ | refine ej_seq ?_ | refine ej_region ?_ | refine el_nil ?_ | refine eq_seq ?_ | refine eq_calm ?_ | refine ej_true rfl ?_ | refine ej_false rfl ?_ | refine el_skip rfl rfl rfl ?_ | refine ej_ret ?_ | refine ej_skip ?_ | refine ej_exit ?_ | refine ej_block ?_ | refine eq_seq_ret ?_ | refine eq_seq_exit ?_ | refine eq_block ?_ | refine eq_block_exit ?_ | refine eq_block_ret ?_ | refine eq_block_exit_ne rfl ?_ | refine eq_back_ret ?_ | refine eq_back_exit ?_))
    refine el_cons rfl (eo_call1 rfl rfl rfl rfl rfl real_ref21_low (hlw _ (i + 2) hi) ?_)
    (repeat (first | refine el_pure rfl rfl rfl rfl ?_ | refine ej_seq ?_ | refine ej_region ?_ | refine el_nil ?_ | refine eq_seq ?_ | refine eq_calm ?_ | refine ej_true rfl ?_ | refine ej_false rfl ?_ | refine el_skip rfl rfl rfl ?_ | refine ej_ret ?_ | refine ej_skip ?_ | refine ej_exit ?_ | refine ej_block ?_ | refine eq_seq_ret ?_ | refine eq_seq_exit ?_ | refine eq_block ?_ | refine eq_block_exit ?_ | refine eq_block_ret ?_ | refine eq_block_exit_ne rfl ?_ | refine eq_back_ret ?_ | refine eq_back_exit ?_))
    obtain ⟨F2, hF2⟩ : ∃ F', F' = F1 ++ one1 u2 10 k := ⟨_, rfl⟩
    have hlF2 : F2.length ≤ 2 * k + 2 := by have h1 := one1_len u2 10 k; rw [hF2, List.length_append]; omega
    refine ej_cont (α := Option (Nat × Nat)) (fun r' => [(1, ptr b1), (2, .slice none 0 0), (3, sv r' (fs F2).length), (4, int k), (14, int ds.length), (15, int k)]) (fun r' => S w0 (rowF r' F2 :: cells b1 T_ref21_V (Hd.cells ⟨q, ad, ds.length, cd, ac, cs.length, cc, at', ts.length, ct⟩) :: l)) (fun cont => ?_) (fun r2 => ?_)
    · cases u2 with
      | false =>
        obtain rfl : F2 = F1 := by rw [hF2]; exact one1_false
        exact ej_false rfl (ej_skip (eq_le (cont r1) (le_of _ _ rfl) fun w hw => hw))
      | true =>
        refine ej_true rfl (ej_region ?_)
        (repeat (first | refine el_pure rfl rfl rfl rfl ?_ | refine el_skip rfl rfl rfl ?_))
        refine el_cons rfl (eo_build (cs := Fnd.cells ⟨10, k⟩) rfl rfl rfl rfl rfl rfl rfl rfl ?_)
        refine el_cons rfl (eo_callx rfl rfl rfl rfl rfl real_ref21_put (Does.atx (i := 0) rfl (putF_ref F1 F2 ⟨10, k⟩ hF2 (by omega))) fun r9 _ => ?_)
        (repeat (first | refine el_pure rfl rfl rfl rfl ?_ | refine el_skip rfl rfl rfl ?_))
        exact el_nil (eq_le (cont r9) (le_of _ _ rfl) fun w hw => hw)
    rw [hF1, List.append_assoc, ← hdt] at hF2
    subst hF2
    (repeat (first | refine el_pure rfl rfl rfl rfl ?_ | refine ej_seq ?_ | refine ej_region ?_ | refine el_nil ?_ | refine eq_seq ?_ | refine eq_calm ?_ | refine ej_true rfl ?_ | refine ej_false rfl ?_ | refine el_skip rfl rfl rfl ?_ | refine ej_ret ?_ | refine ej_skip ?_ | refine ej_exit ?_ | refine ej_block ?_ | refine eq_seq_ret ?_ | refine eq_seq_exit ?_ | refine eq_block ?_ | refine eq_block_exit ?_ | refine eq_block_ret ?_ | refine eq_block_exit_ne rfl ?_ | refine eq_back_ret ?_ | refine eq_back_exit ?_ | refine el_cons rfl (eo_lenv rfl rfl rfl rfl rfl rfl ?_) | refine el_cons rfl (eo_arith rfl rfl rfl rfl rfl rfl ⟨by omega, by omega⟩ ?_)))
    exact eq_backP (k + 1, r2) (by show k + 1 ≤ ds.length; omega) (by show ds.length - (k + 1) < ds.length - k; omega) (le_of _ _ rfl) fun w hw => hw
  · obtain rfl : k = ds.length := by omega
    generalize hD : domT (ts.filter (·.awake)) ds ds.length = D at *
    (repeat (first | refine el_pure rfl rfl rfl rfl ?_ | refine ej_seq ?_ | refine ej_region ?_ | refine el_nil ?_ | refine eq_seq ?_ | refine eq_calm ?_ | refine ej_true rfl ?_ | refine ej_false rfl ?_ | refine el_skip rfl rfl rfl ?_ | refine ej_ret ?_ | refine ej_skip ?_ | refine ej_exit ?_ | refine ej_block ?_ | refine eq_seq_ret ?_ | refine eq_seq_exit ?_ | refine eq_block ?_ | refine eq_block_exit ?_ | refine eq_block_ret ?_ | refine eq_block_exit_ne rfl ?_ | refine eq_back_ret ?_ | refine eq_back_exit ?_))
    refine el_cons rfl (eo_ld 1 rfl rfl rfl rfl rfl rfl rfl rfl ?_)
    (repeat (first | refine el_pure rfl rfl rfl rfl ?_ | refine ej_seq ?_ | refine ej_region ?_ | refine el_nil ?_ | refine eq_seq ?_ | refine eq_calm ?_ | refine ej_true rfl ?_ | refine ej_false rfl ?_ | refine el_skip rfl rfl rfl ?_ | refine ej_ret ?_ | refine ej_skip ?_ | refine ej_exit ?_ | refine ej_block ?_ | refine eq_seq_ret ?_ | refine eq_seq_exit ?_ | refine eq_block ?_ | refine eq_block_exit ?_ | refine eq_block_ret ?_ | refine eq_block_exit_ne rfl ?_ | refine eq_back_ret ?_ | refine eq_back_exit ?_ | refine el_cons rfl (eo_lenv rfl rfl rfl rfl rfl rfl ?_) | refine el_cons rfl (eo_arith rfl rfl rfl rfl rfl rfl ⟨by omega, by omega⟩ ?_)))
    refine ej_loopP (α := Nat × Option (Nat × Nat)) (fun z => z.1 ≤ cs.length) (fun z => [(1, ptr b1), (2, .slice none 0 0), (3, sv z.2 (fs (D ++ ((cs.take z.1).map (crR ds cs ts)).flatten)).length), (38, int cs.length), (39, int z.1)]) (fun z => S w0 (rowF z.2 (D ++ ((cs.take z.1).map (crR ds cs ts)).flatten) :: cells b1 T_ref21_V (Hd.cells ⟨q, ad, ds.length, cd, ac, cs.length, cc, at', ts.length, ct⟩) :: l)) (fun z => cs.length - z.1) (0, r0) (Nat.zero_le _) ?_ ?_ ?_
    · show SE.le _ _
      rw [List.take_zero, List.map_nil, List.flatten_nil, List.append_nil]; exact le_of _ _ rfl
    · intro w hw
      show S w0 (rowF r0 (D ++ ((cs.take 0).map (crR ds cs ts)).flatten) :: cells b1 T_ref21_V (Hd.cells ⟨q, ad, ds.length, cd, ac, cs.length, cc, at', ts.length, ct⟩) :: l) w
      rw [List.take_zero, List.map_nil, List.flatten_nil, List.append_nil]; exact hw
    rintro ⟨k, r3⟩ hk
    have hk : k ≤ cs.length := hk
    have hFl := flat_leN (crR ds cs ts) 2004 (cs.take k) fun c hc => crR_len ds cs ts c (hlanes c (List.mem_of_mem_take hc))
    rw [List.length_take, Nat.min_eq_left hk] at hFl
    (repeat (first | refine el_pure rfl rfl rfl rfl ?_ | refine ej_seq ?_ | refine ej_region ?_ | refine el_nil ?_ | refine eq_seq ?_ | refine eq_calm ?_ | refine ej_true rfl ?_ | refine ej_false rfl ?_ | refine el_skip rfl rfl rfl ?_ | refine ej_ret ?_ | refine ej_skip ?_ | refine ej_exit ?_ | refine ej_block ?_ | refine eq_seq_ret ?_ | refine eq_seq_exit ?_ | refine eq_block ?_ | refine eq_block_exit ?_ | refine eq_block_ret ?_ | refine eq_block_exit_ne rfl ?_ | refine eq_back_ret ?_ | refine eq_back_exit ?_))
    refine ej_dec rfl (fun hlt => ?_) (fun hlt => ?_)
    · have hlt' : k < cs.length := by omega
      have hx : cs[k]? = some cs[k] := by simp [hlt']
      have hmem := List.getElem_mem hlt'
      have hlane := hv.lies.lane _ hmem
      have hll := hlanes _ hmem
      have hidl := idsC_len cs[k]
      have hdt : ((cs.take (k + 1)).map (crR ds cs ts)).flatten = ((cs.take k).map (crR ds cs ts)).flatten ++ crR ds cs ts cs[k] := by rw [List.take_succ_eq_append_getElem hlt', flat_snoc]
      have hcr : crR ds cs ts cs[k] = ((idsC cs[k]).map (idR cs ts)).flatten ++ one1 (offC ds cs[k]) 5 cs[k].num ++ one1 (orderB ts cs[k].lane cs[k].lane.length) 11 cs[k].num := rfl
      rw [hcr] at hdt
      have hof := fun (l' : List HP) (j : Nat) (h : l'[j]? = some p) => hoff l' j h cs[k]
      have hor := fun (l' : List HP) (j : Nat) (h : l'[j]? = some p) => hord l' j h cs[k] hll hlane
      clear hcr
      have hids : idsC cs[k] = cs[k].lane ++ (if cs[k].cur ≠ 0 then [cs[k].cur] else []) := rfl
      generalize offC ds cs[k] = u3 at *
      generalize orderB ts cs[k].lane cs[k].lane.length = u4 at *
      generalize idsC cs[k] = ids at *
      generalize cs[k] = c at *
      have hg : ∀ j, j < 3 → (rows Cr.cells cs)[k * 3 + j]? = c.cells[j]? := fun j hj => rows_get Cr.cells 3 cr3 cs k j c hx hj
      obtain ⟨num, cur, lane, la, lcap⟩ := c
      have hlane : View w0 [p] 1 la (ints lane) lane.length lcap := hlane
      have hll : lane.length ≤ 1000 := hll
      have hidl : ids.length ≤ lane.length + 1 := hidl
      have hids : ids = lane ++ (if cur ≠ 0 then [cur] else []) := hids
      generalize hF0 : D ++ ((cs.take k).map (crR ds cs ts)).flatten = F0 at *
      have hF0l : F0.length ≤ 2 * ds.length + 2004 * k := by rw [← hF0, List.length_append]; omega
      (repeat (first | refine el_pure rfl rfl rfl rfl ?_ | refine ej_seq ?_ | refine ej_region ?_ | refine el_nil ?_ | refine eq_seq ?_ | refine eq_calm ?_ | refine ej_true rfl ?_ | refine ej_false rfl ?_ | refine el_skip rfl rfl rfl ?_ | refine ej_ret ?_ | refine ej_skip ?_ | refine ej_exit ?_ | refine ej_block ?_ | refine eq_seq_ret ?_ | refine eq_seq_exit ?_ | refine eq_block ?_ | refine eq_block_exit ?_ | refine eq_block_ret ?_ | refine eq_block_exit_ne rfl ?_ | refine eq_back_ret ?_ | refine eq_back_exit ?_))
      refine el_cons rfl (eo_ld 1 rfl rfl rfl rfl rfl rfl rfl rfl ?_)
      (repeat (first | refine el_pure rfl rfl rfl rfl ?_ | refine ej_seq ?_ | refine ej_region ?_ | refine el_nil ?_ | refine eq_seq ?_ | refine eq_calm ?_ | refine ej_true rfl ?_ | refine ej_false rfl ?_ | refine el_skip rfl rfl rfl ?_ | refine ej_ret ?_ | refine ej_skip ?_ | refine ej_exit ?_ | refine ej_block ?_ | refine eq_seq_ret ?_ | refine eq_seq_exit ?_ | refine eq_block ?_ | refine eq_block_exit ?_ | refine eq_block_ret ?_ | refine eq_block_exit_ne rfl ?_ | refine eq_back_ret ?_ | refine eq_back_exit ?_))
      refine el_cons rfl (eo_idxv rfl rfl rfl rfl rfl rfl rfl rfl rfl (hVc.one (i := i + 2) hi) ⟨by omega, hlt⟩ ?_)
      refine el_cons rfl (eo_ldvA (k * 3) (cs := Cr.cells ⟨num, cur, lane, la, lcap⟩) rfl rfl rfl (vaddr0 ac k 3) rfl rfl (hVc.one (i := i + 2) hi) rfl hg ?_)
      refine el_cons rfl (eo_alloc rfl rfl rfl rfl fun b6 => ?_)
      refine el_cons rfl (eo_stA 0 rfl rfl rfl rfl rfl rfl rfl rfl rfl ?_)
      (repeat (first | refine el_pure rfl rfl rfl rfl ?_ | refine ej_seq ?_ | refine ej_region ?_ | refine el_nil ?_ | refine eq_seq ?_ | refine eq_calm ?_ | refine ej_true rfl ?_ | refine ej_false rfl ?_ | refine el_skip rfl rfl rfl ?_ | refine ej_ret ?_ | refine ej_skip ?_ | refine ej_exit ?_ | refine ej_block ?_ | refine eq_seq_ret ?_ | refine eq_seq_exit ?_ | refine eq_block ?_ | refine eq_block_exit ?_ | refine eq_block_ret ?_ | refine eq_block_exit_ne rfl ?_ | refine eq_back_ret ?_ | refine eq_back_exit ?_))
      refine el_cons rfl (eo_buildS (cs := []) rfl rfl rfl rfl rfl rfl rfl rfl rfl rfl fun b7 => ?_)
      refine el_imp (H' := S w0 (rowC (some (b7, 0)) T_int 1 [] 0 :: cells b6 T_ref21_C (Cr.cells ⟨num, cur, lane, la, lcap⟩) :: rowF r3 F0 :: cells b1 T_ref21_V (Hd.cells ⟨q, ad, ds.length, cd, ac, cs.length, cc, at', ts.length, ct⟩) :: l)) (fun w hw => hw.imp (i := 0) rfl (fun h hp => row_of_cells rfl (by decide) hp)) ?_
      (repeat (first | refine el_pure rfl rfl rfl rfl ?_ | refine ej_seq ?_ | refine ej_region ?_ | refine el_nil ?_ | refine eq_seq ?_ | refine eq_calm ?_ | refine ej_true rfl ?_ | refine ej_false rfl ?_ | refine el_skip rfl rfl rfl ?_ | refine ej_ret ?_ | refine ej_skip ?_ | refine ej_exit ?_ | refine ej_block ?_ | refine eq_seq_ret ?_ | refine eq_seq_exit ?_ | refine eq_block ?_ | refine eq_block_exit ?_ | refine eq_block_ret ?_ | refine eq_block_exit_ne rfl ?_ | refine eq_back_ret ?_ | refine eq_back_exit ?_))
      refine el_cons rfl (eo_ld 1 rfl rfl rfl rfl rfl rfl rfl rfl ?_)
      refine el_cons rfl (eo_appendV 0 (r := some (b7, 0)) (n' := 0) (xs := []) (news := ints lane) rfl rfl rfl rfl rfl rfl rfl rfl rfl rfl rfl (hlane.one (i := i + 4) hi) (all_ints _) (by show (0 + lane.length) * 8 ≤ _; omega) (by simp only [maxLen]; omega) fun r7 => ?_)
      rw [List.nil_append, Nat.zero_add]
      (repeat (first | refine el_pure rfl rfl rfl rfl ?_ | refine ej_seq ?_ | refine ej_region ?_ | refine el_nil ?_ | refine eq_seq ?_ | refine eq_calm ?_ | refine ej_true rfl ?_ | refine ej_false rfl ?_ | refine el_skip rfl rfl rfl ?_ | refine ej_ret ?_ | refine ej_skip ?_ | refine ej_exit ?_ | refine ej_block ?_ | refine eq_seq_ret ?_ | refine eq_seq_exit ?_ | refine eq_block ?_ | refine eq_block_exit ?_ | refine eq_block_ret ?_ | refine eq_block_exit_ne rfl ?_ | refine eq_back_ret ?_ | refine eq_back_exit ?_))
      refine el_cons rfl (eo_ld 1 rfl rfl rfl rfl rfl rfl rfl rfl ?_)
      (repeat (first | refine el_pure rfl rfl rfl rfl ?_ | refine ej_seq ?_ | refine ej_region ?_ | refine el_nil ?_ | refine eq_seq ?_ | refine eq_calm ?_ | refine ej_true rfl ?_ | refine ej_false rfl ?_ | refine el_skip rfl rfl rfl ?_ | refine ej_ret ?_ | refine ej_skip ?_ | refine ej_exit ?_ | refine ej_block ?_ | refine eq_seq_ret ?_ | refine eq_seq_exit ?_ | refine eq_block ?_ | refine eq_block_exit ?_ | refine eq_block_ret ?_ | refine eq_block_exit_ne rfl ?_ | refine eq_back_ret ?_ | refine eq_back_exit ?_))
      refine ej_cont (α := Option (Nat × Nat)) (fun r' => [(1, ptr b1), (2, .slice none 0 0), (3, sv r3 (fs F0).length), (5, int k), (6, ptr b6), (38, int cs.length), (39, int k), (7, sv r' ids.length)]) (fun r' => S w0 (rowC r' T_int 1 (ints ids) ids.length :: cells b6 T_ref21_C (Cr.cells ⟨num, cur, lane, la, lcap⟩) :: rowF r3 F0 :: cells b1 T_ref21_V (Hd.cells ⟨q, ad, ds.length, cd, ac, cs.length, cc, at', ts.length, ct⟩) :: l)) (fun cont => ?_) (fun r8 => ?_)
      · refine ej_dec rfl (fun h1 => ?_) (fun h1 => ?_)
        · have h1 : ¬ cur = 0 := h1
          have e1 : ids = lane ++ [cur] := by rw [hids, if_pos h1]
          have e2 : ids.length = lane.length + 1 := by rw [e1]; simp
          refine ej_region ?_
          (repeat (first | refine el_pure rfl rfl rfl rfl ?_ | refine el_skip rfl rfl rfl ?_))
          refine el_cons rfl (eo_ld 1 rfl rfl rfl rfl rfl rfl rfl rfl ?_)
          refine el_cons rfl (eo_buildS (cs := [int cur]) rfl rfl rfl rfl rfl rfl rfl rfl rfl rfl fun b9 => ?_)
          refine el_cons rfl (eo_append 1 (r := r7) (xs := ints lane) (n' := lane.length) [int cur] rfl rfl rfl rfl rfl rfl rfl rfl rfl rfl rfl (fun w hw j u hu => ?_) rfl (by decide) ?_ ?_ fun r9 => ?_)
          · rw [addr_add, Nat.zero_add]; exact hw.cell (i := 0) rfl hu
          · show (lane.length + 1) * 8 ≤ 140737488355328; omega
          · show lane.length + 1 ≤ 9223372036854775807; omega
          (repeat (first | refine el_pure rfl rfl rfl rfl ?_ | refine el_skip rfl rfl rfl ?_))
          refine el_nil (eq_le (cont r9) (by rw [e2]; exact le_of _ _ rfl) fun w hw => ?_)
          rw [e2, e1, ints_snoc]; exact hw.erase 0
        · have h1 : cur = 0 := Decidable.not_not.1 h1
          have e1 : ids = lane := by rw [hids, if_neg (by simp [h1]), List.append_nil]
          exact ej_skip (eq_le (cont r7) (by rw [e1]; exact le_of _ _ rfl) fun w hw => by rw [e1]; exact hw)
      clear hids
      (repeat (first | refine el_pure rfl rfl rfl rfl ?_ | refine ej_seq ?_ | refine ej_region ?_ | refine el_nil ?_ | refine eq_seq ?_ | refine eq_calm ?_ | refine ej_true rfl ?_ | refine ej_false rfl ?_ | refine el_skip rfl rfl rfl ?_ | refine ej_ret ?_ | refine ej_skip ?_ | refine ej_exit ?_ | refine ej_block ?_ | refine eq_seq_ret ?_ | refine eq_seq_exit ?_ | refine eq_block ?_ | refine eq_block_exit ?_ | refine eq_block_ret ?_ | refine eq_block_exit_ne rfl ?_ | refine eq_back_ret ?_ | refine eq_back_exit ?_ | refine el_cons rfl (eo_lenv rfl rfl rfl rfl rfl rfl ?_) | refine el_cons rfl (eo_arith rfl rfl rfl rfl rfl rfl ⟨by omega, by omega⟩ ?_)))
      refine ej_loopP (α := Nat × Option (Nat × Nat)) (fun z => z.1 ≤ ids.length) (fun z => [(1, ptr b1), (2, .slice none 0 0), (3, sv z.2 (fs (F0 ++ ((ids.take z.1).map (idR cs ts)).flatten)).length), (5, int k), (6, ptr b6), (38, int cs.length), (39, int k), (7, sv r8 ids.length), (60, int ids.length), (61, int z.1)])
        (fun z => S w0 (rowC r8 T_int 1 (ints ids) ids.length :: cells b6 T_ref21_C (Cr.cells ⟨num, cur, lane, la, lcap⟩) :: rowF z.2 (F0 ++ ((ids.take z.1).map (idR cs ts)).flatten) :: cells b1 T_ref21_V (Hd.cells ⟨q, ad, ds.length, cd, ac, cs.length, cc, at', ts.length, ct⟩) :: l)) (fun z => ids.length - z.1) (0, r3) (Nat.zero_le _) ?_ ?_ ?_
      · show SE.le _ _
        rw [List.take_zero, List.map_nil, List.flatten_nil, List.append_nil]; exact le_of _ _ rfl
      · intro w hw
        show S w0 (_ :: _ :: rowF r3 (F0 ++ ((ids.take 0).map (idR cs ts)).flatten) :: cells b1 T_ref21_V (Hd.cells ⟨q, ad, ds.length, cd, ac, cs.length, cc, at', ts.length, ct⟩) :: l) w
        rw [List.take_zero, List.map_nil, List.flatten_nil, List.append_nil]; exact hw
      rintro ⟨j, r4⟩ hj
      have hj : j ≤ ids.length := hj
      have hGl := flat_leN (idR cs ts) 2 (ids.take j) fun x _ => idR_len cs ts x
      rw [List.length_take, Nat.min_eq_left hj] at hGl
      (repeat (first | refine el_pure rfl rfl rfl rfl ?_ | refine ej_seq ?_ | refine ej_region ?_ | refine el_nil ?_ | refine eq_seq ?_ | refine eq_calm ?_ | refine ej_true rfl ?_ | refine ej_false rfl ?_ | refine el_skip rfl rfl rfl ?_ | refine ej_ret ?_ | refine ej_skip ?_ | refine ej_exit ?_ | refine ej_block ?_ | refine eq_seq_ret ?_ | refine eq_seq_exit ?_ | refine eq_block ?_ | refine eq_block_exit ?_ | refine eq_block_ret ?_ | refine eq_block_exit_ne rfl ?_ | refine eq_back_ret ?_ | refine eq_back_exit ?_))
      refine ej_dec rfl (fun hlt2 => ?_) (fun hlt2 => ?_)
      · have hlt2' : j < ids.length := by omega
        have hx2 : (ints ids)[j]? = some (int ids[j]) := by simp [hlt2']
        have hdt2 : ((ids.take (j + 1)).map (idR cs ts)).flatten = ((ids.take j).map (idR cs ts)).flatten ++ (one1 (decide (1 < placesN cs ids[j])) 2 ids[j] ++ one1 (!ts.any (isUp ids[j])) 4 ids[j]) := by rw [List.take_succ_eq_append_getElem hlt2', flat_snoc]; rfl
        have hpc := fun (l' : List HP) (z : Nat) (h : l'[z]? = some p) => hplc l' z h ids[j]
        have hpu := fun (l' : List HP) (z : Nat) (h : l'[z]? = some p) => hup l' z h ids[j]
        generalize placesN cs ids[j] = P at *
        generalize ts.any (isUp ids[j]) = U at *
        generalize ids[j] = id at *
        generalize hG0 : F0 ++ ((ids.take j).map (idR cs ts)).flatten = G0 at *
        have hG0l : G0.length ≤ 2 * ds.length + 2004 * k + 2 * j := by rw [← hG0, List.length_append]; omega
        (repeat (first | refine el_pure rfl rfl rfl rfl ?_ | refine ej_seq ?_ | refine ej_region ?_ | refine el_nil ?_ | refine eq_seq ?_ | refine eq_calm ?_ | refine ej_true rfl ?_ | refine ej_false rfl ?_ | refine el_skip rfl rfl rfl ?_ | refine ej_ret ?_ | refine ej_skip ?_ | refine ej_exit ?_ | refine ej_block ?_ | refine eq_seq_ret ?_ | refine eq_seq_exit ?_ | refine eq_block ?_ | refine eq_block_exit ?_ | refine eq_block_ret ?_ | refine eq_block_exit_ne rfl ?_ | refine eq_back_ret ?_ | refine eq_back_exit ?_))
        refine ej_know (fun w hw => S.row_some hw (i := 0) rfl (by omega)) fun hr => ?_
        obtain ⟨⟨g8, c8⟩, rfl⟩ := hr
        have hg2 : (ints ids)[0 + (j : Int).toNat * 1]? = some (int id) := by rw [Nat.zero_add, Nat.mul_one]; exact hx2
        refine ej_held [rowC (some (g8, c8)) T_int 1 (ints ids) ids.length, cells b1 T_ref21_V (Hd.cells ⟨q, ad, ds.length, cd, ac, cs.length, cc, at', ts.length, ct⟩), p] ?_
        refine eh_load 0 (held (.cons 0 rfl (.cons 3 rfl (.cons (i + 4) hi .nil)))) rfl (by kernel_rfl) (by kernel_rfl) (by kernel_rfl) rfl rfl rfl (er_ldW 1 rfl rfl rfl rfl rfl rfl) ?_
        refine eh_take 1 (held (.cons 0 rfl (.cons 3 rfl (.cons (i + 4) hi .nil)))) rfl (by kernel_rfl) (by kernel_rfl) (by kernel_rfl) rfl rfl rfl rfl ?_
        refine eh_take 2 (held (.cons 0 rfl (.cons 3 rfl (.cons (i + 4) hi .nil)))) rfl (by kernel_rfl) (by kernel_rfl) (by kernel_rfl) rfl rfl rfl rfl ?_
        refine eh_load 3 (held (.cons 0 rfl (.cons 3 rfl (.cons (i + 4) hi .nil)))) rfl (by kernel_rfl) (by kernel_rfl) (by kernel_rfl) rfl rfl rfl (er_idxv rfl rfl rfl rfl rfl rfl rfl ⟨by omega, hlt2⟩) ?_
        refine eh_load 4 (held (.cons 0 rfl (.cons 3 rfl (.cons (i + 4) hi .nil)))) rfl (by kernel_rfl) (by kernel_rfl) (by kernel_rfl) rfl rfl rfl (er_ldr 0 (v := int id) rfl rfl rfl rfl rfl hg2) ?_
        refine eh_way 5 (by kernel_rfl) (hway rfl rfl (eo_call1 rfl rfl rfl rfl rfl real_ref21_places (hpc _ (i + 4) hi) ⟨held (.cons 0 rfl (.cons 3 rfl (.cons (i + 4) hi .nil))), ?_⟩))
        refine eh_take 6 (held (.cons 0 rfl (.cons 3 rfl (.cons (i + 4) hi .nil)))) rfl (by kernel_rfl) (by kernel_rfl) (by kernel_rfl) rfl rfl rfl rfl ?_
        refine eh_val 70 (u := .bool (decide (1 < P))) rfl (by congr 1; exact decide_eq_decide.2 (by omega)) ?_
        refine eh_done (by kernel_rfl) ?_
        generalize decide (1 < P) = u5 at *
        (repeat (first | refine el_pure rfl rfl rfl rfl ?_ | refine ej_seq ?_ | refine ej_region ?_ | refine el_nil ?_ | refine eq_seq ?_ | refine eq_calm ?_ | refine ej_true rfl ?_ | refine ej_false rfl ?_ | refine el_skip rfl rfl rfl ?_ | refine ej_ret ?_ | refine ej_skip ?_ | refine ej_exit ?_ | refine ej_block ?_ | refine eq_seq_ret ?_ | refine eq_seq_exit ?_ | refine eq_block ?_ | refine eq_block_exit ?_ | refine eq_block_ret ?_ | refine eq_block_exit_ne rfl ?_ | refine eq_back_ret ?_ | refine eq_back_exit ?_))
        obtain ⟨G1, hG1⟩ : ∃ F', F' = G0 ++ one1 u5 2 id := ⟨_, rfl⟩
        have hlG1 : G1.length ≤ 2 * ds.length + 2004 * k + 2 * j + 1 := by have h1 := one1_len u5 2 id; rw [hG1, List.length_append]; omega
        refine ej_cont (α := Option (Nat × Nat)) (fun r' => [(1, ptr b1), (2, .slice none 0 0), (3, sv r' (fs G1).length), (5, int k), (6, ptr b6), (38, int cs.length), (39, int k), (7, sv (some (g8, c8)) ids.length), (8, int j), (60, int ids.length), (61, int j)]) (fun r' => S w0 (rowC (some (g8, c8)) T_int 1 (ints ids) ids.length :: cells b6 T_ref21_C (Cr.cells ⟨num, cur, lane, la, lcap⟩) :: rowF r' G1 :: cells b1 T_ref21_V (Hd.cells ⟨q, ad, ds.length, cd, ac, cs.length, cc, at', ts.length, ct⟩) :: l)) (fun cont => ?_) (fun r5 => ?_)
        · cases u5 with
          | false =>
            obtain rfl : G1 = G0 := by rw [hG1]; exact one1_false
            exact ej_false rfl (ej_skip (eq_le (cont r4) (le_of _ _ rfl) fun w hw => hw))
          | true =>
            refine ej_true rfl (ej_region ?_)
            (repeat (first | refine el_pure rfl rfl rfl rfl ?_ | refine el_skip rfl rfl rfl ?_))
            refine el_cons rfl (eo_idx rfl rfl rfl rfl rfl rfl rfl rfl ⟨by omega, hlt2⟩ ?_)
            refine el_cons rfl (eo_ldr 0 (v := int id) rfl rfl rfl rfl rfl rfl rfl hg2 ?_)
            refine el_cons rfl (eo_build (cs := Fnd.cells ⟨2, id⟩) rfl rfl rfl rfl rfl rfl rfl rfl ?_)
            refine el_cons rfl (eo_callx rfl rfl rfl rfl rfl real_ref21_put (Does.atx (i := 2) rfl (putF_ref G0 G1 ⟨2, id⟩ hG1 (by omega))) fun r9 _ => ?_)
            (repeat (first | refine el_pure rfl rfl rfl rfl ?_ | refine el_skip rfl rfl rfl ?_))
            exact el_nil (eq_le (cont r9) (le_of _ _ rfl) fun w hw => hw)
        (repeat (first | refine el_pure rfl rfl rfl rfl ?_ | refine ej_seq ?_ | refine ej_region ?_ | refine el_nil ?_ | refine eq_seq ?_ | refine eq_calm ?_ | refine ej_true rfl ?_ | refine ej_false rfl ?_ | refine el_skip rfl rfl rfl ?_ | refine ej_ret ?_ | refine ej_skip ?_ | refine ej_exit ?_ | refine ej_block ?_ | refine eq_seq_ret ?_ | refine eq_seq_exit ?_ | refine eq_block ?_ | refine eq_block_exit ?_ | refine eq_block_ret ?_ | refine eq_block_exit_ne rfl ?_ | refine eq_back_ret ?_ | refine eq_back_exit ?_))
        refine ej_held [rowC (some (g8, c8)) T_int 1 (ints ids) ids.length, cells b1 T_ref21_V (Hd.cells ⟨q, ad, ds.length, cd, ac, cs.length, cc, at', ts.length, ct⟩), p] ?_
        refine eh_load 0 (held (.cons 0 rfl (.cons 3 rfl (.cons (i + 4) hi .nil)))) rfl (by kernel_rfl) (by kernel_rfl) (by kernel_rfl) rfl rfl rfl (er_ldW 1 rfl rfl rfl rfl rfl rfl) ?_
        refine eh_take 1 (held (.cons 0 rfl (.cons 3 rfl (.cons (i + 4) hi .nil)))) rfl (by kernel_rfl) (by kernel_rfl) (by kernel_rfl) rfl rfl rfl rfl ?_
        refine eh_take 2 (held (.cons 0 rfl (.cons 3 rfl (.cons (i + 4) hi .nil)))) rfl (by kernel_rfl) (by kernel_rfl) (by kernel_rfl) rfl rfl rfl rfl ?_
        refine eh_load 3 (held (.cons 0 rfl (.cons 3 rfl (.cons (i + 4) hi .nil)))) rfl (by kernel_rfl) (by kernel_rfl) (by kernel_rfl) rfl rfl rfl (er_idxv rfl rfl rfl rfl rfl rfl rfl ⟨by omega, hlt2⟩) ?_
        refine eh_load 4 (held (.cons 0 rfl (.cons 3 rfl (.cons (i + 4) hi .nil)))) rfl (by kernel_rfl) (by kernel_rfl) (by kernel_rfl) rfl rfl rfl (er_ldr 0 (v := int id) rfl rfl rfl rfl rfl hg2) ?_
        refine eh_way 5 (by kernel_rfl) (hway rfl rfl (eo_call1 rfl rfl rfl rfl rfl real_ref21_up (hpu _ (i + 4) hi) ⟨held (.cons 0 rfl (.cons 3 rfl (.cons (i + 4) hi .nil))), ?_⟩))
        refine eh_take 6 (held (.cons 0 rfl (.cons 3 rfl (.cons (i + 4) hi .nil)))) rfl (by kernel_rfl) (by kernel_rfl) (by kernel_rfl) rfl rfl rfl rfl ?_
        refine eh_done (by kernel_rfl) ?_
        obtain ⟨u6, hu6⟩ : ∃ u6, u6 = !U := ⟨_, rfl⟩
        rw [← hu6]
        rw [← hu6] at hdt2
        (repeat (first | refine el_pure rfl rfl rfl rfl ?_ | refine ej_seq ?_ | refine ej_region ?_ | refine el_nil ?_ | refine eq_seq ?_ | refine eq_calm ?_ | refine ej_true rfl ?_ | refine ej_false rfl ?_ | refine el_skip rfl rfl rfl ?_ | refine ej_ret ?_ | refine ej_skip ?_ | refine ej_exit ?_ | refine ej_block ?_ | refine eq_seq_ret ?_ | refine eq_seq_exit ?_ | refine eq_block ?_ | refine eq_block_exit ?_ | refine eq_block_ret ?_ | refine eq_block_exit_ne rfl ?_ | refine eq_back_ret ?_ | refine eq_back_exit ?_))
        obtain ⟨G2, hG2⟩ : ∃ F', F' = G1 ++ one1 u6 4 id := ⟨_, rfl⟩
        have hlG2 : G2.length ≤ 2 * ds.length + 2004 * k + 2 * j + 2 := by have h1 := one1_len u6 4 id; rw [hG2, List.length_append]; omega
        refine ej_cont (α := Option (Nat × Nat)) (fun r' => [(1, ptr b1), (2, .slice none 0 0), (3, sv r' (fs G2).length), (5, int k), (6, ptr b6), (38, int cs.length), (39, int k), (7, sv (some (g8, c8)) ids.length), (8, int j), (60, int ids.length), (61, int j)]) (fun r' => S w0 (rowC (some (g8, c8)) T_int 1 (ints ids) ids.length :: cells b6 T_ref21_C (Cr.cells ⟨num, cur, lane, la, lcap⟩) :: rowF r' G2 :: cells b1 T_ref21_V (Hd.cells ⟨q, ad, ds.length, cd, ac, cs.length, cc, at', ts.length, ct⟩) :: l)) (fun cont => ?_) (fun r6 => ?_)
        · cases u6 with
          | false =>
            obtain rfl : G2 = G1 := by rw [hG2]; exact one1_false
            exact ej_false rfl (ej_skip (eq_le (cont r5) (le_of _ _ rfl) fun w hw => hw))
          | true =>
            refine ej_true rfl (ej_region ?_)
            (repeat (first | refine el_pure rfl rfl rfl rfl ?_ | refine el_skip rfl rfl rfl ?_))
            refine el_cons rfl (eo_idx rfl rfl rfl rfl rfl rfl rfl rfl ⟨by omega, hlt2⟩ ?_)
            refine el_cons rfl (eo_ldr 0 (v := int id) rfl rfl rfl rfl rfl rfl rfl hg2 ?_)
            refine el_cons rfl (eo_build (cs := Fnd.cells ⟨4, id⟩) rfl rfl rfl rfl rfl rfl rfl rfl ?_)
            refine el_cons rfl (eo_callx rfl rfl rfl rfl rfl real_ref21_put (Does.atx (i := 2) rfl (putF_ref G1 G2 ⟨4, id⟩ hG2 (by omega))) fun r9 _ => ?_)
            (repeat (first | refine el_pure rfl rfl rfl rfl ?_ | refine el_skip rfl rfl rfl ?_))
            exact el_nil (eq_le (cont r9) (le_of _ _ rfl) fun w hw => hw)
        rw [hG1, ← hG0, List.append_assoc, List.append_assoc, ← hdt2] at hG2
        subst hG2
        (repeat (first | refine el_pure rfl rfl rfl rfl ?_ | refine ej_seq ?_ | refine ej_region ?_ | refine el_nil ?_ | refine eq_seq ?_ | refine eq_calm ?_ | refine ej_true rfl ?_ | refine ej_false rfl ?_ | refine el_skip rfl rfl rfl ?_ | refine ej_ret ?_ | refine ej_skip ?_ | refine ej_exit ?_ | refine ej_block ?_ | refine eq_seq_ret ?_ | refine eq_seq_exit ?_ | refine eq_block ?_ | refine eq_block_exit ?_ | refine eq_block_ret ?_ | refine eq_block_exit_ne rfl ?_ | refine eq_back_ret ?_ | refine eq_back_exit ?_ | refine el_cons rfl (eo_lenv rfl rfl rfl rfl rfl rfl ?_) | refine el_cons rfl (eo_arith rfl rfl rfl rfl rfl rfl ⟨by omega, by omega⟩ ?_)))
        exact eq_backP (j + 1, r6) (by show j + 1 ≤ ids.length; omega) (by show ids.length - (j + 1) < ids.length - j; omega) (le_of _ _ rfl) fun w hw => hw
      · obtain rfl : j = ids.length := by omega
        rw [List.take_length] at hGl ⊢
        generalize hG : F0 ++ (ids.map (idR cs ts)).flatten = G at *
        have hG0l : G.length ≤ 2 * ds.length + 2004 * k + 2 * ids.length := by rw [← hG, List.length_append]; omega
        (repeat (first | refine el_pure rfl rfl rfl rfl ?_ | refine ej_seq ?_ | refine ej_region ?_ | refine el_nil ?_ | refine eq_seq ?_ | refine eq_calm ?_ | refine ej_true rfl ?_ | refine ej_false rfl ?_ | refine el_skip rfl rfl rfl ?_ | refine ej_ret ?_ | refine ej_skip ?_ | refine ej_exit ?_ | refine ej_block ?_ | refine eq_seq_ret ?_ | refine eq_seq_exit ?_ | refine eq_block ?_ | refine eq_block_exit ?_ | refine eq_block_ret ?_ | refine eq_block_exit_ne rfl ?_ | refine eq_back_ret ?_ | refine eq_back_exit ?_))
        refine el_cons rfl (eo_ldW 3 rfl rfl rfl rfl rfl rfl rfl rfl ?_)
        refine el_cons rfl (eo_ldW 1 rfl rfl rfl rfl rfl rfl rfl rfl ?_)
        refine el_cons rfl (eo_call1 rfl rfl rfl rfl rfl real_ref21_off (hof _ (i + 4) hi) ?_)
        (repeat (first | refine el_pure rfl rfl rfl rfl ?_ | refine ej_seq ?_ | refine ej_region ?_ | refine el_nil ?_ | refine eq_seq ?_ | refine eq_calm ?_ | refine ej_true rfl ?_ | refine ej_false rfl ?_ | refine el_skip rfl rfl rfl ?_ | refine ej_ret ?_ | refine ej_skip ?_ | refine ej_exit ?_ | refine ej_block ?_ | refine eq_seq_ret ?_ | refine eq_seq_exit ?_ | refine eq_block ?_ | refine eq_block_exit ?_ | refine eq_block_ret ?_ | refine eq_block_exit_ne rfl ?_ | refine eq_back_ret ?_ | refine eq_back_exit ?_))
        obtain ⟨G1, hG1⟩ : ∃ F', F' = G ++ one1 u3 5 num := ⟨_, rfl⟩
        have hlG1 : G1.length ≤ 2 * ds.length + 2004 * k + 2003 := by have h1 := one1_len u3 5 num; rw [hG1, List.length_append]; omega
        refine ej_cont (α := Option (Nat × Nat)) (fun r' => [(1, ptr b1), (2, .slice none 0 0), (3, sv r' (fs G1).length), (5, int k), (6, ptr b6), (38, int cs.length), (39, int k)]) (fun r' => S w0 (rowC r8 T_int 1 (ints ids) ids.length :: cells b6 T_ref21_C (Cr.cells ⟨num, cur, lane, la, lcap⟩) :: rowF r' G1 :: cells b1 T_ref21_V (Hd.cells ⟨q, ad, ds.length, cd, ac, cs.length, cc, at', ts.length, ct⟩) :: l)) (fun cont => ?_) (fun r5 => ?_)
        · cases u3 with
          | false =>
            obtain rfl : G1 = G := by rw [hG1]; exact one1_false
            exact ej_false rfl (ej_skip (eq_le (cont r4) (le_of _ _ rfl) fun w hw => hw))
          | true =>
            refine ej_true rfl (ej_region ?_)
            (repeat (first | refine el_pure rfl rfl rfl rfl ?_ | refine el_skip rfl rfl rfl ?_))
            refine el_cons rfl (eo_ld 1 rfl rfl rfl rfl rfl rfl rfl rfl ?_)
            refine el_cons rfl (eo_build (cs := Fnd.cells ⟨5, num⟩) rfl rfl rfl rfl rfl rfl rfl rfl ?_)
            refine el_cons rfl (eo_callx rfl rfl rfl rfl rfl real_ref21_put (Does.atx (i := 2) rfl (putF_ref G G1 ⟨5, num⟩ hG1 (by omega))) fun r9 _ => ?_)
            (repeat (first | refine el_pure rfl rfl rfl rfl ?_ | refine el_skip rfl rfl rfl ?_))
            exact el_nil (eq_le (cont r9) (le_of _ _ rfl) fun w hw => hw)
        (repeat (first | refine el_pure rfl rfl rfl rfl ?_ | refine ej_seq ?_ | refine ej_region ?_ | refine el_nil ?_ | refine eq_seq ?_ | refine eq_calm ?_ | refine ej_true rfl ?_ | refine ej_false rfl ?_ | refine el_skip rfl rfl rfl ?_ | refine ej_ret ?_ | refine ej_skip ?_ | refine ej_exit ?_ | refine ej_block ?_ | refine eq_seq_ret ?_ | refine eq_seq_exit ?_ | refine eq_block ?_ | refine eq_block_exit ?_ | refine eq_block_ret ?_ | refine eq_block_exit_ne rfl ?_ | refine eq_back_ret ?_ | refine eq_back_exit ?_))
        refine el_cons rfl (eo_ldW 3 rfl rfl rfl rfl rfl rfl rfl rfl ?_)
        refine el_cons rfl (eo_ldW 1 rfl rfl rfl rfl rfl rfl rfl rfl ?_)
        refine el_cons rfl (eo_call1 rfl rfl rfl rfl rfl real_ref21_order (hor _ (i + 4) hi) ?_)
        (repeat (first | refine el_pure rfl rfl rfl rfl ?_ | refine ej_seq ?_ | refine ej_region ?_ | refine el_nil ?_ | refine eq_seq ?_ | refine eq_calm ?_ | refine ej_true rfl ?_ | refine ej_false rfl ?_ | refine el_skip rfl rfl rfl ?_ | refine ej_ret ?_ | refine ej_skip ?_ | refine ej_exit ?_ | refine ej_block ?_ | refine eq_seq_ret ?_ | refine eq_seq_exit ?_ | refine eq_block ?_ | refine eq_block_exit ?_ | refine eq_block_ret ?_ | refine eq_block_exit_ne rfl ?_ | refine eq_back_ret ?_ | refine eq_back_exit ?_))
        obtain ⟨G2, hG2⟩ : ∃ F', F' = G1 ++ one1 u4 11 num := ⟨_, rfl⟩
        have hlG2 : G2.length ≤ 2 * ds.length + 2004 * k + 2004 := by have h1 := one1_len u4 11 num; rw [hG2, List.length_append]; omega
        refine ej_cont (α := Option (Nat × Nat)) (fun r' => [(1, ptr b1), (2, .slice none 0 0), (3, sv r' (fs G2).length), (5, int k), (6, ptr b6), (38, int cs.length), (39, int k)]) (fun r' => S w0 (rowC r8 T_int 1 (ints ids) ids.length :: cells b6 T_ref21_C (Cr.cells ⟨num, cur, lane, la, lcap⟩) :: rowF r' G2 :: cells b1 T_ref21_V (Hd.cells ⟨q, ad, ds.length, cd, ac, cs.length, cc, at', ts.length, ct⟩) :: l)) (fun cont => ?_) (fun r6 => ?_)
        · cases u4 with
          | false =>
            obtain rfl : G2 = G1 := by rw [hG2]; exact one1_false
            exact ej_false rfl (ej_skip (eq_le (cont r5) (le_of _ _ rfl) fun w hw => hw))
          | true =>
            refine ej_true rfl (ej_region ?_)
            (repeat (first | refine el_pure rfl rfl rfl rfl ?_ | refine el_skip rfl rfl rfl ?_))
            refine el_cons rfl (eo_ld 1 rfl rfl rfl rfl rfl rfl rfl rfl ?_)
            refine el_cons rfl (eo_build (cs := Fnd.cells ⟨11, num⟩) rfl rfl rfl rfl rfl rfl rfl rfl ?_)
            refine el_cons rfl (eo_callx rfl rfl rfl rfl rfl real_ref21_put (Does.atx (i := 2) rfl (putF_ref G1 G2 ⟨11, num⟩ hG2 (by omega))) fun r9 _ => ?_)
            (repeat (first | refine el_pure rfl rfl rfl rfl ?_ | refine el_skip rfl rfl rfl ?_))
            exact el_nil (eq_le (cont r9) (le_of _ _ rfl) fun w hw => hw)
        have hG3 : G2 = D ++ ((cs.take (k + 1)).map (crR ds cs ts)).flatten := by rw [hG2, hG1, ← hG, ← hF0, hdt]; simp only [List.append_assoc]
        subst hG3
        (repeat (first | refine el_pure rfl rfl rfl rfl ?_ | refine ej_seq ?_ | refine ej_region ?_ | refine el_nil ?_ | refine eq_seq ?_ | refine eq_calm ?_ | refine ej_true rfl ?_ | refine ej_false rfl ?_ | refine el_skip rfl rfl rfl ?_ | refine ej_ret ?_ | refine ej_skip ?_ | refine ej_exit ?_ | refine ej_block ?_ | refine eq_seq_ret ?_ | refine eq_seq_exit ?_ | refine eq_block ?_ | refine eq_block_exit ?_ | refine eq_block_ret ?_ | refine eq_block_exit_ne rfl ?_ | refine eq_back_ret ?_ | refine eq_back_exit ?_ | refine el_cons rfl (eo_lenv rfl rfl rfl rfl rfl rfl ?_) | refine el_cons rfl (eo_arith rfl rfl rfl rfl rfl rfl ⟨by omega, by omega⟩ ?_)))
        exact eq_backP (k + 1, r6) (by show k + 1 ≤ cs.length; omega) (by show cs.length - (k + 1) < cs.length - k; omega) (le_of _ _ rfl) fun w hw => (hw.erase 0).erase 0
    · obtain rfl : k = cs.length := by omega
      rw [List.take_length] at hFl ⊢
      generalize hA : D ++ (cs.map (crR ds cs ts)).flatten = A at *
      have hAl : A.length ≤ 2 * ds.length + 2004 * cs.length := by rw [← hA, List.length_append]; omega
      (repeat (first | refine el_pure rfl rfl rfl rfl ?_ | refine ej_seq ?_ | refine ej_region ?_ | refine el_nil ?_ | refine eq_seq ?_ | refine eq_calm ?_ | refine ej_true rfl ?_ | refine ej_false rfl ?_ | refine el_skip rfl rfl rfl ?_ | refine ej_ret ?_ | refine ej_skip ?_ | refine ej_exit ?_ | refine ej_block ?_ | refine eq_seq_ret ?_ | refine eq_seq_exit ?_ | refine eq_block ?_ | refine eq_block_exit ?_ | refine eq_block_ret ?_ | refine eq_block_exit_ne rfl ?_ | refine eq_back_ret ?_ | refine eq_back_exit ?_))
      refine el_cons rfl (eo_ld 1 rfl rfl rfl rfl rfl rfl rfl rfl ?_)
      (repeat (first | refine el_pure rfl rfl rfl rfl ?_ | refine ej_seq ?_ | refine ej_region ?_ | refine el_nil ?_ | refine eq_seq ?_ | refine eq_calm ?_ | refine ej_true rfl ?_ | refine ej_false rfl ?_ | refine el_skip rfl rfl rfl ?_ | refine ej_ret ?_ | refine ej_skip ?_ | refine ej_exit ?_ | refine ej_block ?_ | refine eq_seq_ret ?_ | refine eq_seq_exit ?_ | refine eq_block ?_ | refine eq_block_exit ?_ | refine eq_block_ret ?_ | refine eq_block_exit_ne rfl ?_ | refine eq_back_ret ?_ | refine eq_back_exit ?_ | refine el_cons rfl (eo_lenv rfl rfl rfl rfl rfl rfl ?_) | refine el_cons rfl (eo_arith rfl rfl rfl rfl rfl rfl ⟨by omega, by omega⟩ ?_)))
      refine ej_loopP (α := Nat × Option (Nat × Nat)) (fun z => z.1 ≤ ts.length) (fun z => [(1, ptr b1), (2, .slice none 0 0), (3, sv z.2 (fs (A ++ ((ts.take z.1).map (thK ds cs q)).flatten)).length), (112, int ts.length), (113, int z.1)]) (fun z => S w0 (rowF z.2 (A ++ ((ts.take z.1).map (thK ds cs q)).flatten) :: cells b1 T_ref21_V (Hd.cells ⟨q, ad, ds.length, cd, ac, cs.length, cc, at', ts.length, ct⟩) :: l)) (fun z => ts.length - z.1) (0, r3) (Nat.zero_le _) ?_ ?_ ?_
      · show SE.le _ _
        rw [List.take_zero, List.map_nil, List.flatten_nil, List.append_nil]; exact le_of _ _ rfl
      · intro w hw
        show S w0 (rowF r3 (A ++ ((ts.take 0).map (thK ds cs q)).flatten) :: cells b1 T_ref21_V (Hd.cells ⟨q, ad, ds.length, cd, ac, cs.length, cc, at', ts.length, ct⟩) :: l) w
        rw [List.take_zero, List.map_nil, List.flatten_nil, List.append_nil]; exact hw
      rintro ⟨k, r4⟩ hk
      have hk : k ≤ ts.length := hk
      have hTl := flat_leN (thK ds cs q) 6 (ts.take k) fun t _ => thK_len ds cs q t
      rw [List.length_take, Nat.min_eq_left hk] at hTl
      (repeat (first | refine el_pure rfl rfl rfl rfl ?_ | refine ej_seq ?_ | refine ej_region ?_ | refine el_nil ?_ | refine eq_seq ?_ | refine eq_calm ?_ | refine ej_true rfl ?_ | refine ej_false rfl ?_ | refine el_skip rfl rfl rfl ?_ | refine ej_ret ?_ | refine ej_skip ?_ | refine ej_exit ?_ | refine ej_block ?_ | refine eq_seq_ret ?_ | refine eq_seq_exit ?_ | refine eq_block ?_ | refine eq_block_exit ?_ | refine eq_block_ret ?_ | refine eq_block_exit_ne rfl ?_ | refine eq_back_ret ?_ | refine eq_back_exit ?_))
      refine ej_dec rfl (fun hlt => ?_) (fun hlt => ?_)
      · have hlt' : k < ts.length := by omega
        have hx : ts[k]? = some ts[k] := by simp [hlt']
        have hmem := List.getElem_mem hlt'
        have hth := fun (l' : List HP) (j : Nat) (h : l'[j]? = some p) => hthr l' j h ts[k] (hv.lies.tOk _ hmem) (htag _ hmem)
        have hrl := thR_len ds cs q ts[k]
        have hdt : ((ts.take (k + 1)).map (thK ds cs q)).flatten = ((ts.take k).map (thK ds cs q)).flatten ++ thK ds cs q ts[k] := by rw [List.take_succ_eq_append_getElem hlt', flat_snoc]
        have htk : thK ds cs q ts[k] = if ts[k].awake = true then (thR ds cs q ts[k]).map (fun z => (⟨z, ts[k].id⟩ : Fnd)) else [] := rfl
        rw [htk] at hdt
        clear htk
        generalize thR ds cs q ts[k] = R at *
        generalize ts[k] = t at *
        have hg : ∀ j, j < 9 → (rows Th.doc ts)[k * 9 + j]? = t.doc[j]? := fun j hj => rows_get Th.doc 9 th9 ts k j t hx hj
        obtain ⟨tid, dom, mask, awake, running, core, tag, left, slice⟩ := t
        have hdt : ((ts.take (k + 1)).map (thK ds cs q)).flatten = ((ts.take k).map (thK ds cs q)).flatten ++ if awake = true then R.map (fun z => (⟨z, tid⟩ : Fnd)) else [] := hdt
        generalize hF0 : A ++ ((ts.take k).map (thK ds cs q)).flatten = F0 at *
        have hF0l : F0.length ≤ 2 * ds.length + 2004 * cs.length + 6 * k := by rw [← hF0, List.length_append]; omega
        (repeat (first | refine el_pure rfl rfl rfl rfl ?_ | refine ej_seq ?_ | refine ej_region ?_ | refine el_nil ?_ | refine eq_seq ?_ | refine eq_calm ?_ | refine ej_true rfl ?_ | refine ej_false rfl ?_ | refine el_skip rfl rfl rfl ?_ | refine ej_ret ?_ | refine ej_skip ?_ | refine ej_exit ?_ | refine ej_block ?_ | refine eq_seq_ret ?_ | refine eq_seq_exit ?_ | refine eq_block ?_ | refine eq_block_exit ?_ | refine eq_block_ret ?_ | refine eq_block_exit_ne rfl ?_ | refine eq_back_ret ?_ | refine eq_back_exit ?_))
        refine el_cons rfl (eo_ld 1 rfl rfl rfl rfl rfl rfl rfl rfl ?_)
        (repeat (first | refine el_pure rfl rfl rfl rfl ?_ | refine ej_seq ?_ | refine ej_region ?_ | refine el_nil ?_ | refine eq_seq ?_ | refine eq_calm ?_ | refine ej_true rfl ?_ | refine ej_false rfl ?_ | refine el_skip rfl rfl rfl ?_ | refine ej_ret ?_ | refine ej_skip ?_ | refine ej_exit ?_ | refine ej_block ?_ | refine eq_seq_ret ?_ | refine eq_seq_exit ?_ | refine eq_block ?_ | refine eq_block_exit ?_ | refine eq_block_ret ?_ | refine eq_block_exit_ne rfl ?_ | refine eq_back_ret ?_ | refine eq_back_exit ?_))
        refine el_cons rfl (eo_idxv rfl rfl rfl rfl rfl rfl rfl rfl rfl (hVt.one (i := i + 2) hi) ⟨by omega, hlt⟩ ?_)
        (repeat (first | refine el_pure rfl rfl rfl rfl ?_ | refine ej_seq ?_ | refine ej_region ?_ | refine el_nil ?_ | refine eq_seq ?_ | refine eq_calm ?_ | refine ej_true rfl ?_ | refine ej_false rfl ?_ | refine el_skip rfl rfl rfl ?_ | refine ej_ret ?_ | refine ej_skip ?_ | refine ej_exit ?_ | refine ej_block ?_ | refine eq_seq_ret ?_ | refine eq_seq_exit ?_ | refine eq_block ?_ | refine eq_block_exit ?_ | refine eq_block_ret ?_ | refine eq_block_exit_ne rfl ?_ | refine eq_back_ret ?_ | refine eq_back_exit ?_))
        refine el_cons rfl (eo_ldv (k * 9 + 3) (v := .bool awake) rfl rfl rfl (vaddr at' k 3 9) rfl rfl (hVt.one (i := i + 2) hi) (hg 3 (by decide)) ?_)
        cases awake with
        | false =>
          rw [if_neg (by decide), List.append_nil] at hdt
          rw [← hdt] at hF0
          subst hF0
          (repeat (first | refine el_pure rfl rfl rfl rfl ?_ | refine ej_seq ?_ | refine ej_region ?_ | refine el_nil ?_ | refine eq_seq ?_ | refine eq_calm ?_ | refine ej_true rfl ?_ | refine ej_false rfl ?_ | refine el_skip rfl rfl rfl ?_ | refine ej_ret ?_ | refine ej_skip ?_ | refine ej_exit ?_ | refine ej_block ?_ | refine eq_seq_ret ?_ | refine eq_seq_exit ?_ | refine eq_block ?_ | refine eq_block_exit ?_ | refine eq_block_ret ?_ | refine eq_block_exit_ne rfl ?_ | refine eq_back_ret ?_ | refine eq_back_exit ?_ | refine el_cons rfl (eo_lenv rfl rfl rfl rfl rfl rfl ?_) | refine el_cons rfl (eo_arith rfl rfl rfl rfl rfl rfl ⟨by omega, by omega⟩ ?_)))
          exact eq_backP (k + 1, r4) (by show k + 1 ≤ ts.length; omega) (by show ts.length - (k + 1) < ts.length - k; omega) (le_of _ _ rfl) fun w hw => hw
        | true =>
          rw [if_pos rfl] at hdt
          (repeat (first | refine el_pure rfl rfl rfl rfl ?_ | refine ej_seq ?_ | refine ej_region ?_ | refine el_nil ?_ | refine eq_seq ?_ | refine eq_calm ?_ | refine ej_true rfl ?_ | refine ej_false rfl ?_ | refine el_skip rfl rfl rfl ?_ | refine ej_ret ?_ | refine ej_skip ?_ | refine ej_exit ?_ | refine ej_block ?_ | refine eq_seq_ret ?_ | refine eq_seq_exit ?_ | refine eq_block ?_ | refine eq_block_exit ?_ | refine eq_block_ret ?_ | refine eq_block_exit_ne rfl ?_ | refine eq_back_ret ?_ | refine eq_back_exit ?_))
          refine ej_know ((hVt.one (i := i + 2) hi).know) fun hkt => ?_
          have haddr := hkt.2 (by rw [rows_length _ 9 th9]; omega)
          refine ej_held [cells b1 T_ref21_V (Hd.cells ⟨q, ad, ds.length, cd, ac, cs.length, cc, at', ts.length, ct⟩), p] ?_
          refine eh_load 0 (held (.cons 1 rfl (.cons (i + 2) hi .nil))) rfl (by kernel_rfl) (by kernel_rfl) (by kernel_rfl) rfl rfl rfl (er_ldW 0 rfl rfl rfl rfl rfl rfl) ?_
          refine eh_take 1 (held (.cons 1 rfl (.cons (i + 2) hi .nil))) rfl (by kernel_rfl) (by kernel_rfl) (by kernel_rfl) rfl rfl rfl rfl ?_
          refine eh_load 2 (held (.cons 1 rfl (.cons (i + 2) hi .nil))) rfl (by kernel_rfl) (by kernel_rfl) (by kernel_rfl) rfl rfl rfl (er_ld 0 rfl rfl rfl rfl rfl rfl) ?_
          refine eh_take 3 (held (.cons 1 rfl (.cons (i + 2) hi .nil))) rfl (by kernel_rfl) (by kernel_rfl) (by kernel_rfl) rfl rfl rfl rfl ?_
          refine eh_load 4 (held (.cons 1 rfl (.cons (i + 2) hi .nil))) rfl (by kernel_rfl) (by kernel_rfl) (by kernel_rfl) rfl rfl rfl (er_idxv rfl rfl rfl rfl rfl rfl haddr ⟨by omega, hlt⟩) ?_
          refine eh_load 5 (held (.cons 1 rfl (.cons (i + 2) hi .nil))) rfl (by kernel_rfl) (by kernel_rfl) (by kernel_rfl) rfl rfl rfl (er_ldvA 1 (q := k * 9) (cs := Th.doc ⟨tid, dom, mask, true, running, core, tag, left, slice⟩) rfl (vaddr0 at' k 9) rfl rfl rfl hVt rfl hg) ?_
          refine eh_way 6 (by kernel_rfl) (hway rfl rfl (eo_callx rfl rfl rfl rfl rfl real_ref21_thread (hth _ (i + 2) hi) fun r10 _ => ⟨held (.cons 2 rfl (.cons (i + 3) hi .nil)), ?_⟩))
          refine eh_take 7 (held (.cons 2 rfl (.cons (i + 3) hi .nil))) rfl (by kernel_rfl) (by kernel_rfl) (by kernel_rfl) rfl rfl rfl rfl ?_
          refine eh_done (by kernel_rfl) ?_
          (repeat (first | refine el_pure rfl rfl rfl rfl ?_ | refine ej_seq ?_ | refine ej_region ?_ | refine el_nil ?_ | refine eq_seq ?_ | refine eq_calm ?_ | refine ej_true rfl ?_ | refine ej_false rfl ?_ | refine el_skip rfl rfl rfl ?_ | refine ej_ret ?_ | refine ej_skip ?_ | refine ej_exit ?_ | refine ej_block ?_ | refine eq_seq_ret ?_ | refine eq_seq_exit ?_ | refine eq_block ?_ | refine eq_block_exit ?_ | refine eq_block_ret ?_ | refine eq_block_exit_ne rfl ?_ | refine eq_back_ret ?_ | refine eq_back_exit ?_ | refine el_cons rfl (eo_lenv rfl rfl rfl rfl rfl rfl ?_) | refine el_cons rfl (eo_arith rfl rfl rfl rfl rfl rfl ⟨by omega, by omega⟩ ?_)))
          refine ej_loopP (α := Nat × Option (Nat × Nat)) (fun z => z.1 ≤ R.length) (fun z => [(1, ptr b1), (2, .slice none 0 0), (3, sv z.2 (fs (F0 ++ (R.take z.1).map (fun z => (⟨z, tid⟩ : Fnd)))).length), (9, int k), (10, sv r10 R.length), (112, int ts.length), (113, int k), (130, int R.length), (131, int z.1)]) (fun z => S w0 (rowC r10 T_int 1 (ints R) R.length :: rowF z.2 (F0 ++ (R.take z.1).map (fun z => (⟨z, tid⟩ : Fnd))) :: cells b1 T_ref21_V (Hd.cells ⟨q, ad, ds.length, cd, ac, cs.length, cc, at', ts.length, ct⟩) :: l)) (fun z => R.length - z.1) (0, r4) (Nat.zero_le _) ?_ ?_ ?_
          · show SE.le _ _
            rw [List.take_zero, List.map_nil, List.append_nil]; exact le_of _ _ rfl
          · intro w hw
            show S w0 (_ :: rowF r4 (F0 ++ (R.take 0).map (fun z => (⟨z, tid⟩ : Fnd))) :: cells b1 T_ref21_V (Hd.cells ⟨q, ad, ds.length, cd, ac, cs.length, cc, at', ts.length, ct⟩) :: l) w
            rw [List.take_zero, List.map_nil, List.append_nil]; exact hw
          rintro ⟨j, r5⟩ hj
          have hj : j ≤ R.length := hj
          (repeat (first | refine el_pure rfl rfl rfl rfl ?_ | refine ej_seq ?_ | refine ej_region ?_ | refine el_nil ?_ | refine eq_seq ?_ | refine eq_calm ?_ | refine ej_true rfl ?_ | refine ej_false rfl ?_ | refine el_skip rfl rfl rfl ?_ | refine ej_ret ?_ | refine ej_skip ?_ | refine ej_exit ?_ | refine ej_block ?_ | refine eq_seq_ret ?_ | refine eq_seq_exit ?_ | refine eq_block ?_ | refine eq_block_exit ?_ | refine eq_block_ret ?_ | refine eq_block_exit_ne rfl ?_ | refine eq_back_ret ?_ | refine eq_back_exit ?_))
          refine ej_dec rfl (fun hlt2 => ?_) (fun hlt2 => ?_)
          · have hlt2' : j < R.length := by omega
            have hx2 : (ints R)[j]? = some (int R[j]) := by simp [hlt2']
            obtain ⟨G1, hG1⟩ : ∃ G, G = F0 ++ (R.take (j + 1)).map (fun z => (⟨z, tid⟩ : Fnd)) := ⟨_, rfl⟩
            have hG2 : G1 = F0 ++ (R.take j).map (fun z => (⟨z, tid⟩ : Fnd)) ++ [⟨R[j], tid⟩] := by rw [hG1, List.take_succ_eq_append_getElem hlt2', List.map_append, List.append_assoc]; rfl
            have hG0l : (F0 ++ (R.take j).map (fun z => (⟨z, tid⟩ : Fnd))).length ≤ 1000000 := by rw [List.length_append, List.length_map, List.length_take]; omega
            generalize F0 ++ (R.take j).map (fun z => (⟨z, tid⟩ : Fnd)) = G0 at *
            generalize R[j] = kd at *
            (repeat (first | refine el_pure rfl rfl rfl rfl ?_ | refine ej_seq ?_ | refine ej_region ?_ | refine el_nil ?_ | refine eq_seq ?_ | refine eq_calm ?_ | refine ej_true rfl ?_ | refine ej_false rfl ?_ | refine el_skip rfl rfl rfl ?_ | refine ej_ret ?_ | refine ej_skip ?_ | refine ej_exit ?_ | refine ej_block ?_ | refine eq_seq_ret ?_ | refine eq_seq_exit ?_ | refine eq_block ?_ | refine eq_block_exit ?_ | refine eq_block_ret ?_ | refine eq_block_exit_ne rfl ?_ | refine eq_back_ret ?_ | refine eq_back_exit ?_))
            refine ej_know (fun w hw => S.row_some hw (i := 0) rfl (by omega)) fun hr => ?_
            obtain ⟨⟨g8, c8⟩, rfl⟩ := hr
            have hg2 : (ints R)[0 + (j : Int).toNat * 1]? = some (int kd) := by rw [Nat.zero_add, Nat.mul_one]; exact hx2
            refine ej_held [rowC (some (g8, c8)) T_int 1 (ints R) R.length, cells b1 T_ref21_V (Hd.cells ⟨q, ad, ds.length, cd, ac, cs.length, cc, at', ts.length, ct⟩), p] ?_
            refine eh_take 0 (held (.cons 0 rfl (.cons 2 rfl (.cons (i + 3) hi .nil)))) rfl (by kernel_rfl) (by kernel_rfl) (by kernel_rfl) rfl rfl rfl rfl ?_
            refine eh_take 1 (held (.cons 0 rfl (.cons 2 rfl (.cons (i + 3) hi .nil)))) rfl (by kernel_rfl) (by kernel_rfl) (by kernel_rfl) rfl rfl rfl rfl ?_
            refine eh_take 2 (held (.cons 0 rfl (.cons 2 rfl (.cons (i + 3) hi .nil)))) rfl (by kernel_rfl) (by kernel_rfl) (by kernel_rfl) rfl rfl rfl rfl ?_
            refine eh_load 3 (held (.cons 0 rfl (.cons 2 rfl (.cons (i + 3) hi .nil)))) rfl (by kernel_rfl) (by kernel_rfl) (by kernel_rfl) rfl rfl rfl (er_idxv rfl rfl rfl rfl rfl rfl rfl ⟨by omega, hlt2⟩) ?_
            refine eh_load 4 (held (.cons 0 rfl (.cons 2 rfl (.cons (i + 3) hi .nil)))) rfl (by kernel_rfl) (by kernel_rfl) (by kernel_rfl) rfl rfl rfl (er_ldr 0 (v := int kd) rfl rfl rfl rfl rfl hg2) ?_
            refine eh_take 5 (held (.cons 0 rfl (.cons 2 rfl (.cons (i + 3) hi .nil)))) rfl (by kernel_rfl) (by kernel_rfl) (by kernel_rfl) rfl rfl rfl rfl ?_
            refine eh_load 6 (held (.cons 0 rfl (.cons 2 rfl (.cons (i + 3) hi .nil)))) rfl (by kernel_rfl) (by kernel_rfl) (by kernel_rfl) rfl rfl rfl (er_ld 1 rfl rfl rfl rfl rfl rfl) ?_
            refine eh_take 7 (held (.cons 0 rfl (.cons 2 rfl (.cons (i + 3) hi .nil)))) rfl (by kernel_rfl) (by kernel_rfl) (by kernel_rfl) rfl rfl rfl rfl ?_
            refine eh_load 8 (held (.cons 0 rfl (.cons 2 rfl (.cons (i + 3) hi .nil)))) rfl (by kernel_rfl) (by kernel_rfl) (by kernel_rfl) rfl rfl rfl (er_idxv rfl rfl rfl rfl rfl rfl haddr ⟨by omega, hlt⟩) ?_
            refine eh_take 9 (held (.cons 0 rfl (.cons 2 rfl (.cons (i + 3) hi .nil)))) rfl (by kernel_rfl) (by kernel_rfl) (by kernel_rfl) rfl rfl rfl rfl ?_
            refine eh_load 10 (held (.cons 0 rfl (.cons 2 rfl (.cons (i + 3) hi .nil)))) rfl (by kernel_rfl) (by kernel_rfl) (by kernel_rfl) rfl rfl rfl (er_ldv 2 (q := k * 9 + 0) (v := int tid) rfl (vaddr at' k 0 9) rfl rfl rfl hVt (hg 0 (by decide))) ?_
            refine eh_load 11 (held (.cons 0 rfl (.cons 2 rfl (.cons (i + 3) hi .nil)))) rfl (by kernel_rfl) (by kernel_rfl) (by kernel_rfl) rfl rfl rfl (er_build (cs := Fnd.cells ⟨kd, tid⟩) rfl rfl rfl rfl rfl rfl) ?_
            refine eh_way 12 (by kernel_rfl) (hway rfl rfl (eo_callx rfl rfl rfl rfl rfl real_ref21_put (Does.atx (i := 1) rfl (putF_ref G0 G1 ⟨kd, tid⟩ hG2 hG0l)) fun r6 _ => ⟨held (.cons 0 rfl (.cons 2 rfl (.cons (i + 3) hi .nil))), ?_⟩))
            refine eh_take 13 (held (.cons 0 rfl (.cons 2 rfl (.cons (i + 3) hi .nil)))) rfl (by kernel_rfl) (by kernel_rfl) (by kernel_rfl) rfl rfl rfl rfl ?_
            refine eh_done (by kernel_rfl) ?_
            subst hG1
            (repeat (first | refine el_pure rfl rfl rfl rfl ?_ | refine ej_seq ?_ | refine ej_region ?_ | refine el_nil ?_ | refine eq_seq ?_ | refine eq_calm ?_ | refine ej_true rfl ?_ | refine ej_false rfl ?_ | refine el_skip rfl rfl rfl ?_ | refine ej_ret ?_ | refine ej_skip ?_ | refine ej_exit ?_ | refine ej_block ?_ | refine eq_seq_ret ?_ | refine eq_seq_exit ?_ | refine eq_block ?_ | refine eq_block_exit ?_ | refine eq_block_ret ?_ | refine eq_block_exit_ne rfl ?_ | refine eq_back_ret ?_ | refine eq_back_exit ?_ | refine el_cons rfl (eo_lenv rfl rfl rfl rfl rfl rfl ?_) | refine el_cons rfl (eo_arith rfl rfl rfl rfl rfl rfl ⟨by omega, by omega⟩ ?_)))
            exact eq_backP (j + 1, r6) (by show j + 1 ≤ R.length; omega) (by show R.length - (j + 1) < R.length - j; omega) (le_of _ _ rfl) fun w hw => hw
          · obtain rfl : j = R.length := by omega
            rw [List.take_length]
            have hF1 : F0 ++ R.map (fun z => (⟨z, tid⟩ : Fnd)) = A ++ ((ts.take (k + 1)).map (thK ds cs q)).flatten := by rw [hdt, ← hF0, List.append_assoc]
            rw [hF1]
            (repeat (first | refine el_pure rfl rfl rfl rfl ?_ | refine ej_seq ?_ | refine ej_region ?_ | refine el_nil ?_ | refine eq_seq ?_ | refine eq_calm ?_ | refine ej_true rfl ?_ | refine ej_false rfl ?_ | refine el_skip rfl rfl rfl ?_ | refine ej_ret ?_ | refine ej_skip ?_ | refine ej_exit ?_ | refine ej_block ?_ | refine eq_seq_ret ?_ | refine eq_seq_exit ?_ | refine eq_block ?_ | refine eq_block_exit ?_ | refine eq_block_ret ?_ | refine eq_block_exit_ne rfl ?_ | refine eq_back_ret ?_ | refine eq_back_exit ?_ | refine el_cons rfl (eo_lenv rfl rfl rfl rfl rfl rfl ?_) | refine el_cons rfl (eo_arith rfl rfl rfl rfl rfl rfl ⟨by omega, by omega⟩ ?_)))
            exact eq_backP (k + 1, r5) (by show k + 1 ≤ ts.length; omega) (by show ts.length - (k + 1) < ts.length - k; omega) (le_of _ _ rfl) fun w hw => hw.erase 0
      · obtain rfl : k = ts.length := by omega
        rw [List.take_length]
        have hfin : docL ds cs ts q = A ++ (ts.map (thK ds cs q)).flatten := by rw [hall, ← hA]
        rw [← hfin]
        (repeat (first | refine el_pure rfl rfl rfl rfl ?_ | refine ej_seq ?_ | refine ej_region ?_ | refine el_nil ?_ | refine eq_seq ?_ | refine eq_calm ?_ | refine ej_true rfl ?_ | refine ej_false rfl ?_ | refine el_skip rfl rfl rfl ?_ | refine ej_ret ?_ | refine ej_skip ?_ | refine ej_exit ?_ | refine ej_block ?_ | refine eq_seq_ret ?_ | refine eq_seq_exit ?_ | refine eq_block ?_ | refine eq_block_exit ?_ | refine eq_block_ret ?_ | refine eq_block_exit_ne rfl ?_ | refine eq_back_ret ?_ | refine eq_back_exit ?_))
        exact eq_rett rfl fun w hw => ⟨r4, rfl, trivial, hw.erase 1⟩

end Go.Proofs.Ytkpbpjnabbfdiaa
