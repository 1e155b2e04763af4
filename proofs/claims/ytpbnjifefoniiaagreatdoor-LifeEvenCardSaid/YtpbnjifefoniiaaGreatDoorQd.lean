/- Proved: LifeEvenCard_holds of this seat, for every input that its row lets in. Merged by a program of mine (merge.py) of my texts. -/
import Derived.Test.YtpbnjifefoniiaaGreatDoorQc
namespace Go.Proofs.YtpbnjifefoniiaaGreatDoor
open Go Go.SE
variable {w0 : World} {l : List HP} {i : Nat} {r : Option (Nat × Nat)} {F : Hp}
theorem odd_any (x : Int) (H : WP) : Does cx F_fill_children_1 [int x] H fun v w => v = .bool (decide (x < 1 ∨ 10000 < x)) ∧ H w := by
  refine fn_enter (n := N_fill_children_1) fn_fill_children_1 rfl rfl rfl ?_
  refine wk ?_
  refine el_gdec rfl rfl (fun h => ?_) (fun h => ?_)
  · have h : x < 1 := h
    refine wk ?_
    exact eq_rett rfl fun w hw => ⟨by simp [pack, h], hw⟩
  · have h : ¬ x < 1 := h
    refine wk ?_
    exact eq_rett rfl fun w hw => ⟨by simp [pack, h], hw⟩
theorem out_any (x : Int) (H : WP) : Does cx F_fill_children_2 [int x] H fun v w => v = .bool (decide (x < 0 ∨ 64 < x)) ∧ H w := by
  refine fn_enter (n := N_fill_children_2) fn_fill_children_2 rfl rfl rfl ?_
  refine wk ?_
  refine el_gdec rfl rfl (fun h => ?_) (fun h => ?_)
  · have h : x < 0 := h
    refine wk ?_
    exact eq_rett rfl fun w hw => ⟨by simp [pack, h], hw⟩
  · have h : ¬ x < 0 := h
    refine wk ?_
    exact eq_rett rfl fun w hw => ⟨by simp [pack, h], hw⟩
theorem index_none (f : Nat) (hr : Real cx.P f) {xs : List Int} {v : Value} (hv : IntsV w0 F v xs) (hn : xs.length ≤ 100000) (hf : ∀ x ∈ xs, ∀ H : WP, Does cx f [int x] H fun v w => v = .bool false ∧ H w) (hi : l[i]? = some (frz F)) :
    Does cx F_slices_IndexFunc_int_int [v, .func (.func f) #[] #[]] (S w0 l) fun v w => v = int (-1) ∧ S w0 l w := by
  obtain ⟨a, c, rfl, hV⟩ := hv.is
  refine fn_enter (n := N_slices_IndexFunc_int_int) fn_slices_IndexFunc_int_int rfl rfl rfl ?_
  refine wk ?_
  refine ej_loopP (fun k : Nat => k ≤ xs.length) (fun k => [(0, .slice a xs.length c), (1, .func (.func f) #[] #[]), (7, int xs.length), (8, int k)]) (fun _ => S w0 l) (fun k => xs.length - k) 0 (Nat.zero_le _) (le_of _ _ rfl) (fun w hw => hw) ?_
  intro k hk
  refine wk ?_
  refine ej_dec rfl (fun h => ?_) (fun h => ?_)
  · have h : k < xs.length := by omega
    obtain ⟨x, hx⟩ : ∃ x, xs[k]? = some x := ⟨_, List.getElem?_eq_getElem h⟩
    refine wk ?_
    refine Ixf hV ?_
    refine Ldf k hV (ints_get hx) ?_
    refine C1 (hf x (List.mem_of_getElem? hx) _) hr ?_
    refine wk ?_
    exact eq_backP (k + 1) (by omega) (by omega) (le_of _ _ rfl) fun w hw => hw
  · refine wk ?_
    exact eq_rett rfl fun w hw => ⟨rfl, hw⟩
theorem contains_none (f : Nat) (hr : Real cx.P f) {xs : List Int} {v : Value} (hv : IntsV w0 F v xs) (hn : xs.length ≤ 100000) (hf : ∀ x ∈ xs, ∀ H : WP, Does cx f [int x] H fun v w => v = .bool false ∧ H w) (hi : l[i]? = some (frz F)) :
    Does cx F_slices_ContainsFunc_int_int [v, .func (.func f) #[] #[]] (S w0 l) fun v w => v = .bool false ∧ S w0 l w := by
  refine fn_enter (n := N_slices_ContainsFunc_int_int) fn_slices_ContainsFunc_int_int rfl rfl rfl ?_
  refine wk ?_
  refine C1 (index_none f hr hv hn hf hi) real_slices_IndexFunc_int_int ?_
  refine wk ?_
  exact eq_rett rfl fun w hw => ⟨rfl, hw⟩
theorem cs_get {cs : List Ch} {k : Nat} {c : Ch} (h : cs[k]? = some c) : (ints (cs.map fun c => (c.1 : Int)))[k]? = some (int c.1) ∧ (ints (cs.map fun c => (c.2 : Int)))[k]? = some (int c.2) := by simp [h]
theorem cS_take_le : ∀ (cs : List Ch) (k : Nat), cS (cs.take k) ≤ cS cs
  | [], k => by simp [cS]
  | c :: cs, 0 => by simp [cS]
  | c :: cs, k + 1 => by have := cS_take_le cs k; simp only [List.take_succ_cons, cS]; omega
theorem cS_le : ∀ (cs : List Ch), (∀ c ∈ cs, ChB c) → cS cs ≤ 64 * cs.length
  | [], _ => by simp [cS]
  | c :: cs, h => by
    have h1 := cS_le cs fun d hd => h d (by simp [hd])
    have h2 := (h c (by simp)).2.2
    simp only [cS, List.length_cons]; omega
set_option maxHeartbeats 1600000 in
theorem fChildren (x : Rat) (cs : List Ch) (v wv cv : Value) (hv : RatV w0 F v x) (hw : IntsV w0 F wv (cs.map fun c => (c.1 : Int))) (hc : IntsV w0 F cv (cs.map fun c => (c.2 : Int))) (hx : Few 20000 x) (hB : ∀ c ∈ cs, ChB c) (h32 : cs.length ≤ 32) (hle : x ≤ (cS cs : Rat)) : Giv cx F_fill_children [v, wv, cv] w0 F (fun v : Value => .tuple #[v, int 0]) fun G v => ChsV w0 G v cs := by
  intro l
  have hcl := cS_le cs hB
  have hv' := hv
  have hw' := hw
  have hc' := hc
  obtain ⟨va, vb, rfl, hva, hvb⟩ := hv'.is
  obtain ⟨wa, wc, rfl, hwV⟩ := hw'.is
  obtain ⟨ca, cc, rfl, hcV⟩ := hc'.is
  simp only [List.length_map] at hwV hcV hw hc ⊢
  refine fn_enter (n := N_fill_children) fn_fill_children rfl rfl rfl ?_
  refine wk ?_
  refine ec (oBox fun b3 => ?_)
  refine wk ?_
  refine G0 (rGood x _ hv hx) real_ratio_Ratio_Good fun G _ hu _ => ?_
  refine wk ?_
  refine ej_dec rfl (fun h => absurd rfl h) (fun _ => ?_)
  refine wk ?_
  refine ej_dec rfl (fun h => absurd h (by omega)) (fun h => ?_)
  refine wk ?_
  refine C1 (contains_none F_fill_children_1 real_fill_children_1 (hw.up hu) (by simp; omega) (fun x hx H => ?_) at1) real_slices_ContainsFunc_int_int ?_
  · obtain ⟨c, hc1, rfl⟩ := List.mem_map.1 hx
    have := hB c hc1
    refine Does.mono (odd_any _ H) (fun _ h => h) ?_
    rintro v w ⟨rfl, h⟩
    exact ⟨by rw [decide_eq_false]; simp only [ChB] at this; omega, h⟩
  refine wk ?_
  refine C1 (contains_none F_fill_children_2 real_fill_children_2 (hc.up hu) (by simp; omega) (fun x hx H => ?_) at1) real_slices_ContainsFunc_int_int ?_
  · obtain ⟨c, hc1, rfl⟩ := List.mem_map.1 hx
    have := hB c hc1
    refine Does.mono (out_any _ H) (fun _ h => h) ?_
    rintro v w ⟨rfl, h⟩
    exact ⟨by rw [decide_eq_false]; simp only [ChB] at this; omega, h⟩
  refine wk ?_
  refine ej_row0 T_fill_child 2 ?_
  refine ej_loop2 (fun (k : Nat) (r : Option (Nat × Nat)) => k ≤ cs.length) (fun k r => [(3, ptr b3), (1, .slice wa cs.length wc), (2, .slice ca cs.length cc), (10, sv r k), (11, int (cS (cs.take k))), (37, .slice wa cs.length wc), (38, int cs.length), (39, int k)])
    (fun k r => S w0 (rowC r T_fill_child 2 (rows chv (cs.take k)) k :: cells b3 T_ratio_Ratio [va, vb] :: frz G :: l)) (fun k _ => cs.length - k) 0 none (Nat.zero_le _) (le_of _ _ rfl) (fun w hw => hw) ?_
  rintro k r hk
  refine wk ?_
  refine ej_dec rfl (fun h => ?_) (fun h => ?_)
  · have h : k < cs.length := by omega
    obtain ⟨c, hx⟩ : ∃ c, cs[k]? = some c := ⟨_, List.getElem?_eq_getElem h⟩
    have hsn : cs.take (k + 1) = cs.take k ++ [c] := by rw [List.take_add_one, hx]; rfl
    have h1 := cS_take_le cs k
    have h2 := (hB c (List.mem_of_getElem? hx)).2.2
    refine wk ?_
    refine Ixf (hwV.up hu) ?_
    refine Ldf k (hwV.up hu) (cs_get hx).1 ?_
    refine wk ?_
    refine Ixf (hcV.up hu) ?_
    refine Ldf k (hcV.up hu) (cs_get hx).2 ?_
    refine wk ?_
    refine ec (oBuild (cs := chv c) ?_)
    refine App (cs := chv c) (fun r' b5 => ?_) (hc := by exact rfl)
    refine wk ?_
    refine Ixf (hcV.up hu) ?_
    refine Ldf k (hcV.up hu) (cs_get hx).2 ?_
    refine wk ?_
    refine eq_back2 (k + 1) r' (by omega) (by omega) ?_ ?_
    · rw [hsn, cS_app, show cS [c] = c.2 by simp [cS]]
      exact le_of _ _ rfl
    · intro w hw
      rw [hsn, rows_snoc]
      exact hw
  · obtain rfl : k = cs.length := by omega
    rw [List.take_length]
    have hI : ∀ G : Hp, ∀ w, S w0 (rowC r T_fill_child 2 (rows chv cs) cs.length :: cells b3 T_ratio_Ratio [va, vb] :: frz G :: l) w → Held w0 [cells b3 T_ratio_Ratio [va, vb]] w := fun G => held1 (i := 1) rfl
    refine wk ?_
    refine ej_held [cells b3 T_ratio_Ratio [va, vb]] ?_
    have hI0 := hI G
    refine tv 0 rfl (rLdW 0) ?_
    refine tk 1 ?_
    refine wg0 2 rfl (rInt (cS cs) (by omega)) real_ratio_Int fun G1 v1 hu2 hv1 => ⟨?_, ?_⟩
    · exact hI G1
    refine wg0 3 rfl (rCmp x _ _ _ ((hv.up hu).up hu2) hv1 hx ((few_nat (n := cS cs) (by omega)).le (by omega))) real_ratio_Cmp fun G2 _ hu3 _ => ⟨?_, ?_⟩
    · exact hI G2
    have hI2 := hI G2
    have hc : ¬ cmpR x ((cS cs : Nat) : Rat) > 0 := by
      rw [cmpR]
      split
      · decide
      · rw [if_neg (by grind)]; decide
    refine tk 4 ?_
    refine wd ?_
    refine wk ?_
    refine ej_dec rfl (fun h => absurd h hc) (fun _ => ?_)
    refine wk ?_
    refine eq_frz 0 (fun G3 hu4 hf => ?_)
    exact eq_rett rfl fun w hw => ⟨(G3, _), rfl, ⟨((hu.trans hu2).trans hu3).trans hu4, chs_row hf rfl⟩, hw.erase 0⟩
end Go.Proofs.YtpbnjifefoniiaaGreatDoor
namespace Go.Proofs.YtpbnjifefoniiaaGreatDoor
open Go Go.SE
variable {w0 : World} {l : List HP} {i : Nat} {r : Option (Nat × Nat)} {F : Hp}
theorem nat_few (m : Nat) (h : m < 18446744073709551616) : Few 20000 (m : Rat) := (few_nat h).le (by omega)
set_option maxHeartbeats 1600000 in
theorem fGiven (c : Ch) (x : Rat) (v : Value) (hv : RatV w0 F v x) (hx : Few 10000 x) (hB : ChB c) : Giv cx F_fill_child_given [.agg (chv c).toArray, v] w0 F (fun v : Value => v) fun G v => RatV w0 G v (given x c) := by
  intro l
  have hv' := hv
  obtain ⟨va, vb, rfl, hva, hvb⟩ := hv'.is
  obtain ⟨c1, c2⟩ := c
  simp only [ChB] at hB
  refine fn_enter (n := N_fill_child_given) fn_fill_child_given rfl rfl rfl ?_
  refine wk ?_
  refine ec (oBox fun b2 => ?_)
  refine ec (oBox fun b3 => ?_)
  refine ec (oAlloc fun b4 => ?_)
  refine wk ?_
  have hI : ∀ (x : HP) (G : Hp), ∀ w, S w0 (x :: cells b3 T_ratio_Ratio [va, vb] :: cells b2 T_fill_child [int c1, int c2] :: frz G :: l) w → Held w0 [cells b3 T_ratio_Ratio [va, vb], cells b2 T_fill_child [int c1, int c2]] w := fun x G => held2 (i := 1) (j := 2) rfl rfl
  refine ej_held [cells b3 T_ratio_Ratio [va, vb], cells b2 T_fill_child [int c1, int c2]] ?_
  have hI0 := hI (cells b4 T_ratio_Ratio [.slice none 0 0, .slice none 0 0]) F
  refine tv 0 rfl (rLdW 0) ?_
  refine tk 1 ?_
  refine tv 2 rfl (rLd 1) ?_
  refine wa0 5 ?_
  refine wga 3 rfl (rInt c1 (by omega)) real_ratio_Int fun G1 v1 hu1 hv1 => ⟨?_, ?_⟩
  · exact hI _ G1
  have hI1 := hI (cells b4 T_ratio_Ratio [.slice none 0 0, .slice none 0 0]) G1
  refine wga 4 rfl (rMul x _ _ _ (hv.up hu1) hv1 (hx.le (by omega)) (nat_few c1 (by omega))) real_ratio_Mul fun G2 v2 hu2 hv2 => ⟨?_, ?_⟩
  · exact hI _ G2
  have hI2 := hI (cells b4 T_ratio_Ratio [.slice none 0 0, .slice none 0 0]) G2
  refine wad fun b5 => ?_
  have hv2' := hv2
  obtain ⟨x1, x2, rfl, hx1, hx2⟩ := hv2'.is
  obtain ⟨_, _, rfl, _⟩ := hx1.is
  obtain ⟨_, _, rfl, _⟩ := hx2.is
  have hI3 : ∀ (y : HP) (w : World), S w0 (y :: cells b4 T_ratio_Ratio [.slice none 0 0, .slice none 0 0] :: cells b3 T_ratio_Ratio [va, vb] :: cells b2 T_fill_child [int c1, int c2] :: frz G2 :: l) w → Held w0 [cells b3 T_ratio_Ratio [va, vb], cells b2 T_fill_child [int c1, int c2]] w := fun y w hw => hI2 w (hw.erase 0)
  refine wv 6 rfl (eo_stA 0 rfl rfl rfl rfl rfl rfl rfl rfl rfl ⟨hI3 _, ?_⟩)
  refine wd ?_
  refine wk ?_
  refine G0 (rInt c2 (by omega)) real_ratio_Int fun G3 v3 hu3 hv3 => ?_
  have hv3' := hv3
  obtain ⟨y1, y2, rfl, hy1, hy2⟩ := hv3'.is
  obtain ⟨_, _, rfl, _⟩ := hy1.is
  obtain ⟨_, _, rfl, _⟩ := hy2.is
  refine ec (oAlloc fun b6 => ?_)
  refine ec (oStA 0 ?_)
  refine wk ?_
  have hfm2 : Few 20000 (x * (c1 : Rat)) := (few_mul hv.nn (nat_nonneg c1) hx (few_nat (n := c1) (by omega))).le (by omega)
  refine G0 (rCmp _ _ _ _ (hv2.up hu3) hv3 hfm2 (nat_few c2 (by omega))) real_ratio_Cmp fun G4 _ hu4 _ => ?_
  refine wk ?_
  have hup := ((hu1.trans hu2).trans hu3).trans hu4
  refine ej_dec rfl (fun h => ?_) (fun h => ?_)
  · have e : given x (c1, c2) = (c2 : Rat) := by
      rw [given, if_pos]
      rw [cmpR] at h
      revert h
      split
      · intro h; exact absurd h (by decide)
      · split
        · intro _; assumption
        · intro h; exact absurd h (by decide)
    rw [e]
    refine wk ?_
    exact eq_ret [_] (rvs_cell 2 rfl rfl rfl rfl rfl rvs_nil) fun w hw => ⟨(G4, _), rfl, ⟨hup, hv3.up hu4⟩, hw.drop 5⟩
  · have e : given x (c1, c2) = x * (c1 : Rat) := by
      rw [given, if_neg]
      intro h2
      refine h ?_
      rw [cmpR, if_neg (by grind), if_pos h2]; decide
    rw [e]
    refine wk ?_
    exact eq_ret [_] (rvs_cell 2 rfl rfl rfl rfl rfl rvs_nil) fun w hw => ⟨(G4, _), rfl, ⟨hup, (hv2.up hu3).up hu4⟩, hw.drop 5⟩
end Go.Proofs.YtpbnjifefoniiaaGreatDoor
namespace Go.Proofs.YtpbnjifefoniiaaGreatDoor
open Go Go.SE
variable {w0 : World} {l : List HP} {i : Nat} {r : Option (Nat × Nat)} {F : Hp}
theorem wS_le : ∀ (cs : List Ch), (∀ c ∈ cs, ChB c) → wS cs ≤ 10000 * cs.length
  | [], _ => by simp [wS]
  | c :: cs, h => by
    have h1 := wS_le cs fun d hd => h d (by simp [hd])
    have h2 := (h c (by simp)).2.1
    simp only [wS, List.length_cons]; omega
theorem cS_perm {a b : List Ch} (h : a.Perm b) : cS a = cS b := by
  induction h with
  | nil => rfl
  | cons x _ ih => simp only [cS, ih]
  | swap x y l => simp only [cS]; omega
  | trans _ _ h1 h2 => rw [h1, h2]
theorem wS_snoc {cs : List Ch} {k : Nat} {c : Ch} (h : cs[k]? = some c) : wS (cs.take (k + 1)) = wS (cs.take k) + c.1 := by
  rw [List.take_add_one, h, wS_app]; simp [wS]
theorem cS_snoc {cs : List Ch} {k : Nat} {c : Ch} (h : cs[k]? = some c) : cS (cs.take (k + 1)) = cS (cs.take k) + c.2 := by
  rw [List.take_add_one, h, cS_app]; simp [cS]
theorem drop_at {cs : List Ch} {k : Nat} {c : Ch} (h : cs[k]? = some c) : cs.drop k = c :: cs.drop (k + 1) := by
  obtain ⟨h', rfl⟩ := List.getElem?_eq_some_iff.1 h
  exact List.drop_eq_getElem_cons h'
theorem few_full {c : Ch} (hB : ChB c) : Few 2 (full c) := by
  have h1 := wpos hB.1
  have := few_div (j := 1) (k := 1) (nat_nonneg c.2) h1 (few_nat (by have := hB.2.2; omega)) (few_nat (by have := hB.2.1; omega))
  exact this
theorem cap_le {x : Rat} {op : Nat} {c : Ch} (hc : 1 ≤ c.1) (ho : c.1 ≤ op) (_h0 : 0 ≤ x) (h : ¬ x / (op : Rat) < full c) : (c.2 : Rat) ≤ x := by
  have h1 := wpos hc
  have h2 : (0 : Rat) < (op : Rat) := by
    have : ((c.1 : Nat) : Rat) ≤ (op : Rat) := by exact_mod_cast ho
    grind
  rw [div_lt_iff' h2] at h
  have h3 : full c * (op : Rat) ≤ x := by grind
  have h4 : full c * (c.1 : Rat) ≤ full c * (op : Rat) := Rat.mul_le_mul_of_nonneg_left (by exact_mod_cast ho) (full_nn hc)
  rw [full_mul hc] at h4
  grind
theorem rn_zero {x : Rat} (h : 0 ≤ x) : (limbs (rn x)).length = 0 ↔ x = 0 := by
  constructor
  · intro h1
    have h2 := limbs_nil.1 (List.eq_nil_of_length_eq_zero h1)
    by_cases h3 : x = 0
    · exact h3
    · exact absurd h2 (pos_rn (by grind))
  · rintro rfl
    rw [show rn (0 : Rat) = 0 from rfl, limbs_nil.2 rfl]; rfl
set_option maxHeartbeats 4000000 in
theorem fLevel (x : Rat) (cs : List Ch) (v lv : Value) (a : Nat) (hv : RatV w0 F v x) (hl : ChsV w0 F lv cs) (hx : Few a x) (ha : a ≤ 5000) (hB : ∀ c ∈ cs, ChB c) (h32 : cs.length ≤ 32) (hle : x ≤ (cS cs : Rat)) : Giv cx F_fill_level [v, lv] w0 F (fun v : Value => v) fun G v => ∃ L, IsLevel x cs L ∧ RatV w0 G v L ∧ Few (a + 3) L := by
  intro l
  have hv' := hv
  obtain ⟨va, vb, rfl, hva, hvb⟩ := hv'.is
  obtain ⟨la, lc, rfl, hlV⟩ := hl.is
  have hx0 := hv.nn
  refine fn_enter (n := N_fill_level) fn_fill_level rfl rfl rfl ?_
  refine wk ?_
  refine ec (oBox fun b2 => ?_)
  refine ec (oAlloc fun b4 => ?_)
  refine wk ?_
  refine Cx1 (Values_any _) real_slices_Values_fill_child_fill_child fun bV _ => ?_
  refine Cx1 (chSorted hlV bV 0 3 rfl rfl (by omega) hB) real_slices_SortedFunc_fill_child ?_
  rintro ⟨r, ss⟩ ⟨hp, hs⟩
  have hsl : ss.length = cs.length := hp.length_eq
  have hBs : ∀ c ∈ ss, ChB c := fun c hc => hB c (hp.mem_iff.1 hc)
  have hlev := level_is (fun c hc => (hBs c hc).1) hs hx0 (by rw [cS_perm hp]; exact hle)
  refine wk ?_
  simp only at hp hs
  refine ej_frz 0 (fun G hu0 hf => ?_)
  obtain ⟨sa, sc, hsv, hV⟩ : ∃ a c, sv r cs.length = .slice a cs.length c ∧ Fv w0 G 2 a (rows chv ss) cs.length c := ⟨_, _, rfl, fv_row hf (by rw [rows_length chv 2 chv2, hsl])⟩
  simp only [hsv]
  rw [← hsl] at h32 hV ⊢
  have hwl := wS_le ss hBs
  refine ej_loopP (fun k : Nat => k ≤ ss.length) (fun k => [(1, .slice sa ss.length sc), (2, ptr b2), (4, ptr b4), (5, int (wS (ss.take k))), (18, .slice sa ss.length sc), (19, int ss.length), (20, int k)])
    (fun _ => S w0 (cells bV T_S_fill_child [.slice la ss.length lc] :: cells b4 T_ratio_Ratio [.slice none 0 0, .slice none 0 0] :: cells b2 T_ratio_Ratio [va, vb] :: frz G :: l)) (fun k => ss.length - k) 0 (Nat.zero_le _) (le_of _ _ rfl) (fun w hw => hw) ?_
  intro k hk
  refine wk ?_
  refine ej_dec rfl (fun h => ?_) (fun h => ?_)
  · have h : k < ss.length := by omega
    obtain ⟨c, hc⟩ : ∃ c, ss[k]? = some c := ⟨_, List.getElem?_eq_getElem h⟩
    have hcB := hBs c (List.mem_of_getElem? hc)
    have h1 := wS_snoc hc
    have h2 : wS (ss.take k) + wS (ss.drop k) = wS ss := by rw [← wS_app, List.take_append_drop]
    have h3 : wS (ss.drop k) = c.1 + wS (ss.drop (k + 1)) := by rw [drop_at hc]; rfl
    refine wk ?_
    refine Ixf hV ?_
    refine LdfA (cs := chv c) (k * 2) hV (fun j hj => rows_get chv 2 chv2 ss k j c hc hj) ?_
    refine ec (oAlloc fun b7 => ?_)
    refine ec (oStA 0 ?_)
    refine wk ?_
    refine eq_backP (k + 1) (by omega) (by omega) ?_ fun w hw => hw.erase 0
    rw [h1]
    exact le_of _ _ rfl
  · obtain rfl : k = ss.length := by omega
    rw [List.take_length]
    refine wk ?_
    refine G0 (rInt 0 (by decide)) real_ratio_Int fun G1 v0 hu1 hv0 => ?_
    have hv0' := hv0
    obtain ⟨zv, hzv⟩ : ∃ zv, zv = v0 := ⟨_, rfl⟩
    have hvz : RatV w0 G1 zv ((0 : Nat) : Rat) := by rw [hzv]; exact hv0
    obtain ⟨z1, z2, rfl, hz1, hz2⟩ := hv0'.is
    have hz1' := hz1
    obtain ⟨_, _, rfl, _⟩ := hz1'.is
    have hz2' := hz2
    obtain ⟨_, _, rfl, _⟩ := hz2'.is
    refine ec (oAlloc fun b8 => ?_)
    refine ec (oStA 0 ?_)
    refine wk ?_
    refine ej_fin (α := Hp × Value × Rat × List Value) (fun p => Up F p.1 ∧ IsLevel x ss p.2.2.1 ∧ RatV w0 p.1 p.2.1 p.2.2.1 ∧ Few (a + 3) p.2.2.1) (fun p => [(4, ptr b4), (8, ptr b8)]) (fun p => S w0 (cells b8 T_ratio_Ratio p.2.1.cells.toList :: cells b4 T_ratio_Ratio [.slice none 0 0, .slice none 0 0] :: cells b2 T_ratio_Ratio p.2.2.2 :: frz p.1 :: l)) (fun fin => ?_) ?_
    · refine ej_loop4 (fun (k : Nat) (xv : Value × Value) (av : Value × Rat) (G2 : Hp) => k ≤ ss.length ∧ Up F G2 ∧ Up G G2 ∧ RatV w0 G2 (.agg [xv.1, xv.2].toArray) (x - (cS (ss.take k) : Rat)) ∧ Few (a + 1) (x - (cS (ss.take k) : Rat)) ∧ RatV w0 G2 av.1 av.2 ∧ Few 2 av.2 ∧ levelP x (wS ss) 0 ss = levelP (x - (cS (ss.take k) : Rat)) (wS (ss.drop k)) av.2 (ss.drop k))
        (fun k xv av G2 => [(2, ptr b2), (4, ptr b4), (8, ptr b8), (5, int (wS (ss.drop k))), (30, .slice sa ss.length sc), (31, int ss.length), (32, int k)])
        (fun k xv av G2 => S w0 (cells b8 T_ratio_Ratio av.1.cells.toList :: cells b4 T_ratio_Ratio [.slice none 0 0, .slice none 0 0] :: cells b2 T_ratio_Ratio [xv.1, xv.2] :: frz G2 :: l)) (fun k _ _ _ => ss.length - k) 0 (va, vb) (zv, 0) G1 ?_ (le_of _ _ rfl) (fun w hw => by rw [hzv]; exact hw.erase 1) ?_
      · have e0 : x - (cS (ss.take 0) : Rat) = x := by
          have : (cS (ss.take 0) : Rat) = 0 := rfl
          rw [this]; grind
        refine ⟨Nat.zero_le _, hu0.trans hu1, hu1, ?_, ?_, hvz, ⟨by have := len_one; rw [show rn (0 : Rat) = 0 from rfl, limbs_nil.2 rfl]; simp, by have := len_one; show (limbs 1).length ≤ 2; omega⟩, ?_⟩
        · rw [e0]; exact (hv.up hu0).up hu1
        · rw [e0]; exact hx.le (by omega)
        · rw [e0]; rfl
      rintro k ⟨x1, x2⟩ ⟨av, ar⟩ G2 ⟨hk, huF, huG, hX, hfX, hA, hfA, hlv⟩
      simp only at hX hA hfA hlv ⊢
      have hX0 := hX.nn
      have hA' := hA
      obtain ⟨a1, a2, rfl, _, _⟩ := hA'.is
      generalize hXe : x - (cS (ss.take k) : Rat) = X at hX hfX hlv hX0 ⊢
      refine wk ?_
      refine ej_dec rfl (fun h => ?_) (fun h => ?_)
      · have h : k < ss.length := by omega
        obtain ⟨c, hc⟩ : ∃ c, ss[k]? = some c := ⟨_, List.getElem?_eq_getElem h⟩
        have hcB := hBs c (List.mem_of_getElem? hc)
        have h2 : wS (ss.take k) + wS (ss.drop k) = wS ss := by rw [← wS_app, List.take_append_drop]
        have h3 : wS (ss.drop k) = c.1 + wS (ss.drop (k + 1)) := by rw [drop_at hc]; rfl
        have hcs := cS_snoc hc
        rw [drop_at hc] at hlv
        rw [levelP, show wS (c :: ss.drop (k + 1)) = wS (ss.drop k) by rw [drop_at hc]] at hlv
        obtain ⟨c1, c2⟩ := c
        simp only [ChB] at hcB
        simp only at h3 hcs hlv
        have hop : (0 : Rat) < (wS (ss.drop k) : Rat) := by
          have : ((1 : Nat) : Rat) ≤ (wS (ss.drop k) : Rat) := by exact_mod_cast (show 1 ≤ wS (ss.drop k) by omega)
          have e : ((1 : Nat) : Rat) = 1 := rfl
          grind
        have hc1p : (0 : Rat) < (c1 : Rat) := wpos (c := (c1, c2)) hcB.1
        refine wk ?_
        refine Ixf (hV.up huG) ?_
        refine LdfA (cs := chv (c1, c2)) (k * 2) (hV.up huG) (fun j hj => rows_get chv 2 chv2 ss k j _ hc hj) ?_
        refine ec (oAlloc fun b10 => ?_)
        refine ec (oStA 0 ?_)
        refine wk ?_
        have hI : ∀ G : Hp, ∀ w, S w0 (cells b10 T_fill_child [int c1, int c2] :: cells b8 T_ratio_Ratio (Value.agg [a1, a2].toArray).cells.toList :: cells b4 T_ratio_Ratio [.slice none 0 0, .slice none 0 0] :: cells b2 T_ratio_Ratio [x1, x2] :: frz G :: l) w → Held w0 [cells b2 T_ratio_Ratio [x1, x2]] w := fun G => held1 (i := 3) rfl
        refine ej_held [cells b2 T_ratio_Ratio [x1, x2]] ?_
        have hI0 := hI G2
        refine tv 0 rfl (rLdW 0) ?_
        refine tk 1 ?_
        refine wa0 7 ?_
        refine wga 2 rfl (rInt (wS (ss.drop k)) (by omega)) real_ratio_Int fun G3 v3 hu3 hv3 => ⟨?_, ?_⟩
        · exact hI G3
        have hI3 := hI G3
        refine wga 3 rfl (rDiv X _ _ _ (hX.up hu3) hv3 hop (hfX.le (by omega)) (nat_few _ (by omega))) real_ratio_Div fun G4 v4 hu4 hv4 => ⟨?_, ?_⟩
        · exact hI G4
        have hI4 := hI G4
        refine wak 4 ?_
        refine wak 5 ?_
        refine wak 6 ?_
        refine wad fun b11 => ?_
        have hfS : Few (a + 2) (X / (wS (ss.drop k) : Rat)) := few_div (j := a + 1) (k := 1) hX0 hop hfX (few_nat (by omega))
        have hcl := cap_le (x := X) (op := wS (ss.drop k)) (c := (c1, c2)) hcB.1 (by simp only; omega) hX0
        generalize hSe : X / (wS (ss.drop k) : Rat) = Sx at hv4 hfS hlv hcl
        have hv4' := hv4
        obtain ⟨y1, y2, rfl, hy1, hy2⟩ := hv4'.is
        obtain ⟨q1, q2, rfl, _⟩ := hy1.is
        obtain ⟨q3, q4, rfl, _⟩ := hy2.is
        have hI5 : ∀ (y : HP) (w : World), S w0 (y :: cells b10 T_fill_child [int c1, int c2] :: cells b8 T_ratio_Ratio (Value.agg [a1, a2].toArray).cells.toList :: cells b4 T_ratio_Ratio [.slice none 0 0, .slice none 0 0] :: cells b2 T_ratio_Ratio [x1, x2] :: frz G4 :: l) w → Held w0 [cells b2 T_ratio_Ratio [x1, x2]] w := fun y w hw => hI4 w (hw.erase 0)
        have hI6 := hI5 (cells b11 T_ratio_Ratio [.slice none 0 0, .slice none 0 0])
        refine wv 8 rfl (eo_stA 0 rfl rfl rfl rfl rfl rfl rfl rfl rfl ⟨hI5 _, ?_⟩)
        have hI7 := hI5 (cells b11 T_ratio_Ratio [.slice q1 (limbs (rn Sx)).length q2, .slice q3 (limbs Sx.den).length q4])
        refine tk 9 ?_
        refine wd ?_
        refine wk ?_
        have hJ : ∀ (G : Hp) (w : World), S w0 (cells b11 T_ratio_Ratio [.slice q1 (limbs (rn Sx)).length q2, .slice q3 (limbs Sx.den).length q4] :: cells b10 T_fill_child [int c1, int c2] :: cells b8 T_ratio_Ratio (Value.agg [a1, a2].toArray).cells.toList :: cells b4 T_ratio_Ratio [.slice none 0 0, .slice none 0 0] :: cells b2 T_ratio_Ratio [x1, x2] :: frz G :: l) w → Held w0 [cells b10 T_fill_child [int c1, int c2]] w := fun G => held1 (i := 1) rfl
        refine ej_held [cells b10 T_fill_child [int c1, int c2]] ?_
        have hJ4 := hJ G4
        refine tk 0 ?_
        refine tv 1 rfl (rLd 0) ?_
        refine tk 3 ?_
        refine tv 4 rfl (rLd 0) ?_
        refine wa0 10 ?_
        refine wga 2 rfl (rInt c2 (by omega)) real_ratio_Int fun G5 v5 hu5 hv5 => ⟨?_, ?_⟩
        · exact hJ G5
        have hJ5 := hJ G5
        refine wga 5 rfl (rInt c1 (by omega)) real_ratio_Int fun G6 v6 hu6 hv6 => ⟨?_, ?_⟩
        · exact hJ G6
        have hJ6 := hJ G6
        refine wga 6 rfl (rDiv (c2 : Rat) (c1 : Rat) _ _ (hv5.up hu6) hv6 hc1p (nat_few _ (by omega)) (nat_few _ (by omega))) real_ratio_Div fun G7 v7 hu7 hv7 => ⟨?_, ?_⟩
        · exact hJ G7
        have hJ7 := hJ G7
        refine wak 7 ?_
        refine wak 8 ?_
        refine wak 9 ?_
        refine wad fun b13 => ?_
        have hff : Few 2 ((c2 : Rat) / (c1 : Rat)) := few_full (c := (c1, c2)) hcB
        have hfd : full (c1, c2) = (c2 : Rat) / (c1 : Rat) := rfl
        rw [hfd] at hlv hcl
        generalize hFe : (c2 : Rat) / (c1 : Rat) = fu at hv7 hff hlv hcl
        have hv7' := hv7
        obtain ⟨f1, f2, rfl, hf1, hf2⟩ := hv7'.is
        obtain ⟨p1, p2, rfl, _⟩ := hf1.is
        obtain ⟨p3, p4, rfl, _⟩ := hf2.is
        have hJ8 : ∀ (y : HP) (w : World), S w0 (y :: cells b11 T_ratio_Ratio [.slice q1 (limbs (rn Sx)).length q2, .slice q3 (limbs Sx.den).length q4] :: cells b10 T_fill_child [int c1, int c2] :: cells b8 T_ratio_Ratio (Value.agg [a1, a2].toArray).cells.toList :: cells b4 T_ratio_Ratio [.slice none 0 0, .slice none 0 0] :: cells b2 T_ratio_Ratio [x1, x2] :: frz G7 :: l) w → Held w0 [cells b10 T_fill_child [int c1, int c2]] w := fun y w hw => hJ7 w (hw.erase 0)
        have hJ9 := hJ8 (cells b13 T_ratio_Ratio [.slice none 0 0, .slice none 0 0])
        refine wv 11 rfl (eo_stA 0 rfl rfl rfl rfl rfl rfl rfl rfl rfl ⟨hJ8 _, ?_⟩)
        have hJ10 := hJ8 (cells b13 T_ratio_Ratio [.slice p1 (limbs (rn fu)).length p2, .slice p3 (limbs fu.den).length p4])
        refine tk 12 ?_
        refine wd ?_
        refine wk ?_
        refine G0 (rCmp Sx fu _ _ (((hv4.up hu5).up hu6).up hu7) hv7 (hfS.le (by omega)) (hff.le (by omega))) real_ratio_Cmp fun G8 _ hu8 _ => ?_
        refine wk ?_
        have hup : Up F G8 := ((((((huF.trans hu3).trans hu4).trans hu5).trans hu6).trans hu7).trans hu8)
        refine ej_dec rfl (fun h => ?_) (fun h => ?_)
        · have hlt : Sx < fu := by
            rw [cmpR] at h
            revert h
            split
            · intro _; assumption
            · split <;> intro h <;> exact absurd h (by decide)
          rw [if_pos hlt] at hlv
          refine wk ?_
          exact eq_ret [_] (rvs_cell 4 rfl rfl rfl rfl rfl rvs_nil) fun w hw => ⟨(G8, _), rfl, ⟨hup, Sx, by rw [← hlv]; exact hlev.perm hp, (((hv4.up hu5).up hu6).up hu7).up hu8, hfS.le (by omega)⟩, hw.drop 6⟩
        · have hnl : ¬ Sx < fu := fun hlt => h (by rw [cmpR, if_pos hlt]; decide)
          rw [if_neg hnl] at hlv
          have hcle := hcl hnl
          refine wk ?_
          have hK : ∀ (G : Hp) (w : World), S w0 (cells b13 T_ratio_Ratio [.slice p1 (limbs (rn fu)).length p2, .slice p3 (limbs fu.den).length p4] :: cells b11 T_ratio_Ratio [.slice q1 (limbs (rn Sx)).length q2, .slice q3 (limbs Sx.den).length q4] :: cells b10 T_fill_child [int c1, int c2] :: cells b8 T_ratio_Ratio (Value.agg [a1, a2].toArray).cells.toList :: cells b4 T_ratio_Ratio [.slice none 0 0, .slice none 0 0] :: cells b2 T_ratio_Ratio [x1, x2] :: frz G :: l) w → Held w0 [cells b10 T_fill_child [int c1, int c2]] w := fun G => held1 (i := 2) rfl
          refine ej_held [cells b10 T_fill_child [int c1, int c2]] ?_
          have hK8 := hK G8
          refine tk 1 ?_
          refine tv 2 rfl (rLd 0) ?_
          refine wgl 3 0 rfl rfl (rInt c2 (by omega)) real_ratio_Int fun G9 v9 hu9 hv9 => ⟨?_, ?_⟩
          · exact hK G9
          have hXup := ((((((hX.up hu3).up hu4).up hu5).up hu6).up hu7).up hu8).up hu9
          refine wg0 4 rfl (rSub X (c2 : Rat) _ _ hXup hv9 hcle (hfX.le (by omega)) (nat_few _ (by omega))) real_ratio_Sub fun G10 v10 hu10 hv10 => ⟨?_, ?_⟩
          · exact hK G10
          have hK10 := hK G10
          have hXn : X - (c2 : Rat) = x - (cS (ss.take (k + 1)) : Rat) := by
            rw [hcs, ← hXe]; push_cast; grind
          have hv10' := hv10
          obtain ⟨n1, n2, rfl, hn1, hn2⟩ := hv10'.is
          have hn1' := hn1
          obtain ⟨m1, m2, rfl, _⟩ := hn1'.is
          obtain ⟨m3, m4, rfl, _⟩ := hn2.is
          generalize hY : X - (c2 : Rat) = Y at hv10 hn1 hn2 hlv hXn
          refine tk 5 ?_
          refine tk 6 ?_
          refine tk 7 ?_
          refine wv 8 rfl (eo_stA 5 rfl rfl rfl rfl rfl rfl rfl rfl rfl ⟨?_, ?_⟩)
          · exact held1 (i := 2) rfl
          refine wd ?_
          refine wk ?_
          have hupA : Up G2 G10 := ((((((hu3.trans hu4).trans hu5).trans hu6).trans hu7).trans hu8).trans hu9).trans hu10
          refine ej_join (α := Value × Rat) (fun p => RatV w0 G10 p.1 p.2 ∧ Few 2 p.2 ∧ p.2 = if 0 < c2 then fu else ar) (fun _ => [(2, ptr b2), (4, ptr b4), (8, ptr b8), (5, int (wS (ss.drop k))), (30, .slice sa ss.length sc), (31, int ss.length), (32, int k), (10, ptr b10)])
            (fun p => S w0 (cells b10 T_fill_child [int c1, int c2] :: cells b8 T_ratio_Ratio p.1.cells.toList :: cells b4 T_ratio_Ratio [.slice none 0 0, .slice none 0 0] :: cells b2 T_ratio_Ratio [.slice m1 (limbs (rn Y)).length m2, .slice m3 (limbs Y.den).length m4] :: frz G10 :: l)) (fun kk => ej_dec rfl (fun h6 => ?_) (fun h6 => ?_)) ?_
          · have h6 : 0 < c2 := by
              have : (0 : Int) < c2 := h6
              omega
            refine wk ?_
            refine meet (kk (.agg [.slice p1 (limbs (rn fu)).length p2, .slice p3 (limbs fu.den).length p4].toArray, fu) ⟨((hv7.up hu8).up hu9).up hu10, hff, by rw [if_pos h6]⟩) ?_ ?_
            · exact le_of _ _ rfl
            · exact fun w hw => S.drop 2 hw
          · have h6 : ¬ 0 < c2 := fun h7 => h6 (by show (0 : Int) < c2; omega)
            refine wk ?_
            refine meet (kk (.agg [a1, a2].toArray, ar) ⟨hA.up hupA, hfA, by rw [if_neg h6]⟩) ?_ ?_
            · exact le_of _ _ rfl
            · exact fun w hw => S.drop 2 hw
          rintro ⟨bv, br⟩ ⟨hBv, hBf, rfl⟩
          simp only at hBv hBf ⊢
          refine wk ?_
          have hYz := rn_zero hv10.nn
          have hupB : Up F G10 := huF.trans hupA
          refine ej_dec rfl (fun h7 => ?_) (fun h7 => ?_)
          · have h7 : Y = 0 := hYz.1 (by have h8 : ((limbs (rn Y)).length : Int) = 0 := h7; omega)
            rw [if_pos h7] at hlv
            refine wk ?_
            refine meet (fin (G10, bv, (if 0 < c2 then fu else ar), [.slice m1 (limbs (rn Y)).length m2, .slice m3 (limbs Y.den).length m4]) ⟨hupB, by rw [← hlv]; exact hlev, hBv, hBf.le (by omega)⟩) ?_ ?_
            · exact le_of _ _ rfl
            · exact fun w hw => S.drop 1 hw
          · have h7 : ¬ Y = 0 := fun h8 => h7 (by have h9 := hYz.2 h8; show ((limbs (rn Y)).length : Int) = 0; omega)
            rw [if_neg h7] at hlv
            have hYf : Few (a + 1) (x - (cS (ss.take (k + 1)) : Rat)) := by
              have h9 := hv10.nn
              refine few_sub (j := a) (k := 1) hx0 (nat_nonneg _) (by rw [hXn] at h9; grind) hx (few_nat ?_)
              have := cS_take_le ss (k + 1)
              have := cS_le ss hBs
              omega
            refine wk ?_
            refine eq_back4 (k + 1) (.slice m1 (limbs (rn Y)).length m2, .slice m3 (limbs Y.den).length m4) (bv, if 0 < c2 then fu else ar) G10 ⟨by omega, hupB, huG.trans hupA, by rw [← hXn]; exact hv10, hYf, hBv, hBf, ?_⟩ (by omega) ?_ ?_
            · rw [hlv, ← hXn, show wS (ss.drop k) - c1 = wS (ss.drop (k + 1)) by omega]
            · rw [show (wS (ss.drop (k + 1)) : Int) = (wS (ss.drop k) : Int) - c1 by omega]
              exact le_of _ _ rfl
            · exact fun w hw => S.drop 1 hw
      · obtain rfl : k = ss.length := by omega
        rw [List.drop_length, levelP] at hlv
        refine wk ?_
        exact meet (fin (G2, .agg [a1, a2].toArray, ar, [x1, x2]) ⟨huF, by rw [← hlv]; exact hlev, hA, hfA.le (by omega)⟩) (le_of _ _ rfl) fun w hw => hw
    · rintro ⟨G2, lv, L, xs⟩ ⟨hu, hL, hR, hF⟩
      simp only at hu hL hR hF ⊢
      have hR' := hR
      obtain ⟨y1, y2, rfl, hy1, hy2⟩ := hR'.is
      obtain ⟨_, _, rfl, _⟩ := hy1.is
      obtain ⟨_, _, rfl, _⟩ := hy2.is
      refine wk ?_
      exact eq_ret [_] (rvs_cell 1 rfl rfl rfl rfl rfl rvs_nil) fun w hw => ⟨(G2, _), rfl, ⟨hu, L, hL.perm hp, hR, hF⟩, hw.drop 3⟩
end Go.Proofs.YtpbnjifefoniiaaGreatDoor
namespace Go.Proofs.YtpbnjifefoniiaaGreatDoor
open Go Go.SE
variable {w0 : World} {l : List HP} {i : Nat} {r : Option (Nat × Nat)} {F : Hp}
theorem few_given {k : Nat} {L : Rat} {c : Ch} (hB : ChB c) (h0 : 0 ≤ L) (hk : 1 ≤ k) (h : Few k L) : Few (k + 1) (given L c) := by
  unfold given
  split
  · exact (few_nat (by have := hB.2.2; omega)).le (by omega)
  · exact few_mul (j := k) (k := 1) h0 (nat_nonneg _) h (few_nat (by have := hB.2.1; omega))
theorem rats_row {r : Option (Nat × Nat)} {T m : Nat} {ps : List (Value × Value)} {rs : List Rat} {G : Hp} (h : Froze (rowC r T 2 (rows pr ps) m) G) (hl : ps.length = m) (hr : rs.length = m) (he : ∀ (i : Nat) (p : Value × Value) (x : Rat), ps[i]? = some p → rs[i]? = some x → RatV w0 G (.agg (pr p).toArray) x) : RatsV w0 G (sv r m) rs := by
  subst hr
  exact ⟨_, _, ps, rfl, fv_row h (by rw [rows_length pr 2 pr2, hl]), hl, he⟩
set_option maxHeartbeats 2000000 in
theorem fFill (x : Rat) (cs : List Ch) (v wv cv : Value) (a : Nat) (hv : RatV w0 F v x) (hw : IntsV w0 F wv (cs.map fun c => (c.1 : Int))) (hc : IntsV w0 F cv (cs.map fun c => (c.2 : Int))) (hx : Few a x) (ha : a ≤ 5000) (hB : ∀ c ∈ cs, ChB c) (h32 : cs.length ≤ 32) (hle : x ≤ (cS cs : Rat)) :
    Giv cx F_fill_Fill [v, wv, cv] w0 F (fun v : Value => .tuple #[v, int 0]) fun G v => ∃ L, IsLevel x cs L ∧ RatsV w0 G v (cs.map (given L)) ∧ ∀ c ∈ cs, Few (a + 4) (given L c) := by
  intro l
  have hv' := hv
  obtain ⟨va, vb, rfl, hva, hvb⟩ := hv'.is
  refine fn_enter (n := N_fill_Fill) fn_fill_Fill rfl rfl rfl ?_
  refine wk ?_
  refine ec (oBox fun b3 => ?_)
  refine wk ?_
  refine G0 (fChildren x cs _ wv cv hv hw hc (hx.le (by omega)) hB h32 hle) real_fill_children fun G lv hu hlv => ?_
  have hlv' := hlv
  obtain ⟨la, lc, rfl, hlV⟩ := hlv'.is
  refine wk ?_
  refine G0 (fLevel x cs _ _ a (hv.up hu) hlv hx ha hB h32 hle) real_fill_level fun G1 Lv hu1 hL => ?_
  obtain ⟨L, hL, hLv, hLf⟩ := hL
  have hLv' := hLv
  obtain ⟨L1, L2, rfl, hL1, hL2⟩ := hLv'.is
  obtain ⟨Lq, hLq⟩ : ∃ Lq : Value × Value, Lq = (L1, L2) := ⟨_, rfl⟩
  have hLr : RatV w0 G1 (.agg [Lq.1, Lq.2].toArray) L := by rw [hLq]; exact hLv
  have hL1' := hL1
  have hL2' := hL2
  obtain ⟨_, _, rfl, _⟩ := hL1'.is
  obtain ⟨_, _, rfl, _⟩ := hL2'.is
  refine ec (oAlloc fun b10 => ?_)
  refine ec (oStA 0 ?_)
  refine wk ?_
  refine ej_row0 T_ratio_Ratio 2 ?_
  refine ej_loop4 (fun (k : Nat) (r : Option (Nat × Nat)) (G2 : Hp) (ps : List (Value × Value)) => k ≤ cs.length ∧ Up G1 G2 ∧ ps.length = k ∧ ∀ (i : Nat) (p : Value × Value) (y : Rat), ps[i]? = some p → (cs.map (given L))[i]? = some y → RatV w0 G2 (.agg (pr p).toArray) y)
    (fun k r _ _ => [(8, .slice la cs.length lc), (10, ptr b10), (11, sv r k), (27, .slice la cs.length lc), (28, int cs.length), (29, int k)])
    (fun k r G2 ps => S w0 (rowC r T_ratio_Ratio 2 (rows pr ps) k :: cells b10 T_ratio_Ratio [Lq.1, Lq.2] :: cells b3 T_ratio_Ratio [va, vb] :: frz G2 :: l)) (fun k _ _ _ => cs.length - k) 0 none G1 [] ⟨Nat.zero_le _, Up.rfl, rfl, by simp⟩ (le_of _ _ rfl) (fun w hw => by rw [hLq]; exact hw) ?_
  rintro k r G2 ps ⟨hk, hu2, hpl, hps⟩
  refine wk ?_
  refine ej_dec rfl (fun h => ?_) (fun h => ?_)
  · have h : k < cs.length := by omega
    obtain ⟨c, hc⟩ : ∃ c, cs[k]? = some c := ⟨_, List.getElem?_eq_getElem h⟩
    have hcB := hB c (List.mem_of_getElem? hc)
    refine wk ?_
    refine Ixf ((hlV.up hu1).up hu2) ?_
    refine LdfA (cs := chv c) (k * 2) ((hlV.up hu1).up hu2) (fun j hj => rows_get chv 2 chv2 cs k j _ hc hj) ?_
    refine ec (oAlloc fun b13 => ?_)
    refine ec (oStA 0 ?_)
    refine wk ?_
    refine G0 (fGiven c L _ (hLr.up hu2) (hLf.le (by omega)) hcB) real_fill_child_given fun G3 gv hu3 hgv => ?_
    have hgv' := hgv
    obtain ⟨g1, g2, rfl, hg1, hg2⟩ := hgv'.is
    obtain ⟨gp, hgp⟩ : ∃ gp : Value × Value, gp = (g1, g2) := ⟨_, rfl⟩
    have hgr : RatV w0 G3 (.agg (pr gp).toArray) (given L c) := by rw [hgp]; exact hgv
    obtain ⟨_, _, rfl, _⟩ := hg1.is
    obtain ⟨_, _, rfl, _⟩ := hg2.is
    refine App (fun r' b => ?_) (hc := by exact rfl)
    refine wk ?_
    refine eq_back4 (k + 1) r' G3 (ps ++ [gp]) ⟨by omega, hu2.trans hu3, by simp [hpl], ?_⟩ (by omega) (le_of _ _ rfl) ?_
    · intro i p y hp hy
      rcases Nat.lt_or_ge i ps.length with h1 | h1
      · rw [List.getElem?_append_left h1] at hp
        exact (hps i p y hp hy).up hu3
      · have h2 := (List.getElem?_eq_some_iff.1 hp).1
        obtain rfl : i = k := by simp at h2; omega
        rw [List.getElem?_append_right h1] at hp
        have hp' : gp = p := by simpa [hpl] using hp
        have hy' : given L c = y := by simpa [hc] using hy
        rw [← hp', ← hy']; exact hgr
    · intro w hw
      rw [rows_snoc, hgp]
      exact hw.erase 0
  · obtain rfl : k = cs.length := by omega
    refine wk ?_
    refine eq_frz 0 (fun G3 hu3 hf => ?_)
    refine eq_rett rfl fun w hw => ⟨(G3, _), rfl, ⟨((hu.trans hu1).trans hu2).trans hu3, L, hL, rats_row hf hpl (by simp) (fun i p y hp hy => (hps i p y hp hy).up hu3), fun c hc => few_given (hB c hc) hLv.nn (by omega) hLf⟩, hw.drop 2⟩
end Go.Proofs.YtpbnjifefoniiaaGreatDoor
namespace Go.Proofs.YtpbnjifefoniiaaGreatDoor
open Go Go.SE
variable {w0 : World} {l : List HP} {i : Nat} {r : Option (Nat × Nat)} {F : Hp}
def idxI (v : Int) (xs : List Int) : Int := if v ∈ xs then (xs.idxOf v : Nat) else -1
theorem idxOf_take {v : Int} {xs : List Int} {k : Nat} (h : v ∉ xs.take k) (hk : xs[k]? = some v) : idxI v xs = k := by
  have hm : v ∈ xs := List.mem_of_getElem? hk
  obtain ⟨hlt, hv⟩ := List.getElem?_eq_some_iff.1 hk
  have h1 : xs = xs.take k ++ v :: xs.drop (k + 1) := by rw [← hv, ← List.drop_eq_getElem_cons, List.take_append_drop]
  rw [idxI, if_pos hm]
  have h2 : xs.idxOf v = k := by
    rw [h1, List.idxOf_append, if_neg h, List.idxOf_cons_self]
    simp; omega
  rw [h2]
theorem idxI_none {v : Int} {xs : List Int} (h : v ∉ xs) : idxI v xs = -1 := if_neg h
theorem IndexI (v : Int) (xs : List Int) (hn : xs.length ≤ 100000) (T : Nat) (hi : l[i]? = some (rowC r T 1 (ints xs) xs.length)) : Does cx F_slices_Index_int_int [sv r xs.length, int v] (S w0 l) fun u w => u = int (idxI v xs) ∧ S w0 l w := by
  refine fn_enter (n := N_slices_Index_int_int) fn_slices_Index_int_int rfl rfl rfl ?_
  refine wk ?_
  refine ej_loopP (fun k : Nat => k ≤ xs.length ∧ v ∉ xs.take k) (fun k => [(0, sv r xs.length), (1, int v), (7, int xs.length), (8, int k)]) (fun _ => S w0 l) (fun k => xs.length - k) 0 ⟨Nat.zero_le _, by simp⟩ (le_of _ _ rfl) (fun w hw => hw) ?_
  rintro k ⟨hk, hno⟩
  refine wk ?_
  refine ej_dec rfl (fun h => ?_) (fun h => ?_)
  · have h : k < xs.length := by omega
    obtain ⟨x, hx⟩ : ∃ x, xs[k]? = some x := ⟨_, List.getElem?_eq_getElem h⟩
    refine wk ?_
    refine Ixr (hj := hi) ?_
    refine Ldr k (ints_get hx) (hi := hi) ?_
    refine wk ?_
    refine ej_dec rfl (fun h2 => ?_) (fun h2 => ?_)
    · have h2 : v = x := h2
      subst h2
      refine wk ?_
      exact eq_rett rfl fun w hw => ⟨by rw [idxOf_take hno hx]; rfl, hw⟩
    · have h2 : ¬ v = x := h2
      refine wk ?_
      refine eq_backP (k + 1) ⟨by omega, ?_⟩ (by omega) (le_of _ _ rfl) fun w hw => hw
      rw [List.take_add_one, hx]
      simpa using ⟨hno, h2⟩
  · obtain rfl : k = xs.length := by omega
    rw [List.take_length] at hno
    refine wk ?_
    exact eq_rett rfl fun w hw => ⟨by rw [idxI_none hno]; rfl, hw⟩
def tableO (b : Nat) (xs : List Int) (last : Int) : HP := fun h => ∃ r : Option (Nat × Nat), stars [cells b T_table_Table [sv r xs.length, int last], rowC r T_int 1 (ints xs) xs.length] h
theorem does_table {f : FuncId} {args : List Value} {R : Value → WP} {b : Nat} {xs : List Int} {last : Int} (h : ∀ r, Does cx f args (S w0 (cells b T_table_Table [sv r xs.length, int last] :: rowC r T_int 1 (ints xs) xs.length :: l)) R) : Does cx f args (S w0 (tableO b xs last :: l)) R :=
  does_open (i := 0) (qs := fun r => [cells b T_table_Table [sv r xs.length, int last], rowC r T_int 1 (ints xs) xs.length]) rfl (fun _ hp => hp) h
theorem shut_table {w : World} {b : Nat} {xs : List Int} {last : Int} {r : Option (Nat × Nat)} (h : S w0 (cells b T_table_Table [sv r xs.length, int last] :: rowC r T_int 1 (ints xs) xs.length :: l) w) : S w0 (tableO b xs last :: l) w :=
  S.fold (qs := [cells b T_table_Table [sv r xs.length, int last], rowC r T_int 1 (ints xs) xs.length]) h fun _ hp => ⟨r, hp⟩
theorem idxI_neg {v : Int} {xs : List Int} : idxI v xs < 0 ↔ v ∉ xs := by
  unfold idxI
  split
  · rename_i h; constructor
    · intro h2; omega
    · intro h2; exact absurd h h2
  · rename_i h; exact ⟨fun _ => h, fun _ => by decide⟩
theorem idxI_in {v : Int} {xs : List Int} (h : v ∈ xs) : idxI v xs = (xs.idxOf v : Nat) := if_pos h
theorem tId (b : Nat) (xs : List Int) (last s : Int) : Does cx F_table_Table_Id [ptr b, int s] (S w0 (tableO b xs last :: l)) fun u w => u = int (if 0 ≤ s then xs.getD s.toNat 0 else 0) ∧ S w0 (tableO b xs last :: l) w := by
  refine does_table fun r => ?_
  refine fn_enter (n := N_table_Table_Id) fn_table_Table_Id rfl rfl rfl ?_
  refine wk ?_
  refine el_gdec rfl rfl (fun h1 => ?_) (fun h1 => ?_)
  · have h1 : s < 0 := h1
    rw [if_neg (by omega)]
    refine wk ?_
    exact eq_rett rfl fun w hw => ⟨rfl, shut_table hw⟩
  · have h1 : ¬ s < 0 := h1
    rw [if_pos (by omega)]
    refine wk ?_
    refine ej_dec rfl (fun h3 => ?_) (fun h3 => ?_)
    · have h3 : (xs.length : Int) ≤ s := h3
      rw [List.getD_eq_getElem?_getD, List.getElem?_eq_none (by omega)]
      refine wk ?_
      exact eq_rett rfl fun w hw => ⟨rfl, shut_table hw⟩
    · have h3 : ¬ (xs.length : Int) ≤ s := h3
      obtain ⟨x, hx⟩ : ∃ x, xs[s.toNat]? = some x := ⟨_, List.getElem?_eq_getElem (by omega)⟩
      rw [List.getD_eq_getElem?_getD, hx]
      refine wk ?_
      refine Ixr ?_
      refine Ldr s.toNat (ints_get hx) ?_
      refine wk ?_
      exact eq_rett rfl fun w hw => ⟨rfl, shut_table hw⟩
theorem tAdd_no (b : Nat) (xs : List Int) (last : Int) (hn : xs.length ≤ 100000) (h : 0 ∉ xs ∨ last = 2147483648) : Does cx F_table_Table_Add [ptr b] (S w0 (tableO b xs last :: l)) fun u w => u = .tuple #[int 0, int 0, int 6] ∧ S w0 (tableO b xs last :: l) w := by
  refine does_table fun r => ?_
  refine fn_enter (n := N_table_Table_Add) fn_table_Table_Add rfl rfl rfl ?_
  refine wk ?_
  refine C1 (IndexI (i := 1) 0 xs hn _ rfl) real_slices_Index_int_int ?_
  refine wk ?_
  refine el_gdec rfl rfl (fun h1 => ?_) (fun h1 => ?_)
  · refine wk ?_
    exact eq_rett rfl fun w hw => ⟨rfl, shut_table hw⟩
  · have h2 : last = 2147483648 := h.resolve_left fun h3 => h1 (idxI_neg.2 h3)
    refine wk ?_
    refine ej_dec rfl (fun h3 => ?_) (fun h3 => absurd h2 h3)
    refine wk ?_
    exact eq_rett rfl fun w hw => ⟨rfl, shut_table hw⟩
theorem tAdd_ok (b : Nat) (xs : List Int) (last : Int) (hn : xs.length ≤ 100000) (h : 0 ∈ xs) (hl : 0 ≤ last ∧ last < 2147483648) : Does cx F_table_Table_Add [ptr b] (S w0 (tableO b xs last :: l)) fun u w => u = .tuple #[int (last + 1), int (xs.idxOf 0 : Nat), int 0] ∧ S w0 (tableO b (xs.set (xs.idxOf 0) (last + 1)) (last + 1) :: l) w := by
  have hlt := List.idxOf_lt_length_of_mem h
  refine does_table fun r => ?_
  refine fn_enter (n := N_table_Table_Add) fn_table_Table_Add rfl rfl rfl ?_
  refine wk ?_
  refine C1 (IndexI (i := 1) 0 xs hn _ rfl) real_slices_Index_int_int ?_
  rw [idxI_in h]
  refine wk ?_
  refine ej_dec rfl (fun h3 => absurd h3 (by omega)) (fun h3 => ?_)
  refine wk ?_
  have hI : ∀ w, S w0 (cells b T_table_Table [sv r xs.length, int (last + 1)] :: rowC r T_int 1 (ints xs) xs.length :: l) w → Held w0 [cells b T_table_Table [sv r xs.length, int (last + 1)]] w := held1 (i := 0) rfl
  refine ej_held [cells b T_table_Table [sv r xs.length, int (last + 1)]] ?_
  refine tk 0 ?_
  refine tk 1 ?_
  refine tk 2 ?_
  refine tv 3 rfl (rLd 0) ?_
  refine tk 4 ?_
  refine tk 5 ?_
  refine tk 6 ?_
  refine tk 7 ?_
  refine tv 8 rfl (rLd 0) ?_
  refine wv 9 rfl (eo_idxr 1 rfl rfl rfl rfl rfl rfl rfl rfl rfl ⟨by omega, by omega⟩ ⟨hI, ?_⟩)
  refine wv 10 rfl (eo_str 1 rfl rfl rfl rfl rfl rfl rfl rfl rfl (by simp only [List.length_map]; show (xs.idxOf 0 : Int).toNat * 1 < xs.length; omega) ⟨held1 (i := 0) rfl, ?_⟩)
  refine wd ?_
  refine wk ?_
  refine eq_rett rfl fun w hw => ⟨rfl, ?_⟩
  have e : ints (xs.set (xs.idxOf 0) (last + 1)) = (ints xs).set (xs.idxOf 0) (int (last + 1)) := List.map_set ..
  have el : (xs.set (xs.idxOf 0) (last + 1)).length = xs.length := List.length_set ..
  refine shut_table (r := r) ?_
  rw [e, el]
  have e2 : (xs.idxOf 0 : Int).toNat * 1 = xs.idxOf 0 := by omega
  rw [← e2]; exact hw
theorem rowZ_rep (v : Value) : ∀ n, rowZ n [v] = List.replicate n v
  | 0 => rfl
  | n + 1 => by rw [rowZ, rowZ_rep v n, List.replicate_succ', List.append_cancel_left_eq]
theorem ints_rep (n : Nat) : ints (List.replicate n 0) = rowZ n [int 0] := by rw [rowZ_rep]; simp
theorem tNew (n : Nat) (hn : 1 ≤ n ∧ n ≤ 64) : Does cx F_table_New [int n] (S w0 l) fun u w => ∃ b : Nat, u = .tuple #[ptr b, int 0] ∧ True ∧ S w0 (tableO b (List.replicate n 0) 0 :: l) w := by
  refine fn_enter (n := N_table_New) fn_table_New rfl rfl rfl ?_
  refine wk ?_
  refine el_gdec rfl rfl (fun h1 => ?_) (fun h1 => ?_)
  · exact absurd (show (n : Int) < 1 from h1) (by omega)
  refine wk ?_
  refine ej_dec rfl (fun h3 => absurd h3 (by omega)) (fun h3 => ?_)
  refine wk ?_
  refine Mk fun g => ?_
  refine ec (oBuild (cs := [sv (some (g, n)) n, int 0]) ?_)
  refine ec (oBox fun b => ?_)
  refine wk ?_
  refine eq_rett rfl fun w hw => ⟨b, rfl, trivial, shut_table (r := some (g, n)) ?_⟩
  rw [ints_rep, List.length_replicate]
  exact hw
end Go.Proofs.YtpbnjifefoniiaaGreatDoor
namespace Go.Proofs.YtpbnjifefoniiaaGreatDoor
open Go Go.SE
variable {w0 : World} {w : World} {l : List HP} {i : Nat} {r : Option (Nat × Nat)} {F : Hp}
theorem S.cut {g c T n : Nat} {xs : List Value} (k : Nat) (h : S w0 l w) (hi : l[i]? = some (rowC (some (g, c)) T 1 xs n)) (hk : k ≤ n) : S w0 (l.set i (rowC (some (g, c)) T 1 (xs.take k) k)) w :=
  h.imp hi fun h hp => by
    obtain ⟨rest, h1, h2, h3, h4, h5⟩ := hp
    exact ⟨xs.drop k ++ rest, by rw [← List.append_assoc, List.take_append_drop]; exact h1, by rw [List.length_take]; omega, by rw [← List.append_assoc, List.take_append_drop]; exact h3, by omega, h5⟩
def Tells (w0 : World) (y : Value) (p : Int → Bool) (l : List HP) (x : Int) : Prop := Yld cx y [int x] (S w0 l) fun b w => b = p x ∧ S w0 l w
theorem IndexFunc_row {xs : List Int} (y : Value) (p : Int → Bool) (T : Nat) (hn : xs.length ≤ 100000) (hf : ∀ x ∈ xs, Tells w0 y p l x) (hi : l[i]? = some (rowC r T 1 (ints xs) xs.length)) :
    Does cx F_slices_IndexFunc_int_int [sv r xs.length, y] (S w0 l) fun u w => ∃ k : Int, u = int k ∧ ((k = -1 ∧ ∀ x ∈ xs, p x = false) ∨ (∃ j : Nat, k = j ∧ j < xs.length ∧ (∀ x ∈ xs.take j, p x = false) ∧ ∀ x, xs[j]? = some x → p x = true)) ∧ S w0 l w := by
  refine fn_enter (n := N_slices_IndexFunc_int_int) fn_slices_IndexFunc_int_int rfl rfl rfl ?_
  refine wk ?_
  refine ej_loopP (fun k : Nat => k ≤ xs.length ∧ ∀ x ∈ xs.take k, p x = false) (fun k => [(0, sv r xs.length), (1, y), (7, int xs.length), (8, int k)]) (fun _ => S w0 l) (fun k => xs.length - k) 0 ⟨Nat.zero_le _, by simp⟩ (le_of _ _ rfl) (fun w hw => hw) ?_
  rintro k ⟨hk, hno⟩
  refine wk ?_
  refine ej_dec rfl (fun h => ?_) (fun h => ?_)
  · have h : k < xs.length := by omega
    obtain ⟨x, hx⟩ : ∃ x, xs[k]? = some x := ⟨_, List.getElem?_eq_getElem h⟩
    refine wk ?_
    refine Ixr (hj := hi) ?_
    refine Ldr k (ints_get hx) (hi := hi) ?_
    refine ec (eo_yield (hf x (List.mem_of_getElem? hx)) rfl rfl rfl rfl rfl rfl rfl fun t => ?_)
    refine wk ?_
    refine ej_pre (fun w hw => hw) fun ht => ?_
    cases t with
    | true =>
      refine wk ?_
      refine eq_rett rfl fun w hw => ⟨k, rfl, .inr ⟨k, rfl, h, hno, fun z hz => ?_⟩, hw⟩
      have e : x = z := by simpa [hx] using hz
      rw [← e, ← ht]
    | false =>
      refine wk ?_
      refine eq_backP (k + 1) ⟨by omega, ?_⟩ (by omega) (le_of _ _ rfl) fun w hw => hw
      rw [List.take_add_one, hx]
      intro z hz
      rcases List.mem_append.1 hz with h1 | h1
      · exact hno z h1
      · have e : z = x := by simpa using h1
        rw [e, ← ht]
  · obtain rfl : k = xs.length := by omega
    rw [List.take_length] at hno
    refine wk ?_
    exact eq_rett rfl fun w hw => ⟨-1, rfl, .inl ⟨rfl, hno⟩, hw⟩
set_option maxHeartbeats 1600000 in
theorem DeleteFunc_row {xs : List Int} (y : Value) (p : Int → Bool) (T : Nat) (hT : T = T_int) (hn : xs.length ≤ 100000) (hf : ∀ q : HP, ∀ x ∈ xs, Tells w0 y p (q :: l) x) :
    Does cx F_slices_DeleteFunc_int_int [sv r xs.length, y] (S w0 (rowC r T 1 (ints xs) xs.length :: l)) fun u w => u = sv r (xs.filter fun x => !p x).length ∧ S w0 (rowC r T 1 (ints (xs.filter fun x => !p x)) (xs.filter fun x => !p x).length :: l) w := by
  subst hT
  refine fn_enter (n := N_slices_DeleteFunc_int_int) fn_slices_DeleteFunc_int_int rfl rfl rfl ?_
  refine wk ?_
  refine Cx1 (IndexFunc_row (i := 0) y p _ hn (hf _) rfl) real_slices_IndexFunc_int_int fun k hk => ?_
  refine wk ?_
  rcases hk with ⟨rfl, hno⟩ | ⟨j, rfl, hj, hno, hyes⟩
  · refine wk ?_
    have e : (xs.filter fun x => !p x) = xs := List.filter_eq_self.2 fun x hx => by rw [hno x hx]; rfl
    rw [e]
    exact eq_rett rfl fun w hw => ⟨rfl, hw⟩
  · refine ej_dec rfl (fun h => absurd h (by omega)) (fun _ => ?_)
    have hrs : ∀ w, S w0 (rowC r T_int 1 (ints xs) xs.length :: l) w → ∃ q, r = some q := fun w hw => hw.row_some (i := 0) rfl (by omega)
    refine ej_know hrs fun hr => ?_
    obtain ⟨⟨g, c⟩, rfl⟩ := hr
    refine wk ?_
    obtain ⟨x0, hx0⟩ : ∃ x, xs[j]? = some x := ⟨_, List.getElem?_eq_getElem hj⟩
    have e0 : (xs.take (j + 1)).filter (fun x => !p x) = xs.take j := by
      rw [List.take_add_one, hx0, List.filter_append, List.filter_eq_self.2 fun x hx => by rw [hno x hx]; rfl]
      simp [hyes x0 hx0]
    have hsub : ∀ j, j < c → subA (some ⟨g, 0, none⟩) j c 1 = some ⟨g, j * 1, none⟩ := fun j hj => by
      rw [subA, if_neg (by omega)]
      simp only [Option.map_some, addr_add, Nat.zero_add]
    have hnc : ∀ w, S w0 (rowC (some (g, c)) T_int 1 (ints xs) xs.length :: l) w → xs.length ≤ c := fun w hw => by
      obtain ⟨_, _, _, _, h4, _⟩ := row_open (i := 0) hw rfl
      exact h4
    refine ej_know hnc fun hnc => ?_
    refine ej_loop3 (fun (m kk : Nat) (A : List Int) => m ≤ xs.length ∧ A.length = xs.length ∧ A.take kk = (xs.take m).filter (fun x => !p x) ∧ A.drop m = xs.drop m ∧ kk < m) (fun m kk _ => [(0, sv (some (g, c)) xs.length), (1, y), (5, int kk), (6, int m)])
      (fun _ _ A => S w0 (rowC (some (g, c)) T_int 1 (ints A) xs.length :: l)) (fun m _ _ => xs.length - m) (j + 1) j xs ⟨by omega, rfl, e0.symm, rfl, by omega⟩ (le_of _ _ rfl) (fun w hw => hw) ?_
    rintro m kk A ⟨hm, hA, hAt, hAd, hkm⟩
    refine wk ?_
    refine ej_dec rfl (fun h => ?_) (fun h => ?_)
    · have h : m < xs.length := by omega
      obtain ⟨x, hx⟩ : ∃ x, xs[m]? = some x := ⟨_, List.getElem?_eq_getElem h⟩
      have hAx : A[m]? = some x := by
        have h1 := congrArg (fun q : List Int => q[0]?) hAd
        simp only [List.getElem?_drop, Nat.add_zero] at h1
        rw [h1, hx]
      have hAd1 : A.drop (m + 1) = xs.drop (m + 1) := by rw [← List.drop_drop, ← List.drop_drop, hAd]
      have hsn : (xs.take (m + 1)).filter (fun x => !p x) = (xs.take m).filter (fun x => !p x) ++ (if p x then [] else [x]) := by
        rw [List.take_add_one, hx, List.filter_append]
        congr 1
        cases hpx : p x <;> simp [hpx]
      refine wk ?_
      refine Ixr ?_
      refine Ldr m (ints_get hAx) ?_
      refine wk ?_
      refine ec (eo_yield (hf _ x (List.mem_of_getElem? hx)) rfl rfl rfl rfl rfl rfl rfl fun t => ?_)
      refine wk ?_
      refine ej_pre (fun w hw => hw) fun ht => ?_
      rw [← ht] at hsn
      cases t with
      | true =>
        refine wk ?_
        refine eq_back3 (m + 1) kk A ⟨by omega, hA, ?_, hAd1, by omega⟩ (by omega) (le_of _ _ rfl) fun w hw => hw
        rw [hsn, if_pos rfl, List.append_nil]; exact hAt
      | false =>
        refine wk ?_
        refine Ixr ?_
        refine Str kk ?_ (hl := by simp; omega)
        refine wk ?_
        refine eq_back3 (m + 1) (kk + 1) (A.set kk x) ⟨by omega, by rw [List.length_set]; exact hA, ?_, ?_, by omega⟩ (by omega) (le_of _ _ rfl) ?_
        · rw [hsn, if_neg (by decide), ← hAt, List.take_succ_eq_append_getElem (by simp; omega), List.take_set_of_le (Nat.le_refl _)]
          simp
        · rw [List.drop_set_of_lt (by omega)]; exact hAd1
        · intro w hw
          rw [show ints (A.set kk x) = (ints A).set kk (int x) from List.map_set ..]
          exact hw
    · obtain rfl : m = xs.length := by omega
      rw [List.take_length] at hAt
      have hkl : (xs.filter fun x => !p x).length = kk := by rw [← hAt, List.length_take]; omega
      rw [hkl]
      have hV2 : View w0 (rowC (some (g, c)) T_int 1 (ints A) xs.length :: l) 1 (some ⟨g, 0, none⟩) (ints A) xs.length c := View.of_row (r := some (g, c)) (i := 0) rfl (by simp [hA])
      refine wk ?_
      refine el_cons rfl (eo_slice kk xs.length rfl rfl rfl rfl ⟨_, rfl⟩ rfl rfl rfl rfl hV2 (by omega) (Nat.le_refl _) ?_)
      refine el_val 38 (u := .slice (some ⟨g, kk * 1, none⟩) (xs.length - kk) (c - kk)) rfl (by show Value.slice (subA (some ⟨g, 0, none⟩) kk c 1) (xs.length - kk) (c - kk) = _; rw [hsub kk (by omega)]) ?_
      refine el_cons rfl (eo_clear 0 rfl rfl rfl rfl rfl rfl rfl rfl rfl ?_ fun vs hvs => ?_)
      · rw [show (Value.int IntKind.i64 0).cells.size = 1 from rfl]; simp only [List.length_map, hA]; omega
      generalize hZ : splice (ints A) (kk * 1) vs = Z
      have hZl : Z.length = xs.length := by rw [← hZ, splice_length]; simp [hA]
      have hZt : Z.take kk = ints (xs.filter fun x => !p x) := by
        rw [← hZ, ← hAt]
        have := splice_take vs (ints A) (kk * 1)
        rw [Nat.mul_one] at this ⊢
        rw [this]; simp
      have hV3 : View w0 (rowC (some (g, c)) T_int 1 Z xs.length :: l) 1 (some ⟨g, 0, none⟩) Z xs.length c := View.of_row (r := some (g, c)) (i := 0) rfl (by omega)
      refine wk ?_
      refine el_cons rfl (eo_slice 0 kk rfl rfl rfl rfl rfl ⟨_, rfl⟩ rfl rfl rfl hV3 (Nat.zero_le _) (by omega) ?_)
      refine el_val 41 (u := .slice (some ⟨g, 0, none⟩) kk c) rfl (by show Value.slice (subA (some ⟨g, 0, none⟩) 0 c 1) (kk - 0) (c - 0) = _; rw [hsub 0 (by omega)]; rfl) ?_
      refine wk ?_
      refine eq_rett rfl fun w hw => ⟨rfl, ?_⟩
      rw [← hZt]
      exact S.cut (i := 0) kk hw rfl (by omega)
end Go.Proofs.YtpbnjifefoniiaaGreatDoor
namespace Go.Proofs.YtpbnjifefoniiaaGreatDoor
open Go Go.SE
variable {w0 : World} {w : World} {l : List HP} {i : Nat} {r : Option (Nat × Nat)} {F : Hp}
theorem Clone_row {xs : List Int} (h0 : 0 < xs.length) (hn : xs.length ≤ 100000) (hi : l[i]? = some (rowC r T_int 1 (ints xs) xs.length)) :
    Does cx F_slices_Clone_int_int [sv r xs.length] (S w0 l) fun u w => ∃ r', u = sv r' xs.length ∧ True ∧ S w0 (rowC r' T_int 1 (ints xs) xs.length :: l) w := by
  refine fn_enter (n := N_slices_Clone_int_int) fn_slices_Clone_int_int rfl rfl rfl ?_
  refine ej_know (fun w hw => hw.row_some hi h0) fun hr => ?_
  obtain ⟨⟨g, c⟩, rfl⟩ := hr
  refine wk ?_
  refine ec (oSnil ?_)
  refine wk ?_
  refine Emp fun b => ?_
  refine wk ?_
  have hV : View w0 (rowC (some (b, 0)) T_int 1 [] 0 :: l) 1 (some ⟨g, 0, none⟩) (ints xs) xs.length c := View.of_row (r := some (g, c)) (i := i + 1) hi (by simp)
  refine el_cons rfl (eo_appendV 0 rfl rfl rfl rfl rfl rfl rfl rfl rfl rfl rfl hV (by simp only [List.all_map, List.all_eq_true]; intro x _; rfl) (by show (0 + xs.length) * 8 ≤ _; omega) (by rw [maxLen_eq]; omega) fun r' => ?_)
  refine el_val 7 (u := sv r' xs.length) rfl (by rw [Nat.zero_add]) ?_
  refine wk ?_
  refine eq_rett rfl fun w hw => ⟨r', rfl, trivial, ?_⟩
  have hw2 : S w0 (rowC r' T_int 1 ([] ++ ints xs) (0 + xs.length) :: l) w := hw
  rw [List.nil_append, Nat.zero_add] at hw2
  exact hw2
theorem ids1 (x : Int) (H : WP) : Does cx F_table_Table_Ids_1 [int x] H fun v w => v = .bool (decide (x = 0)) ∧ H w := by
  refine fn_enter (n := N_table_Table_Ids_1) fn_table_Table_Ids_1 rfl rfl rfl ?_
  refine wk ?_
  exact eq_rett rfl fun w hw => ⟨rfl, hw⟩
def tids (xs : List Int) : List Int := sortI (xs.filter fun x => !decide (x = 0))
theorem tIdsR (b : Nat) (xs : List Int) (last : Int) (r : Option (Nat × Nat)) (h0 : 0 < xs.length) (hn : xs.length ≤ 100000) (l : List HP) : Does cx F_table_Table_Ids [ptr b] (S w0 (cells b T_table_Table [sv r xs.length, int last] :: rowC r T_int 1 (ints xs) xs.length :: frz F :: l)) fun v w => ∃ x : Hp × Value, v = x.2 ∧ (Up F x.1 ∧ IntsV w0 x.1 x.2 (tids xs)) ∧ S w0 (cells b T_table_Table [sv r xs.length, int last] :: rowC r T_int 1 (ints xs) xs.length :: frz x.1 :: l) w := by
  refine fn_enter (n := N_table_Table_Ids) fn_table_Table_Ids rfl rfl rfl ?_
  refine wk ?_
  refine Cx1 (Clone_row (i := 1) h0 hn rfl) real_slices_Clone_int_int fun r1 _ => ?_
  refine C1 (DeleteFunc_row (.func (.func F_table_Table_Ids_1) #[] #[]) (fun x => decide (x = 0)) T_int rfl hn (fun q x hx => yld_of (first := []) (capt := []) real_table_Table_Ids_1 (Does.mono (ids1 x _) (fun _ h => h) fun v w h => ⟨_, h.1, rfl, h.2⟩))) real_slices_DeleteFunc_int_int ?_
  have hfl := List.length_filter_le (fun x => !decide (x = 0)) xs
  generalize hzs : (xs.filter fun x => !decide (x = 0)) = zs at hfl
  have ht : tids xs = sortI zs := by rw [tids, hzs]
  have hsl : (sortI zs).length = zs.length := by simp [sortI]
  refine wk ?_
  refine C1 (sortI_any (i := 0) zs (by omega) _ rfl) real_slices_Sort_int_int ?_
  refine wk ?_
  refine eq_frz 0 (fun G hu hf => ?_)
  refine eq_rett rfl fun w hw => ⟨(G, _), rfl, ⟨hu, ?_⟩, ?_⟩
  · rw [ht]
    exact ints_row hf hsl
  · exact hw
theorem tIds (b : Nat) (xs : List Int) (last : Int) (h0 : 0 < xs.length) (hn : xs.length ≤ 100000) : ∀ l, Does cx F_table_Table_Ids [ptr b] (S w0 (tableO b xs last :: frz F :: l)) fun v w => ∃ x : Hp × Value, v = x.2 ∧ (Up F x.1 ∧ IntsV w0 x.1 x.2 (tids xs)) ∧ S w0 (tableO b xs last :: frz x.1 :: l) w := fun l =>
  does_table fun r => (tIdsR b xs last r h0 hn l).mono (fun _ h => h) fun _ _ ⟨x, h1, h2, h3⟩ => ⟨x, h1, h2, shut_table h3⟩
theorem tids_len (xs : List Int) : (tids xs).length ≤ xs.length := by
  have := List.length_filter_le (fun x => !decide (x = 0)) xs
  simpa [tids, sortI] using this
end Go.Proofs.YtpbnjifefoniiaaGreatDoor
namespace Go.Proofs.YtpbnjifefoniiaaGreatDoor
open Go Go.SE
variable {w0 : World} {w : World} {l : List HP} {i : Nat} {r : Option (Nat × Nat)} {F : Hp}
structure En where
  id : Int
  tag : Int
  left : Int
  slice : Int
deriving DecidableEq
abbrev enC (e : En) : List Value := [int e.tag, int e.left, int e.slice]
abbrev enV (e : En) : Value := .agg (enC e).toArray
def En.renewed (e : En) : En := ⟨e.id, e.tag + 1, e.slice, e.slice⟩
def En.comes (low : Int) (e : En) : En :=
  if e.tag < low then ⟨e.id, low, e.slice, e.slice⟩
  else if ¬ 0 < min e.left e.slice ∧ e.tag = low then ⟨e.id, e.tag + 1, e.slice, e.slice⟩
  else ⟨e.id, e.tag, min e.left e.slice, e.slice⟩
structure En.Small (e : En) : Prop where
  tag : 0 ≤ e.tag ∧ e.tag ≤ 4611686018427387904
  left : 0 ≤ e.left ∧ e.left ≤ 1000
  slice : 1 ≤ e.slice ∧ e.slice ≤ 1000
theorem rOpen (e : En) : Does cx F_round_Entry_open [enV e] (S w0 l) fun v w => v = .bool (decide (0 < e.left)) ∧ S w0 l w := by
  obtain ⟨id, tag, left, slice⟩ := e
  refine fn_enter (n := N_round_Entry_open) fn_round_Entry_open rfl rfl rfl ?_
  refine wk ?_
  refine ec (oBox fun p => ?_)
  refine wk ?_
  exact eq_rett rfl fun w hw => ⟨rfl, hw.drop 1⟩
theorem rRenewed (e : En) (ht : 0 ≤ e.tag ∧ e.tag ≤ 4611686018427387904) : Does cx F_round_Entry_renewed [enV e] (S w0 l) fun v w => v = enV e.renewed ∧ S w0 l w := by
  obtain ⟨id, tag, left, slice⟩ := e
  simp only at ht
  show Does cx F_round_Entry_renewed [.agg [int tag, int left, int slice].toArray] _ fun v w => v = .agg [int (tag + 1), int slice, int slice].toArray ∧ S w0 l w
  refine fn_enter (n := N_round_Entry_renewed) fn_round_Entry_renewed rfl rfl rfl ?_
  refine wk ?_
  refine ec (oBox fun p => ?_)
  refine ec (oAlloc fun q => ?_)
  refine wk ?_
  refine ec (oBuild (cs := [int (tag + 1), int slice, int slice]) ?_)
  refine wk ?_
  exact eq_ret [_] (rvs_cell 0 rfl rfl rfl rfl rfl rvs_nil) fun w hw => ⟨rfl, hw.drop 2⟩
set_option maxHeartbeats 1000000 in
theorem rIn (e : En) (low : Int) (h : e.Small) : Does cx F_round_Entry_in [enV e, int low] (S w0 l) fun v w => v = enV (e.comes low) ∧ S w0 l w := by
  obtain ⟨id, tag, left, slice⟩ := e
  obtain ⟨h1, h2, h3⟩ := h
  simp only at h1 h2 h3
  show Does cx F_round_Entry_in [.agg [int tag, int left, int slice].toArray, int low] _ _
  refine fn_enter (n := N_round_Entry_in) fn_round_Entry_in rfl rfl rfl ?_
  refine wk ?_
  refine ec (oBox fun p => ?_)
  refine ec (oAlloc fun q => ?_)
  refine wk ?_
  refine ej_dec rfl (fun h => ?_) (fun h => ?_)
  · refine wk ?_
    refine ec (oBuild (cs := [int low, int slice, int slice]) ?_)
    refine wk ?_
    exact eq_ret [_] (rvs_cell 0 rfl rfl rfl rfl rfl rvs_nil) fun w hw => ⟨by rw [En.comes, if_pos h]; rfl, hw.drop 2⟩
  · refine wk ?_
    refine el_cons rfl (eo_min rfl rfl rfl rfl rfl ?_)
    have em : (if slice < left then slice else left) = min left slice := by rw [Int.min_def]; split <;> split <;> omega
    rw [em]
    have hm : 0 ≤ min left slice := by omega
    generalize hM : min left slice = M at hm
    refine wk ?_
    refine C1 (rOpen ⟨id, tag, M, slice⟩) real_round_Entry_open ?_
    refine wk ?_
    refine el_val 24 (u := .bool (decide (¬ 0 < M))) rfl (by rw [decide_not]) ?_
    have hR : Does cx F_round_Entry_renewed [.agg [int tag, int M, int slice].toArray] (S w0 (cells q T_round_Entry [int 0, int 0, int 0] :: cells p T_round_Entry [int tag, int M, int slice] :: l)) fun v w => v = .agg [int (tag + 1), int slice, int slice].toArray ∧ S w0 (cells q T_round_Entry [int 0, int 0, int 0] :: cells p T_round_Entry [int tag, int M, int slice] :: l) w := rRenewed ⟨id, tag, M, slice⟩ h1
    refine el_gdec rfl rfl (fun h1 => ?_) (fun h1 => ?_)
    · refine wk ?_
      refine ej_dec rfl (fun h2 => ?_) (fun h2 => ?_)
      · refine wk ?_
        refine C1 hR real_round_Entry_renewed ?_
        refine wk ?_
        exact eq_ret [_] (rvs_cell 0 rfl rfl rfl rfl rfl rvs_nil) fun w hw => ⟨by rw [En.comes, if_neg h]; simp only [hM]; rw [if_pos ⟨h1, h2⟩]; rfl, hw.drop 2⟩
      · refine wk ?_
        exact eq_ret [_] (rvs_cell 0 rfl rfl rfl rfl rfl rvs_nil) fun w hw => ⟨by rw [En.comes, if_neg h]; simp only [hM]; rw [if_neg fun h3 => h2 h3.2]; rfl, hw.drop 2⟩
    · refine wk ?_
      exact eq_ret [_] (rvs_cell 0 rfl rfl rfl rfl rfl rvs_nil) fun w hw => ⟨by rw [En.comes, if_neg h]; simp only [hM]; rw [if_neg fun h3 => h1 h3.1]; rfl, hw.drop 2⟩
abbrev entM (m : Nat) (L : List En) : HP := mapL m En.id enV L
abbrev bookQ (b : Nat) (low : Int) (L : List En) (m : Nat) : List HP := [cells b T_round_Book [int low, .map (some m)], entM m L]
def bookO (b : Nat) (low : Int) (L : List En) : HP := fun h => ∃ m, stars (bookQ b low L m) h
theorem does_book {f : FuncId} {args : List Value} {R : Value → WP} {b : Nat} {low : Int} {L : List En} (h : ∀ m, Does cx f args (S w0 (cells b T_round_Book [int low, .map (some m)] :: entM m L :: l)) R) : Does cx f args (S w0 (bookO b low L :: l)) R :=
  does_open (i := 0) (qs := bookQ b low L) rfl (fun _ hp => hp) h
theorem shut_book {b m : Nat} {low : Int} {L : List En} (h : S w0 (cells b T_round_Book [int low, .map (some m)] :: entM m L :: l) w) : S w0 (bookO b low L :: l) w :=
  S.fold (qs := bookQ b low L m) h fun _ hp => ⟨m, hp⟩
theorem bNew : Does cx F_round_New [] (S w0 l) fun v w => ∃ b : Nat, v = ptr b ∧ True ∧ S w0 (bookO b 1 [] :: l) w := by
  refine fn_enter (n := N_round_New) fn_round_New rfl rfl rfl ?_
  refine wk ?_
  refine ec (oMkmap .i64 fun m => ?_)
  refine ec (oBuild (cs := [int 1, .map (some m)]) ?_)
  refine ec (oBox fun b => ?_)
  refine wk ?_
  exact eq_rett rfl fun w hw => ⟨b, rfl, trivial, shut_book (m := m) (hw.imp (i := 1) rfl fun h hp => ⟨[], List.Perm.refl _, hp⟩)⟩
def none3 : Value := .agg [int 0, int 0, int 0].toArray
theorem bEntry (b m : Nat) (low : Int) (L : List En) (id : Int) : Does cx F_round_Book_Entry [ptr b, int id] (S w0 (cells b T_round_Book [int low, .map (some m)] :: entM m L :: l)) fun v w => v = (match kfind En.id L id with | some e => .tuple #[enV e, int 0] | none => .tuple #[none3, int 3]) ∧ S w0 (cells b T_round_Book [int low, .map (some m)] :: entM m L :: l) w := by
  refine fn_enter (n := N_round_Book_Entry) fn_round_Book_Entry rfl rfl rfl ?_
  refine wk ?_
  refine ec (oAlloc fun q => ?_)
  refine wk ?_
  refine Lk ?_
  rw [lookL, if_pos rfl]
  cases hk : kfind En.id L id with
  | none =>
    refine wk ?_
    refine ec (oAlloc fun q2 => ?_)
    refine ec (oStA (vs := [int 0, int 0, int 0]) 0 ?_)
    refine wk ?_
    refine ec (oBuild (cs := [int 0, int 0, int 0]) ?_)
    refine wk ?_
    refine eq_ret [_, _] (rvs_cell 1 rfl rfl rfl rfl rfl (rvs_tmp rfl rvs_nil)) fun w hw => ⟨rfl, hw.drop 2⟩
  | some e =>
    refine wk ?_
    refine ec (oAlloc fun q2 => ?_)
    refine ec (oStA (vs := enC e) 0 ?_)
    refine wk ?_
    refine eq_ret [_, _] (rvs_cell 1 rfl rfl rfl rfl rfl (rvs_tmp rfl rvs_nil)) fun w hw => ⟨rfl, hw.drop 2⟩
end Go.Proofs.YtpbnjifefoniiaaGreatDoor
namespace Go.Proofs.YtpbnjifefoniiaaGreatDoor
open Go Go.SE
variable {w0 : World} {w : World} {l : List HP} {i : Nat} {r : Option (Nat × Nat)} {F : Hp}
theorem bRight (q : Int) (H : WP) : Does cx F_round_right [int q] H fun v w => v = .bool (decide (1 ≤ q ∧ q ≤ 1000)) ∧ H w := by
  refine fn_enter (n := N_round_right) fn_round_right rfl rfl rfl ?_
  refine wk ?_
  refine el_gdec rfl rfl (fun h => ?_) (fun h => ?_)
  · have h : 1 ≤ q := h
    refine wk ?_
    refine eq_rett rfl fun w hw => ⟨?_, hw⟩
    simp [pack, h]
  · have h : ¬ 1 ≤ q := h
    refine wk ?_
    refine eq_rett rfl fun w hw => ⟨?_, hw⟩
    simp [pack, h]
end Go.Proofs.YtpbnjifefoniiaaGreatDoor
namespace Go.Proofs.YtpbnjifefoniiaaGreatDoor
open Go Go.SE
variable {w0 : World} {w : World} {l : List HP} {i : Nat} {r : Option (Nat × Nat)} {F : Hp}
theorem kput_ins {kvs : List (Int × Value)} {L : List En} {e : En} (hp : kvs.Perm (ents En.id enV L)) (hk : kfind En.id L e.id = none) : (kput kvs e.id (enV e)).Perm (ents En.id enV (kins (key := En.id) L e)) :=
  (kput_new hp hk).trans (((List.perm_append_comm (l₁ := L) (l₂ := [e])).trans (kins_perm (key := En.id) (L := L) (b := e)).symm).map _)
theorem kput_upd {kvs : List (Int × Value)} {L : List En} {e e' : En} (hp : kvs.Perm (ents En.id enV L)) (hk : kfind En.id L e.id = some e) (he : e'.id = e.id) : (kput kvs e.id (enV e')).Perm (ents En.id enV (kupd En.id L e.id fun _ => e')) := by
  have h := kput_mem (key := En.id) (enc := enV) hp (a' := e') (fun _ => e') (by rw [he, hk]; rfl) (fun _ _ _ => rfl)
  rw [he] at h; exact h
set_option maxHeartbeats 1600000 in
theorem bEnter (b : Nat) (low : Int) (L : List En) (e : En) (hk : kfind En.id L e.id = none) (hs : e.Small) (hl : 0 ≤ low ∧ low ≤ 4611686018427387904) (ht : e.tag ≤ low + 1) : Does cx F_round_Book_Enter [ptr b, int e.id, int e.tag, int e.left, int e.slice] (S w0 (bookO b low L :: l)) fun v w => v = int 0 ∧ S w0 (bookO b low (kins (key := En.id) L (e.comes low)) :: l) w := by
  have hin := fun l => rIn (w0 := w0) (l := l) e low hs
  have hcid : (e.comes low).id = e.id := by unfold En.comes; split <;> (try split) <;> rfl
  have hs1 := hs.tag
  have hs2 := hs.left
  have hs3 := hs.slice
  have hput : ∀ kvs : List (Int × Value), kvs.Perm (ents En.id enV L) → (kput kvs e.id (enV (e.comes low))).Perm (ents En.id enV (kins (key := En.id) L (e.comes low))) := fun kvs hp => by
    have := kput_ins (e := e.comes low) hp (by rw [hcid]; exact hk)
    rwa [hcid] at this
  refine does_book fun m => ?_
  refine fn_enter (n := N_round_Book_Enter) fn_round_Book_Enter rfl rfl rfl ?_
  refine wk ?_
  refine Lk ?_
  rw [lookL, if_pos rfl, hk]
  refine wk ?_
  refine ec (oAlloc fun q2 => ?_)
  refine ec (oStA (vs := [int 0, int 0, int 0]) 0 ?_)
  refine wk ?_
  refine C1 (bRight e.slice _) real_round_right ?_
  rw [decide_eq_true (show 1 ≤ e.slice ∧ e.slice ≤ 1000 from hs3)]
  refine wk ?_
  refine el_gdec rfl rfl (fun h => absurd h (by omega)) (fun h => ?_)
  refine wk ?_
  refine el_gdec rfl rfl (fun h => absurd h (by omega)) (fun h => ?_)
  refine wk ?_
  refine ej_dec rfl (fun h => absurd h (by omega)) (fun h => ?_)
  refine wk ?_
  have hI : ∀ w, S w0 (cells q2 T_round_Entry [int 0, int 0, int 0] :: cells b T_round_Book [int low, .map (some m)] :: entM m L :: l) w → Held w0 [cells b T_round_Book [int low, .map (some m)]] w := held1 (i := 1) rfl
  refine ej_held [cells b T_round_Book [int low, .map (some m)]] ?_
  refine tk 0 ?_
  refine tk 1 ?_
  refine tk 2 ?_
  refine tv 3 rfl (rLd 0) ?_
  refine tk 4 ?_
  refine tk 5 ?_
  refine tk 6 ?_
  refine tk 7 ?_
  refine tk 9 ?_
  refine tk 10 ?_
  refine tk 11 ?_
  refine tv 12 rfl (rLd 0) ?_
  refine tv 8 rfl (rBuild (cs := enC e)) ?_
  refine w1 13 rfl (hin _) real_round_Entry_in hI ?_
  refine wv 14 rfl (eo_mapsetL (key := En.id) (enc := enV) 2 (kins (key := En.id) L (e.comes low)) rfl rfl rfl rfl rfl rfl rfl rfl rfl rfl hput ⟨held1 (i := 1) rfl, ?_⟩)
  refine wd ?_
  refine wk ?_
  exact eq_rett rfl fun w hw => ⟨rfl, shut_book (m := m) (hw.erase 0)⟩
theorem bResize_no (b : Nat) (low : Int) (L : List En) (id n : Int) (hk : kfind En.id L id = none) : Does cx F_round_Book_Resize [ptr b, int id, int n] (S w0 (bookO b low L :: l)) fun v w => v = int 3 ∧ S w0 (bookO b low L :: l) w := by
  refine does_book fun m => ?_
  refine fn_enter (n := N_round_Book_Resize) fn_round_Book_Resize rfl rfl rfl ?_
  refine wk ?_
  refine C1 (bEntry b m low L id) real_round_Book_Entry ?_
  rw [hk]
  refine wk ?_
  refine ec (oAlloc fun q2 => ?_)
  refine ec (oStA (vs := [int 0, int 0, int 0]) 0 ?_)
  refine wk ?_
  exact eq_rett rfl fun w hw => ⟨rfl, shut_book (hw.erase 0)⟩
def En.sized (n : Int) (e : En) : En := ⟨e.id, e.tag, min e.left n, n⟩
set_option maxHeartbeats 1600000 in
theorem bResize (b : Nat) (low : Int) (L : List En) (id n : Int) (e : En) (hk : kfind En.id L id = some e) (hn : 1 ≤ n ∧ n ≤ 1000) : Does cx F_round_Book_Resize [ptr b, int id, int n] (S w0 (bookO b low L :: l)) fun v w => v = int 0 ∧ S w0 (bookO b low (kupd En.id L id fun _ => e.sized n) :: l) w := by
  have hid := kfind_key hk
  have hput : ∀ kvs : List (Int × Value), kvs.Perm (ents En.id enV L) → (kput kvs id (enV (e.sized n))).Perm (ents En.id enV (kupd En.id L id fun _ => e.sized n)) := fun kvs hp => by
    have := kput_upd (e := e) (e' := e.sized n) hp (by rw [hid]; exact hk) rfl
    rwa [hid] at this
  refine does_book fun m => ?_
  refine fn_enter (n := N_round_Book_Resize) fn_round_Book_Resize rfl rfl rfl ?_
  refine wk ?_
  refine C1 (bEntry b m low L id) real_round_Book_Entry ?_
  rw [hk]
  refine wk ?_
  refine ec (oAlloc fun q2 => ?_)
  refine ec (oStA (vs := enC e) 0 ?_)
  refine wk ?_
  refine C1 (bRight n _) real_round_right ?_
  rw [decide_eq_true hn]
  refine wk ?_
  have hI : ∀ w, S w0 (cells q2 T_round_Entry (enC e) :: cells b T_round_Book [int low, .map (some m)] :: entM m L :: l) w → Held w0 [cells q2 T_round_Entry (enC e), cells b T_round_Book [int low, .map (some m)]] w := held2 (i := 0) (j := 1) rfl rfl
  refine ej_held [cells q2 T_round_Entry (enC e), cells b T_round_Book [int low, .map (some m)]] ?_
  refine tk 0 ?_
  refine tk 1 ?_
  refine tk 2 ?_
  refine tv 3 rfl (rLd 1) ?_
  refine tk 4 ?_
  refine tk 5 ?_
  refine tv 6 rfl (rLd 0) ?_
  refine tk 7 ?_
  refine tv 8 rfl (rLd 0) ?_
  refine tk 9 ?_
  refine tk 11 ?_
  refine tv 10 rfl rMin ?_
  refine eh_val 33 (u := int (min e.left n)) rfl (by rw [Int.min_def]; congr 1; split <;> split <;> omega) ?_
  refine tv 12 rfl (rBuild (cs := enC (e.sized n))) ?_
  refine wv 13 rfl (eo_mapsetL (key := En.id) (enc := enV) 2 (kupd En.id L id fun _ => e.sized n) rfl rfl rfl rfl rfl rfl rfl rfl rfl rfl hput ⟨held2 (i := 0) (j := 1) rfl rfl, ?_⟩)
  refine wd ?_
  refine wk ?_
  exact eq_rett rfl fun w hw => ⟨rfl, shut_book (m := m) (hw.erase 0)⟩
end Go.Proofs.YtpbnjifefoniiaaGreatDoor
namespace Go.Proofs.YtpbnjifefoniiaaGreatDoor
open Go Go.SE
variable {w0 : World} {w : World} {l : List HP} {i : Nat} {r : Option (Nat × Nat)} {F : Hp}
end Go.Proofs.YtpbnjifefoniiaaGreatDoor
namespace Go.Proofs.YtpbnjifefoniiaaGreatDoor
open Go Go.SE
variable {w0 : World} {w : World} {l : List HP} {i : Nat} {r : Option (Nat × Nat)} {F : Hp}
def stuckB (low : Int) (L : List En) : Bool := !L.isEmpty && L.all fun e => !decide (e.tag = low)
theorem ents_mem {kvs : List (Int × Value)} {L : List En} (hp : kvs.Perm (ents En.id enV L)) {p : Int × Value} (h : p ∈ kvs) : ∃ e ∈ L, p = (e.id, enV e) := by
  obtain ⟨e, he, rfl⟩ := List.mem_map.1 (hp.mem_iff.1 h)
  exact ⟨e, he, rfl⟩
theorem enV_inj {e e' : En} (h : enV e = enV e') : e.tag = e'.tag := by
  obtain ⟨a, b, c, d⟩ := e
  obtain ⟨a', b', c', d'⟩ := e'
  simp only [enV, enC, Value.agg.injEq] at h
  have := congrArg (fun q : Array Value => q[0]?) h
  simpa using this
theorem mem_erase {α : Type} {left : List α} {p : α} {j j' : Nat} (h : left[j']? = some p) (hne : j' ≠ j) : p ∈ left.eraseIdx j := by
  refine List.mem_iff_getElem?.2 ?_
  rcases Nat.lt_or_ge j' j with h1 | h1
  · exact ⟨j', by rw [List.getElem?_eraseIdx, if_pos h1]; exact h⟩
  · exact ⟨j' - 1, by rw [List.getElem?_eraseIdx, if_neg (by omega), show j' - 1 + 1 = j' by omega]; exact h⟩
set_option maxHeartbeats 1600000 in
theorem bStuck (b m : Nat) (low : Int) (L : List En) : Does cx F_round_Book_stuck [ptr b] (S w0 (cells b T_round_Book [int low, .map (some m)] :: entM m L :: l)) fun v w => v = .bool (stuckB low L) ∧ S w0 (cells b T_round_Book [int low, .map (some m)] :: entM m L :: l) w := by
  refine fn_enter (n := N_round_Book_stuck) fn_round_Book_stuck rfl rfl rfl ?_
  refine ej_ex (fun w hw => mapL_open (i := 1) hw rfl) fun kvs => ej_pre (fun w h => h) fun hp => ?_
  have shut : ∀ w, S w0 (cells b T_round_Book [int low, .map (some m)] :: mapO m .i64 kvs :: l) w → S w0 (cells b T_round_Book [int low, .map (some m)] :: entM m L :: l) w := fun w hw => hw.imp (i := 1) rfl fun h hm => ⟨kvs, hp, hm⟩
  refine wk ?_
  refine el_cons rfl (eo_range 1 rfl rfl rfl rfl rfl rfl rfl fun r9 => ?_)
  refine wk ?_
  refine ej_loop2 (fun (left : List (Int × Value)) (_ : Option (Int × Value)) => (∀ p ∈ left, p ∈ kvs) ∧ ∀ p ∈ kvs, p ∈ left ∨ ∀ e, p.2 = enV e → e.tag ≠ low) (fun _ _ => [(0, ptr b), (2, .bool false), (9, ptr r9)]) (fun left cur => S w0 (cells b T_round_Book [int low, .map (some m)] :: rangeO m r9 .i64 kvs left cur :: l)) (fun left _ => left.length) kvs none ⟨fun _ h => h, fun _ h => .inl h⟩ (le_of _ _ rfl) (fun w hw => hw) ?_
  rintro left cur ⟨hsub, hrest⟩
  refine wk ?_
  refine el_cons rfl (eo_next 1 rfl rfl rfl rfl rfl (fun hnil => ?_) (fun j p hj => ?_))
  · refine wk ?_
    refine el_imp (fun w hw => hw.range_end (i := 1) rfl) ?_
    refine wk ?_
    refine el_cons rfl (eo_lenm 1 rfl rfl rfl rfl rfl rfl rfl ?_)
    refine wk ?_
    refine eq_rett rfl fun w hw => ⟨?_, shut w hw⟩
    have hlen : kvs.length = L.length := by simpa using hp.length_eq
    have hall : L.all (fun e => !decide (e.tag = low)) = true := by
      rw [List.all_eq_true]
      intro e he
      have h1 := hp.mem_iff.2 (List.mem_map.2 ⟨e, he, rfl⟩)
      rcases hrest _ h1 with h2 | h2
      · rw [hnil] at h2; cases h2
      · simpa using h2 e rfl
    rw [stuckB, hall, Bool.and_true, hlen]
    cases L with
    | nil => rfl
    | cons a t => simp [pack]
  · obtain ⟨e, he, rfl⟩ := ents_mem hp (hsub p (List.mem_of_getElem? hj))
    refine wk ?_
    refine el_cons rfl (eo_entry 1 rfl rfl rfl rfl rfl ?_)
    refine wk ?_
    refine ec (oAlloc fun q4 => ?_)
    refine ec (oStA (vs := enC e) 0 ?_)
    refine wk ?_
    have hI : ∀ w, S w0 (cells q4 T_round_Entry (enC e) :: cells b T_round_Book [int low, .map (some m)] :: rangeO m r9 .i64 kvs (left.eraseIdx j) (some (e.id, enV e)) :: l) w → Held w0 [cells q4 T_round_Entry (enC e), cells b T_round_Book [int low, .map (some m)]] w := held2 (i := 0) (j := 1) rfl rfl
    refine ej_held [cells q4 T_round_Entry (enC e), cells b T_round_Book [int low, .map (some m)]] ?_
    refine tk 0 ?_
    refine tv 1 rfl (rLd 0) ?_
    refine tk 2 ?_
    refine tk 3 ?_
    refine tk 4 ?_
    refine tv 5 rfl (rLd 1) ?_
    refine tk 6 ?_
    refine wd ?_
    refine wk ?_
    refine ej_dec rfl (fun h => ?_) (fun h => ?_)
    · refine wk ?_
      refine eq_rett rfl fun w hw => ⟨?_, shut w (S.range_end (i := 1) (hw.erase 0) rfl)⟩
      have h : e.tag = low := h
      have : L.all (fun e => !decide (e.tag = low)) = false := by
        rw [List.all_eq_false]
        exact ⟨e, he, by simp [h]⟩
      rw [stuckB, this, Bool.and_false]; rfl
    · have h : ¬ e.tag = low := h
      refine wk ?_
      refine eq_back2 (left.eraseIdx j) (some (e.id, enV e)) ⟨fun p hp => hsub p (List.mem_of_mem_eraseIdx hp), fun p hpk => ?_⟩ ?_ (le_of _ _ rfl) fun w hw => hw.erase 0
      · rcases hrest p hpk with h1 | h1
        · obtain ⟨j', hj'⟩ := List.getElem?_of_mem h1
          by_cases hjj : j' = j
          · subst hjj
            rw [hj] at hj'
            obtain rfl : (e.id, enV e) = p := by simpa using hj'
            refine .inr fun e' he' => ?_
            rw [← enV_inj he']; exact h
          · exact .inl (mem_erase hj' hjj)
        · exact .inr h1
      · have := List.length_eraseIdx_of_lt (List.getElem?_eq_some_iff.1 hj).1
        rw [this]
        have := (List.getElem?_eq_some_iff.1 hj).1
        omega
end Go.Proofs.YtpbnjifefoniiaaGreatDoor
namespace Go.Proofs.YtpbnjifefoniiaaGreatDoor
open Go Go.SE
variable {w0 : World} {w : World} {l : List HP} {i : Nat} {r : Option (Nat × Nat)} {F : Hp}
abbrev due (low : Int) (e : En) : Prop := e.tag = low ∧ ¬ 0 < e.left
def stepE (low : Int) (e : En) : En := if due low e then e.renewed else e
theorem stepE_id (low : Int) (e : En) : (stepE low e).id = e.id := by unfold stepE; split <;> rfl
def stepB (low : Int) (L : List En) : List En := L.map (stepE low)
def outB (low : Int) (L : List En) : List Int := (L.filter fun e => decide (due low e)).map En.id
def settleR : Nat → Int → List En → List Int → Int × List En × List Int
  | 0, low, L, out => (low, L, out)
  | n + 1, low, L, out => if stuckB low L then settleR n (low + 1) (stepB (low + 1) L) (out ++ outB (low + 1) L) else (low, L, out)
def Due : Nat → Int → List En → Prop
  | 0, low, L => stuckB low L = false
  | n + 1, low, L => stuckB low L = true → Due n (low + 1) (stepB (low + 1) L)
theorem kupd_permL {L L' : List En} {x : Int} {f : En → En} (h : L.Perm L') : (kupd En.id L x f).Perm (kupd En.id L' x f) := h.map _
theorem kput_step {kvs : List (Int × Value)} {A Lf : List En} {j : Nat} {e e' : En} (hp : kvs.Perm (ents En.id enV (A ++ Lf))) (hN : Nod En.id (A ++ Lf)) (hj : Lf[j]? = some e) (he : e'.id = e.id) : (kput kvs e.id (enV e')).Perm (ents En.id enV ((A ++ [e']) ++ Lf.eraseIdx j)) := by
  have hm : e ∈ A ++ Lf := List.mem_append.2 (.inr (List.mem_of_getElem? hj))
  have h1 := kput_upd (e' := e') hp (kfind_of hN hm) he
  have hperm : (A ++ Lf).Perm (e :: (A ++ Lf.eraseIdx j)) := ((perm_front hj).append_left A).trans List.perm_middle
  have hN2 : Nod En.id (e :: (A ++ Lf.eraseIdx j)) := (hperm.map En.id).nodup_iff.1 hN
  have h2 : kupd En.id (e :: (A ++ Lf.eraseIdx j)) e.id (fun _ => e') = e' :: (A ++ Lf.eraseIdx j) := by
    have h3 := (nod_cons.1 hN2).1
    show (if e.id = e.id then e' else e) :: kupd En.id (A ++ Lf.eraseIdx j) e.id (fun _ => e') = _
    rw [if_pos rfl]
    congr 1
    refine kupd_none (kfind_none.2 fun c hc => h3 c hc)
  have h3 := kupd_permL (x := e.id) (f := fun _ => e') hperm
  rw [h2] at h3
  refine h1.trans ((h3.trans ?_).map _)
  rw [List.append_assoc]
  exact List.perm_middle.symm
theorem ents_of {kvs : List (Int × Value)} {L : List En} (hp : kvs.Perm (ents En.id enV L)) : ∃ L0 : List En, L0.Perm L ∧ kvs = ents En.id enV L0 := by
  generalize hq : ents En.id enV L = q at hp
  induction hp generalizing L with
  | nil => exact ⟨[], by simp [ents] at hq; subst hq; exact List.Perm.refl _, rfl⟩
  | cons x _ ih =>
    cases L with
    | nil => cases hq
    | cons a L =>
      simp only [ents, List.map_cons, List.cons.injEq] at hq
      obtain ⟨L0, h1, h2⟩ := ih hq.2
      exact ⟨a :: L0, h1.cons a, by rw [h2, ← hq.1]; rfl⟩
  | swap x y l =>
    cases L with
    | nil => cases hq
    | cons a L =>
      cases L with
      | nil => simp [ents] at hq
      | cons b L =>
        simp only [ents, List.map_cons, List.cons.injEq] at hq
        exact ⟨b :: a :: L, List.Perm.swap _ _ _, by rw [← hq.1, ← hq.2.1, ← hq.2.2]; rfl⟩
  | trans _ _ ih1 ih2 =>
    obtain ⟨L1, h1, h2⟩ := ih2 hq
    obtain ⟨L0, h3, h4⟩ := ih1 h2.symm
    exact ⟨L0, h3.trans h1, h4⟩
theorem sortI_perm {a b : List Int} (h : a.Perm b) : sortI a = sortI b := by
  have h1 : (sortI a).Pairwise (fun x y => x ≤ y) := by
    have := List.pairwise_mergeSort (le := fun x y : Int => decide (x ≤ y)) (fun x y z h1 h2 => by simp only [decide_eq_true_eq] at *; omega) (fun x y => by simp only [Bool.or_eq_true, decide_eq_true_eq]; omega) a
    exact this.imp fun h => by simpa using h
  have h2 : (sortI b).Pairwise (fun x y => x ≤ y) := by
    have := List.pairwise_mergeSort (le := fun x y : Int => decide (x ≤ y)) (fun x y z h1 h2 => by simp only [decide_eq_true_eq] at *; omega) (fun x y => by simp only [Bool.or_eq_true, decide_eq_true_eq]; omega) b
    exact this.imp fun h => by simpa using h
  refine List.Perm.eq_of_pairwise (le := fun x y => x ≤ y) (fun x y _ _ h1 h2 => by omega) h1 h2 ?_
  exact (List.mergeSort_perm a _).trans (h.trans (List.mergeSort_perm b _).symm)
end Go.Proofs.YtpbnjifefoniiaaGreatDoor
namespace Go.Proofs.YtpbnjifefoniiaaGreatDoor
open Go Go.SE
variable {w0 : World} {w : World} {l : List HP} {i : Nat} {r : Option (Nat × Nat)} {F : Hp}
structure Bk (n : Nat) (low : Int) (L : List En) : Prop where
  nod : Nod En.id L
  few : L.length ≤ 1000
  ent : ∀ e ∈ L, 0 ≤ e.tag ∧ e.tag + n ≤ 4611686018427387904
  low : 0 ≤ low ∧ low + n ≤ 4611686018427387904
theorem Bk.step {n : Nat} {low : Int} {L : List En} (h : Bk (n + 1) low L) : Bk n (low + 1) (stepB (low + 1) L) := by
  refine ⟨?_, by simp [stepB]; exact h.few, fun e he => ?_, ?_⟩
  · have := h.nod
    unfold Nod stepB at *
    rw [List.map_map, show (En.id ∘ stepE (low + 1)) = En.id from funext fun e => stepE_id _ e]; exact this
  · obtain ⟨a, ha, rfl⟩ := List.mem_map.1 he
    have h1 := h.ent a ha
    unfold stepE
    split
    · simp only [En.renewed]; push_cast at h1 ⊢; omega
    · push_cast at h1 ⊢; omega
  · have := h.low; push_cast at this ⊢; omega
set_option maxHeartbeats 4000000 in
theorem bSettle (b : Nat) (n : Nat) (low : Int) (L : List En) (hD : Due n low L) (hB : Bk n low L) (hn : n ≤ 100) : ∀ l, Does cx F_round_Book_Settle [ptr b] (S w0 (bookO b low L :: frz F :: l)) fun v w => ∃ x : Hp × Value, v = x.2 ∧ (Up F x.1 ∧ IntsV w0 x.1 x.2 (sortI (settleR n low L []).2.2)) ∧ S w0 (bookO b (settleR n low L []).1 (settleR n low L []).2.1 :: frz x.1 :: l) w := by
  intro l
  generalize hfin : settleR n low L [] = fin
  refine does_book fun m => ?_
  refine fn_enter (n := N_round_Book_Settle) fn_round_Book_Settle rfl rfl rfl ?_
  refine wk ?_
  refine ej_imp' (fun w hw => S.perm (l' := cells b T_round_Book [int low, .map (some m)] :: entM m L :: rowC none T_int 1 [] 0 :: frz F :: l) (hw.row_new (T := T_int) (sz := 1)) ((List.Perm.swap _ _ _).trans (List.Perm.cons _ (List.Perm.swap _ _ _)))) ?_
  refine ej_loop3 (fun (n : Nat) (bk : Int × List En) (o : List Int × Option (Nat × Nat)) => Due n bk.1 bk.2 ∧ Bk n bk.1 bk.2 ∧ n ≤ 100 ∧ o.1.length + n * 1000 ≤ 100000 ∧ ∃ out, o.1.Perm out ∧ settleR n bk.1 bk.2 out = fin)
    (fun _ bk o => [(0, ptr b), (3, sv o.2 o.1.length)]) (fun _ bk o => S w0 (cells b T_round_Book [int bk.1, .map (some m)] :: entM m bk.2 :: rowC o.2 T_int 1 (ints o.1) o.1.length :: frz F :: l)) (fun n _ _ => n) n (low, L) ([], none) ⟨hD, hB, hn, by simp; omega, [], List.Perm.refl _, hfin⟩ (le_of _ _ rfl) (fun w hw => hw) ?_
  clear hfin hD hB hn
  rintro n ⟨low, L⟩ ⟨os, r⟩ ⟨hD, hB, hn, hol, out, hos, hfin⟩
  simp only at hD hB hol hos hfin ⊢
  refine wk ?_
  refine C1 (bStuck b m low L) real_round_Book_stuck ?_
  refine wk ?_
  refine ej_cond rfl (fun h => ?_) (fun h => ?_)
  · obtain ⟨n, rfl⟩ : ∃ n', n = n' + 1 := by
      cases n with
      | zero => rw [Due, h] at hD; cases hD
      | succ n => exact ⟨n, rfl⟩
    have hD' := hD h
    rw [settleR, if_pos h] at hfin
    have hBs := hB.step
    have hlow := hB.low
    refine wk ?_
    refine el_ex (fun w hw => mapL_open (i := 1) hw rfl) fun kvs => el_pre (fun w h => h) fun hp => ?_
    obtain ⟨L0, hL0, rfl⟩ := ents_of hp
    refine wk ?_
    refine el_cons rfl (eo_range 1 rfl rfl rfl rfl rfl rfl rfl fun r19 => ?_)
    refine wk ?_
    have hl0 : L0.length = L.length := hL0.length_eq
    have hfew := hB.few
    have hlo : 0 ≤ low + 1 ∧ low + 1 ≤ 4611686018427387904 := by have := hlow.2; push_cast at this; omega
    refine ej_loop4 (fun (Dn Lf : List En) (kc : List (Int × Value) × Option (Int × Value)) (o : List Int × Option (Nat × Nat)) => (Dn ++ Lf).Perm L ∧ kc.1.Perm (ents En.id enV (Dn.map (stepE (low + 1)) ++ Lf)) ∧ o.1.Perm (os ++ outB (low + 1) Dn))
      (fun _ _ _ o => [(0, ptr b), (3, sv o.2 o.1.length), (19, ptr r19)]) (fun _ Lf kc o => S w0 (cells b T_round_Book [int (low + 1), .map (some m)] :: rangeO m r19 .i64 kc.1 (ents En.id enV Lf) kc.2 :: rowC o.2 T_int 1 (ints o.1) o.1.length :: frz F :: l)) (fun _ Lf _ _ => Lf.length)
      [] L0 (ents En.id enV L0, none) (os, r) ⟨hL0, by simp, by simp [outB]⟩ (le_of _ _ rfl) (fun w hw => hw) ?_
    rintro Dn Lf ⟨kvs, cur⟩ ⟨os', r'⟩ ⟨hDL, hkv, hos'⟩
    simp only at hkv hos' ⊢
    have hDl : Dn.length + Lf.length = L.length := by rw [← hDL.length_eq, List.length_append]
    have hol' : os'.length ≤ os.length + Dn.length := by
      rw [hos'.length_eq, List.length_append, outB, List.length_map]
      have := List.length_filter_le (fun e => decide (due (low + 1) e)) Dn
      omega
    have hNod : Nod En.id (Dn.map (stepE (low + 1)) ++ Lf) := by
      have h1 : Nod En.id (Dn ++ Lf) := (hDL.map En.id).nodup_iff.2 hB.nod
      unfold Nod at *
      rw [List.map_append, List.map_map, show (En.id ∘ stepE (low + 1)) = En.id from funext fun e => stepE_id _ e, ← List.map_append]
      exact h1
    refine wk ?_
    refine el_cons rfl (eo_next 1 rfl rfl rfl rfl rfl (fun hnil => ?_) (fun j p hj => ?_))
    · have hLf : Lf = [] := by simpa [ents] using hnil
      subst hLf
      rw [List.append_nil] at hDL hkv
      refine wk ?_
      refine eq_back3 n (low + 1, stepB (low + 1) L) (os', r') ⟨hD', hBs, by omega, ?_, out ++ outB (low + 1) L, ?_, hfin⟩ (by omega) (le_of _ _ rfl) fun w hw => ?_
      · simp only at hol' ⊢
        simp only [List.length_nil] at hDl
        omega
      · refine hos'.trans (hos.append ?_)
        exact (hDL.filter _).map _
      · have h1 := hw.range_end (i := 1) rfl
        exact h1.imp (i := 1) rfl fun h hm => ⟨kvs, hkv.trans ((hDL.map _).map _), hm⟩
    · obtain ⟨e, hje, rfl⟩ : ∃ e, Lf[j]? = some e ∧ p = (e.id, enV e) := by
        rw [ents, List.getElem?_map] at hj
        cases hq : Lf[j]? with
        | none => rw [hq] at hj; cases hj
        | some e => rw [hq] at hj; exact ⟨e, rfl, by simpa using hj.symm⟩
      have heL : e ∈ L := hDL.mem_iff.1 (List.mem_append.2 (.inr (List.mem_of_getElem? hje)))
      have hee := hB.ent e heL
      have hLfl := (List.getElem?_eq_some_iff.1 hje).1
      have hlen2 := List.length_eraseIdx_of_lt hLfl
      have hperm2 : ((Dn ++ [e]) ++ Lf.eraseIdx j).Perm L := by
        refine List.Perm.trans ?_ hDL
        rw [List.append_assoc]
        exact (perm_front hje).symm.append_left Dn
      have her : (ents En.id enV Lf).eraseIdx j = ents En.id enV (Lf.eraseIdx j) := (ChangeMaps.map_eraseIdx _ _ _).symm
      refine wk ?_
      refine el_cons rfl (eo_entry 1 rfl rfl rfl rfl rfl ?_)
      refine wk ?_
      refine ec (oAlloc fun q5 => ?_)
      refine wk ?_
      have hI : ∀ w, S w0 (cells q5 T_round_Entry (enC e) :: cells b T_round_Book [int (low + 1), .map (some m)] :: rangeO m r19 .i64 kvs ((ents En.id enV Lf).eraseIdx j) (some (e.id, enV e)) :: rowC r' T_int 1 (ints os') os'.length :: frz F :: l) w → Held w0 [cells q5 T_round_Entry (enC e), cells b T_round_Book [int (low + 1), .map (some m)]] w := held2 (i := 0) (j := 1) rfl rfl
      refine ej_join (α := Unit) (fun _ => True) (fun _ => [(0, ptr b), (3, sv r' os'.length), (4, int e.id), (5, ptr q5), (19, ptr r19), (36, .bool (decide (due (low + 1) e)))]) (fun _ => S w0 (cells q5 T_round_Entry (enC e) :: cells b T_round_Book [int (low + 1), .map (some m)] :: rangeO m r19 .i64 kvs ((ents En.id enV Lf).eraseIdx j) (some (e.id, enV e)) :: rowC r' T_int 1 (ints os') os'.length :: frz F :: l)) (fun kk => ?_) ?_
      · refine ej_held [cells q5 T_round_Entry (enC e), cells b T_round_Book [int (low + 1), .map (some m)]] ?_
        refine tk 0 ?_
        refine tv 1 rfl (rLd 0) ?_
        refine tk 2 ?_
        refine tk 3 ?_
        refine tk 4 ?_
        refine tv 5 rfl (rLd 1) ?_
        refine tk 6 ?_
        refine tk 7 ?_
        by_cases ht : e.tag = low + 1
        · refine eh_val 32 (u := .bool true) rfl (by rw [decide_eq_true ht]) ?_
          refine tv 8 rfl (rLdW 0) ?_
          refine w1 9 rfl (rOpen e) real_round_Entry_open hI ?_
          refine tk 10 ?_
          refine tk 11 ?_
          refine wd ?_
          refine wk ?_
          refine meet (kk () trivial) ?_ fun w h => h
          have e1 : decide (due (low + 1) e) = !decide (0 < e.left) := by rw [← decide_not]; exact decide_eq_decide.2 ⟨fun h => h.2, fun h => ⟨ht, h⟩⟩
          rw [e1]
          exact le_of _ _ rfl
        · refine eh_val 32 (u := .bool false) rfl (by rw [decide_eq_false ht]) ?_
          refine ts 8 ?_
          refine ts 9 ?_
          refine ts 10 ?_
          refine tk 11 ?_
          refine wd ?_
          refine wk ?_
          refine meet (kk () trivial) ?_ fun w h => h
          rw [decide_eq_false (show ¬ due (low + 1) e from fun h => ht h.1)]
          exact le_of _ _ rfl
      rintro ⟨⟩ _
      refine wk ?_
      refine ej_dec rfl (fun hd => ?_) (fun hd => ?_)
      · have hst : stepE (low + 1) e = e.renewed := if_pos hd
        refine wk ?_
        refine ej_held [cells q5 T_round_Entry (enC e), cells b T_round_Book [int (low + 1), .map (some m)]] ?_
        refine tk 0 ?_
        refine tk 1 ?_
        refine tk 2 ?_
        refine tv 3 rfl (rLd 1) ?_
        refine tk 4 ?_
        refine tv 5 rfl (rLdW 0) ?_
        refine w1 6 rfl (rRenewed e ⟨hee.1, by have := hee.2; push_cast at this; omega⟩) real_round_Entry_renewed hI ?_
        refine wv 7 rfl (eo_mapsetR 2 rfl rfl rfl rfl rfl rfl rfl rfl rfl rfl ⟨held2 (i := 0) (j := 1) rfl rfl, ?_⟩)
        refine wd ?_
        refine wk ?_
        refine App (cs := [int e.id]) (fun r2 b9 => ?_) (hc := by exact rfl)
        refine wk ?_
        refine eq_back4 (Dn ++ [e]) (Lf.eraseIdx j) (kput kvs e.id (enV e.renewed), some (e.id, enV e.renewed)) (os' ++ [e.id], r2) ⟨hperm2, ?_, ?_⟩ ?_ ?_ fun w hw => ?_
        · rw [List.map_append, show [e].map (stepE (low + 1)) = [e.renewed] by simp [hst]]
          exact kput_step hkv hNod hje rfl
        · have : outB (low + 1) (Dn ++ [e]) = outB (low + 1) Dn ++ [e.id] := by
            rw [outB, List.filter_append, show [e].filter (fun e => decide (due (low + 1) e)) = [e] from List.filter_cons_of_pos (decide_eq_true hd), List.map_append]; rfl
          rw [this, ← List.append_assoc]
          exact hos'.append_right _
        · show (Lf.eraseIdx j).length < Lf.length; omega
        · simp only [List.length_append, List.length_cons, List.length_nil]
          exact le_of _ _ rfl
        · rw [← her, show ints (os' ++ [e.id]) = ints os' ++ [int e.id] by simp, List.length_append]
          exact hw.erase 0
      · have hst : stepE (low + 1) e = e := if_neg hd
        refine wk ?_
        refine eq_back4 (Dn ++ [e]) (Lf.eraseIdx j) (kvs, some (e.id, enV e)) (os', r') ⟨hperm2, ?_, ?_⟩ ?_ (le_of _ _ rfl) fun w hw => ?_
        · refine hkv.trans (List.Perm.map _ ?_)
          rw [List.map_append, show [e].map (stepE (low + 1)) = [e] by simp [hst], List.append_assoc]
          exact ((perm_front hje).append_left _)
        · have : outB (low + 1) (Dn ++ [e]) = outB (low + 1) Dn := by
            rw [outB, List.filter_append, show [e].filter (fun e => decide (due (low + 1) e)) = [] from List.filter_cons_of_neg (by rw [decide_eq_false hd]; decide), List.append_nil]; rfl
          rw [this]; exact hos'
        · show (Lf.eraseIdx j).length < Lf.length; omega
        · rw [← her]; exact hw.erase 0
  · have hst : settleR n low L out = (low, L, out) := by
      cases n with
      | zero => rfl
      | succ n => rw [settleR, if_neg (by rw [h]; decide)]
    rw [hst] at hfin
    subst hfin
    refine wk ?_
    refine C1 (sortI_any (i := 2) os (by omega) _ rfl) real_slices_Sort_int_int ?_
    refine wk ?_
    refine eq_frz 2 (fun G hu hf => ?_)
    refine eq_rett rfl fun w hw => ⟨(G, _), rfl, ⟨hu, ?_⟩, shut_book (m := m) hw⟩
    simp only
    rw [← sortI_perm hos]
    exact ints_row hf (by simp [sortI])
end Go.Proofs.YtpbnjifefoniiaaGreatDoor
namespace Go.Proofs.YtpbnjifefoniiaaGreatDoor
open Go Go.SE
def nextP : List Nat → Nat → Nat → Nat
  | [], d, _ => d
  | x :: r, d, i => if x = i then r.headD d else nextP r d i
def prevP : List Nat → Nat → Nat → Nat
  | [], d, _ => d
  | x :: r, d, i => if x = i then d else prevP r x i
def insA : List Nat → Nat → Nat → List Nat
  | [], _, _ => []
  | x :: r, at', n => if x = at' then x :: n :: r else x :: insA r at' n
def nextC (z : Nat) (s : List Nat) (i : Nat) : Nat := nextP (z :: s) z i
def prevC (z : Nat) (s : List Nat) (i : Nat) : Nat := prevP (z :: s) (s.getLastD z) i
theorem ins_cons (z : Nat) (s : List Nat) (at' n : Nat) : ∃ s', insA (z :: s) at' n = z :: s' := by
  rw [insA]; split
  · exact ⟨_, rfl⟩
  · exact ⟨_, rfl⟩
theorem ins_mem : ∀ {c : List Nat} {at' n : Nat}, at' ∈ c → ∀ i, i ∈ insA c at' n ↔ i ∈ c ∨ i = n
  | x :: r, at', n, h, i => by
    rw [insA]
    by_cases hx : x = at'
    · rw [if_pos hx]; simp only [List.mem_cons]; constructor
      · rintro (h | h | h) <;> simp [h]
      · rintro ((h | h) | h) <;> simp [h]
    · rw [if_neg hx]
      have hr : at' ∈ r := (List.mem_cons.1 h).resolve_left (Ne.symm hx)
      simp only [List.mem_cons, ins_mem hr i]
      constructor
      · rintro (h | h | h) <;> simp [h]
      · rintro ((h | h) | h) <;> simp [h]
theorem ins_nodup : ∀ {c : List Nat} {at' n : Nat}, c.Nodup → n ∉ c → (insA c at' n).Nodup
  | [], _, _, _, _ => by simp [insA]
  | x :: r, at', n, h, hn => by
    obtain ⟨h1, h2⟩ := List.nodup_cons.1 h
    have hnx : n ≠ x := fun e => hn (by simp [e])
    have hnr : n ∉ r := fun e => hn (by simp [e])
    rw [insA]
    by_cases hx : x = at'
    · rw [if_pos hx]
      refine List.nodup_cons.2 ⟨?_, List.nodup_cons.2 ⟨hnr, h2⟩⟩
      intro h3
      rcases List.mem_cons.1 h3 with h3 | h3
      · exact hnx h3.symm
      · exact h1 h3
    · rw [if_neg hx]
      refine List.nodup_cons.2 ⟨?_, ins_nodup h2 hnr⟩
      intro h3
      by_cases hr : at' ∈ r
      · rcases (ins_mem hr x).1 h3 with h3 | h3
        · exact h1 h3
        · exact hnx h3.symm
      · have : insA r at' n = r := by
          clear h3 h2 h1 h hn hnr
          induction r with
          | nil => rfl
          | cons y r ih =>
            rw [insA, if_neg (fun e => hr (by simp [e])), ih (fun e => hr (by simp [e]))]
        rw [this] at h3
        exact h1 h3
theorem next_ins : ∀ {c : List Nat} {at' n : Nat} (d i : Nat), at' ∈ c → n ∉ c →
    nextP (insA c at' n) d i = if i = at' then n else if i = n then nextP c d at' else nextP c d i
  | x :: r, at', n, d, i, h, hn => by
    have hnx : x ≠ n := fun e => hn (by simp [e])
    have hnr : n ∉ r := fun e => hn (by simp [e])
    rw [insA]
    by_cases hx : x = at'
    · subst hx
      rw [if_pos rfl]
      simp only [nextP, List.headD_cons, if_true]
      by_cases h1 : x = i
      · subst h1; simp
      · rw [if_neg h1, if_neg (Ne.symm h1), if_neg h1]
        by_cases h2 : n = i
        · subst h2; simp
        · rw [if_neg h2, if_neg (Ne.symm h2)]
    · rw [if_neg hx]
      have hr : at' ∈ r := (List.mem_cons.1 h).resolve_left (Ne.symm hx)
      have ih := next_ins d i hr hnr
      have hh : (insA r at' n).headD d = r.headD d := by
        cases r with
        | nil => cases hr
        | cons y r => rw [insA]; split <;> rfl
      simp only [nextP, hh, ih, if_neg hx]
      by_cases h1 : x = i
      · subst h1
        rw [if_pos rfl, if_neg hx, if_neg hnx, if_pos rfl]
      · rw [if_neg h1, if_neg h1]
theorem prev_free : ∀ {r : List Nat} (a b i : Nat), i ∈ r → r.head? ≠ some i → prevP r a i = prevP r b i
  | x :: r, a, b, i, h, hh => by
    have hx : x ≠ i := fun e => hh (by simp [e])
    rw [prevP, prevP, if_neg hx, if_neg hx]
theorem prev_in : ∀ {r : List Nat} (a i : Nat), i ∈ r → r.head? ≠ some i → prevP r a i ∈ r
  | x :: r, a, i, h, hh => by
    have hx : x ≠ i := fun e => hh (by simp [e])
    have hr : i ∈ r := (List.mem_cons.1 h).resolve_left (Ne.symm hx)
    rw [prevP, if_neg hx]
    by_cases h2 : r.head? = some i
    · cases r with
      | nil => cases hr
      | cons y r =>
        simp at h2; subst h2
        rw [prevP, if_pos rfl]; simp
    · exact List.mem_cons_of_mem _ (prev_in x i hr h2)
theorem prev_ins : ∀ {c : List Nat} {at' n : Nat} (d i : Nat), c.Nodup → at' ∈ c → n ∉ c → i ∈ c →
    prevP (insA c at' n) d i = if c.head? = some i then d else if prevP c d i = at' then n else prevP c d i
  | x :: r, at', n, d, i, hnd, h, hn, hi => by
    obtain ⟨hxr, hnd2⟩ := List.nodup_cons.1 hnd
    have hnx : x ≠ n := fun e => hn (by simp [e])
    have hnr : n ∉ r := fun e => hn (by simp [e])
    rw [insA]
    by_cases h1 : x = i
    · subst h1
      have h0 : (x :: r).head? = some x := rfl
      rw [if_pos h0]
      split
      · rw [prevP, if_pos rfl]
      · rw [prevP, if_pos rfl]
    · have hir : i ∈ r := (List.mem_cons.1 hi).resolve_left (Ne.symm h1)
      have h0 : ¬ (x :: r).head? = some i := by simpa using h1
      rw [if_neg h0]
      have e : prevP (x :: r) d i = prevP r x i := by rw [prevP, if_neg h1]
      rw [e]
      by_cases hx : x = at'
      · subst hx
        rw [if_pos rfl, prevP, if_neg h1, prevP, if_neg (show ¬ n = i from fun e2 => hnr (by rw [e2]; exact hir))]
        by_cases hh : r.head? = some i
        · cases r with
          | nil => cases hir
          | cons y r =>
            simp at hh; subst hh
            simp [prevP]
        · have h2 := prev_in x i hir hh
          rw [if_neg (show ¬ prevP r x i = x from fun e2 => hxr (by rw [e2] at h2; exact h2))]
          exact prev_free _ _ _ hir hh
      · rw [if_neg hx, prevP, if_neg h1]
        have hr : at' ∈ r := (List.mem_cons.1 h).resolve_left (Ne.symm hx)
        rw [prev_ins x i hnd2 hr hnr hir]
        by_cases hh : r.head? = some i
        · rw [if_pos hh]
          have : prevP r x i = x := by
            cases r with
            | nil => cases hir
            | cons y r => simp at hh; subst hh; rw [prevP, if_pos rfl]
          rw [this, if_neg hx]
        · rw [if_neg hh]
theorem ins_last : ∀ {c : List Nat} {at' n : Nat} (d : Nat), c.Nodup → at' ∈ c → (insA c at' n).getLastD d = if c.getLastD d = at' then n else c.getLastD d
  | [x], at', n, d, _, h => by
    have : at' = x := by simpa using h
    subst this
    simp [insA]
  | x :: y :: r, at', n, d, hnd, h => by
    obtain ⟨hxr, hnd2⟩ := List.nodup_cons.1 hnd
    have e : ∀ (l : List Nat) (a b : Nat), l ≠ [] → l.getLastD a = l.getLastD b := fun l a b hl => by
      cases l with
      | nil => exact absurd rfl hl
      | cons _ _ => rfl
    rw [insA]
    by_cases hx : x = at'
    · subst hx
      rw [if_pos rfl]
      have h2 : (x :: n :: y :: r).getLastD d = (y :: r).getLastD d := rfl
      have h3 : (x :: y :: r).getLastD d = (y :: r).getLastD d := rfl
      rw [h2, h3, if_neg]
      intro h4
      have : (y :: r).getLastD d ∈ y :: r := by
        rw [List.getLastD_eq_getLast?, List.getLast?_eq_some_getLast (by simp)]
        exact List.getLast_mem _
      rw [h4] at this
      exact hxr this
    · rw [if_neg hx]
      have hr : at' ∈ y :: r := (List.mem_cons.1 h).resolve_left (Ne.symm hx)
      have ih := ins_last (n := n) d hnd2 hr
      have h3 : (x :: y :: r).getLastD d = (y :: r).getLastD d := rfl
      rw [h3, ← ih]
      have hne : insA (y :: r) at' n ≠ [] := by obtain ⟨s', hs⟩ := ins_cons y r at' n; rw [hs]; simp
      obtain ⟨s', hs⟩ := ins_cons y r at' n
      rw [hs]; rfl
theorem nextC_ins {z : Nat} {s s' : List Nat} {at' n : Nat} (h : insA (z :: s) at' n = z :: s') (ha : at' ∈ z :: s) (hn : n ∉ z :: s) (i : Nat) :
    nextC z s' i = if i = at' then n else if i = n then nextC z s at' else nextC z s i := by
  unfold nextC
  rw [← h]; exact next_ins z i ha hn
theorem prevC_ins {z : Nat} {s s' : List Nat} {at' n : Nat} (h : insA (z :: s) at' n = z :: s') (hnd : (z :: s).Nodup) (ha : at' ∈ z :: s) (hn : n ∉ z :: s) {i : Nat} (hi : i ∈ z :: s) :
    prevC z s' i = if prevC z s i = at' then n else prevC z s i := by
  unfold prevC
  have hl := ins_last (n := n) z hnd ha
  rw [h] at hl
  have e1 : (z :: s').getLastD z = s'.getLastD z := by cases s' <;> rfl
  have e2 : (z :: s).getLastD z = s.getLastD z := by cases s <;> rfl
  rw [e1, e2] at hl
  rw [← h, prev_ins _ i hnd ha hn hi, hl]
  by_cases hz : z = i
  · subst hz
    rw [if_pos (by simp)]
    simp only [prevP, if_true]
  · rw [if_neg (by simpa using hz)]
    have e3 : ∀ a, prevP (z :: s) a i = prevP s z i := fun a => by rw [prevP, if_neg hz]
    rw [e3, e3]
theorem prevP_new : ∀ {c : List Nat} {at' n : Nat} (d : Nat), at' ∈ c → n ∉ c → prevP (insA c at' n) d n = at'
  | x :: r, at', n, d, h, hn => by
    have hnx : x ≠ n := fun e => hn (by simp [e])
    have hnr : n ∉ r := fun e => hn (by simp [e])
    rw [insA]
    by_cases hx : x = at'
    · rw [if_pos hx, prevP, if_neg hnx, prevP, if_pos rfl]; exact hx
    · rw [if_neg hx, prevP, if_neg hnx]
      exact prevP_new x ((List.mem_cons.1 h).resolve_left (Ne.symm hx)) hnr
theorem prevC_new {z : Nat} {s s' : List Nat} {at' n : Nat} (h : insA (z :: s) at' n = z :: s') (ha : at' ∈ z :: s) (hn : n ∉ z :: s) : prevC z s' n = at' := by
  unfold prevC
  rw [← h]; exact prevP_new _ ha hn
theorem nextP_split : ∀ (u v : List Nat) (d x : Nat), x ∉ u → nextP (u ++ x :: v) d x = v.headD d
  | [], v, d, x, _ => by simp [nextP]
  | y :: u, v, d, x, h => by
    rw [List.cons_append, nextP, if_neg (fun e => h (by simp [e])), nextP_split u v d x fun e => h (by simp [e])]
theorem prevP_split : ∀ (u v : List Nat) (d x : Nat), x ∉ u → prevP (u ++ x :: v) d x = u.getLastD d
  | [], v, d, x, _ => by simp [prevP]
  | y :: u, v, d, x, h => by
    rw [List.cons_append, prevP, if_neg (fun e => h (by simp [e])), prevP_split u v y x fun e => h (by simp [e])]
    cases u <;> rfl
theorem prev_next {z : Nat} {s : List Nat} (hnd : (z :: s).Nodup) {i : Nat} (hi : i ∈ z :: s) : prevC z s (nextC z s i) = i ∧ nextC z s i ∈ z :: s := by
  obtain ⟨u, v, huv⟩ := List.append_of_mem hi
  rw [huv] at hnd
  have hiu : i ∉ u := fun h => (List.nodup_append.1 hnd).2.2 i h i (by simp) rfl
  have hn : nextC z s i = v.headD z := by unfold nextC; rw [huv]; exact nextP_split u v z i hiu
  rw [hn]
  cases v with
  | nil =>
    have hl : s.getLastD z = i := by
      have e2 : (z :: s).getLastD z = s.getLastD z := by cases s <;> rfl
      rw [← e2, huv]; simp
    refine ⟨?_, by simp⟩
    show prevP (z :: s) (s.getLastD z) z = i
    rw [prevP, if_pos rfl, hl]
  | cons y v =>
    refine ⟨?_, by rw [huv]; simp⟩
    show prevP (z :: s) (s.getLastD z) y = i
    have e : z :: s = (u ++ [i]) ++ y :: v := by rw [huv]; simp
    have hy : y ∉ u ++ [i] := by
      have : (u ++ [i] ++ y :: v).Nodup := by simpa using hnd
      exact fun h => (List.nodup_append.1 this).2.2 y h y (by simp) rfl
    rw [e, prevP_split _ _ _ _ hy]; simp
theorem next_prev {z : Nat} {s : List Nat} (hnd : (z :: s).Nodup) {i : Nat} (hi : i ∈ z :: s) : nextC z s (prevC z s i) = i ∧ prevC z s i ∈ z :: s := by
  obtain ⟨u, v, huv⟩ := List.append_of_mem hi
  have hnd2 := hnd
  rw [huv] at hnd2
  have hiu : i ∉ u := fun h => (List.nodup_append.1 hnd2).2.2 i h i (by simp) rfl
  have hp : prevC z s i = u.getLastD (s.getLastD z) := by unfold prevC; rw [huv]; exact prevP_split u v _ i hiu
  rw [hp]
  rcases List.eq_nil_or_concat u with rfl | ⟨u', x, rfl⟩
  · have hz : z = i := by simp at huv; exact huv.1
    subst hz
    simp only [List.getLastD_nil]
    rcases List.eq_nil_or_concat s with rfl | ⟨s', x, rfl⟩
    · simp [nextC, nextP]
    · have hx : (s'.concat x).getLastD z = x := by simp
      rw [hx]
      refine ⟨?_, by simp⟩
      unfold nextC
      have e : z :: s'.concat x = (z :: s') ++ x :: [] := by simp
      have hxn : x ∉ z :: s' := by
        rw [e] at hnd
        exact fun h => (List.nodup_append.1 hnd).2.2 x h x (by simp) rfl
      rw [e, nextP_split _ _ _ _ hxn]; rfl
  · have hx : (u'.concat x).getLastD (s.getLastD z) = x := by simp
    rw [hx]
    refine ⟨?_, by rw [huv]; simp⟩
    unfold nextC
    have e : z :: s = u' ++ x :: i :: v := by rw [huv]; simp
    have hxn : x ∉ u' := by
      rw [e] at hnd
      exact fun h => (List.nodup_append.1 hnd).2.2 x h x (by simp) rfl
    rw [e, nextP_split _ _ _ _ hxn]; rfl
end Go.Proofs.YtpbnjifefoniiaaGreatDoor
namespace Go.Proofs.YtpbnjifefoniiaaGreatDoor
open Go Go.SE
abbrev Lk := Int × Nat × Nat
structure Rg (N : Nat) (Ls : List (List Nat)) (lk : List Lk) : Prop where
  len : lk.length = N + Ls.length
  lt : ∀ (j : Nat) s, Ls[j]? = some s → ∀ n ∈ s, n < N
  nd : ∀ (j : Nat) s, Ls[j]? = some s → s.Nodup
  dis : ∀ (j j' : Nat) s s', Ls[j]? = some s → Ls[j']? = some s' → ∀ n, n ∈ s → n ∈ s' → j = j'
  inl : ∀ (j : Nat) s, Ls[j]? = some s → ∀ i ∈ (N + j) :: s, lk[i]? = some ((j : Int), nextC (N + j) s i, prevC (N + j) s i)
  out : ∀ i, i < N → (∀ (j : Nat) s, Ls[j]? = some s → i ∉ s) → lk[i]? = some (-1, i, i)
def nextTo (v : Nat) (x : Lk) : Lk := (x.1, v, x.2.2)
def prevTo (v : Nat) (x : Lk) : Lk := (x.1, x.2.1, v)
theorem Rg.nodup {N : Nat} {Ls : List (List Nat)} {lk : List Lk} (h : Rg N Ls lk) {j : Nat} {s : List Nat} (hj : Ls[j]? = some s) : ((N + j) :: s).Nodup :=
  List.nodup_cons.2 ⟨fun hm => by have := h.lt j s hj _ hm; omega, h.nd j s hj⟩
theorem Rg.apart {N : Nat} {Ls : List (List Nat)} {lk : List Lk} (h : Rg N Ls lk) {j j' : Nat} {s s' : List Nat} (hj : Ls[j]? = some s) (hj' : Ls[j']? = some s') {i : Nat} (h1 : i ∈ (N + j) :: s) (h2 : i ∈ (N + j') :: s') : j = j' := by
  rcases List.mem_cons.1 h1 with e1 | e1 <;> rcases List.mem_cons.1 h2 with e2 | e2
  · omega
  · have := h.lt j' s' hj' _ e2; omega
  · have := h.lt j s hj _ e1; omega
  · exact h.dis j j' s s' hj hj' i e1 e2
theorem set_get {α : Type} {l : List α} {j k : Nat} {x y : α} (h : (l.set j x)[k]? = some y) : (j = k ∧ y = x ∧ j < l.length) ∨ (j ≠ k ∧ l[k]? = some y) := by
  rw [List.getElem?_set] at h
  split at h
  · rename_i e
    split at h
    · cases h; exact .inl ⟨e, rfl, by omega⟩
    · cases h
  · exact .inr ⟨by assumption, h⟩
theorem Rg.put {N : Nat} {Ls : List (List Nat)} {lk : List Lk} (h : Rg N Ls lk) {j node at' : Nat} {s s' : List Nat} (hj : Ls[j]? = some s) (ha : at' ∈ (N + j) :: s) (hN : node < N) (hf : ∀ (j : Nat) s, Ls[j]? = some s → node ∉ s)
    (hs : insA ((N + j) :: s) at' node = (N + j) :: s') :
    Rg N (Ls.set j s') (((lk.set node ((j : Int), nextC (N + j) s at', at')).modify at' (nextTo node)).modify (nextC (N + j) s at') (prevTo node)) := by
  have hjl : j < Ls.length := (List.getElem?_eq_some_iff.1 hj).1
  have hnd := h.nodup hj
  have hnz : node ∉ (N + j) :: s := fun e => by
    rcases List.mem_cons.1 e with e | e
    · omega
    · exact hf j s hj e
  have hmem : ∀ i, i ∈ s' ↔ i ∈ s ∨ i = node := fun i => by
    have h1 := ins_mem (n := node) ha i
    rw [hs, List.mem_cons, List.mem_cons] at h1
    by_cases hi : i = N + j
    · constructor
      · intro h2
        have h3 := ins_nodup (at' := at') hnd hnz
        rw [hs] at h3
        exact absurd (hi ▸ h2) (List.nodup_cons.1 h3).1
      · rintro (h2 | h2)
        · exact absurd (hi ▸ h2) (List.nodup_cons.1 hnd).1
        · omega
    · constructor
      · intro h2
        rcases h1.1 (.inr h2) with (h3 | h3) | h3
        · exact absurd h3 hi
        · exact .inl h3
        · exact .inr h3
      · intro h2
        rcases h1.2 (h2.elim (fun h => .inl (.inr h)) .inr) with h3 | h3
        · exact absurd h3 hi
        · exact h3
  obtain ⟨hpn, hnx⟩ := prev_next hnd ha
  have hnode : node ≠ at' := fun e => hnz (e ▸ ha)
  have hnn : node ≠ nextC (N + j) s at' := fun e => hnz (e ▸ hnx)
  have hnl : node < lk.length := by rw [h.len]; omega
  have hget : ∀ i, i ≠ node → (((lk.set node ((j : Int), nextC (N + j) s at', at')).modify at' (nextTo node)).modify (nextC (N + j) s at') (prevTo node))[i]? =
      (lk[i]?.map fun x => if at' = i then nextTo node x else x).map fun x => if nextC (N + j) s at' = i then prevTo node x else x := fun i hi => by
    rw [List.getElem?_modify, List.getElem?_modify, List.getElem?_set_ne (Ne.symm hi)]
    cases lk[i]? with
    | none => rfl
    | some x =>
      simp only [Option.map_some]
      by_cases e1 : at' = i <;> by_cases e2 : nextC (N + j) s at' = i <;> simp [e1, e2]
  have hself : (((lk.set node ((j : Int), nextC (N + j) s at', at')).modify at' (nextTo node)).modify (nextC (N + j) s at') (prevTo node))[node]? = some ((j : Int), nextC (N + j) s at', at') := by
    rw [List.getElem?_modify, List.getElem?_modify, List.getElem?_set_self hnl]
    simp [Ne.symm hnode, Ne.symm hnn]
  refine ⟨by simp [h.len], ?_, ?_, ?_, ?_, ?_⟩
  · intro k t hk n hn
    rcases set_get hk with ⟨_, rfl, _⟩ | ⟨_, hk⟩
    · rcases (hmem n).1 hn with h2 | rfl
      · exact h.lt j s hj n h2
      · exact hN
    · exact h.lt k t hk n hn
  · intro k t hk
    rcases set_get hk with ⟨_, rfl, _⟩ | ⟨_, hk⟩
    · have h3 := ins_nodup (at' := at') hnd hnz
      rw [hs] at h3
      exact (List.nodup_cons.1 h3).2
    · exact h.nd k t hk
  · intro k k' t t' hk hk' n hn hn'
    rcases set_get hk with ⟨e1, rfl, _⟩ | ⟨e1, hk2⟩ <;> rcases set_get hk' with ⟨e2, rfl, _⟩ | ⟨e2, hk2'⟩
    · omega
    · rcases (hmem n).1 hn with h2 | rfl
      · exact absurd (h.dis j k' s t' hj hk2' n h2 hn') e2
      · exact absurd hn' (hf k' t' hk2')
    · rcases (hmem n).1 hn' with h2 | rfl
      · exact absurd (h.dis k j t s hk2 hj n hn h2) (Ne.symm e1)
      · exact absurd hn (hf k t hk2)
    · exact h.dis k k' t t' hk2 hk2' n hn hn'
  · intro k t hk i hi
    rcases set_get hk with ⟨rfl, rfl, _⟩ | ⟨hne, hk⟩
    · by_cases hin : i = node
      · subst hin
        rw [hself, nextC_ins hs ha hnz, prevC_new hs ha hnz, if_neg hnode, if_pos rfl]
      · have hic : i ∈ (N + j) :: s := by
          rcases List.mem_cons.1 hi with e | e
          · simp [e]
          · rcases (hmem i).1 e with e | e
            · simp [e]
            · exact absurd e hin
        rw [hget i hin, h.inl j s hj i hic, nextC_ins hs ha hnz, prevC_ins hs hnd ha hnz hic, if_neg hin]
        obtain ⟨hnp, _⟩ := next_prev hnd hic
        have hiff : nextC (N + j) s at' = i ↔ prevC (N + j) s i = at' := ⟨fun e => by rw [← e]; exact hpn, fun e => by rw [← e]; exact hnp⟩
        simp only [Option.map_some]
        by_cases e1 : at' = i <;> by_cases e2 : nextC (N + j) s at' = i
        · rw [if_pos e1, if_pos e2, if_pos e1.symm, if_pos (hiff.1 e2)]; rfl
        · rw [if_pos e1, if_neg e2, if_pos e1.symm, if_neg (fun e => e2 (hiff.2 e))]; rfl
        · rw [if_neg e1, if_pos e2, if_neg (Ne.symm e1), if_pos (hiff.1 e2)]; rfl
        · rw [if_neg e1, if_neg e2, if_neg (Ne.symm e1), if_neg (fun e => e2 (hiff.2 e))]
    · have hin : i ≠ node := fun e => by
        subst e
        rcases List.mem_cons.1 hi with e | e
        · omega
        · exact hf k t hk e
      have e1 : at' ≠ i := fun e => hne (h.apart hj hk (e ▸ ha) hi)
      have e2 : nextC (N + j) s at' ≠ i := fun e => hne (h.apart hj hk (e ▸ hnx) hi)
      rw [hget i hin, h.inl k t hk i hi]
      simp [e1, e2]
  · intro i hi hfree
    have hin : i ≠ node := fun e => by
      subst e
      exact hfree j s' (List.getElem?_set_self hjl) ((hmem i).2 (.inr rfl))
    have hold : ∀ (k : Nat) t, Ls[k]? = some t → i ∉ t := fun k t hk hit => by
      by_cases e : j = k
      · subst e
        rw [hj] at hk; cases hk
        exact hfree j s' (List.getElem?_set_self hjl) ((hmem i).2 (.inl hit))
      · exact hfree k t (by rw [List.getElem?_set_ne e]; exact hk) hit
    have hic : i ∉ (N + j) :: s := fun e => by
      rcases List.mem_cons.1 e with e | e
      · omega
      · exact hold j s hj e
    have e1 : at' ≠ i := fun e => hic (e ▸ ha)
    have e2 : nextC (N + j) s at' ≠ i := fun e => hic (e ▸ hnx)
    rw [hget i hin, h.out i hi hold]
    simp [e1, e2]
theorem erase_split {s : List Nat} {n : Nat} (h : n ∈ s) (hnd : s.Nodup) : ∃ u v, s = u ++ n :: v ∧ s.erase n = u ++ v ∧ n ∉ u ∧ n ∉ v := by
  obtain ⟨u, v, rfl⟩ := List.append_of_mem h
  have h1 := List.nodup_append.1 hnd
  have hu : n ∉ u := fun e => h1.2.2 n e n (by simp) rfl
  refine ⟨u, v, rfl, ?_, hu, (List.nodup_cons.1 h1.2.1).1⟩
  rw [List.erase_append_right _ hu, List.erase_cons_head]
theorem ins_app : ∀ (u v : List Nat) (x n : Nat), x ∉ u → insA (u ++ x :: v) x n = u ++ x :: n :: v
  | [], v, x, n, _ => by simp [insA]
  | y :: u, v, x, n, h => by
    rw [List.cons_append, insA, if_neg (fun e => h (by simp [e])), ins_app u v x n fun e => h (by simp [e])]; rfl
theorem ins_back {z : Nat} {s : List Nat} {n : Nat} (hnd : (z :: s).Nodup) (hn : n ∈ s) :
    insA (z :: s.erase n) (prevC z s n) n = z :: s ∧ prevC z s n ∈ z :: s.erase n ∧ n ∉ z :: s.erase n := by
  obtain ⟨hzs, hnds⟩ := List.nodup_cons.1 hnd
  obtain ⟨u, v, rfl, he, hu, hv⟩ := erase_split hn hnds
  have hzn : z ≠ n := fun e => hzs (by simp [e])
  have hp : prevC z (u ++ n :: v) n = u.getLastD z := by
    unfold prevC
    rw [← List.cons_append, prevP_split (z :: u) v _ n (fun e => by
      rcases List.mem_cons.1 e with e | e
      · exact hzn e.symm
      · exact hu e)]
    cases u <;> rfl
  rw [he, hp]
  have hnn : n ∉ z :: (u ++ v) := fun e => by
    rcases List.mem_cons.1 e with e | e
    · exact hzn e.symm
    · rcases List.mem_append.1 e with e | e
      · exact hu e
      · exact hv e
  rcases List.eq_nil_or_concat u with rfl | ⟨u', x, rfl⟩
  · refine ⟨by simp [insA], by simp, hnn⟩
  · have hx : (u'.concat x).getLastD z = x := by simp
    rw [hx]
    have hxu : x ∉ z :: u' := fun e => by
      have hnd2 : (z :: (u' ++ x :: n :: v)).Nodup := by simpa using hnd
      rw [← List.cons_append] at hnd2
      exact (List.nodup_append.1 hnd2).2.2 x e x (by simp) rfl
    refine ⟨?_, by simp, hnn⟩
    have := ins_app (z :: u') v x n hxu
    simpa using this
theorem Rg.drop {N : Nat} {Ls : List (List Nat)} {lk : List Lk} (h : Rg N Ls lk) {j n : Nat} {s : List Nat} (hj : Ls[j]? = some s) (hn : n ∈ s) :
    Rg N (Ls.set j (s.erase n)) (((lk.modify (prevC (N + j) s n) (nextTo (nextC (N + j) s n))).modify (nextC (N + j) s n) (prevTo (prevC (N + j) s n))).set n (-1, n, n)) := by
  have hjl : j < Ls.length := (List.getElem?_eq_some_iff.1 hj).1
  have hnd := h.nodup hj
  have hN := h.lt j s hj n hn
  obtain ⟨hs, ha, hnz⟩ := ins_back hnd hn
  generalize hat : prevC (N + j) s n = at' at *
  have hnd0 : ((N + j) :: s.erase n).Nodup := List.nodup_cons.2 ⟨fun e => (List.nodup_cons.1 hnd).1 (List.mem_of_mem_erase e), (List.nodup_cons.1 hnd).2.erase n⟩
  have hnext : nextC (N + j) s n = nextC (N + j) (s.erase n) at' := by
    rw [nextC_ins hs ha hnz, if_neg (show ¬ n = at' from fun e => hnz (by rw [← e] at ha; exact ha)), if_pos rfl]
  obtain ⟨hpn, hnx⟩ := prev_next hnd0 ha
  rw [hnext]
  have hnode : n ≠ at' := fun e => hnz (by rw [← e] at ha; exact ha)
  have hnn : n ≠ nextC (N + j) (s.erase n) at' := fun e => hnz (by have h1 := hnx; rw [← e] at h1; exact h1)
  have hnl : n < lk.length := by rw [h.len]; omega
  have hmem : ∀ i, i ∈ s.erase n ↔ i ∈ s ∧ i ≠ n := fun i => by
    rw [(List.nodup_cons.1 hnd).2.mem_erase_iff]; exact and_comm
  have hget : ∀ i, i ≠ n → (((lk.modify at' (nextTo (nextC (N + j) (s.erase n) at'))).modify (nextC (N + j) (s.erase n) at') (prevTo at')).set n (-1, n, n))[i]? =
      (lk[i]?.map fun x => if at' = i then nextTo (nextC (N + j) (s.erase n) at') x else x).map fun x => if nextC (N + j) (s.erase n) at' = i then prevTo at' x else x := fun i hi => by
    rw [List.getElem?_set_ne (Ne.symm hi), List.getElem?_modify, List.getElem?_modify]
    cases lk[i]? with
    | none => rfl
    | some x =>
      simp only [Option.map_some]
      by_cases e1 : at' = i <;> by_cases e2 : nextC (N + j) (s.erase n) at' = i <;> simp [e1, e2]
  refine ⟨by simp [h.len], ?_, ?_, ?_, ?_, ?_⟩
  · intro k t hk m hm
    rcases set_get hk with ⟨_, rfl, _⟩ | ⟨_, hk⟩
    · exact h.lt j s hj m ((hmem m).1 hm).1
    · exact h.lt k t hk m hm
  · intro k t hk
    rcases set_get hk with ⟨_, rfl, _⟩ | ⟨_, hk⟩
    · exact (List.nodup_cons.1 hnd0).2
    · exact h.nd k t hk
  · intro k k' t t' hk hk' m hm hm'
    rcases set_get hk with ⟨e1, rfl, _⟩ | ⟨e1, hk2⟩ <;> rcases set_get hk' with ⟨e2, rfl, _⟩ | ⟨e2, hk2'⟩
    · omega
    · exact absurd (h.dis j k' s t' hj hk2' m ((hmem m).1 hm).1 hm') e2
    · exact absurd (h.dis k j t s hk2 hj m hm ((hmem m).1 hm').1) (Ne.symm e1)
    · exact h.dis k k' t t' hk2 hk2' m hm hm'
  · intro k t hk i hi
    rcases set_get hk with ⟨rfl, rfl, _⟩ | ⟨hne, hk⟩
    · have hin : i ≠ n := fun e => hnz (e ▸ hi)
      have hic : i ∈ (N + j) :: s := by
        rcases List.mem_cons.1 hi with e | e
        · simp [e]
        · simp [((hmem i).1 e).1]
      rw [hget i hin, h.inl j s hj i hic, nextC_ins hs ha hnz, prevC_ins hs hnd0 ha hnz hi, if_neg hin]
      obtain ⟨hnp, _⟩ := next_prev hnd0 hi
      have hiff : nextC (N + j) (s.erase n) at' = i ↔ prevC (N + j) (s.erase n) i = at' := ⟨fun e => by rw [← e]; exact hpn, fun e => by rw [← e]; exact hnp⟩
      simp only [Option.map_some]
      by_cases e1 : at' = i <;> by_cases e2 : nextC (N + j) (s.erase n) at' = i
      · rw [if_pos e1, if_pos e2, if_pos e1.symm, if_pos (hiff.1 e2)]
        simp only [nextTo, prevTo]
        rw [hiff.1 e2, e1]
      · rw [if_pos e1, if_neg e2, if_pos e1.symm, if_neg (fun e => e2 (hiff.2 e))]
        simp only [nextTo]
        rw [e1]
      · rw [if_neg e1, if_pos e2, if_neg (Ne.symm e1), if_pos (hiff.1 e2)]
        simp only [prevTo]
        rw [hiff.1 e2]
      · rw [if_neg e1, if_neg e2, if_neg (Ne.symm e1), if_neg (fun e => e2 (hiff.2 e))]
    · have hin : i ≠ n := fun e => by
        rw [e] at hi
        rcases List.mem_cons.1 hi with e | e
        · omega
        · exact hne (h.dis j k s t hj hk _ hn e)
      have hs0 : ∀ x, x ∈ (N + j) :: s.erase n → x ∈ (N + j) :: s := fun x hx => by
        rcases List.mem_cons.1 hx with e | e
        · simp [e]
        · simp [((hmem x).1 e).1]
      have e1 : at' ≠ i := fun e => hne (h.apart hj hk (e ▸ hs0 _ ha) hi)
      have e2 : nextC (N + j) (s.erase n) at' ≠ i := fun e => hne (h.apart hj hk (e ▸ hs0 _ hnx) hi)
      rw [hget i hin, h.inl k t hk i hi]
      simp [e1, e2]
  · intro i hi hfree
    by_cases hin : i = n
    · subst hin
      rw [List.getElem?_set_self (by simpa using hnl)]
    · have hold : ∀ (k : Nat) t, Ls[k]? = some t → i ∉ t := fun k t hk hit => by
        by_cases e : j = k
        · subst e
          rw [hj] at hk; cases hk
          exact hfree j _ (List.getElem?_set_self hjl) ((hmem i).2 ⟨hit, hin⟩)
        · exact hfree k t (by rw [List.getElem?_set_ne e]; exact hk) hit
      have hic : i ∉ (N + j) :: s.erase n := fun e => by
        rcases List.mem_cons.1 e with e | e
        · omega
        · exact hold j s hj ((hmem i).1 e).1
      have e1 : at' ≠ i := fun e => hic (e ▸ ha)
      have e2 : nextC (N + j) (s.erase n) at' ≠ i := fun e => hic (e ▸ hnx)
      rw [hget i hin, h.out i hi hold]
      simp [e1, e2]
end Go.Proofs.YtpbnjifefoniiaaGreatDoor
namespace Go.Proofs.YtpbnjifefoniiaaGreatDoor
open Go Go.SE
variable {w0 : World} {w : World} {l : List HP} {i : Nat} {F : Hp}
abbrev lkC (x : Lk) : List Value := [int x.1, int x.2.1, int x.2.2]
theorem lk3 (x : Lk) : (lkC x).length = 3 := rfl
abbrev rgA (b N : Nat) (lk : List Lk) (many : List Int) (r1 r2 : Option (Nat × Nat)) : HP := cells b T_ring_Rings [sv r1 lk.length, int N, sv r2 many.length]
abbrev rgB (lk : List Lk) (r1 : Option (Nat × Nat)) : HP := rowC r1 T_ring_link 3 (rows lkC lk) lk.length
abbrev rgC (many : List Int) (r2 : Option (Nat × Nat)) : HP := rowC r2 T_int 1 (ints many) many.length
theorem lk_get {lk : List Lk} {k : Nat} {x : Lk} (h : lk[k]? = some x) (q : Nat) (hq : q < 3) : (rows lkC lk)[k * 3 + q]? = (lkC x)[q]? := rows_get lkC 3 lk3 lk k q x h hq
section
variable (b N : Nat) (lk : List Lk) (many : List Int) (r1 r2 : Option (Nat × Nat))
abbrev RgS (w0 : World) (l : List HP) : WP := S w0 (rgA b N lk many r1 r2 :: rgB lk r1 :: rgC many r2 :: l)
theorem gNode (n : Int) : Does cx F_ring_Rings_node [ptr b, int n] (RgS b N lk many r1 r2 w0 l) fun v w => v = .bool (decide (0 ≤ n ∧ n < N)) ∧ RgS b N lk many r1 r2 w0 l w := by
  refine fn_enter (n := N_ring_Rings_node) fn_ring_Rings_node rfl rfl rfl ?_
  refine wk ?_
  refine el_gdec rfl rfl (fun h => ?_) (fun h => ?_)
  · have h : 0 ≤ n := h
    refine wk ?_
    exact eq_rett rfl fun w hw => ⟨by simp [pack, h], hw⟩
  · have h : ¬ 0 ≤ n := h
    refine wk ?_
    exact eq_rett rfl fun w hw => ⟨by simp [pack, h], hw⟩
theorem gList (n : Int) : Does cx F_ring_Rings_list [ptr b, int n] (RgS b N lk many r1 r2 w0 l) fun v w => v = .bool (decide (0 ≤ n ∧ n < many.length)) ∧ RgS b N lk many r1 r2 w0 l w := by
  refine fn_enter (n := N_ring_Rings_list) fn_ring_Rings_list rfl rfl rfl ?_
  refine wk ?_
  refine el_gdec rfl rfl (fun h => ?_) (fun h => ?_)
  · have h : 0 ≤ n := h
    refine wk ?_
    exact eq_rett rfl fun w hw => ⟨by simp [pack, h], hw⟩
  · have h : ¬ 0 ≤ n := h
    refine wk ?_
    exact eq_rett rfl fun w hw => ⟨by simp [pack, h], hw⟩
def tld (N n : Nat) : Int := if N ≤ n then -1 else n
theorem gTold (n : Nat) : Does cx F_ring_Rings_told [ptr b, int n] (RgS b N lk many r1 r2 w0 l) fun v w => v = int (tld N n) ∧ RgS b N lk many r1 r2 w0 l w := by
  refine fn_enter (n := N_ring_Rings_told) fn_ring_Rings_told rfl rfl rfl ?_
  refine wk ?_
  refine ej_dec rfl (fun h => ?_) (fun h => ?_)
  · have h : N ≤ n := by omega
    refine wk ?_
    exact eq_rett rfl fun w hw => ⟨by rw [tld, if_pos h]; rfl, hw⟩
  · have h : ¬ N ≤ n := by omega
    refine wk ?_
    exact eq_rett rfl fun w hw => ⟨by rw [tld, if_neg h]; rfl, hw⟩
theorem gListOf (n : Nat) (x : Lk) (hx : lk[n]? = some x) (hn : n < N) : Does cx F_ring_Rings_List [ptr b, int n] (RgS b N lk many r1 r2 w0 l) fun v w => v = int x.1 ∧ RgS b N lk many r1 r2 w0 l w := by
  have hj := (List.getElem?_eq_some_iff.1 hx).1
  refine fn_enter (n := N_ring_Rings_List) fn_ring_Rings_List rfl rfl rfl ?_
  refine wk ?_
  refine C1 (gNode b N lk many r1 r2 n) real_ring_Rings_node ?_
  rw [decide_eq_true (show (0 : Int) ≤ n ∧ (n : Int) < N by omega)]
  refine wk ?_
  refine Ixr ?_
  refine wk ?_
  refine Ldr (n * 3 + 0) (lk_get hx 0 (by decide)) ?_
  refine wk ?_
  exact eq_rett rfl fun w hw => ⟨rfl, hw⟩
end
end Go.Proofs.YtpbnjifefoniiaaGreatDoor
namespace Go.Proofs.YtpbnjifefoniiaaGreatDoor
open Go Go.SE
variable {w0 : World} {w : World} {l : List HP} {i : Nat} {F : Hp}
section
variable (b N : Nat) (lk : List Lk) (many : List Int) (r1 r2 : Option (Nat × Nat))
theorem gNext (n : Nat) (x : Lk) (hx : lk[n]? = some x) (hn : n < N) (h1 : x.1 ≠ -1) : Does cx F_ring_Rings_Next [ptr b, int n] (RgS b N lk many r1 r2 w0 l) fun v w => v = int (tld N x.2.1) ∧ RgS b N lk many r1 r2 w0 l w := by
  have hj := (List.getElem?_eq_some_iff.1 hx).1
  refine fn_enter (n := N_ring_Rings_Next) fn_ring_Rings_Next rfl rfl rfl ?_
  refine wk ?_
  refine C1 (gListOf b N lk many r1 r2 n x hx hn) real_ring_Rings_List ?_
  refine wk ?_
  refine ej_dec rfl (fun h => absurd h h1) (fun _ => ?_)
  refine wk ?_
  refine Ixr ?_
  refine wk ?_
  refine Ldr (n * 3 + 1) (lk_get hx 1 (by decide)) ?_
  refine C1 (gTold b N lk many r1 r2 x.2.1) real_ring_Rings_told ?_
  refine wk ?_
  exact eq_rett rfl fun w hw => ⟨rfl, hw⟩
theorem gPrev (n : Nat) (x : Lk) (hx : lk[n]? = some x) (hn : n < N) (h1 : x.1 ≠ -1) : Does cx F_ring_Rings_Prev [ptr b, int n] (RgS b N lk many r1 r2 w0 l) fun v w => v = int (tld N x.2.2) ∧ RgS b N lk many r1 r2 w0 l w := by
  have hj := (List.getElem?_eq_some_iff.1 hx).1
  refine fn_enter (n := N_ring_Rings_Prev) fn_ring_Rings_Prev rfl rfl rfl ?_
  refine wk ?_
  refine C1 (gListOf b N lk many r1 r2 n x hx hn) real_ring_Rings_List ?_
  refine wk ?_
  refine ej_dec rfl (fun h => absurd h h1) (fun _ => ?_)
  refine wk ?_
  refine Ixr ?_
  refine wk ?_
  refine Ldr (n * 3 + 2) (lk_get hx 2 (by decide)) ?_
  refine C1 (gTold b N lk many r1 r2 x.2.2) real_ring_Rings_told ?_
  refine wk ?_
  exact eq_rett rfl fun w hw => ⟨rfl, hw⟩
theorem gFree (n : Nat) (x : Lk) (hx : lk[n]? = some x) (hn : n < N) (h1 : x.1 = -1) : Does cx F_ring_Rings_free [ptr b, int n] (RgS b N lk many r1 r2 w0 l) fun v w => v = int 0 ∧ RgS b N lk many r1 r2 w0 l w := by
  have hj := (List.getElem?_eq_some_iff.1 hx).1
  refine fn_enter (n := N_ring_Rings_free) fn_ring_Rings_free rfl rfl rfl ?_
  refine wk ?_
  refine C1 (gNode b N lk many r1 r2 n) real_ring_Rings_node ?_
  rw [decide_eq_true (show (0 : Int) ≤ n ∧ (n : Int) < N by omega)]
  refine wk ?_
  refine Ixr ?_
  refine wk ?_
  refine Ldr (n * 3 + 0) (lk_get hx 0 (by decide)) ?_
  refine wk ?_
  refine ej_dec rfl (fun h => absurd h1 h) (fun _ => ?_)
  refine wk ?_
  exact eq_rett rfl fun w hw => ⟨rfl, hw⟩
theorem gFirst (j : Nat) (x : Lk) (hx : lk[N + j]? = some x) (hm : j < many.length) (hN : N ≤ 1000000) (hm2 : many.length ≤ 1000000) : Does cx F_ring_Rings_First [ptr b, int j] (RgS b N lk many r1 r2 w0 l) fun v w => v = int (tld N x.2.1) ∧ RgS b N lk many r1 r2 w0 l w := by
  have hj := (List.getElem?_eq_some_iff.1 hx).1
  refine fn_enter (n := N_ring_Rings_First) fn_ring_Rings_First rfl rfl rfl ?_
  refine ej_know (fun w hw => hw.row_some (i := 1) rfl (by omega)) fun hr => ?_
  obtain ⟨⟨g, c⟩, rfl⟩ := hr
  refine wk ?_
  refine C1 (gList b N lk many _ r2 j) real_ring_Rings_list ?_
  rw [decide_eq_true (show (0 : Int) ≤ j ∧ (j : Int) < many.length by omega)]
  refine wk ?_
  have hI : ∀ w, RgS b N lk many (some (g, c)) r2 w0 l w → Held w0 [rgA b N lk many (some (g, c)) r2, rgB lk (some (g, c))] w := held2 (i := 0) (j := 1) rfl rfl
  refine ej_held [rgA b N lk many (some (g, c)) r2, rgB lk (some (g, c))] ?_
  refine tk 0 ?_
  refine tk 1 ?_
  refine tk 2 ?_
  refine tk 3 ?_
  refine tv 4 rfl (rLd 0) ?_
  refine tk 5 ?_
  refine tk 6 ?_
  refine tk 7 ?_
  refine tv 8 rfl (rLd 0) ?_
  refine tk 9 ?_
  refine tv 10 rfl rArith ?_
  refine tv 11 rfl rIxr ?_
  refine tk 12 ?_
  refine tv 13 rfl (rLdR (r := some (g, c)) ((N + j) * 3 + 1) (lk_get hx 1 (by decide))) ?_
  refine w1 14 rfl (gTold b N lk many _ r2 x.2.1) real_ring_Rings_told hI ?_
  refine tk 15 ?_
  refine wd ?_
  refine wk ?_
  exact eq_rett rfl fun w hw => ⟨rfl, hw⟩
theorem gLast (j : Nat) (x : Lk) (hx : lk[N + j]? = some x) (hm : j < many.length) (hN : N ≤ 1000000) (hm2 : many.length ≤ 1000000) : Does cx F_ring_Rings_Last [ptr b, int j] (RgS b N lk many r1 r2 w0 l) fun v w => v = int (tld N x.2.2) ∧ RgS b N lk many r1 r2 w0 l w := by
  have hj := (List.getElem?_eq_some_iff.1 hx).1
  refine fn_enter (n := N_ring_Rings_Last) fn_ring_Rings_Last rfl rfl rfl ?_
  refine ej_know (fun w hw => hw.row_some (i := 1) rfl (by omega)) fun hr => ?_
  obtain ⟨⟨g, c⟩, rfl⟩ := hr
  refine wk ?_
  refine C1 (gList b N lk many _ r2 j) real_ring_Rings_list ?_
  rw [decide_eq_true (show (0 : Int) ≤ j ∧ (j : Int) < many.length by omega)]
  refine wk ?_
  have hI : ∀ w, RgS b N lk many (some (g, c)) r2 w0 l w → Held w0 [rgA b N lk many (some (g, c)) r2, rgB lk (some (g, c))] w := held2 (i := 0) (j := 1) rfl rfl
  refine ej_held [rgA b N lk many (some (g, c)) r2, rgB lk (some (g, c))] ?_
  refine tk 0 ?_
  refine tk 1 ?_
  refine tk 2 ?_
  refine tk 3 ?_
  refine tv 4 rfl (rLd 0) ?_
  refine tk 5 ?_
  refine tk 6 ?_
  refine tk 7 ?_
  refine tv 8 rfl (rLd 0) ?_
  refine tk 9 ?_
  refine tv 10 rfl rArith ?_
  refine tv 11 rfl rIxr ?_
  refine tk 12 ?_
  refine tv 13 rfl (rLdR (r := some (g, c)) ((N + j) * 3 + 2) (lk_get hx 2 (by decide))) ?_
  refine w1 14 rfl (gTold b N lk many _ r2 x.2.2) real_ring_Rings_told hI ?_
  refine tk 15 ?_
  refine wd ?_
  refine wk ?_
  exact eq_rett rfl fun w hw => ⟨rfl, hw⟩
end
end Go.Proofs.YtpbnjifefoniiaaGreatDoor
namespace Go.Proofs.YtpbnjifefoniiaaGreatDoor
open Go Go.SE
variable {w0 : World} {w : World} {l : List HP} {i : Nat} {F : Hp}
theorem set_one {lk : List Lk} {k q : Nat} {x y : Lk} {v : Value} (hx : lk[k]? = some x) (hq : q < 3) (he : (lkC x).set q v = lkC y) : (rows lkC lk).set (k * 3 + q) v = rows lkC (lk.set k y) := by
  have hk := (List.getElem?_eq_some_iff.1 hx).1
  have l1 := rows_length lkC 3 lk3 lk
  have l2 := rows_length lkC 3 lk3 (lk.set k y)
  refine List.ext_getElem? fun t => ?_
  by_cases ht : t < lk.length * 3
  · have e : t / 3 * 3 + t % 3 = t := Nat.div_add_mod' t 3
    have hj : t / 3 < lk.length := (Nat.div_lt_iff_lt_mul (by decide)).2 ht
    obtain ⟨a, ha⟩ : ∃ a, lk[t / 3]? = some a := ⟨_, List.getElem?_eq_getElem hj⟩
    have g1 := lk_get ha (t % 3) (Nat.mod_lt _ (by decide))
    rw [e] at g1
    by_cases h1 : t / 3 = k
    · have ha2 : (lk.set k y)[t / 3]? = some y := by rw [h1, List.getElem?_set_self hk]
      have g2 := lk_get ha2 (t % 3) (Nat.mod_lt _ (by decide))
      rw [e] at g2
      rw [g2, ← he]
      have hax : a = x := by rw [h1] at ha; rw [ha] at hx; exact Option.some.inj hx
      subst hax
      rw [List.getElem?_set, List.getElem?_set]
      by_cases h2 : k * 3 + q = t
      · have h3 : q = t % 3 := by omega
        rw [if_pos h2, if_pos h3, if_pos (by omega), if_pos (by rw [lk3]; exact hq)]
      · have h3 : ¬ q = t % 3 := by omega
        rw [if_neg h2, if_neg h3, g1]
    · have ha2 : (lk.set k y)[t / 3]? = some a := by rw [List.getElem?_set_ne (Ne.symm h1)]; exact ha
      have g2 := lk_get ha2 (t % 3) (Nat.mod_lt _ (by decide))
      rw [e] at g2
      rw [g2, List.getElem?_set_ne (by omega), g1]
  · rw [List.getElem?_eq_none (by rw [List.length_set]; omega), List.getElem?_eq_none (by rw [l2, List.length_set]; omega)]
theorem modify_lk {lk : List Lk} {k : Nat} {x : Lk} (f : Lk → Lk) (h : lk[k]? = some x) : lk.modify k f = lk.set k (f x) := modify_set f h
theorem set_next {lk : List Lk} {k v : Nat} (hk : k < lk.length) : (rows lkC lk).set (k * 3 + 1) (int v) = rows lkC (lk.modify k (nextTo v)) := by
  obtain ⟨x, hx⟩ : ∃ x, lk[k]? = some x := ⟨_, List.getElem?_eq_getElem hk⟩
  rw [modify_lk _ hx]; exact set_one hx (by decide) rfl
theorem set_prev {lk : List Lk} {k v : Nat} (hk : k < lk.length) : (rows lkC lk).set (k * 3 + 2) (int v) = rows lkC (lk.modify k (prevTo v)) := by
  obtain ⟨x, hx⟩ : ∃ x, lk[k]? = some x := ⟨_, List.getElem?_eq_getElem hk⟩
  rw [modify_lk _ hx]; exact set_one hx (by decide) rfl
end Go.Proofs.YtpbnjifefoniiaaGreatDoor
namespace Go.Proofs.YtpbnjifefoniiaaGreatDoor
open Go Go.SE
variable {w0 : World} {w : World} {l : List HP} {i : Nat} {F : Hp}
section
variable (b N : Nat) (lk : List Lk) (many : List Int) (r1 r2 : Option (Nat × Nat))
def putL (lk : List Lk) (j at' nx node : Nat) : List Lk := ((lk.set node ((j : Int), nx, at')).modify at' (nextTo node)).modify nx (prevTo node)
theorem putL_len (lk : List Lk) (j at' nx node : Nat) : (putL lk j at' nx node).length = lk.length := by simp [putL]
set_option maxHeartbeats 1600000 in
theorem gPut (at' node j nx pv : Nat) (q : Int) (hx : lk[at']? = some ((j : Int), nx, pv)) (hn : node < lk.length) (hnx : nx < lk.length) (hq : many[j]? = some q) (hqb : 0 ≤ q ∧ q ≤ 100000) :
    Does cx F_ring_Rings_put [ptr b, int at', int node] (RgS b N lk many r1 r2 w0 l) fun v w => v = .tuple #[] ∧ RgS b N (putL lk j at' nx node) (many.set j (q + 1)) r1 r2 w0 l w := by
  have hat := (List.getElem?_eq_some_iff.1 hx).1
  have hj := (List.getElem?_eq_some_iff.1 hq).1
  refine fn_enter (n := N_ring_Rings_put) fn_ring_Rings_put rfl rfl rfl ?_
  refine ej_know (fun w hw => hw.row_some (i := 1) rfl (by omega)) fun hr => ?_
  obtain ⟨⟨g, c⟩, rfl⟩ := hr
  refine wk ?_
  have hI : ∀ w, RgS b N lk many (some (g, c)) r2 w0 l w → Held w0 [rgA b N lk many (some (g, c)) r2, rgB lk (some (g, c))] w := held2 (i := 0) (j := 1) rfl rfl
  refine ej_held [rgA b N lk many (some (g, c)) r2, rgB lk (some (g, c))] ?_
  refine tk 0 ?_
  refine tk 1 ?_
  refine tk 2 ?_
  refine tv 3 rfl (rLd 0) ?_
  refine tk 4 ?_
  refine tv 5 rfl rIxr ?_
  refine tk 6 ?_
  refine tv 7 rfl (rLdR (r := some (g, c)) (at' * 3 + 0) (lk_get hx 0 (by decide))) ?_
  refine tk 8 ?_
  refine tk 9 ?_
  refine tk 10 ?_
  refine tv 11 rfl (rLd 0) ?_
  refine tk 12 ?_
  refine tv 13 rfl rIxr ?_
  refine tk 14 ?_
  refine tv 15 rfl (rLdR (r := some (g, c)) (at' * 3 + 1) (lk_get hx 1 (by decide))) ?_
  refine tk 16 ?_
  refine tk 17 ?_
  refine wd ?_
  refine wk ?_
  refine ec (oBuild (cs := lkC ((j : Int), nx, at')) ?_)
  refine Ixr ?_
  have hrl := rows_length lkC 3 lk3 lk
  refine el_cons rfl (eo_strA 1 (cs := lkC ((j : Int), nx, at')) rfl rfl rfl rfl rfl rfl rfl rfl (by rw [hrl]; show (node : Int).toNat * 3 + 3 ≤ _; omega) (by rw [hrl]; omega) ?_)
  obtain ⟨lk1, hlk1⟩ : ∃ lk1, lk1 = lk.set node ((j : Int), nx, at') := ⟨_, rfl⟩
  have hl1 : lk1.length = lk.length := by rw [hlk1, List.length_set]
  refine el_imp (H' := S w0 (rgA b N lk1 many (some (g, c)) r2 :: rgB lk1 (some (g, c)) :: rgC many r2 :: l)) (fun w hw => ?_) ?_
  · have h1 : S w0 (rgA b N lk many (some (g, c)) r2 :: rowC (some (g, c)) T_ring_link 3 (splice (rows lkC lk) ((node : Int).toNat * 3) (lkC ((j : Int), nx, at'))) lk.length :: rgC many r2 :: l) w := hw
    rw [show (node : Int).toNat = node by omega, rows_set lkC 3 lk3 lk node _ hn, ← hlk1] at h1
    rw [rgA, rgB, hl1]; exact h1
  refine wk ?_
  have hI1 : ∀ (y : HP) (w : World), S w0 (rgA b N lk1 many (some (g, c)) r2 :: y :: rgC many r2 :: l) w → Held w0 [rgA b N lk1 many (some (g, c)) r2] w := fun y => held1 (i := 0) rfl
  have hI2 := hI1 (rgB lk1 (some (g, c)))
  refine ej_held [rgA b N lk1 many (some (g, c)) r2] ?_
  refine tk 0 ?_
  refine tk 1 ?_
  refine tk 2 ?_
  refine tv 3 rfl (rLd 0) ?_
  refine tk 4 ?_
  refine tk 5 ?_
  refine tk 6 ?_
  refine tk 7 ?_
  refine tv 8 rfl (rLd 0) ?_
  refine tk 9 ?_
  refine tk 10 ?_
  refine tk 11 ?_
  refine tv 12 rfl rIxr ?_
  refine tk 13 ?_
  have hrl1 := rows_length lkC 3 lk3 lk1
  refine wv 14 rfl (eo_str 1 (r := some (g, c)) rfl rfl rfl rfl rfl rfl rfl rfl rfl (by rw [hrl1]; show (at' : Int).toNat * 3 + 1 < _; omega) ⟨hI1 _, ?_⟩)
  have hI3 := hI1 (rowC (some (g, c)) T_ring_link 3 ((rows lkC lk1).set ((at' : Int).toNat * 3 + 1) (int node)) lk1.length)
  refine tv 15 rfl (rIxr (hix := ⟨by show (0 : Int) ≤ nx; omega, by show (nx : Int) < lk1.length; omega⟩)) ?_
  refine tk 16 ?_
  refine wv 17 rfl (eo_str 1 (r := some (g, c)) rfl rfl rfl rfl rfl rfl rfl rfl rfl (by rw [List.length_set, hrl1]; show (nx : Int).toNat * 3 + 2 < _; omega) ⟨hI1 _, ?_⟩)
  refine wd ?_
  obtain ⟨lk2, hlk2⟩ : ∃ lk2, lk2 = putL lk j at' nx node := ⟨_, rfl⟩
  have hl2 : lk2.length = lk.length := by rw [hlk2, putL_len]
  refine eq_imp (H' := S w0 (rgA b N lk2 many (some (g, c)) r2 :: rgB lk2 (some (g, c)) :: rgC many r2 :: l)) (fun w hw => ?_) ?_
  · have h1 : S w0 (rgA b N lk1 many (some (g, c)) r2 :: rowC (some (g, c)) T_ring_link 3 (((rows lkC lk1).set ((at' : Int).toNat * 3 + 1) (int node)).set ((nx : Int).toNat * 3 + 2) (int node)) lk1.length :: rgC many r2 :: l) w := hw
    rw [show (at' : Int).toNat = at' by omega, show (nx : Int).toNat = nx by omega, set_next (by omega), set_prev (by rw [List.length_modify]; omega), hlk1] at h1
    rw [rgA, rgB, hl2, hlk2]
    rw [rgA, List.length_set] at h1
    exact h1
  rw [← hlk2]
  refine wk ?_
  refine Ixr ?_
  refine Ldr j (ints_get hq) ?_
  refine wk ?_
  refine Ixr ?_
  refine Str j ?_ (hl := by rw [List.length_map]; exact hj)
  refine wk ?_
  refine eq_end [] rvs_nil fun w hw => ⟨rfl, ?_⟩
  show S w0 _ _
  rw [rgA, rgC, List.length_set, show ints (many.set j (q + 1)) = (ints many).set j (int (q + 1)) from List.map_set ..]
  exact hw
end
end Go.Proofs.YtpbnjifefoniiaaGreatDoor
namespace Go.Proofs.YtpbnjifefoniiaaGreatDoor
open Go Go.SE
variable {w0 : World} {w : World} {l : List HP} {i : Nat} {F : Hp}
section
variable (b N : Nat) (lk : List Lk) (many : List Int) (r1 r2 : Option (Nat × Nat))
theorem gLead (node j nx pv n1 p1 : Nat) (q : Int) (hx : lk[N + j]? = some ((j : Int), nx, pv)) (hn : node < N) (hf : lk[node]? = some (-1, n1, p1)) (hnx : nx < lk.length) (hq : many[j]? = some q) (hqb : 0 ≤ q ∧ q ≤ 100000) (hN : N ≤ 1000000) (hm2 : many.length ≤ 1000000) :
    Does cx F_ring_Rings_Lead [ptr b, int j, int node] (RgS b N lk many r1 r2 w0 l) fun v w => v = int 0 ∧ RgS b N (putL lk j (N + j) nx node) (many.set j (q + 1)) r1 r2 w0 l w := by
  have hj := (List.getElem?_eq_some_iff.1 hq).1
  have hnl := (List.getElem?_eq_some_iff.1 hf).1
  refine fn_enter (n := N_ring_Rings_Lead) fn_ring_Rings_Lead rfl rfl rfl ?_
  refine wk ?_
  refine C1 (gList b N lk many r1 r2 j) real_ring_Rings_list ?_
  rw [decide_eq_true (show (0 : Int) ≤ j ∧ (j : Int) < many.length by omega)]
  refine wk ?_
  refine C1 (gFree b N lk many r1 r2 node _ hf hn rfl) real_ring_Rings_free ?_
  refine wk ?_
  refine C1 (gPut b N lk many r1 r2 (N + j) node j nx pv q hx hnl hnx hq hqb) real_ring_Rings_put ?_
  refine wk ?_
  exact eq_rett rfl fun w hw => ⟨rfl, hw⟩
theorem gBehind (at' node j nx pv n1 p1 : Nat) (q : Int) (hx : lk[at']? = some ((j : Int), nx, pv)) (ha : at' < N) (hn : node < N) (hf : lk[node]? = some (-1, n1, p1)) (hnx : nx < lk.length) (hq : many[j]? = some q) (hqb : 0 ≤ q ∧ q ≤ 100000) :
    Does cx F_ring_Rings_Behind [ptr b, int at', int node] (RgS b N lk many r1 r2 w0 l) fun v w => v = int 0 ∧ RgS b N (putL lk j at' nx node) (many.set j (q + 1)) r1 r2 w0 l w := by
  have hj := (List.getElem?_eq_some_iff.1 hq).1
  have hnl := (List.getElem?_eq_some_iff.1 hf).1
  have hal := (List.getElem?_eq_some_iff.1 hx).1
  refine fn_enter (n := N_ring_Rings_Behind) fn_ring_Rings_Behind rfl rfl rfl ?_
  refine wk ?_
  refine C1 (gNode b N lk many r1 r2 at') real_ring_Rings_node ?_
  rw [decide_eq_true (show (0 : Int) ≤ at' ∧ (at' : Int) < N by omega)]
  refine wk ?_
  refine C1 (gNode b N lk many r1 r2 node) real_ring_Rings_node ?_
  rw [decide_eq_true (show (0 : Int) ≤ node ∧ (node : Int) < N by omega)]
  refine wk ?_
  refine Ixr ?_
  refine wk ?_
  refine Ldr (at' * 3 + 0) (lk_get hx 0 (by decide)) ?_
  refine wk ?_
  refine C1 (gFree b N lk many r1 r2 node _ hf hn rfl) real_ring_Rings_free ?_
  refine wk ?_
  refine C1 (gPut b N lk many r1 r2 at' node j nx pv q hx hnl hnx hq hqb) real_ring_Rings_put ?_
  refine wk ?_
  exact eq_rett rfl fun w hw => ⟨rfl, hw⟩
end
end Go.Proofs.YtpbnjifefoniiaaGreatDoor
namespace Go.Proofs.YtpbnjifefoniiaaGreatDoor
open Go Go.SE
variable {w0 : World} {w : World} {l : List HP} {i : Nat} {F : Hp}
section
variable (b N : Nat) (lk : List Lk) (many : List Int) (r1 r2 : Option (Nat × Nat))
def dropL (lk : List Lk) (n nx pv : Nat) : List Lk := ((lk.modify pv (nextTo nx)).modify nx (prevTo pv)).set n (-1, n, n)
theorem dropL_len (lk : List Lk) (n nx pv : Nat) : (dropL lk n nx pv).length = lk.length := by simp [dropL]
set_option maxHeartbeats 1600000 in
theorem gDrop (n j nx pv : Nat) (q : Int) (hx : lk[n]? = some ((j : Int), nx, pv)) (hn : n < N) (hnx : nx < lk.length) (hpv : pv < lk.length) (hq : many[j]? = some q) (hqb : 0 ≤ q ∧ q ≤ 100000) :
    Does cx F_ring_Rings_Drop [ptr b, int n] (RgS b N lk many r1 r2 w0 l) fun v w => v = int 0 ∧ RgS b N (dropL lk n nx pv) (many.set j (q - 1)) r1 r2 w0 l w := by
  have hnl := (List.getElem?_eq_some_iff.1 hx).1
  have hj := (List.getElem?_eq_some_iff.1 hq).1
  refine fn_enter (n := N_ring_Rings_Drop) fn_ring_Rings_Drop rfl rfl rfl ?_
  refine ej_know (fun w hw => hw.row_some (i := 1) rfl (by omega)) fun hr => ?_
  obtain ⟨⟨g, c⟩, rfl⟩ := hr
  refine ej_know (fun w hw => hw.row_some (i := 2) rfl (by omega)) fun hr => ?_
  obtain ⟨⟨g2, c2⟩, rfl⟩ := hr
  refine wk ?_
  refine C1 (gNode b N lk many _ _ n) real_ring_Rings_node ?_
  rw [decide_eq_true (show (0 : Int) ≤ n ∧ (n : Int) < N by omega)]
  refine wk ?_
  refine Ixr ?_
  refine LdrA (cs := lkC ((j : Int), nx, pv)) (n * 3) (fun q hq => lk_get hx q hq) ?_
  refine ec (oAlloc fun b5 => ?_)
  refine ec (oStA (vs := lkC ((j : Int), nx, pv)) 0 ?_)
  refine wk ?_
  have hrl := rows_length lkC 3 lk3 lk
  have hI1 : ∀ (y : HP) (w : World), S w0 (cells b5 T_ring_link [int j, int nx, int pv] :: rgA b N lk many (some (g, c)) (some (g2, c2)) :: y :: rgC many (some (g2, c2)) :: l) w → Held w0 [cells b5 T_ring_link [int j, int nx, int pv], rgA b N lk many (some (g, c)) (some (g2, c2))] w := fun y => held2 (i := 0) (j := 1) rfl rfl
  have hI2 := hI1 (rgB lk (some (g, c)))
  refine ej_held [cells b5 T_ring_link [int j, int nx, int pv], rgA b N lk many (some (g, c)) (some (g2, c2))] ?_
  refine tk 0 ?_
  refine tk 1 ?_
  refine tk 2 ?_
  refine tv 3 rfl (rLd 1) ?_
  refine tk 4 ?_
  refine tv 5 rfl (rLd 0) ?_
  refine tk 6 ?_
  refine tk 7 ?_
  refine tk 8 ?_
  refine tv 9 rfl (rLd 1) ?_
  refine tk 10 ?_
  refine tv 11 rfl (rLd 0) ?_
  refine tk 12 ?_
  refine tv 13 rfl (rLd 0) ?_
  refine tk 14 ?_
  refine tv 15 rfl (rLd 0) ?_
  refine tv 16 rfl rIxr ?_
  refine tk 17 ?_
  refine wv 18 rfl (eo_str 2 (r := some (g, c)) rfl rfl rfl rfl rfl rfl rfl rfl rfl (by rw [hrl]; show (pv : Int).toNat * 3 + 1 < _; omega) ⟨hI1 _, ?_⟩)
  have hI3 := hI1 (rowC (some (g, c)) T_ring_link 3 ((rows lkC lk).set ((pv : Int).toNat * 3 + 1) (int nx)) lk.length)
  refine tv 19 rfl rIxr ?_
  refine tk 20 ?_
  refine wv 21 rfl (eo_str 2 (r := some (g, c)) rfl rfl rfl rfl rfl rfl rfl rfl rfl (by rw [List.length_set, hrl]; show (nx : Int).toNat * 3 + 2 < _; omega) ⟨hI1 _, ?_⟩)
  refine wd ?_
  obtain ⟨lk1, hlk1⟩ : ∃ lk1, lk1 = (lk.modify pv (nextTo nx)).modify nx (prevTo pv) := ⟨_, rfl⟩
  have hl1 : lk1.length = lk.length := by rw [hlk1]; simp
  refine eq_imp (H' := S w0 (cells b5 T_ring_link [int j, int nx, int pv] :: rgA b N lk1 many (some (g, c)) (some (g2, c2)) :: rgB lk1 (some (g, c)) :: rgC many (some (g2, c2)) :: l)) (fun w hw => ?_) ?_
  · have h1 : S w0 (cells b5 T_ring_link [int j, int nx, int pv] :: rgA b N lk many (some (g, c)) (some (g2, c2)) :: rowC (some (g, c)) T_ring_link 3 (((rows lkC lk).set ((pv : Int).toNat * 3 + 1) (int nx)).set ((nx : Int).toNat * 3 + 2) (int pv)) lk.length :: rgC many (some (g2, c2)) :: l) w := hw
    rw [show (pv : Int).toNat = pv by omega, show (nx : Int).toNat = nx by omega, set_next hpv, set_prev (by rw [List.length_modify]; exact hnx), ← hlk1] at h1
    rw [rgA, rgB, hl1]
    exact h1
  refine wk ?_
  refine ec (oBuild (cs := lkC (-1, n, n)) ?_)
  refine Ixr ?_
  have hrl1 := rows_length lkC 3 lk3 lk1
  refine el_cons rfl (eo_strA 2 (cs := lkC (-1, n, n)) rfl rfl rfl rfl rfl rfl rfl rfl (by rw [hrl1]; show (n : Int).toNat * 3 + 3 ≤ _; omega) (by rw [hrl1]; omega) ?_)
  obtain ⟨lk2, hlk2⟩ : ∃ lk2, lk2 = dropL lk n nx pv := ⟨_, rfl⟩
  have hl2 : lk2.length = lk.length := by rw [hlk2, dropL_len]
  refine el_imp (H' := S w0 (cells b5 T_ring_link [int j, int nx, int pv] :: rgA b N lk2 many (some (g, c)) (some (g2, c2)) :: rgB lk2 (some (g, c)) :: rgC many (some (g2, c2)) :: l)) (fun w hw => ?_) ?_
  · have h1 : S w0 (cells b5 T_ring_link [int j, int nx, int pv] :: rgA b N lk1 many (some (g, c)) (some (g2, c2)) :: rowC (some (g, c)) T_ring_link 3 (splice (rows lkC lk1) ((n : Int).toNat * 3) (lkC (-1, n, n))) lk1.length :: rgC many (some (g2, c2)) :: l) w := hw
    rw [show (n : Int).toNat = n by omega, rows_set lkC 3 lk3 lk1 n _ (by omega), hlk1] at h1
    rw [rgA, rgB, hl2, hlk2]
    rw [rgA, ← hlk1, hl1] at h1
    rw [dropL, ← hlk1]
    exact h1
  rw [← hlk2]
  refine wk ?_
  have hI4 : ∀ (y : HP) (w : World), S w0 (cells b5 T_ring_link [int j, int nx, int pv] :: rgA b N lk2 many (some (g, c)) (some (g2, c2)) :: rgB lk2 (some (g, c)) :: y :: l) w → Held w0 [cells b5 T_ring_link [int j, int nx, int pv], rgA b N lk2 many (some (g, c)) (some (g2, c2))] w := fun y => held2 (i := 0) (j := 1) rfl rfl
  have hI5 := hI4 (rgC many (some (g2, c2)))
  refine ej_held [cells b5 T_ring_link [int j, int nx, int pv], rgA b N lk2 many (some (g, c)) (some (g2, c2))] ?_
  refine tk 0 ?_
  refine tk 1 ?_
  refine tk 2 ?_
  refine tv 3 rfl (rLd 1) ?_
  refine tk 4 ?_
  refine tv 5 rfl (rLd 0) ?_
  refine tv 6 rfl rIxr ?_
  refine wv 7 rfl (eo_ldr 3 (r := some (g2, c2)) rfl rfl rfl rfl rfl rfl rfl (by show (ints many)[(j : Int).toNat * 1]? = some (int q); rw [show (j : Int).toNat * 1 = j by omega]; exact ints_get hq) ⟨hI5, ?_⟩)
  refine tv 8 rfl rArith ?_
  refine tv 9 rfl rIxr ?_
  refine wv 10 rfl (eo_str 3 (r := some (g2, c2)) rfl rfl rfl rfl rfl rfl rfl rfl rfl (by rw [List.length_map]; show (j : Int).toNat * 1 < _; omega) ⟨hI4 _, ?_⟩)
  refine wd ?_
  refine wk ?_
  refine eq_rett rfl fun w hw => ⟨rfl, ?_⟩
  show S w0 _ _
  have h1 : S w0 (cells b5 T_ring_link [int j, int nx, int pv] :: rgA b N lk2 many (some (g, c)) (some (g2, c2)) :: rgB lk2 (some (g, c)) :: rowC (some (g2, c2)) T_int 1 ((ints many).set ((j : Int).toNat * 1) (int (q - 1))) many.length :: l) w := hw
  rw [show (j : Int).toNat * 1 = j by omega] at h1
  rw [rgA, rgC, List.length_set, show ints (many.set j (q - 1)) = (ints many).set j (int (q - 1)) from List.map_set ..]
  exact h1.erase 0
end
end Go.Proofs.YtpbnjifefoniiaaGreatDoor
namespace Go.Proofs.YtpbnjifefoniiaaGreatDoor
open Go Go.SE
variable {w0 : World} {w : World} {l : List HP} {i : Nat} {F : Hp}
theorem nextP_app : ∀ (u v : List Nat) (d n : Nat), n ∉ u → nextP (u ++ n :: v) d n = v.headD d
  | [], v, d, n, _ => by simp [nextP]
  | x :: u, v, d, n, h => by
    rw [List.cons_append, nextP, if_neg (fun e => h (by simp [e])), nextP_app u v d n (fun e => h (by simp [e]))]
theorem prevP_app : ∀ (u v : List Nat) (a n : Nat), n ∉ u → prevP (u ++ n :: v) a n = u.getLastD a
  | [], v, a, n, _ => by simp [prevP]
  | x :: u, v, a, n, h => by
    rw [List.cons_append, prevP, if_neg (fun e => h (by simp [e])), prevP_app u v x n (fun e => h (by simp [e]))]
    cases u <;> rfl
theorem nextC_app {z n : Nat} {u v : List Nat} (hz : z ≠ n) (h : n ∉ u) : nextC z (u ++ n :: v) n = v.headD z := by
  rw [nextC, nextP, if_neg hz, nextP_app u v z n h]
theorem prevC_app {z n : Nat} {u v : List Nat} (hz : z ≠ n) (h : n ∉ u) : prevC z (u ++ n :: v) n = u.getLastD z := by
  rw [prevC, prevP, if_neg hz, prevP_app u v z n h]
theorem nextC_head (z : Nat) (s : List Nat) : nextC z s z = s.headD z := by rw [nextC, nextP, if_pos rfl]
theorem prevC_head (z : Nat) (s : List Nat) : prevC z s z = s.getLastD z := by rw [prevC, prevP, if_pos rfl]
def hdI (v : List Nat) : Int := match v.head? with | some n => n | none => -1
def ltI (u : List Nat) : Int := match u.getLast? with | some n => n | none => -1
theorem tld_hd {N j : Nat} {v : List Nat} (h : ∀ n ∈ v, n < N) : tld N (v.headD (N + j)) = hdI v := by
  cases v with
  | nil => rw [List.headD_nil, tld, if_pos (by omega)]; rfl
  | cons x v =>
    have := h x (by simp)
    rw [List.headD_cons, tld, if_neg (by omega)]; rfl
theorem tld_lt {N j : Nat} {u : List Nat} (h : ∀ n ∈ u, n < N) : tld N (u.getLastD (N + j)) = ltI u := by
  rw [List.getLastD_eq_getLast?, ltI]
  cases hu : u.getLast? with
  | none => rw [Option.getD_none, tld, if_pos (by omega)]
  | some x =>
    have := h x (List.mem_of_getLast? hu)
    rw [Option.getD_some, tld, if_neg (by omega)]
variable {N : Nat} {Ls : List (List Nat)} {lk : List Lk}
theorem Rg.end_ (h : Rg N Ls lk) {j : Nat} {s : List Nat} (hj : Ls[j]? = some s) : lk[N + j]? = some ((j : Int), s.headD (N + j), s.getLastD (N + j)) := by
  have := h.inl j s hj (N + j) (by simp)
  rw [nextC_head, prevC_head] at this; exact this
theorem Rg.mid (h : Rg N Ls lk) {j n : Nat} {u v : List Nat} (hj : Ls[j]? = some (u ++ n :: v)) : lk[n]? = some ((j : Int), v.headD (N + j), u.getLastD (N + j)) := by
  have hn : n < N := h.lt j _ hj n (by simp)
  have hnd := h.nd j _ hj
  have hu : n ∉ u := fun hm => by
    have := (List.nodup_append.1 hnd).2.2 n hm n (by simp)
    exact this rfl
  have := h.inl j _ hj n (by simp)
  rw [nextC_app (by omega) hu, prevC_app (by omega) hu] at this; exact this
theorem Rg.ltN (h : Rg N Ls lk) {j : Nat} {s : List Nat} (hj : Ls[j]? = some s) : N + j < lk.length := by
  have := (List.getElem?_eq_some_iff.1 hj).1
  rw [h.len]; omega
theorem Rg.nx_lt (h : Rg N Ls lk) {j : Nat} {s v : List Nat} (hj : Ls[j]? = some s) (hv : ∀ n ∈ v, n ∈ s) : v.headD (N + j) < lk.length := by
  have h1 := h.ltN hj
  cases v with
  | nil => exact h1
  | cons x v => have := h.lt j s hj x (hv x (by simp)); rw [List.headD_cons]; omega
theorem Rg.pv_lt (h : Rg N Ls lk) {j : Nat} {s u : List Nat} (hj : Ls[j]? = some s) (hv : ∀ n ∈ u, n ∈ s) : u.getLastD (N + j) < lk.length := by
  have h1 := h.ltN hj
  rw [List.getLastD_eq_getLast?]
  cases hu : u.getLast? with
  | none => exact h1
  | some x => have := h.lt j s hj x (hv x (List.mem_of_getLast? hu)); rw [Option.getD_some]; omega
theorem Rg.free (h : Rg N Ls lk) {n : Nat} (hn : n < N) (hf : ∀ (j : Nat) s, Ls[j]? = some s → n ∉ s) : lk[n]? = some (-1, n, n) := h.out n hn hf
end Go.Proofs.YtpbnjifefoniiaaGreatDoor
namespace Go.Proofs.YtpbnjifefoniiaaGreatDoor
open Go Go.SE
variable {w0 : World} {w : World} {l : List HP} {i : Nat} {F : Hp}
def ahead (tg : List Int) (tag : Int) : List Nat → List Nat
  | [] => []
  | x :: s => let r := ahead tg tag s; if r.isEmpty && decide (tag < tg.getD x 0) then [] else x :: r
theorem ahead_snoc (tg : List Int) (tag : Int) (x : Nat) : ∀ u : List Nat, ahead tg tag (u ++ [x]) = if tag < tg.getD x 0 then ahead tg tag u else u ++ [x]
  | [] => by
    by_cases h : tag < tg.getD x 0
    · simp [ahead]
    · simp [ahead]
  | y :: u => by
    have ih := ahead_snoc tg tag x u
    rw [List.cons_append, ahead, ih]
    by_cases h : tag < tg.getD x 0
    · rw [if_pos h, if_pos h, ahead]
    · rw [if_neg h, if_neg h]
      have : (u ++ [x]).isEmpty = false := by simp
      simp only [this, Bool.false_and]
      rfl
theorem ltI_snoc (u : List Nat) (x : Nat) : ltI (u ++ [x]) = x := by simp [ltI]
section
variable (lb b N : Nat) (lk : List Lk) (many tg : List Int) (r1 r2 rt : Option (Nat × Nat))
abbrev lnA : HP := cells lb T_lane_Lanes [ptr b, sv rt tg.length]
abbrev lnT : HP := rowC rt T_int 1 (ints tg) tg.length
abbrev LnS (w0 : World) (l : List HP) : WP := RgS b N lk many r1 r2 w0 (lnA lb b tg rt :: lnT tg rt :: l)
theorem nLast (Ls : List (List Nat)) (hR : Rg N Ls lk) (j : Nat) (s : List Nat) (tag : Int) (hj : Ls[j]? = some s) (hm : j < many.length) (hN : N ≤ 1000000) (hm2 : many.length ≤ 1000000) (htg : tg.length = N) :
    Does cx F_lane_Lanes_last [ptr lb, int j, int tag] (LnS lb b N lk many tg r1 r2 rt w0 l) fun v w => v = int (ltI (ahead tg tag s)) ∧ LnS lb b N lk many tg r1 r2 rt w0 l w := by
  refine fn_enter (n := N_lane_Lanes_last) fn_lane_Lanes_last rfl rfl rfl ?_
  refine wk ?_
  refine C1 (gLast b N lk many r1 r2 j _ (hR.end_ hj) hm hN hm2) real_ring_Rings_Last ?_
  rw [tld_lt (fun n hn => hR.lt j s hj n hn)]
  refine wk ?_
  refine ej_loopP (fun u : List Nat => (∃ v, s = u ++ v) ∧ ahead tg tag u = ahead tg tag s) (fun u => [(0, ptr lb), (2, int tag), (7, int (ltI u))]) (fun _ => LnS lb b N lk many tg r1 r2 rt w0 l) (fun u => u.length) s ⟨⟨[], by simp⟩, rfl⟩ (le_of _ _ rfl) (fun w hw => hw) ?_
  rintro u ⟨⟨v, hv⟩, ha⟩
  rcases List.eq_nil_or_concat u with rfl | ⟨u', x, rfl⟩
  · refine wk ?_
    refine eq_rett rfl fun w hw => ⟨?_, hw⟩
    rw [← ha]; rfl
  · rw [List.concat_eq_append] at hv ha ⊢
    rw [ahead_snoc] at ha
    have hv' : s = u' ++ x :: v := by rw [hv]; simp
    have hmid := hR.mid (n := x) (u := u') (v := v) (by rw [← hv']; exact hj)
    have hxN : x < N := hR.lt j s hj x (by rw [hv']; simp)
    obtain ⟨t, ht⟩ : ∃ t, tg[x]? = some t := ⟨_, List.getElem?_eq_getElem (by omega)⟩
    have htd : tg.getD x 0 = t := by rw [List.getD_eq_getElem?_getD, ht]; rfl
    rw [htd] at ha
    rw [ltI_snoc]
    refine wk ?_
    refine Ixr ?_
    refine Ldr x (ints_get ht) ?_
    refine wk ?_
    refine ej_dec rfl (fun h => ?_) (fun h => ?_)
    · rw [if_pos h] at ha
      refine wk ?_
      refine C1 (gPrev b N lk many r1 r2 x _ hmid hxN (by show (j : Int) ≠ -1; omega)) real_ring_Rings_Prev ?_
      rw [tld_lt (fun n hn => hR.lt j s hj n (by rw [hv']; simp [hn]))]
      refine wk ?_
      exact eq_backP u' ⟨⟨[x] ++ v, by rw [hv']; simp⟩, ha⟩ (by simp) (le_of _ _ rfl) fun w hw => hw
    · rw [if_neg h] at ha
      refine wk ?_
      refine eq_rett rfl fun w hw => ⟨?_, hw⟩
      rw [← ha, ltI_snoc]; rfl
end
end Go.Proofs.YtpbnjifefoniiaaGreatDoor
namespace Go.Proofs.YtpbnjifefoniiaaGreatDoor
open Go Go.SE
variable {w0 : World} {w : World} {l : List HP} {i : Nat} {F : Hp}
section
variable (lb b N : Nat) (lk : List Lk) (many tg : List Int) (r1 r2 rt : Option (Nat × Nat))
theorem nPut1 (p4 p9 p6 i4 i9 i6 ia : Nat) (h4 : l[i4]? = some (cells p4 T_P_lane_Lanes [ptr lb])) (hA : l[ia]? = some (lnA lb b tg rt)) (at' node j nx pv n1 p1 : Nat) (h9 : l[i9]? = some (cells p9 T_int [int at'])) (h6 : l[i6]? = some (cells p6 T_int [int node])) (q : Int)
    (hx : lk[at']? = some ((j : Int), nx, pv)) (ha : at' < N) (hn : node < N) (hf : lk[node]? = some (-1, n1, p1)) (hnx : nx < lk.length) (hq : many[j]? = some q) (hqb : 0 ≤ q ∧ q ≤ 100000) :
    Does cx F_lane_Lanes_Put_1 [ptr p4, ptr p9, ptr p6] (RgS b N lk many r1 r2 w0 l) fun v w => v = int 0 ∧ RgS b N (putL lk j at' nx node) (many.set j (q + 1)) r1 r2 w0 l w := by
  refine fn_enter (n := N_lane_Lanes_Put_1) fn_lane_Lanes_Put_1 rfl rfl rfl ?_
  refine wk ?_
  have hI : ∀ (lk : List Lk) (many : List Int) w, RgS b N lk many r1 r2 w0 l w → Held w0 [cells p4 T_P_lane_Lanes [ptr lb], lnA lb b tg rt, cells p9 T_int [int at'], cells p6 T_int [int node]] w := fun _ _ => held (.cons (i4 + 3) h4 (.cons (ia + 3) hA (.cons (i9 + 3) h9 (.cons (i6 + 3) h6 .nil))))
  have hI0 := hI lk many
  refine ej_held [cells p4 T_P_lane_Lanes [ptr lb], lnA lb b tg rt, cells p9 T_int [int at'], cells p6 T_int [int node]] ?_
  refine tv 0 rfl (rLd 0) ?_
  refine tk 1 ?_
  refine tk 2 ?_
  refine tv 3 rfl (rLd 1) ?_
  refine tv 4 rfl (rLd 2) ?_
  refine tv 5 rfl (rLd 3) ?_
  refine w1 6 rfl (gBehind b N lk many r1 r2 at' node j nx pv n1 p1 q hx ha hn hf hnx hq hqb) real_ring_Rings_Behind (hI _ _) ?_
  have hI1 := hI (putL lk j at' nx node) (many.set j (q + 1))
  refine tk 7 ?_
  refine wd ?_
  refine wk ?_
  exact eq_rett rfl fun w hw => ⟨rfl, hw⟩
theorem nPut2 (p4 p5 p6 i4 i5 i6 ia : Nat) (h4 : l[i4]? = some (cells p4 T_P_lane_Lanes [ptr lb])) (hA : l[ia]? = some (lnA lb b tg rt)) (node j nx pv n1 p1 : Nat) (h5 : l[i5]? = some (cells p5 T_int [int j])) (h6 : l[i6]? = some (cells p6 T_int [int node])) (q : Int)
    (hx : lk[N + j]? = some ((j : Int), nx, pv)) (hn : node < N) (hf : lk[node]? = some (-1, n1, p1)) (hnx : nx < lk.length) (hq : many[j]? = some q) (hqb : 0 ≤ q ∧ q ≤ 100000) (hN : N ≤ 1000000) (hm2 : many.length ≤ 1000000) :
    Does cx F_lane_Lanes_Put_2 [ptr p4, ptr p5, ptr p6] (RgS b N lk many r1 r2 w0 l) fun v w => v = int 0 ∧ RgS b N (putL lk j (N + j) nx node) (many.set j (q + 1)) r1 r2 w0 l w := by
  refine fn_enter (n := N_lane_Lanes_Put_2) fn_lane_Lanes_Put_2 rfl rfl rfl ?_
  refine wk ?_
  have hI : ∀ (lk : List Lk) (many : List Int) w, RgS b N lk many r1 r2 w0 l w → Held w0 [cells p4 T_P_lane_Lanes [ptr lb], lnA lb b tg rt, cells p5 T_int [int j], cells p6 T_int [int node]] w := fun _ _ => held (.cons (i4 + 3) h4 (.cons (ia + 3) hA (.cons (i5 + 3) h5 (.cons (i6 + 3) h6 .nil))))
  have hI0 := hI lk many
  refine ej_held [cells p4 T_P_lane_Lanes [ptr lb], lnA lb b tg rt, cells p5 T_int [int j], cells p6 T_int [int node]] ?_
  refine tv 0 rfl (rLd 0) ?_
  refine tk 1 ?_
  refine tk 2 ?_
  refine tv 3 rfl (rLd 1) ?_
  refine tv 4 rfl (rLd 2) ?_
  refine tv 5 rfl (rLd 3) ?_
  refine w1 6 rfl (gLead b N lk many r1 r2 node j nx pv n1 p1 q hx hn hf hnx hq hqb hN hm2) real_ring_Rings_Lead (hI _ _) ?_
  have hI1 := hI (putL lk j (N + j) nx node) (many.set j (q + 1))
  refine tk 7 ?_
  refine wd ?_
  refine wk ?_
  exact eq_rett rfl fun w hw => ⟨rfl, hw⟩
end
end Go.Proofs.YtpbnjifefoniiaaGreatDoor
namespace Go.Proofs.YtpbnjifefoniiaaGreatDoor
open Go Go.SE
variable {w0 : World} {w : World} {l : List HP} {i : Nat} {F : Hp}
theorem ahead_pre (tg : List Int) (tag : Int) : ∀ s : List Nat, ∃ v, s = ahead tg tag s ++ v
  | [] => ⟨[], rfl⟩
  | x :: s => by
    obtain ⟨v, hv⟩ := ahead_pre tg tag s
    rw [ahead]
    by_cases h : (ahead tg tag s).isEmpty && decide (tag < tg.getD x 0)
    · exact ⟨x :: s, by simp only [h, if_true]; rfl⟩
    · refine ⟨v, ?_⟩
      simp only [h]
      show x :: s = x :: (ahead tg tag s ++ v)
      rw [← hv]
def insL (tg : List Int) (tag : Int) (s : List Nat) (n : Nat) : List Nat := ahead tg tag s ++ n :: s.drop (ahead tg tag s).length
section
variable (lb b N : Nat) (lk : List Lk) (many tg : List Int) (r1 r2 rt : Option (Nat × Nat))
set_option maxHeartbeats 2000000 in
theorem nPut (Ls : List (List Nat)) (hR : Rg N Ls lk) (j node : Nat) (s : List Nat) (tag q : Int) (hj : Ls[j]? = some s) (hn : node < N) (hf : ∀ (j : Nat) s, Ls[j]? = some s → node ∉ s) (hq : many[j]? = some q) (hqb : 0 ≤ q ∧ q ≤ 100000) (hN : N ≤ 1000000) (hm2 : many.length ≤ 1000000) (htg : tg.length = N) :
    Does cx F_lane_Lanes_Put [ptr lb, int j, int node, int tag] (LnS lb b N lk many tg r1 r2 rt w0 l) fun v w => ∃ lk', v = int 0 ∧ Rg N (Ls.set j (insL tg tag s node)) lk' ∧ LnS lb b N lk' (many.set j (q + 1)) (tg.set node tag) r1 r2 rt w0 l w := by
  have hjm := (List.getElem?_eq_some_iff.1 hq).1
  obtain ⟨v, hv⟩ := ahead_pre tg tag s
  have hins : insL tg tag s node = ahead tg tag s ++ node :: v := by
    have h2 : s.drop (ahead tg tag s).length = (ahead tg tag s ++ v).drop (ahead tg tag s).length := congrArg (fun t : List Nat => t.drop (ahead tg tag s).length) hv
    rw [List.drop_left] at h2
    rw [insL, h2]
  rw [hins]
  have hfree := hR.free hn hf
  refine fn_enter (n := N_lane_Lanes_Put) fn_lane_Lanes_Put rfl rfl rfl ?_
  refine wk ?_
  refine ec (oBox fun b4 => ?_)
  refine ec (oBox fun b5 => ?_)
  refine ec (oBox fun b6 => ?_)
  refine wk ?_
  refine el_imp (H' := LnS lb b N lk many tg r1 r2 rt w0 (cells b6 T_int [int node] :: cells b5 T_int [int j] :: cells b4 T_P_lane_Lanes [ptr lb] :: l)) (fun w hw => S.perm (l' := rgA b N lk many r1 r2 :: rgB lk r1 :: rgC many r2 :: lnA lb b tg rt :: lnT tg rt :: cells b6 T_int [int node] :: cells b5 T_int [int j] :: cells b4 T_P_lane_Lanes [ptr lb] :: l) hw ((List.perm_append_comm (l₁ := [cells b6 T_int [int node], cells b5 T_int [int j], cells b4 T_P_lane_Lanes [ptr lb]]) (l₂ := [rgA b N lk many r1 r2, rgB lk r1, rgC many r2, lnA lb b tg rt, lnT tg rt])).append_right l)) ?_
  refine wk ?_
  refine C1 (nLast lb b N lk many tg r1 r2 rt Ls hR j s tag hj hjm hN hm2 htg) real_lane_Lanes_last ?_
  refine ec (oAlloc fun b9 => ?_)
  refine ec (oSt 0 ?_)
  have hz := hR.nodup hj
  have hRp := fun (at' : Nat) (ha : at' ∈ (N + j) :: s) (hs : insA ((N + j) :: s) at' node = (N + j) :: (ahead tg tag s ++ node :: v)) => hR.put hj ha hn hf hs
  have hnl : node < tg.length := by omega
  generalize hu : ahead tg tag s = u at hv hRp ⊢
  refine el_imp (H' := LnS lb b N lk many tg r1 r2 rt w0 (cells b9 T_int [int (ltI u)] :: cells b6 T_int [int node] :: cells b5 T_int [int j] :: cells b4 T_P_lane_Lanes [ptr lb] :: l)) (fun w hw => S.perm (l' := rgA b N lk many r1 r2 :: rgB lk r1 :: rgC many r2 :: lnA lb b tg rt :: lnT tg rt :: cells b9 T_int [int (ltI u)] :: cells b6 T_int [int node] :: cells b5 T_int [int j] :: cells b4 T_P_lane_Lanes [ptr lb] :: l) hw ((List.perm_append_comm (l₁ := [cells b9 T_int [int (ltI u)]]) (l₂ := [rgA b N lk many r1 r2, rgB lk r1, rgC many r2, lnA lb b tg rt, lnT tg rt])).append_right _)) ?_
  refine wk ?_
  refine ej_join (α := Nat × Nat × List Lk) (fun p => Real cx.P p.1 ∧ Rg N (Ls.set j (u ++ node :: v)) p.2.2 ∧ p.2.2.length = lk.length ∧ Does cx p.1 [ptr b4, ptr p.2.1, ptr b6] (LnS lb b N lk many tg r1 r2 rt w0 (cells b9 T_int [int (ltI u)] :: cells b6 T_int [int node] :: cells b5 T_int [int j] :: cells b4 T_P_lane_Lanes [ptr lb] :: l)) fun v w => v = int 0 ∧ LnS lb b N p.2.2 (many.set j (q + 1)) tg r1 r2 rt w0 (cells b9 T_int [int (ltI u)] :: cells b6 T_int [int node] :: cells b5 T_int [int j] :: cells b4 T_P_lane_Lanes [ptr lb] :: l) w)
    (fun p => [(3, int tag), (4, ptr b4), (6, ptr b6), (10, .func (.func p.1) #[] #[ptr b4, ptr p.2.1, ptr b6])]) (fun _ => LnS lb b N lk many tg r1 r2 rt w0 (cells b9 T_int [int (ltI u)] :: cells b6 T_int [int node] :: cells b5 T_int [int j] :: cells b4 T_P_lane_Lanes [ptr lb] :: l)) (fun kk => ?_) ?_
  · rcases List.eq_nil_or_concat u with rfl | ⟨u', x, rfl⟩
    · refine ej_dec rfl (fun _ => ?_) (fun h => absurd (show (-1 : Int) < 0 by decide) h)
      rw [List.nil_append] at hv
      subst hv
      have hput := hRp (N + j) (by simp) (by rw [insA, if_pos rfl]; rfl)
      rw [nextC_head] at hput
      refine wk ?_
      refine meet (kk (F_lane_Lanes_Put_2, b5, putL lk j (N + j) (s.headD (N + j)) node) ⟨real_lane_Lanes_Put_2, hput, putL_len .., ?_⟩) (le_of _ _ rfl) fun w hw => hw
      exact nPut2 lb b N lk many tg r1 r2 rt b4 b5 b6 5 4 3 0 rfl rfl node j _ _ node node rfl rfl q (hR.end_ hj) hn hfree (hR.nx_lt hj (fun n h => h)) hq hqb hN hm2
    · rw [List.concat_eq_append] at hv hRp kk ⊢
      have hv' : s = u' ++ x :: v := by rw [hv]; simp
      have hxs : x ∈ s := by rw [hv']; simp
      have hmid := hR.mid (n := x) (u := u') (v := v) (by rw [← hv']; exact hj)
      have hxu : x ∉ u' := fun hm => by
        have h1 := hR.nd j s hj
        rw [hv'] at h1
        exact (List.nodup_append.1 h1).2.2 x hm x (by simp) rfl
      have hxN : x < N := hR.lt j s hj x hxs
      refine ej_dec rfl (fun h => ?_) (fun _ => ?_)
      · rw [ltI_snoc] at h; omega
      have hput := hRp x (by simp [hxs]) (by
        rw [hv']
        have := ins_app ((N + j) :: u') v x node (by simp only [List.mem_cons, not_or]; exact ⟨by omega, hxu⟩)
        simpa using this)
      rw [hv', nextC_app (show N + j ≠ x by omega) hxu] at hput
      refine wk ?_
      refine meet (kk (F_lane_Lanes_Put_1, b9, putL lk j x (v.headD (N + j)) node) ⟨real_lane_Lanes_Put_1, hput, putL_len .., ?_⟩) (le_of _ _ rfl) fun w hw => hw
      rw [ltI_snoc]
      exact nPut1 lb b N lk many tg r1 r2 rt b4 b9 b6 5 2 3 0 rfl rfl x node j _ _ node node rfl rfl q hmid hxN hn hfree (hR.nx_lt hj (fun n h => by rw [hv']; simp [h])) hq hqb
  rintro ⟨f, x, lk'⟩ ⟨hreal, hR', hlen, hdoes⟩
  simp only at hreal hR' hlen hdoes ⊢
  refine wk ?_
  refine C1 hdoes hreal ?_
  refine wk ?_
  refine ej_know (fun w hw => hw.row_some (i := 4) rfl (by omega)) fun hr => ?_
  obtain ⟨⟨g, c⟩, rfl⟩ := hr
  have hI : ∀ (y : HP) w, S w0 (rgA b N lk' (many.set j (q + 1)) r1 r2 :: rgB lk' r1 :: rgC (many.set j (q + 1)) r2 :: lnA lb b tg (some (g, c)) :: y :: cells b9 T_int [int (ltI u)] :: cells b6 T_int [int node] :: cells b5 T_int [int j] :: cells b4 T_P_lane_Lanes [ptr lb] :: l) w → Held w0 [cells b4 T_P_lane_Lanes [ptr lb], lnA lb b tg (some (g, c)), cells b6 T_int [int node]] w := fun y => held (.cons 8 rfl (.cons 3 rfl (.cons 6 rfl .nil)))
  have hI0 := hI (lnT tg (some (g, c)))
  refine ej_held [cells b4 T_P_lane_Lanes [ptr lb], lnA lb b tg (some (g, c)), cells b6 T_int [int node]] ?_
  refine tv 0 rfl (rLd 0) ?_
  refine tk 1 ?_
  refine tk 2 ?_
  refine tv 3 rfl (rLd 1) ?_
  refine tv 4 rfl (rLd 2) ?_
  refine tk 5 ?_
  refine tv 6 rfl rIxr ?_
  refine wv 7 rfl (eo_str 4 (r := some (g, c)) rfl rfl rfl rfl rfl rfl rfl rfl rfl (by rw [List.length_map]; show (node : Int).toNat * 1 < _; omega) ⟨hI _, ?_⟩)
  refine wd ?_
  refine wk ?_
  refine eq_rett rfl fun w hw => ⟨lk', rfl, hR', ?_⟩
  have h1 : S w0 (rgA b N lk' (many.set j (q + 1)) r1 r2 :: rgB lk' r1 :: rgC (many.set j (q + 1)) r2 :: lnA lb b tg (some (g, c)) :: rowC (some (g, c)) T_int 1 ((ints tg).set ((node : Int).toNat * 1) (int tag)) tg.length :: cells b9 T_int [int (ltI u)] :: cells b6 T_int [int node] :: cells b5 T_int [int j] :: cells b4 T_P_lane_Lanes [ptr lb] :: l) w := hw
  rw [show (node : Int).toNat * 1 = node by omega] at h1
  have h2 := (((h1.erase 8).erase 7).erase 6).erase 5
  show S w0 _ _
  rw [lnA, lnT, List.length_set, show ints (tg.set node tag) = (ints tg).set node (int tag) from List.map_set ..]
  exact h2
end
end Go.Proofs.YtpbnjifefoniiaaGreatDoor
namespace Go.Proofs.YtpbnjifefoniiaaGreatDoor
open Go Go.SE
theorem sortI_le (a : List Int) : (sortI a).Pairwise (fun x y => x ≤ y) := by
  have := List.pairwise_mergeSort (le := fun x y : Int => decide (x ≤ y)) (fun a b c h1 h2 => by simp at h1 h2 ⊢; omega) (fun a b => by simp; omega) a
  exact this.imp fun h => by simpa using h
theorem sortI_p (a : List Int) : (sortI a).Perm a := List.mergeSort_perm a _
theorem sorted_eq {a b : List Int} (h1 : a.Pairwise (fun x y => x ≤ y)) (h2 : b.Pairwise (fun x y => x ≤ y)) (hp : a.Perm b) : a = b :=
  List.Perm.eq_of_pairwise (fun _ _ _ _ h3 h4 => Int.le_antisymm h3 h4) h1 h2 hp
abbrev nz (x : Int) : Bool := !decide (x = 0)
theorem tids_perm (xs : List Int) : (tids xs).Perm (xs.filter nz) := sortI_p _
theorem tids_mem {xs : List Int} {v : Int} : v ∈ tids xs ↔ v ∈ xs ∧ v ≠ 0 := by
  rw [(tids_perm xs).mem_iff]; simp
theorem tids_le (xs : List Int) : (tids xs).Pairwise (fun x y => x ≤ y) := sortI_le _
theorem tids_eq {xs L : List Int} (h : L.Pairwise (fun x y => x ≤ y)) (hp : L.Perm (xs.filter nz)) : tids xs = L :=
  sorted_eq (tids_le xs) h ((tids_perm xs).trans hp.symm)
theorem idx_get {xs : List Int} {v : Int} (h : v ∈ xs) : xs[xs.idxOf v]? = some v := by
  have := List.idxOf_lt_length_of_mem h
  rw [List.getElem?_eq_getElem this, List.getElem_idxOf this]
theorem tids_new {xs : List Int} {v : Int} (h0 : 0 ∈ xs) (hv : v ≠ 0) (hlt : ∀ x ∈ xs, x ≠ 0 → x < v) : tids (xs.set (xs.idxOf 0) v) = tids xs ++ [v] := by
  have hi := idx_get h0
  refine tids_eq ?_ ?_
  · rw [List.pairwise_append]
    refine ⟨tids_le xs, by simp, fun a ha b hb => ?_⟩
    obtain ⟨h1, h2⟩ := tids_mem.1 ha
    have := hlt a h1 h2
    have e : b = v := by simpa using hb
    omega
  · have h1 := (set_front (q := v) hi).filter nz
    have h2 := (perm_front hi).filter nz
    rw [List.filter_cons_of_pos (by simpa using hv)] at h1
    rw [List.filter_cons_of_neg (by simp)] at h2
    exact ((List.perm_append_comm.trans (((tids_perm xs).trans h2).cons v)).trans h1.symm)
theorem tids_room {xs : List Int} : 0 ∈ xs ↔ (tids xs).length < xs.length := by
  rw [(tids_perm xs).length_eq]
  constructor
  · intro h
    have hi := idx_get h
    have h1 := perm_front hi
    have h2 := (h1.filter nz).length_eq
    rw [List.filter_cons_of_neg (by simp)] at h2
    have h3 := h1.length_eq
    have h4 := List.length_filter_le nz (xs.eraseIdx (xs.idxOf 0))
    rw [List.length_cons] at h3
    omega
  · intro h
    apply Classical.byContradiction
    intro h0
    rw [List.filter_eq_self.2 fun a ha => by
      have : a ≠ 0 := fun e => h0 (e ▸ ha)
      simpa using this] at h
    omega
theorem tids_rep (n : Nat) : tids (List.replicate n 0) = [] := by
  have : (List.replicate n (0 : Int)).filter nz = [] := by
    rw [List.filter_eq_nil_iff]
    intro a ha
    rw [List.eq_of_mem_replicate ha]; decide
  show sortI ((List.replicate n (0 : Int)).filter nz) = []
  rw [this]; simp [sortI]
end Go.Proofs.YtpbnjifefoniiaaGreatDoor
namespace Go.Proofs.YtpbnjifefoniiaaGreatDoor
open Go Go.SE
def Forest.upd (F : Forest) (g : Int) (f : Grp → Grp) : Forest := { F with L := kupd Grp.id F.L g f }
def Forest.more (F : Forest) (parent weight : Int) : Forest := ⟨F.room, F.last + 1, F.L ++ [⟨F.last + 1, parent, weight, 0, 0⟩]⟩
namespace Forest
variable {F : Forest} {D : Nat} {g : Int} {x : Grp}
theorem gget_upd {L : List Grp} {f : Grp → Grp} (hf : ∀ x, (f x).id = x.id) (i : Int) : gget (kupd Grp.id L g f) i = (gget L i).map fun x => if x.id = g then f x else x := by
  induction L with
  | nil => rfl
  | cons a L ih =>
    simp only [gget, kfind, kupd, List.map_cons, List.find?_cons] at ih ⊢
    have e : (if a.id = g then f a else a).id = a.id := by split <;> simp [hf]
    rw [e]
    cases decide (a.id = i) with
    | true => rfl
    | false => exact ih
theorem get_upd {f : Grp → Grp} (hf : ∀ x, (f x).id = x.id) (i : Int) : (F.upd g f).get i = (F.get i).map fun x => if x.id = g then f x else x := gget_upd hf i
theorem kids_upd {f : Grp → Grp} (hf : ∀ x, (f x).id = x.id) (hp : ∀ x, (f x).parent = x.parent) (i : Int) : (F.upd g f).kids i = F.kids i := by
  simp only [kids, upd, kupd]
  generalize F.L = L
  induction L with
  | nil => rfl
  | cons a L ih =>
    simp only [List.map_cons, List.filter_cons]
    have e1 : (if a.id = g then f a else a).id = a.id := by split <;> simp [hf]
    have e2 : (if a.id = g then f a else a).parent = a.parent := by split <;> simp [hp]
    rw [e2]
    split
    · simp only [List.map_cons, e1, ih]
    · exact ih
theorem path_upd {f : Grp → Grp} (hf : ∀ x, (f x).id = x.id) (hp : ∀ x, (f x).parent = x.parent) {i : Int} {l : List Int} (h : Path F.L i l) : Path (F.upd g f).L i l :=
  h.same fun j y hj => ⟨_, by rw [upd]; show gget (kupd Grp.id F.L g f) j = _; rw [gget_upd hf, hj]; rfl, by show (if y.id = g then f y else y).parent = _; split <;> simp [hp]⟩
theorem fan_upd {f : Grp → Grp} (hf : ∀ x, (f x).id = x.id) (hp : ∀ x, (f x).parent = x.parent) (i : Int) : (F.upd g f).fan i = (F.kids i).length + (((F.get i).map fun x => if x.id = g then f x else x).map Grp.members).getD 0 := by
  rw [fan, kids_upd hf hp, get_upd hf]
theorem Ok.upd (h : F.Ok D) {f : Grp → Grp} (hf : ∀ x, (f x).id = x.id) (hp : ∀ x, (f x).parent = x.parent) (hg : F.get g = some x) (hw : 1 ≤ (f x).weight ∧ (f x).weight ≤ 10000) (hm : 0 ≤ (f x).awake ∧ (f x).awake ≤ (f x).members)
    (hfan : (F.kids g).length + (f x).members ≤ 32) : (F.upd g f).Ok D := by
  have hx : ∀ y ∈ (F.upd g f).L, (y ∈ F.L ∧ y.id ≠ g) ∨ y = f x := fun y hy => by
    rcases kupd_mem.1 hy with h1 | ⟨a, ha, hk, rfl⟩
    · exact .inl h1
    · right
      have := h.getOf ha
      rw [hk, hg] at this
      rw [Option.some.inj this]
  have hxm := kfind_mem hg
  have hxk := kfind_key hg
  refine ⟨h.room, by simpa [Forest.upd, kupd] using h.few, h.srt.upd hf, fun y hy => ?_, fun y hy => ?_, fun y hy => ?_, fun d h1 h2 => ?_, fun y hy => ?_, fun y hy => ?_, fun y hy => ?_, fun y hy => ?_, h.last⟩
  · rcases hx y hy with h1 | rfl
    · exact h.ids y h1.1
    · rw [hf]; exact h.ids x hxm
  · rcases hx y hy with h1 | rfl
    · obtain ⟨l, h2, h3⟩ := h.path y h1.1; exact ⟨l, path_upd hf hp h2, h3⟩
    · rw [hf]; obtain ⟨l, h2, h3⟩ := h.path x hxm; exact ⟨l, path_upd hf hp h2, h3⟩
  · rcases hx y hy with h1 | rfl
    · exact h.roots y h1.1
    · rw [hf, hp]; exact h.roots x hxm
  · obtain ⟨y, h3, h4⟩ := h.has d h1 h2
    by_cases e : y.id = g
    · exact ⟨f y, kupd_mem.2 (.inr ⟨y, h3, e, rfl⟩), by rw [hf]; exact h4⟩
    · exact ⟨y, kupd_mem.2 (.inl ⟨h3, e⟩), h4⟩
  · rcases hx y hy with h1 | rfl
    · exact h.pos y h1.1
    · rw [hp]; exact h.pos x hxm
  · rcases hx y hy with h1 | rfl
    · exact h.wt y h1.1
    · exact hw
  · rcases hx y hy with h1 | rfl
    · exact h.mem y h1.1
    · exact hm
  · rw [fan_upd hf hp]
    rcases hx y hy with h1 | rfl
    · have h2 := h.fans y h1.1
      rw [fan] at h2
      have h3 := h.getOf h1.1
      rw [h3] at h2 ⊢
      simp only [Option.map_some, Option.getD_some, if_neg h1.2] at h2 ⊢
      exact h2
    · rw [hf, hxk, hg]
      simp only [Option.map_some, Option.getD_some, if_pos hxk]
      exact hfan
theorem gget_more {L : List Grp} {b : Grp} {i : Int} (hb : b.id ≠ i) : gget (L ++ [b]) i = gget L i := by
  simp only [gget, kfind, List.find?_append]
  have : List.find? (fun a => decide (Grp.id a = i)) [b] = none := by simp [hb]
  rw [this, Option.or_none]
theorem path_more {L : List Grp} {b : Grp} {i : Int} {l : List Int} (hb : ∀ x ∈ L, x.id ≠ b.id) (h : Path L i l) : Path (L ++ [b]) i l :=
  h.same fun j y hj => ⟨y, by rw [gget_more]; exact hj; intro e; exact hb y (kfind_mem hj) (by rw [kfind_key hj, e]), rfl⟩
theorem kids_more (parent weight i : Int) : (F.more parent weight).kids i = F.kids i ++ (if parent = i ∧ 0 < i then [F.last + 1] else []) := by
  simp only [kids, more, List.filter_append, List.map_append]
  congr 1
  by_cases h : parent = i ∧ 0 < i <;> simp [h]
theorem Ok.more (h : F.Ok D) {parent weight : Int} {D' : Nat} (hroom : F.L.length < F.room) (hw : 1 ≤ weight ∧ weight ≤ 10000)
    (hp : (parent = -1 ∧ F.last = D ∧ D' = D + 1) ∨ (D' = D ∧ ∃ y, F.get parent = some y ∧ F.depth parent < 8 ∧ F.fan parent < 32)) : (F.more parent weight).Ok D' := by
  have hb : ∀ x ∈ F.L, x.id ≠ F.last + 1 := fun x hx => by have := (h.ids x hx).2; omega
  have hm : ∀ y ∈ (F.more parent weight).L, y ∈ F.L ∨ y = ⟨F.last + 1, parent, weight, 0, 0⟩ := fun y hy => by
    rcases List.mem_append.1 hy with h1 | h1
    · exact .inl h1
    · exact .inr (by simpa using h1)
  have hl := h.last
  have hgn : gget (F.more parent weight).L (F.last + 1) = some ⟨F.last + 1, parent, weight, 0, 0⟩ := by
    simp only [gget, kfind, Forest.more, List.find?_append]
    have : List.find? (fun a => decide (Grp.id a = F.last + 1)) F.L = none := by simpa using hb
    rw [this]; simp
  have hpar : 0 ≤ parent → ∃ y, F.get parent = some y ∧ F.depth parent < 8 ∧ F.fan parent < 32 := fun h0 => by
    rcases hp with h1 | h1
    · omega
    · exact h1.2
  refine ⟨h.room, by simp [Forest.more]; omega, ?_, fun y hy => ?_, fun y hy => ?_, fun y hy => ?_, fun d h1 h2 => ?_, fun y hy => ?_, fun y hy => ?_, fun y hy => ?_, fun y hy => ?_, ?_⟩
  · exact h.srt.snoc fun a ha => by have h2 := (h.ids a ha).2; show a.id < F.last + 1; omega
  · show 1 ≤ y.id ∧ y.id ≤ F.last + 1
    rcases hm y hy with h1 | rfl
    · have := h.ids y h1; omega
    · show 1 ≤ F.last + 1 ∧ F.last + 1 ≤ F.last + 1; omega
  · rcases hm y hy with h1 | rfl
    · obtain ⟨l, h2, h3⟩ := h.path y h1; exact ⟨l, path_more hb h2, h3⟩
    · rcases hp with ⟨h1, _, _⟩ | ⟨_, z, h1, h2, _⟩
      · exact ⟨[F.last + 1], .root hgn (by show parent < 0; omega), by simp⟩
      · have h4 := (h.pathOf h1).1
        have h5 := h.ids z (kfind_mem h1)
        rw [kfind_key h1] at h5
        exact ⟨(F.last + 1) :: F.path parent, .up hgn (by show 0 ≤ parent; omega) (path_more hb h4), by simp only [List.length_cons]; rw [depth] at h2; omega⟩
  · rcases hm y hy with h1 | rfl
    · have h2 := h.roots y h1
      refine ⟨h2.1, ?_⟩
      rcases hp with ⟨_, h3, rfl⟩ | ⟨rfl, _⟩
      · have h4 := (h.ids y h1).2
        rw [h2.2]; omega
      · exact h2.2
    · show (parent < 0 → parent = -1) ∧ (parent < 0 ↔ F.last + 1 ≤ D')
      rcases hp with ⟨h1, h3, rfl⟩ | ⟨rfl, z, h1, _⟩
      · omega
      · have h5 := h.ids z (kfind_mem h1)
        rw [kfind_key h1] at h5
        omega
  · rcases hp with ⟨_, h3, rfl⟩ | ⟨rfl, _⟩
    · by_cases e : d ≤ D
      · obtain ⟨y, h4, h5⟩ := h.has d h1 e; exact ⟨y, List.mem_append_left _ h4, h5⟩
      · exact ⟨_, List.mem_append_right _ (by simp; rfl), by show F.last + 1 = d; omega⟩
    · obtain ⟨y, h4, h5⟩ := h.has d h1 h2; exact ⟨y, List.mem_append_left _ h4, h5⟩
  · rcases hm y hy with h1 | rfl
    · exact h.pos y h1
    · intro h1
      obtain ⟨z, h2, _⟩ := hpar h1
      have h5 := h.ids z (kfind_mem h2)
      rw [kfind_key h2] at h5
      exact h5.1
  · rcases hm y hy with h1 | rfl
    · exact h.wt y h1
    · exact hw
  · rcases hm y hy with h1 | rfl
    · exact h.mem y h1
    · exact ⟨Int.le_refl _, Int.le_refl _⟩
  · rw [fan, kids_more]
    rcases hm y hy with h1 | rfl
    · have h2 := h.fans y h1
      have h3 := h.getOf h1
      have h4 : (F.more parent weight).get y.id = some y := by
        show gget (F.L ++ [_]) y.id = _
        rw [gget_more fun e => hb y h1 e.symm]; exact h3
      rw [h4]
      rw [fan, h3] at h2
      by_cases e : parent = y.id ∧ 0 < y.id
      · rw [if_pos e]
        obtain ⟨z, h5, _, h6⟩ := hpar (by omega)
        rw [e.1, fan, h3] at h6
        simp only [List.length_append, List.length_singleton, Option.map_some, Option.getD_some] at h2 h6 ⊢
        omega
      · rw [if_neg e, List.append_nil]; exact h2
    · have h4 : F.kids (F.last + 1) = [] := by
        rw [kids, List.filter_eq_nil_iff.2]; rfl
        intro z hz
        simp only [decide_eq_true_eq]
        rintro ⟨e, _⟩
        obtain ⟨q, hq⟩ := h.parentIn (h.getOf hz) (by omega)
        exact hb q (kfind_mem hq) (by rw [kfind_key hq, e])
      have h5 : ¬ (parent = F.last + 1 ∧ 0 < F.last + 1) := by
        rintro ⟨e, _⟩
        obtain ⟨z, h6, _⟩ := hpar (by omega)
        exact hb z (kfind_mem h6) (by rw [kfind_key h6, e])
      show ((F.kids (F.last + 1) ++ if parent = F.last + 1 ∧ 0 < F.last + 1 then [F.last + 1] else []).length : Int) + _ ≤ 32
      rw [h4, if_neg h5]
      show (0 : Int) + (((F.more parent weight).get (F.last + 1)).map Grp.members).getD 0 ≤ 32
      rw [show (F.more parent weight).get (F.last + 1) = _ from hgn]
      show (0 : Int) + 0 ≤ 32
      omega
  · show (D' : Int) ≤ F.last + 1
    rcases hp with ⟨_, h3, rfl⟩ | ⟨rfl, _⟩ <;> omega
theorem Ok.new {room : Nat} (h : 1 ≤ room ∧ room ≤ 64) : (Forest.mk room 0 []).Ok 0 :=
  ⟨h, Nat.zero_le _, .nil, by simp, by simp, by simp, fun d h1 h2 => by omega, by simp, by simp, by simp, by simp, Int.le_refl _⟩
end Forest
end Go.Proofs.YtpbnjifefoniiaaGreatDoor
namespace Go.Proofs.YtpbnjifefoniiaaGreatDoor
open Go Go.SE
structure Th where
  id : Int
  slot : Nat
  group : Int
  weight : Int
  mask : Nat
  awake : Bool
  running : Bool
  core : Int
  tag : Int
  left : Int
deriving DecidableEq
structure Sys where
  q : Nat
  T : TP.Topo
  F : Forest
  sl : List Int
  last : Int
  ths : List Th
  bs : List (Int × List En)
  Ls : List (List Nat)
  tg : List Int
  cur : List Int
def resized (Z : List (Int × Int)) (L : List En) : List En := L.map fun e => match kfind Prod.fst Z e.id with
  | some z => e.sized z.2
  | none => e
namespace Sys
variable (s : Sys)
def dom (g : Int) : Int := if (s.F.get g).isSome then s.F.root g - 1 else -1
def ids : List Int := s.ths.map Th.id
abbrev find (id : Int) : Option Th := kfind Th.id s.ths id
def awakeT (d : Int) : List Th := s.ths.filter fun t => t.awake && decide (s.dom t.group = d)
def awakeI (d : Int) : List Int := (s.awakeT d).map Th.id
def leaves (d : Int) : List Leaf := (s.awakeT d).map fun t => ⟨t.group, t.weight⟩
def on (d : Int) : Nat := TP.pop (s.T.online d)
noncomputable def sizesL (d : Int) : List Int := (List.range (s.awakeT d).length).map fun i => (sliceN s.q (rateL s.F (s.leaves d) ((min (s.on d) (s.awakeT d).length : Nat) : Rat) i) : Int)
noncomputable def sizes (d : Int) : List (Int × Int) := (s.awakeI d).zip (s.sizesL d)
def book (d : Int) : Int × List En := s.bs.getD d.toNat (0, [])
def setBook (d : Int) (b : Int × List En) : Sys := { s with bs := s.bs.set d.toNat b }
noncomputable def sliced (d : Int) : Sys := s.setBook d ((s.book d).1, resized (s.sizes d) (s.book d).2)
def upd (id : Int) (f : Th → Th) : Sys := { s with ths := kupd Th.id s.ths id f }
def lane (c : Int) : List Nat := s.Ls.getD c.toNat []
def out (t : Th) : Sys :=
  if t.running then { (s.upd t.id fun t => { t with running := false }) with cur := s.cur.set t.core.toNat 0 }
  else { s with Ls := s.Ls.set t.core.toNat ((s.lane t.core).erase t.slot) }
def tagOf (t : Th) : Int := match kfind En.id (s.book (s.dom t.group)).2 t.id with
  | some e => e.tag
  | none => 0
def inn (t : Th) (c : Int) : Sys := { (s.upd t.id fun t => { t with core := c }) with Ls := s.Ls.set c.toNat (insL s.tg (s.tagOf t) (s.lane c) t.slot), tg := s.tg.set t.slot (s.tagOf t) }
def again (id : Int) : Sys := match s.find id with
  | none => s
  | some t => (s.out t).inn t t.core
def settled (d : Int) : Sys := (sortI (settleR 100 (s.book d).1 (s.book d).2 []).2.2).foldl Sys.again (s.setBook d ((settleR 100 (s.book d).1 (s.book d).2 []).1, (settleR 100 (s.book d).1 (s.book d).2 []).2.1))
end Sys
end Go.Proofs.YtpbnjifefoniiaaGreatDoor
namespace Go.Proofs.YtpbnjifefoniiaaGreatDoor
open Go Go.SE
variable {w0 : World} {w : World} {l : List HP} {i : Nat} {F : Hp}
structure NdG where
  g : Grp
  act : Int
  sub : Int
abbrev NdG.id (y : NdG) : Int := y.g.id
def ndP (bk : Int → Nat) (p : Int) : Value := if p < 0 then .pointer none else ptr (bk p)
abbrev ndC (bk : Int → Nat) (y : NdG) : List Value := [int y.g.id, ndP bk y.g.parent, int y.g.weight, int y.g.members, int y.g.awake, int y.act, int y.sub]
abbrev ndF (bk : Int → Nat) (xs : List NdG) : List (Nat × List Value) := xs.map fun y => (bk y.g.id, ndC bk y)
theorem nd_mem {bk : Int → Nat} {xs : List NdG} {g : Int} {x : Grp} (h : gget (xs.map (·.g)) g = some x) : ∃ y ∈ xs, y.g = x ∧ (bk g, ndC bk y) ∈ ndF bk xs := by
  have h1 := kfind_mem h
  obtain ⟨y, hy, rfl⟩ := List.mem_map.1 h1
  have h2 := kfind_key h
  exact ⟨y, hy, rfl, List.mem_map.2 ⟨y, hy, by rw [h2]⟩⟩
theorem ndPath (bk : Int → Nat) (xs : List NdG) (g : Int) (ps : List Int) (hP : Path (xs.map (·.g)) g ps) (hi : l[i]? = some (famO T_tree_node (ndF bk xs))) (hn : ps.length ≤ 1000) (hg : 0 ≤ g) :
    Does cx F_tree_node_path [ptr (bk g)] (S w0 l) fun v w => ∃ r, v = sv r ps.length ∧ True ∧ S w0 (rowC r T_P_tree_node 1 (ps.map fun p => ptr (bk p)) ps.length :: l) w := by
  refine fn_enter (n := N_tree_node_path) fn_tree_node_path rfl rfl rfl ?_
  refine wk ?_
  refine ej_row0 T_P_tree_node 1 ?_
  refine ej_loop3 (fun (pre rest : List Int) (_ : Option (Nat × Nat)) => ps = pre ++ rest ∧ (rest = [] ∨ ∃ q, 0 ≤ q ∧ Path (xs.map (·.g)) q rest)) (fun pre rest r => [(0, ndP bk (rest.headD (-1))), (3, sv r pre.length)]) (fun pre _ r => S w0 (rowC r T_P_tree_node 1 (pre.map fun p => ptr (bk p)) pre.length :: l)) (fun _ rest _ => rest.length) [] ps none ⟨rfl, .inr ⟨g, hg, hP⟩⟩ ?_ (fun w hw => hw) ?_
  · obtain ⟨r, rfl⟩ := hP.ne
    rw [show ndP bk ((g :: r).headD (-1)) = ptr (bk g) from if_neg (by show ¬ g < 0; omega)]
    exact le_of _ _ rfl
  rintro pre rest r ⟨hs, hrest⟩
  rcases hrest with rfl | ⟨q, hq, hQ⟩
  · rw [List.append_nil] at hs
    subst hs
    rw [show ndP bk (([] : List Int).headD (-1)) = .pointer none from if_pos (by decide)]
    refine wk ?_
    refine ec (oPnil ?_)
    refine wk ?_
    exact eq_rett rfl fun w hw => ⟨r, rfl, trivial, hw⟩
  · obtain ⟨rr, rfl⟩ := hQ.ne
    rw [show ndP bk ((q :: rr).headD (-1)) = ptr (bk q) from if_neg (by show ¬ q < 0; omega)]
    have hpl : pre.length + (q :: rr).length = ps.length := by rw [hs, List.length_append]
    simp only [List.length_cons] at hpl
    obtain ⟨x, hx⟩ := hQ.get
    obtain ⟨y, hy, rfl, hm⟩ := nd_mem (bk := bk) hx
    have hnext : (rr = [] ∧ ndP bk y.g.parent = ndP bk (rr.headD (-1))) ∨ (ndP bk y.g.parent = ndP bk (rr.headD (-1)) ∧ ∃ q', 0 ≤ q' ∧ Path (xs.map (·.g)) q' rr) := by
      cases hQ with
      | root h hp =>
        rw [hx] at h
        obtain rfl := Option.some.inj h
        exact .inl ⟨rfl, by rw [ndP, if_pos hp]; exact (if_pos (by decide)).symm⟩
      | up h hp hl =>
        rw [hx] at h
        obtain rfl := Option.some.inj h
        obtain ⟨r2, rfl⟩ := hl.ne
        exact .inr ⟨rfl, _, hp, hl⟩
    refine wk ?_
    refine ec (oPnil ?_)
    refine wk ?_
    refine App (cs := [ptr (bk q)]) (fun r' b9 => ?_) (hc := by exact rfl)
    refine wk ?_
    refine LdF (i := i + 1) hm (hi := hi) ?_
    refine wk ?_
    have hP2 : ndP bk y.g.parent = ndP bk (rr.headD (-1)) := hnext.elim (fun h => h.2) (fun h => h.1)
    refine eq_back3 (pre ++ [q]) rr r' ⟨by rw [hs]; simp, ?_⟩ (by simp) ?_ fun w hw => ?_
    · rcases hnext with h | h
      · exact .inl h.1
      · exact .inr h.2
    · rw [← hP2, List.length_append]
      exact le_of _ _ rfl
    · rw [List.map_append, List.length_append]; exact hw
end Go.Proofs.YtpbnjifefoniiaaGreatDoor
namespace Go.Proofs.YtpbnjifefoniiaaGreatDoor
open Go Go.SE
variable {w0 : World} {w : World} {l : List HP} {i : Nat} {F : Hp}
theorem ndFan (bk : Int → Nat) (xs : List NdG) (y : NdG) (hm : (bk y.g.id, ndC bk y) ∈ ndF bk xs) (hi : l[i]? = some (famO T_tree_node (ndF bk xs))) (h1 : 0 ≤ y.sub ∧ y.sub ≤ 100000) (h2 : 0 ≤ y.g.members ∧ y.g.members ≤ 100000) :
    Does cx F_tree_node_fan [ptr (bk y.g.id)] (S w0 l) fun v w => v = int (y.sub + y.g.members) ∧ S w0 l w := by
  refine fn_enter (n := N_tree_node_fan) fn_tree_node_fan rfl rfl rfl ?_
  refine wk ?_
  have hI : ∀ w, S w0 l w → Held w0 [famO T_tree_node (ndF bk xs)] w := held1 (i := i) hi
  refine ej_held [famO T_tree_node (ndF bk xs)] ?_
  refine tk 0 ?_
  refine tk 1 ?_
  refine tk 2 ?_
  refine tv 3 rfl (rLdF 0 hm) ?_
  refine tk 4 ?_
  refine tk 5 ?_
  refine tk 6 ?_
  refine tv 7 rfl (rLdF 0 hm) ?_
  refine tv 8 rfl rArith ?_
  refine tk 9 ?_
  refine wd ?_
  refine wk ?_
  exact eq_rett rfl fun w hw => ⟨rfl, hw⟩
theorem ndRoot (bk : Int → Nat) (xs : List NdG) (g : Int) (ps : List Int) (hP : Path (xs.map (·.g)) g ps) (hi : l[i]? = some (famO T_tree_node (ndF bk xs))) (hn : ps.length ≤ 1000) (hg : 0 ≤ g) :
    Does cx F_tree_node_root [ptr (bk g)] (S w0 l) fun v w => v = ptr (bk (ps.getLastD 0)) ∧ S w0 l w := by
  obtain ⟨rr, hrr⟩ := hP.ne
  have hpos : 0 < ps.length := by rw [hrr]; simp
  have hlast : (ps.map fun p => ptr (bk p))[ps.length - 1]? = some (ptr (bk (ps.getLastD 0))) := by
    rw [List.getElem?_map, List.getLastD_eq_getLast?, List.getLast?_eq_getElem?, List.getElem?_eq_getElem (by omega)]; rfl
  refine fn_enter (n := N_tree_node_root) fn_tree_node_root rfl rfl rfl ?_
  refine wk ?_
  refine Cx1 (ndPath bk xs g ps hP hi hn hg) real_tree_node_path fun r _ => ?_
  refine wk ?_
  refine Ixr ?_
  refine Ldr (ps.length - 1) hlast ?_
  refine wk ?_
  exact eq_rett rfl fun w hw => ⟨rfl, hw.erase 0⟩
end Go.Proofs.YtpbnjifefoniiaaGreatDoor
namespace Go.Proofs.YtpbnjifefoniiaaGreatDoor
open Go Go.SE
variable {w0 : World} {w : World} {l : List HP} {i : Nat}
abbrev ndM (gm : Nat) (bk : Int → Nat) (ids : List Int) : HP := mapL gm (fun i : Int => i) (fun i => ptr (bk i)) ids
abbrev frA (fb tb gm : Nat) : HP := cells fb T_tree_Forest [ptr tb, .map (some gm)]
abbrev gids (xs : List NdG) : List Int := xs.map fun y => y.g.id
abbrev FrS (fb tb gm : Nat) (bk : Int → Nat) (xs : List NdG) (w0 : World) (l : List HP) : WP := S w0 (frA fb tb gm :: ndM gm bk (gids xs) :: famO T_tree_node (ndF bk xs) :: l)
theorem kfind_id_some {L : List Int} {x : Int} (h : x ∈ L) : kfind (fun i : Int => i) L x = some x := by
  cases hk : kfind (fun i : Int => i) L x with
  | none => exact absurd rfl (kfind_none.1 hk x h)
  | some y => rw [kfind_key (key := fun i : Int => i) hk]
theorem kfind_id_none {L : List Int} {x : Int} (h : x ∉ L) : kfind (fun i : Int => i) L x = none := kfind_none.2 fun _ ha e => h (e ▸ ha)
theorem ndF_set {bk : Int → Nat} {xs : List NdG} {j : Nat} {z' : NdG} : ndF bk (xs.set j z') = (ndF bk xs).set j (bk z'.g.id, ndC bk z') := List.map_set ..
theorem ndF_get {bk : Int → Nat} {xs : List NdG} {j : Nat} {z : NdG} (h : xs[j]? = some z) : (ndF bk xs)[j]? = some (bk z.g.id, ndC bk z) := by simp [h]
abbrev grC (x : Grp) (depth root : Int) : List Value := [int x.id, int x.parent, int x.weight, int depth, int root, int x.members, int x.awake]
abbrev grZ : List Value := [int 0, int 0, int 0, int 0, int 0, int 0, int 0]
theorem fGroup_no (fb tb gm : Nat) (bk : Int → Nat) (xs : List NdG) (g : Int) (h : g ∉ gids xs) : Does cx F_tree_Forest_Group [ptr fb, int g] (FrS fb tb gm bk xs w0 l) fun v w => v = .tuple #[.agg grZ.toArray, int 4] ∧ FrS fb tb gm bk xs w0 l w := by
  refine fn_enter (n := N_tree_Forest_Group) fn_tree_Forest_Group rfl rfl rfl ?_
  refine wk ?_
  refine ec (oAlloc fun q => ?_)
  refine wk ?_
  refine Go.SE.Lk ?_
  rw [lookL, if_pos rfl, kfind_id_none h]
  refine wk ?_
  refine ec (oBuild (cs := grZ) ?_)
  refine wk ?_
  exact eq_ret [_, _] (rvs_cell 0 rfl rfl rfl rfl rfl (rvs_tmp rfl rvs_nil)) fun w hw => ⟨rfl, hw.erase 0⟩
end Go.Proofs.YtpbnjifefoniiaaGreatDoor
namespace Go.Proofs.YtpbnjifefoniiaaGreatDoor
open Go Go.SE
variable {w0 : World} {w : World} {l : List HP} {i : Nat}
theorem pathK (bk : Int → Nat) (xs : List NdG) (g : Int) (ps : List Int) (hP : Path (xs.map (·.g)) g ps) (hi : l[i]? = some (famO T_tree_node (ndF bk xs))) (hn : ps.length ≤ 1000) (hg : 0 ≤ g) :
    Does cx F_tree_node_path [ptr (bk g)] (S w0 l) fun v w => ∃ r : Option (Nat × Nat), v = sv r ps.length ∧ True ∧ S w0 l w :=
  (ndPath bk xs g ps hP hi hn hg).mono (fun _ h => h) fun _ _ ⟨r, h1, h2, h3⟩ => ⟨r, h1, h2, h3.erase 0⟩
theorem rootK (bk : Int → Nat) (xs : List NdG) (g : Int) (ps : List Int) (hP : Path (xs.map (·.g)) g ps) (hi : l[i]? = some (famO T_tree_node (ndF bk xs))) (hn : ps.length ≤ 1000) (hg : 0 ≤ g) :
    Does cx F_tree_node_root [ptr (bk g)] (S w0 l) fun v w => ∃ _ : Unit, v = ptr (bk (ps.getLastD 0)) ∧ True ∧ S w0 l w :=
  (ndRoot bk xs g ps hP hi hn hg).mono (fun _ h => h) fun _ _ ⟨h1, h2⟩ => ⟨(), h1, trivial, h2⟩
theorem fGroup_ok (fb tb gm : Nat) (bk : Int → Nat) (xs : List NdG) (y : NdG) (hy : y ∈ xs) (ps : List Int) (hP : Path (xs.map (·.g)) y.g.id ps) (hn : ps.length ≤ 1000) (hg : 0 ≤ y.g.id) (hpar : y.g.parent < 0 → y.g.parent = -1) (hpin : 0 ≤ y.g.parent → ∃ z ∈ xs, z.g.id = y.g.parent) (hlast : ∃ z ∈ xs, z.g.id = ps.getLastD 0) :
    Does cx F_tree_Forest_Group [ptr fb, int y.g.id] (FrS fb tb gm bk xs w0 l) fun v w => v = .tuple #[.agg (grC y.g ps.length (ps.getLastD 0)).toArray, int 0] ∧ FrS fb tb gm bk xs w0 l w := by
  have hin : y.g.id ∈ gids xs := List.mem_map.2 ⟨y, hy, rfl⟩
  have hm : (bk y.g.id, ndC bk y) ∈ ndF bk xs := List.mem_map.2 ⟨y, hy, rfl⟩
  refine fn_enter (n := N_tree_Forest_Group) fn_tree_Forest_Group rfl rfl rfl ?_
  refine wk ?_
  refine ec (oAlloc fun q => ?_)
  refine wk ?_
  refine Go.SE.Lk ?_
  rw [lookL, if_pos rfl, kfind_id_some hin]
  refine wk ?_
  have hm' : (bk (ps.getLastD 0), ndC bk (y)) ∈ ndF bk xs ∨ True := .inr trivial
  obtain ⟨z, hz, hzi⟩ := hlast
  have hzm : (bk (ps.getLastD 0), ndC bk z) ∈ ndF bk xs := List.mem_map.2 ⟨z, hz, by rw [hzi]⟩
  refine ej_held [famO T_tree_node (ndF bk xs)] ?_
  have hI : ∀ w, FrS fb tb gm bk xs w0 l w → Held w0 [famO T_tree_node (ndF bk xs)] w := held1 (i := 2) rfl
  have hI1 : ∀ p w, S w0 (p :: frA fb tb gm :: ndM gm bk (gids xs) :: famO T_tree_node (ndF bk xs) :: l) w → Held w0 [famO T_tree_node (ndF bk xs)] w := fun p => held1 (i := 3) rfl
  have hI0 := hI1 (cells q T_tree_Group grZ)
  refine wa0 22 ?_
  refine wak 0 ?_
  refine wak 1 ?_
  refine wak 2 ?_
  refine wak 3 ?_
  refine wav 4 rfl (rLdF 0 hm) (fun _ => rLdF 0 hm) ?_
  refine wak 5 ?_
  refine wak 8 ?_
  refine wak 13 ?_
  refine wak 14 ?_
  refine wak 15 ?_
  refine wav 16 rfl (rLdF 0 hm) (fun _ => rLdF 0 hm) ?_
  refine wak 17 ?_
  refine wak 18 ?_
  refine wak 19 ?_
  refine wav 20 rfl (rLdF 0 hm) (fun _ => rLdF 0 hm) ?_
  refine wgc 6 rfl (V := fun r => sv r ps.length) (φ := fun _ => True) (hs := pathK (i := 3) bk xs y.g.id ps hP rfl hn hg) (hs1 := fun b => pathK (i := 4) bk xs y.g.id ps hP rfl hn hg) (hr := real_tree_node_path) (h := fun r _ => ?_)
  refine wav 7 rfl rLenv (fun _ => rLenv) ?_
  refine wgc 9 rfl (V := fun _ : Unit => ptr (bk (ps.getLastD 0))) (φ := fun _ => True) (hs := rootK (i := 3) bk xs y.g.id ps hP rfl hn hg) (hs1 := fun b => rootK (i := 4) bk xs y.g.id ps hP rfl hn hg) (hr := real_tree_node_root) (h := fun _ _ => ?_)
  refine wak 10 ?_
  refine wak 11 ?_
  refine wav 12 rfl (rLdF 0 hzm) (fun _ => rLdF 0 hzm) ?_
  refine wav 21 rfl (rBuild (cs := [int y.g.id, int (-1), int y.g.weight, int ps.length, int z.g.id, int y.g.members, int y.g.awake])) (fun _ => rBuild (cs := [int y.g.id, int (-1), int y.g.weight, int ps.length, int z.g.id, int y.g.members, int y.g.awake])) ?_
  refine wad fun b => ?_
  refine wv 23 rfl (eo_stA 0 rfl rfl rfl rfl rfl rfl rfl rfl rfl ⟨held1 (i := 4) rfl, ?_⟩)
  refine wd ?_
  refine wk ?_
  refine LdF (i := 4) hm ?_
  by_cases hp : y.g.parent < 0
  · rw [show ndP bk y.g.parent = .pointer none from if_pos hp]
    refine ec (oPnil ?_)
    refine wk ?_
    refine eq_ret [_, _] (rvs_cell 1 rfl rfl rfl rfl rfl (rvs_tmp rfl rvs_nil)) fun w hw => ⟨?_, (hw.erase 0).erase 0⟩
    rw [grC, hpar hp, ← hzi]; rfl
  · obtain ⟨u, hu, hui⟩ := hpin (by omega)
    have hum : (bk y.g.parent, ndC bk u) ∈ ndF bk xs := List.mem_map.2 ⟨u, hu, by rw [hui]⟩
    rw [show ndP bk y.g.parent = ptr (bk y.g.parent) from if_neg hp]
    refine ec (oPnil ?_)
    refine wk ?_
    refine LdF (i := 4) hm ?_
    rw [show ndP bk y.g.parent = ptr (bk y.g.parent) from if_neg hp]
    refine wk ?_
    refine LdF (i := 4) hum ?_
    refine wk ?_
    refine eq_ret [_, _] (rvs_cell 1 rfl rfl rfl rfl rfl (rvs_tmp rfl rvs_nil)) fun w hw => ⟨?_, (hw.erase 0).erase 0⟩
    rw [grC, ← hui, ← hzi]; rfl
end Go.Proofs.YtpbnjifefoniiaaGreatDoor
namespace Go.Proofs.YtpbnjifefoniiaaGreatDoor
open Go Go.SE
variable {w0 : World} {w : World} {l : List HP} {i : Nat}
def SameG (xs xs' : List NdG) : Prop := xs'.map (fun y => (y.g, y.sub)) = xs.map (fun y => (y.g, y.sub))
theorem SameG.gs {xs xs' : List NdG} (h : SameG xs xs') : xs'.map (·.g) = xs.map (·.g) := by
  have := congrArg (List.map Prod.fst) h
  simpa [List.map_map, Function.comp_def] using this
theorem SameG.ids {xs xs' : List NdG} (h : SameG xs xs') : gids xs' = gids xs := by
  have := congrArg (List.map Grp.id) h.gs
  simpa [List.map_map, Function.comp_def] using this
theorem SameG.refl (xs : List NdG) : SameG xs xs := rfl
theorem SameG.get {xs xs' : List NdG} (h : SameG xs xs') {j : Nat} {y : NdG} (hj : xs[j]? = some y) : ∃ y', xs'[j]? = some y' ∧ y'.g = y.g ∧ y'.sub = y.sub := by
  have h1 := congrArg (fun q : List (Grp × Int) => q[j]?) h
  simp only [List.getElem?_map, hj, Option.map_some] at h1
  cases h2 : xs'[j]? with
  | none => rw [h2] at h1; simp at h1
  | some y' =>
    rw [h2] at h1
    simp only [Option.map_some, Option.some.injEq, Prod.mk.injEq] at h1
    exact ⟨y', rfl, h1.1, h1.2⟩
theorem SameG.set {xs xs' : List NdG} (h : SameG xs xs') {j : Nat} {y z : NdG} (hj : xs'[j]? = some y) (h1 : z.g = y.g) (h2 : z.sub = y.sub) : SameG xs (xs'.set j z) := by
  rw [SameG, List.map_set, set_perm_front]
  · exact h
  · rw [List.getElem?_map, hj]; simp [h1, h2]
theorem ndCount (bk : Int → Nat) (xs : List NdG) (g more : Int) (ps : List Int) (hP : Path (xs.map (·.g)) g ps) (hi : l[i]? = some (famO T_tree_node (ndF bk xs))) (hn : ps.length ≤ 1000) (hg : 0 ≤ g) :
    Does cx F_tree_node_count [ptr (bk g), int more] (S w0 l) fun v w => ∃ xs' : List NdG, v = .tuple #[] ∧ SameG xs xs' ∧ S w0 (l.set i (famO T_tree_node (ndF bk xs'))) w := by
  refine fn_enter (n := N_tree_node_count) fn_tree_node_count rfl rfl rfl ?_
  refine wk ?_
  refine Cx1 (ndPath bk xs g ps hP hi hn hg) real_tree_node_path fun r _ => ?_
  refine wk ?_
  refine ej_loop2 (fun (k : Nat) (xs' : List NdG) => k ≤ ps.length ∧ SameG xs xs') (fun k _ => [(1, int more), (7, sv r ps.length), (8, int ps.length), (9, int k)])
    (fun _ xs' => S w0 (rowC r T_P_tree_node 1 (ps.map fun p => ptr (bk p)) ps.length :: l.set i (famO T_tree_node (ndF bk xs')))) (fun k _ => ps.length - k) 0 xs ⟨Nat.zero_le _, SameG.refl _⟩ (le_of _ _ rfl) (fun w hw => by rw [set_perm_front _ _ _ hi]; exact hw) ?_
  rintro k xs' ⟨hk, hS⟩
  have hil := (List.getElem?_eq_some_iff.1 hi).1
  have hi' : (l.set i (famO T_tree_node (ndF bk xs')))[i]? = some (famO T_tree_node (ndF bk xs')) := List.getElem?_set_self hil
  refine wk ?_
  refine ej_dec rfl (fun h => ?_) (fun h => ?_)
  · have h : k < ps.length := by omega
    obtain ⟨p, hp⟩ : ∃ p, ps[k]? = some p := ⟨_, List.getElem?_eq_getElem h⟩
    obtain ⟨x, hx⟩ := hP.mem p (List.mem_of_getElem? hp)
    have hxk : x.id = p := kfind_key hx
    obtain ⟨y, hy, rfl⟩ := List.mem_map.1 (kfind_mem hx)
    obtain ⟨j, hj⟩ := List.getElem?_of_mem hy
    obtain ⟨y', hj', e1, e2⟩ := hS.get hj
    have hm : (bk p, ndC bk y') ∈ ndF bk xs' := List.mem_map.2 ⟨y', List.mem_of_getElem? hj', by rw [e1, hxk]⟩
    have hj2 : (ndF bk xs')[j]? = some (bk p, ndC bk y') := by rw [ndF_get hj', e1, hxk]
    refine wk ?_
    refine Ixr ?_
    have hpv : (ps.map fun p => ptr (bk p))[k]? = some (ptr (bk p)) := by simp [hp]
    refine Ldr k hpv ?_
    refine wk ?_
    refine LdF (i := i + 1) hm (hi := hi') ?_
    refine wk ?_
    refine el_cons rfl (eo_arithW rfl rfl rfl rfl rfl rfl ?_)
    refine wk ?_
    generalize IntKind.i64.wrap (y'.act + more) = act
    refine StF (i := i + 1) (ndF bk (xs'.set j { y' with act := act })) hj2 ?_ ?_ (hi := hi')
    · rw [ndF_set]
      show _ = (ndF bk xs').set j (bk y'.g.id, ndC bk ⟨y'.g, act, y'.sub⟩)
      rw [show bk y'.g.id = bk p from by rw [e1, hxk]]; rfl
    refine wk ?_
    refine eq_back2 (k + 1) (xs'.set j { y' with act := act }) ⟨by omega, hS.set hj' rfl rfl⟩ (by omega) (le_of _ _ rfl) fun w hw => ?_
    simpa using hw
  · obtain rfl : k = ps.length := by omega
    refine wk ?_
    exact eq_end [] rvs_nil fun w hw => ⟨xs', rfl, hS, hw.erase 0⟩
end Go.Proofs.YtpbnjifefoniiaaGreatDoor
namespace Go.Proofs.YtpbnjifefoniiaaGreatDoor
open Go Go.SE
variable {w0 : World} {w : World} {l : List HP} {i : Nat}
theorem bk_nod {bk : Int → Nat} {xs : List NdG} (h : S w0 l w) (hi : l[i]? = some (famO T_tree_node (ndF bk xs))) : ((gids xs).map bk).Nodup := by
  have := h.famNod hi
  rw [ndF, List.map_map] at this
  rw [gids, List.map_map]; exact this
theorem bk_inj {bk : Int → Nat} : ∀ {L : List Int}, (L.map bk).Nodup → ∀ {a b : Int}, a ∈ L → b ∈ L → bk a = bk b → a = b
  | [], _, _, _, h, _, _ => by simp at h
  | x :: L, hn, a, b, ha, hb, e => by
    rw [List.map_cons, List.nodup_cons] at hn
    rcases List.mem_cons.1 ha with ea | ha'
    · rcases List.mem_cons.1 hb with eb | hb'
      · rw [ea, eb]
      · exact (hn.1 (List.mem_map.2 ⟨b, hb', by rw [← e, ea]⟩)).elim
    · rcases List.mem_cons.1 hb with eb | hb'
      · exact (hn.1 (List.mem_map.2 ⟨a, ha', by rw [e, eb]⟩)).elim
      · exact bk_inj hn.2 ha' hb' e
theorem ndF_mem {bk : Int → Nat} {xs : List NdG} {g : Int} (h : g ∈ gids xs) : ∃ cs, (bk g, cs) ∈ ndF bk xs := by
  obtain ⟨y, hy, rfl⟩ := List.mem_map.1 h
  exact ⟨_, List.mem_map.2 ⟨y, hy, rfl⟩⟩
theorem ndIndex (bk : Int → Nat) (xs : List NdG) (q : Int) (ps : List Int) (r : Option (Nat × Nat)) (hn : ps.length ≤ 1000) (hq : q ∈ gids xs) (hps : ∀ p ∈ ps, p ∈ gids xs) {j : Nat} (hj : l[j]? = some (rowC r T_P_tree_node 1 (ps.map fun p => ptr (bk p)) ps.length)) (hi : l[i]? = some (famO T_tree_node (ndF bk xs))) :
    Does cx F_slices_Index_tree_node_tree_node [sv r ps.length, ptr (bk q)] (S w0 l) fun v w => ∃ z : Int, v = int z ∧ (0 ≤ z ↔ q ∈ ps) ∧ S w0 l w := by
  refine fn_enter (n := N_slices_Index_tree_node_tree_node) fn_slices_Index_tree_node_tree_node rfl rfl rfl ?_
  refine wk ?_
  refine ej_know (fun w hw => bk_nod hw hi) fun hnd => ?_
  obtain ⟨cq, hmq⟩ := ndF_mem (bk := bk) hq
  refine ej_loopP (fun k : Nat => k ≤ ps.length ∧ q ∉ ps.take k) (fun k => [(0, sv r ps.length), (1, ptr (bk q)), (7, int ps.length), (8, int k)]) (fun _ => S w0 l) (fun k => ps.length - k) 0 ⟨Nat.zero_le _, by simp⟩ (le_of _ _ rfl) (fun w hw => hw) ?_
  rintro k ⟨hk, hno⟩
  refine wk ?_
  refine ej_dec rfl (fun h => ?_) (fun h => ?_)
  · have h : k < ps.length := by omega
    obtain ⟨p, hp⟩ : ∃ p, ps[k]? = some p := ⟨_, List.getElem?_eq_getElem h⟩
    have hpv : (ps.map fun p => ptr (bk p))[k]? = some (ptr (bk p)) := by simp [hp]
    have hpm := hps p (List.mem_of_getElem? hp)
    obtain ⟨cp, hmp⟩ := ndF_mem (bk := bk) hpm
    refine wk ?_
    refine Ixr (hj := hj) ?_
    refine Ldr k hpv (hi := hj) ?_
    refine wk ?_
    refine PeqF hmq hmp (hi := hi) ?_
    refine wk ?_
    refine ej_dec rfl (fun h => ?_) (fun h => ?_)
    · have e : q = p := bk_inj hnd hq hpm h
      subst e
      refine wk ?_
      refine eq_rett rfl fun w hw => ⟨k, rfl, ⟨fun _ => List.mem_of_getElem? hp, fun _ => by omega⟩, hw⟩
    · refine wk ?_
      refine eq_backP (k + 1) ⟨by omega, ?_⟩ (by omega) (le_of _ _ rfl) fun w hw => hw
      rw [List.take_add_one, hp]
      intro hm
      rcases List.mem_append.1 hm with h1 | h1
      · exact hno h1
      · have e : q = p := by simpa using h1
        exact h (by rw [e])
  · obtain rfl : k = ps.length := by omega
    rw [List.take_length] at hno
    refine wk ?_
    exact eq_rett rfl fun w hw => ⟨-1, rfl, ⟨fun h => absurd h (by decide), fun h => absurd h hno⟩, hw⟩
theorem ndContains (bk : Int → Nat) (xs : List NdG) (q : Int) (ps : List Int) (r : Option (Nat × Nat)) (hn : ps.length ≤ 1000) (hq : q ∈ gids xs) (hps : ∀ p ∈ ps, p ∈ gids xs) {j : Nat} (hj : l[j]? = some (rowC r T_P_tree_node 1 (ps.map fun p => ptr (bk p)) ps.length)) (hi : l[i]? = some (famO T_tree_node (ndF bk xs))) :
    Does cx F_slices_Contains_tree_node_tree_node [sv r ps.length, ptr (bk q)] (S w0 l) fun v w => v = .bool (ps.contains q) ∧ S w0 l w := by
  refine fn_enter (n := N_slices_Contains_tree_node_tree_node) fn_slices_Contains_tree_node_tree_node rfl rfl rfl ?_
  refine wk ?_
  refine Cx1 (ndIndex bk xs q ps r hn hq hps hj hi) real_slices_Index_tree_node_tree_node fun z hz => ?_
  refine wk ?_
  refine eq_rett rfl fun w hw => ⟨?_, hw⟩
  have e : decide (0 ≤ z) = ps.contains q := by
    rw [Bool.eq_iff_iff, decide_eq_true_eq, hz]; simp
  show Value.bool (decide (0 ≤ z)) = _
  rw [e]
theorem ndBelow (bk : Int → Nat) (xs : List NdG) (g q : Int) (ps : List Int) (hP : Path (xs.map (·.g)) g ps) (hq : q ∈ gids xs) (hi : l[i]? = some (famO T_tree_node (ndF bk xs))) (hn : ps.length ≤ 1000) (hg : 0 ≤ g) :
    Does cx F_tree_node_below [ptr (bk g), ptr (bk q)] (S w0 l) fun v w => v = .bool (ps.contains q) ∧ S w0 l w := by
  have hps : ∀ p ∈ ps, p ∈ gids xs := fun p hp => by
    obtain ⟨x, hx⟩ := hP.mem p hp
    obtain ⟨y, hy, e⟩ := List.mem_map.1 (kfind_mem hx)
    exact List.mem_map.2 ⟨y, hy, by rw [e]; exact kfind_key hx⟩
  refine fn_enter (n := N_tree_node_below) fn_tree_node_below rfl rfl rfl ?_
  refine wk ?_
  refine Cx1 (ndPath bk xs g ps hP hi hn hg) real_tree_node_path fun r _ => ?_
  refine wk ?_
  refine C1 (ndContains bk xs q ps r hn hq hps (j := 0) (i := i + 1) rfl hi) real_slices_Contains_tree_node_tree_node ?_
  refine wk ?_
  exact eq_rett rfl fun w hw => ⟨rfl, hw.erase 0⟩
theorem fBelow (fb tb gm : Nat) (bk : Int → Nat) (xs : List NdG) (g q : Int) (ps : List Int) (hP : g ∈ gids xs → Path (xs.map (·.g)) g ps) (hn : ps.length ≤ 1000) (hpos : ∀ g ∈ gids xs, 0 ≤ g) :
    Does cx F_tree_Forest_Below [ptr fb, int g, int q] (FrS fb tb gm bk xs w0 l) fun v w => v = .bool (decide (g ∈ gids xs) && (decide (q ∈ gids xs) && ps.contains q)) ∧ FrS fb tb gm bk xs w0 l w := by
  refine fn_enter (n := N_tree_Forest_Below) fn_tree_Forest_Below rfl rfl rfl ?_
  refine wk ?_
  refine Go.SE.Lk ?_
  refine wk ?_
  by_cases hg : g ∈ gids xs
  · rw [lookL, if_pos rfl, kfind_id_some hg]
    by_cases hq : q ∈ gids xs
    · refine wk ?_
      refine Go.SE.Lk ?_
      rw [lookL, if_pos rfl, kfind_id_some hq]
      refine wk ?_
      refine C1 (ndBelow bk xs g q ps (hP hg) hq (i := 2) rfl hn (hpos g hg)) real_tree_node_below ?_
      refine wk ?_
      refine eq_rett rfl fun w hw => ⟨?_, hw⟩
      simp [hg, hq, pack]
    · refine wk ?_
      refine Go.SE.Lk ?_
      rw [lookL, if_pos rfl, kfind_id_none hq]
      refine wk ?_
      refine eq_rett rfl fun w hw => ⟨?_, hw⟩
      simp [hg, hq, pack]
  · rw [lookL, if_pos rfl, kfind_id_none hg]
    refine wk ?_
    refine Go.SE.Lk ?_
    by_cases hq : q ∈ gids xs
    · rw [lookL, if_pos rfl, kfind_id_some hq]
      refine wk ?_
      refine eq_rett rfl fun w hw => ⟨?_, hw⟩
      simp [hg, pack]
    · rw [lookL, if_pos rfl, kfind_id_none hq]
      refine wk ?_
      refine eq_rett rfl fun w hw => ⟨?_, hw⟩
      simp [hg, pack]
end Go.Proofs.YtpbnjifefoniiaaGreatDoor
namespace Go.Proofs.YtpbnjifefoniiaaGreatDoor
open Go Go.SE
variable {w0 : World} {w : World} {l : List HP} {i : Nat}
theorem gids_set {xs : List NdG} {j : Nat} {y z : NdG} (hj : xs[j]? = some y) (h : z.g.id = y.g.id) : gids (xs.set j z) = gids xs := by
  rw [gids, List.map_set, h, set_perm_front]
  rw [List.getElem?_map, hj]; rfl
theorem ndF_upd {bk : Int → Nat} {xs : List NdG} {j : Nat} {y z : NdG} (h : z.g.id = y.g.id) : (ndF bk xs).set j (bk y.g.id, ndC bk z) = ndF bk (xs.set j z) := by
  rw [ndF_set, h]
theorem same_set {xs : List NdG} {j : Nat} {y z : NdG} (hj : xs[j]? = some y) (h : z.g.id = y.g.id) (hp : z.g.parent = y.g.parent) : ∀ g x, gget (xs.map (·.g)) g = some x → ∃ x', gget ((xs.set j z).map (·.g)) g = some x' ∧ x'.parent = x.parent := by
  induction xs generalizing j with
  | nil => simp at hj
  | cons a xs ih =>
    intro g x hx
    cases j with
    | zero =>
      have e : a = y := by simpa using hj
      subst e
      simp only [List.set_cons_zero, List.map_cons, gget, kfind, List.find?_cons] at hx ⊢
      rw [h]
      cases hd : decide (a.g.id = g) with
      | true =>
        rw [hd] at hx
        have e := Option.some.inj hx
        subst e
        exact ⟨z.g, rfl, hp⟩
      | false => rw [hd] at hx; exact ⟨x, hx, rfl⟩
    | succ j =>
      simp only [List.set_cons_succ, List.map_cons, gget, kfind, List.find?_cons] at hx ⊢
      cases hd : decide (a.g.id = g) with
      | true => rw [hd] at hx; exact ⟨x, hx, rfl⟩
      | false =>
        rw [hd] at hx
        exact ih (j := j) (by simpa using hj) g x hx
section
variable (fb tb gm : Nat) (bk : Int → Nat) (xs : List NdG) (j : Nat) (y : NdG) (g : Int)
theorem fJoin_no (h : g ∉ gids xs) : Does cx F_tree_Forest_Join [ptr fb, int g] (FrS fb tb gm bk xs w0 l) fun v w => v = int 4 ∧ FrS fb tb gm bk xs w0 l w := by
  refine fn_enter (n := N_tree_Forest_Join) fn_tree_Forest_Join rfl rfl rfl ?_
  refine wk ?_
  refine Go.SE.Lk ?_
  rw [lookL, if_pos rfl, kfind_id_none h]
  refine wk ?_
  exact eq_rett rfl fun w hw => ⟨rfl, hw⟩
theorem fJoin_ok (hj : xs[j]? = some y) (h1 : 0 ≤ y.sub ∧ y.sub ≤ 100000) (h2 : 0 ≤ y.g.members ∧ y.g.members ≤ 100000) : Does cx F_tree_Forest_Join [ptr fb, int y.g.id] (FrS fb tb gm bk xs w0 l) fun v w => v = int (if y.sub + y.g.members = 32 then 6 else 0) ∧
    FrS fb tb gm bk (if y.sub + y.g.members = 32 then xs else xs.set j { y with g := { y.g with members := y.g.members + 1 } }) w0 l w := by
  have hin : y.g.id ∈ gids xs := List.mem_map.2 ⟨y, List.mem_of_getElem? hj, rfl⟩
  have hm : (bk y.g.id, ndC bk y) ∈ ndF bk xs := List.mem_map.2 ⟨y, List.mem_of_getElem? hj, rfl⟩
  refine fn_enter (n := N_tree_Forest_Join) fn_tree_Forest_Join rfl rfl rfl ?_
  refine wk ?_
  refine Go.SE.Lk ?_
  rw [lookL, if_pos rfl, kfind_id_some hin]
  refine wk ?_
  refine C1 (ndFan bk xs y hm (i := 2) rfl h1 h2) real_tree_node_fan ?_
  refine wk ?_
  refine ej_dec rfl (fun h => ?_) (fun h => ?_)
  · refine wk ?_
    refine eq_rett rfl fun w hw => ?_
    rw [if_pos h, if_pos h]; exact ⟨rfl, hw⟩
  · refine wk ?_
    refine LdF (i := 2) hm ?_
    refine wk ?_
    refine StF (i := 2) _ (ndF_get hj) (ndF_upd (bk := bk) (xs := xs) (j := j) (y := y) (z := { y with g := { y.g with members := y.g.members + 1 } }) rfl) ?_
    refine wk ?_
    refine eq_rett rfl fun w hw => ?_
    rw [if_neg h, if_neg h]
    refine ⟨rfl, ?_⟩
    rw [FrS, gids_set hj (by rfl)]
    exact hw
theorem fWake_ok (hj : xs[j]? = some y) (ps : List Int) (hP : Path (xs.map (·.g)) y.g.id ps) (hn : ps.length ≤ 1000) (hg : 0 ≤ y.g.id) (hne : ¬ y.g.members = y.g.awake) (h2 : 0 ≤ y.g.awake ∧ y.g.awake ≤ 100000) : Does cx F_tree_Forest_Wake [ptr fb, int y.g.id] (FrS fb tb gm bk xs w0 l) fun v w => ∃ xs', v = int 0 ∧
    SameG (xs.set j { y with g := { y.g with awake := y.g.awake + 1 } }) xs' ∧ FrS fb tb gm bk xs' w0 l w := by
  have hin : y.g.id ∈ gids xs := List.mem_map.2 ⟨y, List.mem_of_getElem? hj, rfl⟩
  have hm : (bk y.g.id, ndC bk y) ∈ ndF bk xs := List.mem_map.2 ⟨y, List.mem_of_getElem? hj, rfl⟩
  refine fn_enter (n := N_tree_Forest_Wake) fn_tree_Forest_Wake rfl rfl rfl ?_
  refine wk ?_
  refine Go.SE.Lk ?_
  rw [lookL, if_pos rfl, kfind_id_some hin]
  refine wk ?_
  have hI : ∀ w, FrS fb tb gm bk xs w0 l w → Held w0 [famO T_tree_node (ndF bk xs)] w := held1 (i := 2) rfl
  refine ej_held [famO T_tree_node (ndF bk xs)] ?_
  refine tk 0 ?_
  refine tk 1 ?_
  refine tk 2 ?_
  refine tv 3 rfl (rLdF 0 hm) ?_
  refine tk 4 ?_
  refine tk 5 ?_
  refine tk 6 ?_
  refine tv 7 rfl (rLdF 0 hm) ?_
  refine tk 8 ?_
  refine tk 9 ?_
  refine wd ?_
  refine wk ?_
  refine ej_dec rfl (fun h => absurd h hne) (fun _ => ?_)
  refine wk ?_
  refine LdF (i := 2) hm ?_
  refine wk ?_
  refine StF (i := 2) _ (ndF_get hj) (ndF_upd (bk := bk) (xs := xs) (j := j) (y := y) (z := { y with g := { y.g with awake := y.g.awake + 1 } }) rfl) ?_
  refine wk ?_
  refine Cx1 (ndCount bk (xs.set j { y with g := { y.g with awake := y.g.awake + 1 } }) y.g.id 1 ps (hP.same (same_set (z := { y with g := { y.g with awake := y.g.awake + 1 } }) hj rfl rfl)) (i := 2) rfl hn hg) real_tree_node_count fun xs' hS => ?_
  refine wk ?_
  refine eq_rett rfl fun w hw => ⟨xs', rfl, hS, ?_⟩
  rw [FrS, hS.ids, gids_set hj (by rfl)]
  exact hw
end
end Go.Proofs.YtpbnjifefoniiaaGreatDoor
namespace Go.Proofs.YtpbnjifefoniiaaGreatDoor
open Go Go.SE
variable {w0 : World} {w : World} {l : List HP} {i : Nat}
theorem sortI_perm' {a b : List Int} (h : a.Perm b) : sortI a = sortI b := by
  have hs : ∀ a : List Int, (sortI a).Pairwise (fun x y => x ≤ y) := fun a => by
    have := List.pairwise_mergeSort (le := fun x y : Int => decide (x ≤ y)) (fun x y z h1 h2 => by simp only [decide_eq_true_eq] at *; omega) (fun x y => by simp only [Bool.or_eq_true, decide_eq_true_eq]; omega) a
    exact this.imp fun h => by simpa using h
  refine List.Perm.eq_of_pairwise (le := fun x y => x ≤ y) (fun x y _ _ h1 h2 => by omega) (hs a) (hs b) ?_
  exact (List.mergeSort_perm a _).trans (h.trans (List.mergeSort_perm b _).symm)
theorem perm_map_inv {α β : Type} (f : α → β) {ks : List β} {L : List α} (hp : ks.Perm (L.map f)) : ∃ L0 : List α, L0.Perm L ∧ ks = L0.map f := by
  generalize hq : L.map f = q at hp
  induction hp generalizing L with
  | nil => exact ⟨[], by rw [List.map_eq_nil_iff.1 hq], rfl⟩
  | cons x _ ih =>
    cases L with
    | nil => simp at hq
    | cons a L =>
      simp only [List.map_cons, List.cons.injEq] at hq
      obtain ⟨L0, h1, h2⟩ := ih hq.2
      exact ⟨a :: L0, h1.cons _, by rw [List.map_cons, ← h2, hq.1]⟩
  | swap x y _ =>
    cases L with
    | nil => simp at hq
    | cons a L =>
      cases L with
      | nil => simp at hq
      | cons b L =>
        simp only [List.map_cons, List.cons.injEq] at hq
        exact ⟨b :: a :: L, List.Perm.swap _ _ _, by rw [List.map_cons, List.map_cons, ← hq.1, ← hq.2.1, ← hq.2.2]⟩
  | trans _ _ ih1 ih2 =>
    obtain ⟨L1, h1, h2⟩ := ih2 hq
    obtain ⟨L0, h3, h4⟩ := ih1 h2.symm
    exact ⟨L0, h3.trans h1, h4⟩
theorem perm_step {α : Type} {L vis lf : List α} {j : Nat} {y : α} (hp : (vis ++ lf).Perm L) (hj : lf[j]? = some y) : ((vis ++ [y]) ++ lf.eraseIdx j).Perm L := by
  have h1 := perm_front hj
  refine List.Perm.trans ?_ hp
  rw [List.append_assoc]
  exact List.Perm.append_left _ (by simpa using h1.symm)
theorem eraseIdx_map {α β : Type} (f : α → β) : ∀ (L : List α) (j : Nat), (L.map f).eraseIdx j = (L.eraseIdx j).map f
  | [], _ => rfl
  | _ :: _, 0 => rfl
  | a :: L, j + 1 => by simp only [List.map_cons, List.eraseIdx_cons_succ, eraseIdx_map f L j]
abbrev kidQ (g : Int) (y : NdG) : Bool := decide (0 ≤ y.g.parent ∧ y.g.parent = g)
abbrev kidsX (xs : List NdG) (g : Int) : List Int := (xs.filter (kidQ g)).map fun y => y.g.id
abbrev ndE (bk : Int → Nat) (y : NdG) : Int × Value := (y.g.id, ptr (bk y.g.id))
set_option maxHeartbeats 1600000 in
theorem fChildren_ (fb tb gm : Nat) (bk : Int → Nat) (xs : List NdG) (g : Int) (hpin : ∀ y ∈ xs, 0 ≤ y.g.parent → ∃ u ∈ xs, u.g.id = y.g.parent) (hn : xs.length ≤ 1000) :
    Does cx F_tree_Forest_Children [ptr fb, int g] (FrS fb tb gm bk xs w0 l) fun v w => ∃ r, v = sv r (sortI (kidsX xs g)).length ∧ True ∧ S w0 (rowC r T_int 1 (ints (sortI (kidsX xs g))) (sortI (kidsX xs g)).length :: frA fb tb gm :: ndM gm bk (gids xs) :: famO T_tree_node (ndF bk xs) :: l) w := by
  refine fn_enter (n := N_tree_Forest_Children) fn_tree_Forest_Children rfl rfl rfl ?_
  refine ej_ex (fun w hw => mapL_open (i := 1) hw rfl) fun kvs => ej_pre (fun w h => h) fun hp => ?_
  have shut : ∀ q w, S w0 (q :: frA fb tb gm :: mapO gm .i64 kvs :: famO T_tree_node (ndF bk xs) :: l) w → S w0 (q :: frA fb tb gm :: ndM gm bk (gids xs) :: famO T_tree_node (ndF bk xs) :: l) w := fun q w hw => hw.imp (i := 2) rfl fun h hm => ⟨kvs, hp, hm⟩
  obtain ⟨L0, hL0, hk⟩ : ∃ L0 : List NdG, L0.Perm xs ∧ kvs = L0.map (ndE bk) := perm_map_inv _ (by simpa [ents, gids, List.map_map, Function.comp_def, ndE] using hp)
  refine wk ?_
  refine el_row0 T_int 1 ?_
  refine el_cons rfl (eo_range 2 rfl rfl rfl rfl rfl rfl rfl fun r9 => ?_)
  refine wk ?_
  refine ej_loop4 (fun (vis lf : List NdG) (_ : Option (Int × Value)) (_ : Option (Nat × Nat)) => (vis ++ lf).Perm L0) (fun vis _ _ r => [(0, ptr fb), (1, int g), (5, sv r ((vis.filter (kidQ g)).map fun y => y.g.id).length), (12, ptr r9)])
    (fun vis lf cur r => S w0 (rowC r T_int 1 (ints ((vis.filter (kidQ g)).map fun y => y.g.id)) ((vis.filter (kidQ g)).map fun y => y.g.id).length :: frA fb tb gm :: rangeO gm r9 .i64 kvs (lf.map (ndE bk)) cur :: famO T_tree_node (ndF bk xs) :: l)) (fun _ lf _ _ => lf.length) [] L0 none none (by simp) (le_of _ _ rfl) (fun w hw => by rw [← hk]; exact hw) ?_
  rintro vis lf cur r hvl
  refine wk ?_
  refine el_cons rfl (eo_next 2 rfl rfl rfl rfl rfl (fun hnil => ?_) (fun j p hj => ?_))
  · obtain rfl : lf = [] := List.map_eq_nil_iff.1 hnil
    rw [List.append_nil] at hvl
    have hvx := hvl.trans hL0
    have hs : sortI ((vis.filter (kidQ g)).map fun y => y.g.id) = sortI (kidsX xs g) := sortI_perm' ((hvx.filter _).map _)
    generalize hout : ((vis.filter (kidQ g)).map fun y => y.g.id) = out at hs ⊢
    have hol : out.length ≤ 1000 := by
      rw [← hout, List.length_map]
      exact Nat.le_trans (List.length_filter_le ..) (by rw [hvx.length_eq]; exact hn)
    refine wk ?_
    refine el_imp (fun w hw => hw.range_end (i := 2) rfl) ?_
    refine wk ?_
    refine C1 (sortI_any (i := 0) out (by omega) _ rfl) real_slices_Sort_int_int ?_
    refine wk ?_
    refine eq_rett rfl fun w hw => ⟨r, ?_, trivial, ?_⟩
    · exact congrArg (sv r) (show out.length = (sortI (kidsX xs g)).length by rw [← hs]; simp [sortI])
    · rw [← hs, show (sortI out).length = out.length from by simp [sortI]]
      exact shut _ w hw
  · rw [List.getElem?_map] at hj
    obtain ⟨y, hy, rfl⟩ := Option.map_eq_some_iff.1 hj
    have hyx : y ∈ xs := (hvl.trans hL0).mem_iff.1 (List.mem_append_right _ (List.mem_of_getElem? hy))
    have hm : (bk y.g.id, ndC bk y) ∈ ndF bk xs := List.mem_map.2 ⟨y, hyx, rfl⟩
    have hstep := perm_step hvl hy
    have hlt := (List.getElem?_eq_some_iff.1 hy).1
    have hvlen : ((vis.filter (kidQ g)).map fun y => y.g.id).length ≤ 1000 := by
      have h1 := (hvl.trans hL0).length_eq
      rw [List.length_append] at h1
      have h2 := List.length_filter_le (kidQ g) vis
      rw [List.length_map]; omega
    have hless : (lf.eraseIdx j).length < lf.length := by rw [List.length_eraseIdx_of_lt hlt]; omega
    rw [eraseIdx_map]
    refine wk ?_
    refine el_cons rfl (eo_entry 2 rfl rfl rfl rfl rfl ?_)
    refine wk ?_
    refine LdF (i := 3) hm ?_
    by_cases hpz : y.g.parent < 0
    · rw [show ndP bk y.g.parent = .pointer none from if_pos hpz]
      refine ec (oPnil ?_)
      refine wk ?_
      refine eq_back4 (vis ++ [y]) (lf.eraseIdx j) (some (ndE bk y)) r hstep hless ?_ fun w hw => ?_
      · rw [List.filter_append, List.filter_cons_of_neg (by simp; omega), List.filter_nil, List.append_nil]
        exact le_of _ _ rfl
      · rw [List.filter_append, List.filter_cons_of_neg (by simp; omega), List.filter_nil, List.append_nil]
        exact hw
    · obtain ⟨u, hu, hui⟩ := hpin y hyx (by omega)
      have hum : (bk y.g.parent, ndC bk u) ∈ ndF bk xs := List.mem_map.2 ⟨u, hu, by rw [hui]⟩
      rw [show ndP bk y.g.parent = ptr (bk y.g.parent) from if_neg hpz]
      refine ec (oPnil ?_)
      refine wk ?_
      refine LdF (i := 3) hm ?_
      rw [show ndP bk y.g.parent = ptr (bk y.g.parent) from if_neg hpz]
      refine wk ?_
      refine LdF (i := 3) hum ?_
      refine wk ?_
      refine ej_dec rfl (fun h => ?_) (fun h => ?_)
      · have h : u.g.id = g := h
        refine wk ?_
        refine App (cs := [int y.g.id]) (fun r' b9 => ?_) (hc := by exact rfl)
        refine wk ?_
        have e : ((vis ++ [y]).filter (kidQ g)).map (fun y => y.g.id) = ((vis.filter (kidQ g)).map fun y => y.g.id) ++ [y.g.id] := by
          rw [List.filter_append, List.filter_cons_of_pos (by simp; omega), List.filter_nil, List.map_append]; rfl
        refine eq_back4 (vis ++ [y]) (lf.eraseIdx j) (some (ndE bk y)) r' hstep hless ?_ fun w hw => ?_
        · rw [e, List.length_append]
          exact le_of _ _ rfl
        · rw [e, ints, List.map_append, List.length_append]
          exact hw
      · have h : ¬ u.g.id = g := h
        refine wk ?_
        refine eq_back4 (vis ++ [y]) (lf.eraseIdx j) (some (ndE bk y)) r hstep hless ?_ fun w hw => ?_
        · rw [List.filter_append, List.filter_cons_of_neg (by simp; omega), List.filter_nil, List.append_nil]
          exact le_of _ _ rfl
        · rw [List.filter_append, List.filter_cons_of_neg (by simp; omega), List.filter_nil, List.append_nil]
          exact hw
end Go.Proofs.YtpbnjifefoniiaaGreatDoor
namespace Go.Proofs.YtpbnjifefoniiaaGreatDoor
open Go Go.SE
variable {w0 : World} {w : World} {l : List HP} {i : Nat}
structure FoX where
  tb : Nat
  gm : Nat
  bk : Int → Nat
  xs : List NdG
  sl : List Int
structure FoI (F : Forest) (x : FoX) : Prop where
  gs : x.xs.map (·.g) = F.L
  len : x.sl.length = F.room
  ids : tids x.sl = F.L.map Grp.id
  sub : ∀ y ∈ x.xs, y.sub = (F.kids y.g.id).length
theorem FoI.gidsIs {F : Forest} {x : FoX} (h : FoI F x) : gids x.xs = F.L.map Grp.id := by rw [← h.gs, List.map_map]; rfl
abbrev foQ (fb : Nat) (F : Forest) (x : FoX) : List HP := [frA fb x.tb x.gm, ndM x.gm x.bk (gids x.xs), famO T_tree_node (ndF x.bk x.xs), tableO x.tb x.sl F.last]
def forestO (fb : Nat) (F : Forest) : HP := fun h => ∃ x : { x : FoX // FoI F x }, stars (foQ fb F x.1) h
theorem does_forest {f : FuncId} {args : List Value} {R : Value → WP} {fb : Nat} {F : Forest} (h : ∀ tb gm bk xs sl, FoI F ⟨tb, gm, bk, xs, sl⟩ → Does cx f args (FrS fb tb gm bk xs w0 (tableO tb sl F.last :: l)) R) : Does cx f args (S w0 (forestO fb F :: l)) R :=
  does_open (i := 0) (qs := fun x : { x : FoX // FoI F x } => foQ fb F x.1) rfl (fun _ hp => hp) fun x => h _ _ _ _ _ x.2
theorem shut_forest {fb : Nat} {F : Forest} {tb gm : Nat} {bk : Int → Nat} {xs : List NdG} {sl : List Int} (hI : FoI F ⟨tb, gm, bk, xs, sl⟩) (h : FrS fb tb gm bk xs w0 (tableO tb sl F.last :: l) w) : S w0 (forestO fb F :: l) w :=
  S.fold (qs := foQ fb F ⟨tb, gm, bk, xs, sl⟩) h fun _ hp => ⟨⟨_, hI⟩, hp⟩
variable {F : Forest} {D : Nat} {x : FoX} {g : Int}
theorem FoI.mem_ids (h : FoI F x) : g ∈ gids x.xs ↔ (F.get g).isSome = true := by
  rw [h.gidsIs]
  cases hg : F.get g with
  | none =>
    simp only [Option.isSome_none, Bool.false_eq_true, iff_false, List.mem_map, not_exists, not_and]
    exact fun a ha => kfind_none.1 hg a ha
  | some y => simp only [Option.isSome_some, iff_true, List.mem_map]; exact ⟨y, kfind_mem hg, kfind_key hg⟩
theorem FoI.node (h : FoI F x) {y : Grp} (hg : F.get g = some y) : ∃ z : NdG, z ∈ x.xs ∧ z.g = y := by
  have := kfind_mem hg
  rw [← h.gs] at this
  obtain ⟨z, h1, h2⟩ := List.mem_map.1 this
  exact ⟨z, h1, h2⟩
theorem FoI.nodAt (h : FoI F x) {y : Grp} (hg : F.get g = some y) : ∃ (j : Nat) (z : NdG), x.xs[j]? = some z ∧ z.g = y ∧ F.L[j]? = some y := by
  obtain ⟨z, h1, h2⟩ := h.node hg
  obtain ⟨j, hj⟩ := List.getElem?_of_mem h1
  exact ⟨j, z, hj, h2, by rw [← h.gs, List.getElem?_map, hj]; simp [h2]⟩
theorem FoI.set (h : FoI F x) (hO : F.Ok D) {j : Nat} {z z' : NdG} {f : Grp → Grp} (hj : x.xs[j]? = some z) (hz : z'.g = f z.g) (hf : ∀ x, (f x).id = x.id) (hp : ∀ x, (f x).parent = x.parent) (hs : z'.sub = z.sub) :
    FoI (F.upd z.g.id f) { x with xs := x.xs.set j z' } := by
  have hL : F.L[j]? = some z.g := by rw [← h.gs, List.getElem?_map, hj]; rfl
  have e : (F.upd z.g.id f).L = F.L.set j z'.g := by
    rw [hz, kupd_set hO.nod hL]
    show kupd Grp.id F.L z.g.id f = _
    refine List.map_congr_left fun a ha => ?_
    split
    · rename_i e
      have h1 := hO.getOf ha
      rw [e, hO.getOf (List.mem_of_getElem? hL)] at h1
      rw [Option.some.inj h1]
    · rfl
  refine ⟨?_, h.len, ?_, ?_⟩
  · show (x.xs.set j z').map (·.g) = _
    rw [List.map_set, h.gs, e]
  · rw [h.ids]
    exact (kupd_keys hf).symm
  · intro y hy
    rw [Forest.kids_upd hf hp]
    rcases List.mem_or_eq_of_mem_set hy with h1 | rfl
    · exact h.sub y h1
    · rw [hs, hz, hf]; exact h.sub z (List.mem_of_getElem? hj)
def Forest.told (F : Forest) (g : Int) : List Value := match F.get g with
  | none => grZ
  | some x => grC x (F.depth g) (F.root g)
def Forest.there (F : Forest) (g : Int) : Int := if (F.get g).isSome then 0 else 4
end Go.Proofs.YtpbnjifefoniiaaGreatDoor
namespace Go.Proofs.YtpbnjifefoniiaaGreatDoor
open Go Go.SE
variable {w0 : World} {w : World} {l : List HP} {i : Nat} {F : Forest} {D : Nat} {fb : Nat} {g : Int}
structure NdK (F : Forest) (x : FoX) (g : Int) (y : Grp) (j : Nat) (z : NdG) : Prop where
  at_ : x.xs[j]? = some z
  grp : z.g = y
  id : z.g.id = g
  path : Path (x.xs.map (·.g)) g (F.path g)
  short : (F.path g).length ≤ 8
  pos : 1 ≤ g
  sub : z.sub = (F.kids g).length
  kids : (F.kids g).length ≤ 32 ∧ 0 ≤ y.members ∧ y.members ≤ 32 ∧ 0 ≤ y.awake ∧ y.awake ≤ y.members
  fan : F.fan g = z.sub + y.members
  root : y.parent < 0 → y.parent = -1
  par : 0 ≤ y.parent → ∃ u ∈ x.xs, u.g.id = y.parent
  last : ∃ u ∈ x.xs, u.g.id = (F.path g).getLastD 0
theorem FoI.nd {x : FoX} (h : FoI F x) (hO : F.Ok D) {y : Grp} (hg : F.get g = some y) : ∃ (j : Nat) (z : NdG), NdK F x g y j z := by
  obtain ⟨j, z, h1, h2, h3⟩ := h.nodAt hg
  have hym := kfind_mem hg
  have hk := kfind_key hg
  have hP := hO.pathOf hg
  have hf := hO.fans y hym
  have hm := hO.mem y hym
  have hid : z.g.id = g := by rw [h2]; exact hk
  have hfan : F.fan g = (F.kids g).length + y.members := by rw [Forest.fan, hg]; rfl
  rw [hk, hfan] at hf
  have hs := h.sub z (List.mem_of_getElem? h1)
  rw [hid] at hs
  have inx : ∀ {q : Int} {u : Grp}, F.get q = some u → ∃ u ∈ x.xs, u.g.id = q := fun {q u} hu => by
    obtain ⟨v, h4, h5⟩ := h.node hu
    exact ⟨v, h4, by rw [h5]; exact kfind_key hu⟩
  refine ⟨j, z, h1, h2, hid, by rw [h.gs]; exact hP.1, hP.2, ?_, hs, by omega, by rw [hfan, hs], fun hp => (hO.roots y hym).1 hp, fun hp => ?_, ?_⟩
  · have := (hO.ids y hym).1; rw [hk] at this; exact this
  · obtain ⟨u, hu⟩ := hO.parentIn hg hp
    exact inx hu
  · obtain ⟨u, hu, _, _⟩ := hP.1.last
    exact inx hu
theorem fGroup (hO : F.Ok D) (g : Int) : ∀ l, Does cx F_tree_Forest_Group [ptr fb, int g] (S w0 (forestO fb F :: l)) fun v w => v = .tuple #[.agg (F.told g).toArray, int (F.there g)] ∧ S w0 (forestO fb F :: l) w := by
  intro l
  refine does_forest fun tb gm bk xs sl hI => ?_
  cases hg : F.get g with
  | none =>
    have hno : g ∉ gids xs := fun h => by
      have := hI.mem_ids.1 h
      rw [hg] at this; simp at this
    refine (fGroup_no fb tb gm bk xs g hno).mono (fun _ h => h) fun v w ⟨h1, h2⟩ => ⟨?_, shut_forest hI h2⟩
    rw [Forest.told, Forest.there, hg]; exact h1
  | some y =>
    obtain ⟨j, z, hk⟩ := hI.nd hO hg
    have h := fGroup_ok (w0 := w0) (l := tableO tb sl F.last :: l) fb tb gm bk xs z (List.mem_of_getElem? hk.at_) (F.path g) (by rw [hk.id]; exact hk.path) (by have := hk.short; omega) (by rw [hk.id]; have := hk.pos; omega) (fun hp => by rw [hk.grp] at hp ⊢; exact hk.root hp) (fun hp => by rw [hk.grp] at hp ⊢; exact hk.par hp) hk.last
    rw [hk.id] at h
    refine h.mono (fun _ h => h) fun v w ⟨h1, h2⟩ => ⟨?_, shut_forest hI h2⟩
    rw [Forest.told, Forest.there, hg, h1, hk.grp]; rfl
theorem fBelowC (hO : F.Ok D) (g q : Int) : ∀ l, Does cx F_tree_Forest_Below [ptr fb, int g, int q] (S w0 (forestO fb F :: l)) fun v w => v = .bool ((F.get g).isSome && ((F.get q).isSome && F.below g q)) ∧ S w0 (forestO fb F :: l) w := by
  intro l
  refine does_forest fun tb gm bk xs sl hI => ?_
  have hpth : g ∈ gids xs → Path (xs.map (·.g)) g (F.path g) := fun h => by
    obtain ⟨y, hy⟩ := Option.isSome_iff_exists.1 (hI.mem_ids.1 h)
    rw [hI.gs]; exact (hO.pathOf hy).1
  have hlen : (F.path g).length ≤ 1000 := by
    have key : ∀ k g, (pathN F.L k g).length ≤ k := fun k => by
      induction k with
      | zero => intro g; simp [pathN]
      | succ k ih =>
        intro g
        unfold pathN
        split
        · simp
        · split
          · simp
          · simp only [List.length_cons]; have := ih (by assumption : Grp).parent; omega
    have := key 8 g
    rw [Forest.path]; omega
  have hpos : ∀ g ∈ gids xs, 0 ≤ g := fun g h => by
    obtain ⟨y, hy⟩ := Option.isSome_iff_exists.1 (hI.mem_ids.1 h)
    have := (hO.ids y (kfind_mem hy)).1
    rw [kfind_key hy] at this; omega
  refine (fBelow fb tb gm bk xs g q (F.path g) hpth hlen hpos).mono (fun _ h => h) fun v w ⟨h1, h2⟩ => ⟨?_, shut_forest hI h2⟩
  rw [h1]
  have e1 : decide (g ∈ gids xs) = (F.get g).isSome := by rw [Bool.eq_iff_iff, decide_eq_true_eq, hI.mem_ids]
  have e2 : decide (q ∈ gids xs) = (F.get q).isSome := by rw [Bool.eq_iff_iff, decide_eq_true_eq, hI.mem_ids]
  rw [e1, e2]; rfl
theorem kids_is {x : FoX} (hI : FoI F x) (hO : F.Ok D) (g : Int) : sortI (kidsX x.xs g) = F.kids g := by
  have e : kidsX x.xs g = F.kids g := by
    rw [Forest.kids, ← hI.gs, List.filter_map, List.map_map]
    show (x.xs.filter (kidQ g)).map (fun y => y.g.id) = _
    have : x.xs.filter (kidQ g) = x.xs.filter ((fun x : Grp => decide (x.parent = g ∧ 0 < g)) ∘ fun y : NdG => y.g) := by
      refine List.filter_congr fun y hy => ?_
      have hyL : y.g ∈ F.L := by rw [← hI.gs]; exact List.mem_map.2 ⟨y, hy, rfl⟩
      have h1 := hO.pos y.g hyL
      show decide (0 ≤ y.g.parent ∧ y.g.parent = g) = decide (y.g.parent = g ∧ 0 < g)
      rw [Bool.eq_iff_iff, decide_eq_true_eq, decide_eq_true_eq]
      omega
    rw [this]; rfl
  rw [e]
  have h2 : (F.kids g).Pairwise (· ≤ ·) := (kids_srt hO).imp fun h => by omega
  exact sorted_eq (sortI_le _) h2 (sortI_p _)
theorem fKids (hO : F.Ok D) (g : Int) : ∀ l, Does cx F_tree_Forest_Children [ptr fb, int g] (S w0 (forestO fb F :: l)) fun v w => ∃ r, v = sv r (F.kids g).length ∧ True ∧ S w0 (rowC r T_int 1 (ints (F.kids g)) (F.kids g).length :: forestO fb F :: l) w := by
  intro l
  refine does_forest fun tb gm bk xs sl hI => ?_
  have hn : xs.length ≤ 1000 := by
    have h1 := hO.few
    have h2 := hO.room
    rw [← hI.gs, List.length_map] at h1
    exact Nat.le_trans h1 (by omega)
  have hpin : ∀ y ∈ xs, 0 ≤ y.g.parent → ∃ u ∈ xs, u.g.id = y.g.parent := fun y hy hp => by
    have hyL : y.g ∈ F.L := by rw [← hI.gs]; exact List.mem_map.2 ⟨y, hy, rfl⟩
    obtain ⟨j, z, hk⟩ := hI.nd hO (hO.getOf hyL)
    exact hk.par hp
  refine (fChildren_ fb tb gm bk xs g hpin hn).mono (fun _ h => h) ?_
  rintro v w ⟨r, h1, _, h2⟩
  rw [kids_is hI hO g] at h1 h2
  refine ⟨r, h1, trivial, ?_⟩
  have h3 := S.perm (l' := frA fb tb gm :: ndM gm bk (gids xs) :: famO T_tree_node (ndF bk xs) :: tableO tb sl F.last :: rowC r T_int 1 (ints (F.kids g)) (F.kids g).length :: l) h2 (List.perm_append_comm (l₁ := [rowC r T_int 1 (ints (F.kids g)) (F.kids g).length]) (l₂ := [frA fb tb gm, ndM gm bk (gids xs), famO T_tree_node (ndF bk xs), tableO tb sl F.last]) |>.append_right l)
  exact (shut_forest hI h3).perm (List.Perm.swap _ _ _)
def Forest.joinE (F : Forest) (g : Int) : Int := match F.get g with
  | none => 4
  | some _ => if F.fan g = 32 then 6 else 0
def Forest.join (F : Forest) (g : Int) : Forest := if F.joinE g = 0 then F.upd g fun x => { x with members := x.members + 1 } else F
theorem fJoin (hO : F.Ok D) (g : Int) : ∀ l, Does cx F_tree_Forest_Join [ptr fb, int g] (S w0 (forestO fb F :: l)) fun v w => v = int (F.joinE g) ∧ S w0 (forestO fb (F.join g) :: l) w := by
  intro l
  refine does_forest fun tb gm bk xs sl hI => ?_
  cases hg : F.get g with
  | none =>
    have hno : g ∉ gids xs := fun h => by
      have := hI.mem_ids.1 h
      rw [hg] at this; simp at this
    have e : F.joinE g = 4 := by rw [Forest.joinE, hg]
    rw [Forest.join, e, if_neg (by decide)]
    exact (fJoin_no fb tb gm bk xs g hno).mono (fun _ h => h) fun v w ⟨h1, h2⟩ => ⟨h1, shut_forest hI h2⟩
  | some y =>
    obtain ⟨j, z, hk⟩ := hI.nd hO hg
    have hb := hk.kids
    have h := fJoin_ok (w0 := w0) (l := tableO tb sl F.last :: l) fb tb gm bk xs j z hk.at_ (by rw [hk.sub]; omega) (by rw [hk.grp]; omega)
    rw [hk.id] at h
    have e : F.joinE g = if z.sub + z.g.members = 32 then 6 else 0 := by
      rw [Forest.joinE, hg, hk.fan, hk.grp]
    refine h.mono (fun _ h => h) fun v w ⟨h1, h2⟩ => ⟨by rw [e]; exact h1, ?_⟩
    rw [Forest.join, e]
    by_cases hf : z.sub + z.g.members = 32
    · rw [if_pos hf] at h2 ⊢
      rw [if_neg (by decide)]; exact shut_forest hI h2
    · rw [if_neg hf] at h2 ⊢
      rw [if_pos rfl]
      have := hI.set hO (z' := { z with g := { z.g with members := z.g.members + 1 } }) (f := fun x => { x with members := x.members + 1 }) hk.at_ rfl (fun _ => rfl) (fun _ => rfl) rfl
      rw [hk.id] at this
      exact shut_forest this h2
theorem FoI.same {x : FoX} (hI : FoI F x) {xs' : List NdG} (h : SameG x.xs xs') : FoI F { x with xs := xs' } := by
  refine ⟨by rw [← hI.gs]; exact h.gs, hI.len, hI.ids, fun y hy => ?_⟩
  obtain ⟨j, hj⟩ := List.getElem?_of_mem hy
  have h2 : SameG xs' x.xs := h.symm
  obtain ⟨y', h3, h4, h5⟩ := h2.get hj
  rw [← h5, ← h4]; exact hI.sub y' (List.mem_of_getElem? h3)
theorem fWake (hO : F.Ok D) {y : Grp} (hg : F.get g = some y) (hne : ¬ y.members = y.awake) : ∀ l, Does cx F_tree_Forest_Wake [ptr fb, int g] (S w0 (forestO fb F :: l)) fun v w => v = int 0 ∧ S w0 (forestO fb (F.upd g fun x => { x with awake := x.awake + 1 }) :: l) w := by
  intro l
  refine does_forest fun tb gm bk xs sl hI => ?_
  obtain ⟨j, z, hk⟩ := hI.nd hO hg
  have hb := hk.kids
  have h := fWake_ok (w0 := w0) (l := tableO tb sl F.last :: l) fb tb gm bk xs j z hk.at_ (F.path g) (by rw [hk.id]; exact hk.path) (by have := hk.short; omega) (by rw [hk.id]; have := hk.pos; omega) (by rw [hk.grp]; exact hne) (by rw [hk.grp]; omega)
  rw [hk.id] at h
  refine h.mono (fun _ h => h) ?_
  rintro v w ⟨xs', h1, hS, h2⟩
  have := hI.set hO (z' := { z with g := { z.g with awake := z.g.awake + 1 } }) (f := fun x => { x with awake := x.awake + 1 }) hk.at_ rfl (fun _ => rfl) (fun _ => rfl) rfl
  rw [hk.id] at this
  exact ⟨h1, shut_forest (this.same hS) h2⟩
end Go.Proofs.YtpbnjifefoniiaaGreatDoor
