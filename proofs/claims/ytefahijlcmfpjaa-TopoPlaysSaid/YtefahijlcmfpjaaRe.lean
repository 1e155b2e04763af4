/- The document's topologies: a new one. -/
import Derived.Test.YtefahijlcmfpjaaRd
namespace Go.Proofs.Ytefahijlcmfpjaa
open Go Go.SE

variable {w0 : World} {l : List HP} {i j b : Nat} {r : Option (Nat × Nat)}

def flat (L : List (List Bool)) : List Value := (L.map bools).flatten
theorem flat_get (c : Nat) (hc : c < 64) : ∀ (L : List (List Bool)) (d : Nat), (∀ s ∈ L, s.length = 64) → d < L.length → (flat L)[d * 64 + c]? = some (.bool ((L.getD d []).getD c false)) := by
  intro L
  induction L with
  | nil => intro d _ h; simp at h
  | cons s L ih =>
    intro d h hd
    have hs : s.length = 64 := h s (by simp)
    cases d with
    | zero =>
      simp only [flat, List.map_cons, List.flatten_cons]
      rw [List.getElem?_append_left (by simp [hs]; omega)]
      simp [List.getD_eq_getElem?_getD, hs, hc]
    | succ d =>
      simp only [flat, List.map_cons, List.flatten_cons]
      rw [List.getElem?_append_right (by simp [hs]; omega)]
      rw [show (d + 1) * 64 + c - (bools s).length = d * 64 + c by simp [hs]; omega]
      have := ih d (fun s hs => h s (by simp [hs])) (by simpa using hd)
      rw [flat] at this
      rw [this]; simp

def zeros : List Int := List.replicate 64 0
theorem zeros_length : zeros.length = 64 := by simp [zeros]
def wipe (c : Nat) : List Int := List.replicate c (-1) ++ List.replicate (64 - c) 0
theorem wipe_length {c : Nat} (h : c ≤ 64) : (wipe c).length = 64 := by simp [wipe]; omega
theorem wipe_zero : wipe 0 = zeros := by simp [wipe, zeros]
theorem wipe_set {c : Nat} (h : c < 64) : (wipe c).set c (-1) = wipe (c + 1) := by
  rw [wipe, wipe, List.set_append_right _ _ (by simp), show 64 - c = (64 - (c + 1)) + 1 by omega, List.replicate_succ]
  simp [List.replicate_succ']
def RT.none : RT := ⟨0, zeros, falses⟩
theorem RT.none_ok : RT.none.Ok := ⟨zeros_length, falses_length⟩
def RT.base (m : Nat) (c : Nat) : RT := ⟨m, wipe c, falses⟩
theorem RT.base_ok (m : Nat) {c : Nat} (h : c ≤ 64) : (RT.base m c).Ok := ⟨wipe_length h, falses_length⟩
theorem zero_T (m : Int) : int m :: (List.replicate 64 (int 0) ++ List.replicate 64 (Value.bool false)) = RT.cells ⟨m, zeros, falses⟩ := by
  rw [rep_bool, RT.cells]; simp [zeros, ints]

theorem fill_head (m : Int) (rest : List Value) : fillL (([(0, 1), (1, 64), (65, 64)] : List (Nat × Nat))[·]?) (int 0 :: rest) [(0, int m)] = some (int m :: rest) := rfl
/-- core c, for domain d -/
def mark1 (d : Nat) (s : List Bool) (t : RT) (c : Nat) : RT := if s.getD c false = true then { t with doms := t.doms.set c d, on := t.on.set c true } else t
def mark (d : Nat) (s : List Bool) (t : RT) : Nat → RT
  | 0 => t
  | c + 1 => mark1 d s (mark d s t c) c
def any1 (s : List Bool) : Nat → Bool
  | 0 => false
  | c + 1 => s.getD c false || any1 s c
def clash (d : Nat) (s : List Bool) (t : RT) (c : Nat) : Bool := s.getD c false && decide (0 ≤ (mark d s t c).doms.getD c 0)
theorem mark1_ok {d c : Nat} {s : List Bool} {t : RT} (h : t.Ok) : (mark1 d s t c).Ok := by
  unfold mark1; split
  · exact ⟨by simp [h.doms], by simp [h.on]⟩
  · exact h
theorem mark_ok {d : Nat} {s : List Bool} {t : RT} (h : t.Ok) : ∀ c, (mark d s t c).Ok
  | 0 => h
  | c + 1 => mark1_ok (mark_ok h c)
def domsTo (L : List (List Bool)) : Nat → RT
  | 0 => RT.base L.length 64
  | d + 1 => mark d (L.getD d []) (domsTo L d) 64
theorem domsTo_ok (L : List (List Bool)) : ∀ d, (domsTo L d).Ok
  | 0 => RT.base_ok _ (Nat.le_refl _)
  | d + 1 => mark_ok (domsTo_ok L d) 64
def badD (L : List (List Bool)) (d : Nat) : Prop := (∃ c, c < 64 ∧ clash d (L.getD d []) (domsTo L d) c = true) ∨ any1 (L.getD d []) 64 = false
open Classical in
noncomputable def newE (L : List (List Bool)) : Int := if L.length = 0 ∨ 8 < L.length then 14 else if ∃ d, d < L.length ∧ badD L d then 8 else 0
open Classical in
noncomputable def newT (L : List (List Bool)) : RT := if newE L = 0 then domsTo L L.length else RT.none

structure New05 (L : List (List Bool)) : Prop where
  all : ∀ s ∈ L, s.length = 64

set_option maxHeartbeats 800000 in
theorem New_ref (L : List (List Bool)) (hL : New05 L) (h0 : l[i]? = some (rowC r T_ref01_Set 64 (flat L) L.length)) : Does cx F_ref05_New [sv r L.length] (S w0 l) fun v w => v = .tuple #[(newT L).val, int (newE L)] ∧ S w0 l w := by
  refine fn_enter (n := N_ref05_New) fn_ref05_New rfl rfl rfl ?_
  refine ej_seq (ej_region (el_cons rfl (eo_alloc rfl rfl rfl rfl fun b2 => ?_)))
  (repeat (first | refine el_pure rfl rfl rfl rfl ?_ | refine ej_seq ?_ | refine ej_region ?_ | refine el_nil ?_ | refine eq_seq ?_ | refine eq_calm ?_ | refine ej_true rfl ?_ | refine ej_false rfl ?_ | refine el_skip rfl rfl rfl ?_ | refine ej_ret ?_ | refine ej_skip ?_ | refine ej_exit ?_ | refine ej_block ?_ | refine eq_seq_ret ?_ | refine eq_seq_exit ?_ | refine eq_block ?_ | refine eq_block_exit ?_ | refine eq_block_ret ?_ | refine eq_block_exit_ne rfl ?_ | refine eq_back_ret ?_ | refine eq_back_exit ?_ | refine el_cons rfl (eo_lenv rfl rfl rfl rfl rfl rfl ?_) | refine el_cons rfl (eo_arith rfl rfl rfl rfl rfl rfl ⟨by omega, by omega⟩ ?_)))
  refine el_cons rfl (eo_build (cs := RT.cells ⟨L.length, zeros, falses⟩) rfl rfl rfl rfl rfl rfl rfl (by rw [← zero_T]; exact fill_head _ _) ?_)
  refine el_cons rfl (eo_alloc rfl rfl rfl rfl fun b4 => ?_)
  have ok0 : RT.Ok ⟨L.length, zeros, falses⟩ := ⟨zeros_length, falses_length⟩
  refine el_cons rfl (eo_stA 0 rfl rfl rfl rfl rfl ok0.len (RT.one _) rfl rfl ?_)
  refine el_imp (H' := S w0 (cells b4 T_ref05_T (RT.cells (RT.base L.length 0)) :: cells b2 T_ref05_T (RT.cells RT.none) :: l)) (fun w hw => ?_) ?_
  · rw [RT.base, RT.none, wipe_zero, ← zero_T 0]; exact hw
  (repeat (first | refine el_pure rfl rfl rfl rfl ?_ | refine ej_seq ?_ | refine ej_region ?_ | refine el_nil ?_ | refine eq_seq ?_ | refine eq_calm ?_ | refine ej_true rfl ?_ | refine ej_false rfl ?_ | refine el_skip rfl rfl rfl ?_ | refine ej_ret ?_ | refine ej_skip ?_ | refine ej_exit ?_ | refine ej_block ?_ | refine eq_seq_ret ?_ | refine eq_seq_exit ?_ | refine eq_block ?_ | refine eq_block_exit ?_ | refine eq_block_ret ?_ | refine eq_block_exit_ne rfl ?_ | refine eq_back_ret ?_ | refine eq_back_exit ?_ | refine el_cons rfl (eo_lenv rfl rfl rfl rfl rfl rfl ?_) | refine el_cons rfl (eo_arith rfl rfl rfl rfl rfl rfl ⟨by omega, by omega⟩ ?_)))
  have h0' : ∀ p q : HP, (p :: q :: l)[i + 2]? = some (rowC r T_ref01_Set 64 (flat L) L.length) := fun _ _ => h0
  clear h0
  by_cases h1 : L.length = 0
  · refine el_val 15 (u := .bool true) rfl (by simp [h1]) ?_
    (repeat (first | refine el_pure rfl rfl rfl rfl ?_ | refine ej_seq ?_ | refine ej_region ?_ | refine el_nil ?_ | refine eq_seq ?_ | refine eq_calm ?_ | refine ej_true rfl ?_ | refine ej_false rfl ?_ | refine el_skip rfl rfl rfl ?_ | refine ej_ret ?_ | refine ej_skip ?_ | refine ej_exit ?_ | refine ej_block ?_ | refine eq_seq_ret ?_ | refine eq_seq_exit ?_ | refine eq_block ?_ | refine eq_block_exit ?_ | refine eq_block_ret ?_ | refine eq_block_exit_ne rfl ?_ | refine eq_back_ret ?_ | refine eq_back_exit ?_ | refine el_cons rfl (eo_lenv rfl rfl rfl rfl rfl rfl ?_) | refine el_cons rfl (eo_arith rfl rfl rfl rfl rfl rfl ⟨by omega, by omega⟩ ?_)))
    refine el_cons rfl (eo_build (cs := RT.cells RT.none) rfl rfl rfl rfl rfl rfl rfl (by rw [RT.none, ← zero_T]; rfl) ?_)
    refine el_cons rfl (eo_stA 1 rfl rfl rfl rfl rfl RT.none_ok.len (RT.one _) rfl RT.none_ok.len ?_)
    (repeat (first | refine el_pure rfl rfl rfl rfl ?_ | refine ej_seq ?_ | refine ej_region ?_ | refine el_nil ?_ | refine eq_seq ?_ | refine eq_calm ?_ | refine ej_true rfl ?_ | refine ej_false rfl ?_ | refine el_skip rfl rfl rfl ?_ | refine ej_ret ?_ | refine ej_skip ?_ | refine ej_exit ?_ | refine ej_block ?_ | refine eq_seq_ret ?_ | refine eq_seq_exit ?_ | refine eq_block ?_ | refine eq_block_exit ?_ | refine eq_block_ret ?_ | refine eq_block_exit_ne rfl ?_ | refine eq_back_ret ?_ | refine eq_back_exit ?_ | refine el_cons rfl (eo_lenv rfl rfl rfl rfl rfl rfl ?_) | refine el_cons rfl (eo_arith rfl rfl rfl rfl rfl rfl ⟨by omega, by omega⟩ ?_)))
    refine eq_ret _ (rvs_cell 1 rfl rfl rfl rfl RT.none_ok.len (rvs_tmp rfl rvs_nil)) fun w hw => ⟨?_, hw.drop 2⟩
    have e : newE L = 14 := by rw [newE, if_pos (.inl h1)]
    rw [newT, e, if_neg (by decide)]; rfl
  refine el_val 15 (u := .bool false) rfl (by rw [decide_eq_false (by omega)]) ?_
  (repeat (first | refine el_pure rfl rfl rfl rfl ?_ | refine ej_seq ?_ | refine ej_region ?_ | refine el_nil ?_ | refine eq_seq ?_ | refine eq_calm ?_ | refine ej_true rfl ?_ | refine ej_false rfl ?_ | refine el_skip rfl rfl rfl ?_ | refine ej_ret ?_ | refine ej_skip ?_ | refine ej_exit ?_ | refine ej_block ?_ | refine eq_seq_ret ?_ | refine eq_seq_exit ?_ | refine eq_block ?_ | refine eq_block_exit ?_ | refine eq_block_ret ?_ | refine eq_block_exit_ne rfl ?_ | refine eq_back_ret ?_ | refine eq_back_exit ?_ | refine el_cons rfl (eo_lenv rfl rfl rfl rfl rfl rfl ?_) | refine el_cons rfl (eo_arith rfl rfl rfl rfl rfl rfl ⟨by omega, by omega⟩ ?_)))
  refine ej_dec rfl (fun h2 => ?_) (fun h2 => ?_)
  · (repeat (first | refine el_pure rfl rfl rfl rfl ?_ | refine ej_seq ?_ | refine ej_region ?_ | refine el_nil ?_ | refine eq_seq ?_ | refine eq_calm ?_ | refine ej_true rfl ?_ | refine ej_false rfl ?_ | refine el_skip rfl rfl rfl ?_ | refine ej_ret ?_ | refine ej_skip ?_ | refine ej_exit ?_ | refine ej_block ?_ | refine eq_seq_ret ?_ | refine eq_seq_exit ?_ | refine eq_block ?_ | refine eq_block_exit ?_ | refine eq_block_ret ?_ | refine eq_block_exit_ne rfl ?_ | refine eq_back_ret ?_ | refine eq_back_exit ?_ | refine el_cons rfl (eo_lenv rfl rfl rfl rfl rfl rfl ?_) | refine el_cons rfl (eo_arith rfl rfl rfl rfl rfl rfl ⟨by omega, by omega⟩ ?_)))
    refine el_cons rfl (eo_build (cs := RT.cells RT.none) rfl rfl rfl rfl rfl rfl rfl (by rw [RT.none, ← zero_T]; rfl) ?_)
    refine el_cons rfl (eo_stA 1 rfl rfl rfl rfl rfl RT.none_ok.len (RT.one _) rfl RT.none_ok.len ?_)
    (repeat (first | refine el_pure rfl rfl rfl rfl ?_ | refine ej_seq ?_ | refine ej_region ?_ | refine el_nil ?_ | refine eq_seq ?_ | refine eq_calm ?_ | refine ej_true rfl ?_ | refine ej_false rfl ?_ | refine el_skip rfl rfl rfl ?_ | refine ej_ret ?_ | refine ej_skip ?_ | refine ej_exit ?_ | refine ej_block ?_ | refine eq_seq_ret ?_ | refine eq_seq_exit ?_ | refine eq_block ?_ | refine eq_block_exit ?_ | refine eq_block_ret ?_ | refine eq_block_exit_ne rfl ?_ | refine eq_back_ret ?_ | refine eq_back_exit ?_ | refine el_cons rfl (eo_lenv rfl rfl rfl rfl rfl rfl ?_) | refine el_cons rfl (eo_arith rfl rfl rfl rfl rfl rfl ⟨by omega, by omega⟩ ?_)))
    refine eq_ret _ (rvs_cell 1 rfl rfl rfl rfl RT.none_ok.len (rvs_tmp rfl rvs_nil)) fun w hw => ⟨?_, hw.drop 2⟩
    have e : newE L = 14 := by rw [newE, if_pos (.inr (by omega))]
    rw [newT, e, if_neg (by decide)]; rfl
  have hn : ¬ (L.length = 0 ∨ 8 < L.length) := by omega
  have bad : ∀ d, d < L.length → badD L d → newE L = 8 := fun d hd hb => by rw [newE, if_neg hn, if_pos ⟨d, hd, hb⟩]
  (repeat (first | refine el_pure rfl rfl rfl rfl ?_ | refine ej_seq ?_ | refine ej_region ?_ | refine el_nil ?_ | refine eq_seq ?_ | refine eq_calm ?_ | refine ej_true rfl ?_ | refine ej_false rfl ?_ | refine el_skip rfl rfl rfl ?_ | refine ej_ret ?_ | refine ej_skip ?_ | refine ej_exit ?_ | refine ej_block ?_ | refine eq_seq_ret ?_ | refine eq_seq_exit ?_ | refine eq_block ?_ | refine eq_block_exit ?_ | refine eq_block_ret ?_ | refine eq_block_exit_ne rfl ?_ | refine eq_back_ret ?_ | refine eq_back_exit ?_ | refine el_cons rfl (eo_lenv rfl rfl rfl rfl rfl rfl ?_) | refine el_cons rfl (eo_arith rfl rfl rfl rfl rfl rfl ⟨by omega, by omega⟩ ?_)))
  refine ej_loopP (fun c : Nat => c ≤ 64) (fun c => [(0, sv r L.length), (2, ptr b2), (4, ptr b4), (21, int c)]) (fun c => S w0 (cells b4 T_ref05_T (RT.cells (RT.base L.length c)) :: cells b2 T_ref05_T (RT.cells RT.none) :: l)) (fun c => 64 - c) 0 (by omega) (le_of _ _ rfl) (fun w hw => hw) ?_
  intro c hc
  (repeat (first | refine el_pure rfl rfl rfl rfl ?_ | refine ej_seq ?_ | refine ej_region ?_ | refine el_nil ?_ | refine eq_seq ?_ | refine eq_calm ?_ | refine ej_true rfl ?_ | refine ej_false rfl ?_ | refine el_skip rfl rfl rfl ?_ | refine ej_ret ?_ | refine ej_skip ?_ | refine ej_exit ?_ | refine ej_block ?_ | refine eq_seq_ret ?_ | refine eq_seq_exit ?_ | refine eq_block ?_ | refine eq_block_exit ?_ | refine eq_block_ret ?_ | refine eq_block_exit_ne rfl ?_ | refine eq_back_ret ?_ | refine eq_back_exit ?_))
  refine ej_dec rfl (fun h => ?_) (fun h => ?_)
  · (repeat (first | refine el_pure rfl rfl rfl rfl ?_ | refine ej_seq ?_ | refine ej_region ?_ | refine el_nil ?_ | refine eq_seq ?_ | refine eq_calm ?_ | refine ej_true rfl ?_ | refine ej_false rfl ?_ | refine el_skip rfl rfl rfl ?_ | refine ej_ret ?_ | refine ej_skip ?_ | refine ej_exit ?_ | refine ej_block ?_ | refine eq_seq_ret ?_ | refine eq_seq_exit ?_ | refine eq_block ?_ | refine eq_block_exit ?_ | refine eq_block_ret ?_ | refine eq_block_exit_ne rfl ?_ | refine eq_back_ret ?_ | refine eq_back_exit ?_ | refine el_cons rfl (eo_lenv rfl rfl rfl rfl rfl rfl ?_) | refine el_cons rfl (eo_arith rfl rfl rfl rfl rfl rfl ⟨by omega, by omega⟩ ?_)))
    have hb := RT.base_ok L.length hc
    refine el_cons rfl (eo_idxa rfl rfl rfl rfl rfl rfl rfl rfl ⟨by omega, by exact h⟩ ?_)
    refine el_cons rfl (eo_stw 0 (RT.cells (RT.base L.length (c + 1))) rfl rfl rfl rfl rfl rfl rfl rfl (by show 0 + 1 + (c : Int).toNat * 1 + 1 ≤ (RT.base L.length c).cells.length; rw [hb.len]; omega) ((hb.setDom (k := (c : Int).toNat) (by omega) (-1)).trans (by simp only [RT.base, Int.toNat_natCast, wipe_set (show c < 64 by omega)])) ?_)
    (repeat (first | refine el_pure rfl rfl rfl rfl ?_ | refine ej_seq ?_ | refine ej_region ?_ | refine el_nil ?_ | refine eq_seq ?_ | refine eq_calm ?_ | refine ej_true rfl ?_ | refine ej_false rfl ?_ | refine el_skip rfl rfl rfl ?_ | refine ej_ret ?_ | refine ej_skip ?_ | refine ej_exit ?_ | refine ej_block ?_ | refine eq_seq_ret ?_ | refine eq_seq_exit ?_ | refine eq_block ?_ | refine eq_block_exit ?_ | refine eq_block_ret ?_ | refine eq_block_exit_ne rfl ?_ | refine eq_back_ret ?_ | refine eq_back_exit ?_ | refine el_cons rfl (eo_lenv rfl rfl rfl rfl rfl rfl ?_) | refine el_cons rfl (eo_arith rfl rfl rfl rfl rfl rfl ⟨by omega, by omega⟩ ?_)))
    exact eq_backP (c + 1) (by omega) (by omega) (le_of _ _ rfl) fun w hw => hw
  obtain rfl : c = 64 := by omega
  (repeat (first | refine el_pure rfl rfl rfl rfl ?_ | refine ej_seq ?_ | refine ej_region ?_ | refine el_nil ?_ | refine eq_seq ?_ | refine eq_calm ?_ | refine ej_true rfl ?_ | refine ej_false rfl ?_ | refine el_skip rfl rfl rfl ?_ | refine ej_ret ?_ | refine ej_skip ?_ | refine ej_exit ?_ | refine ej_block ?_ | refine eq_seq_ret ?_ | refine eq_seq_exit ?_ | refine eq_block ?_ | refine eq_block_exit ?_ | refine eq_block_ret ?_ | refine eq_block_exit_ne rfl ?_ | refine eq_back_ret ?_ | refine eq_back_exit ?_ | refine el_cons rfl (eo_lenv rfl rfl rfl rfl rfl rfl ?_) | refine el_cons rfl (eo_arith rfl rfl rfl rfl rfl rfl ⟨by omega, by omega⟩ ?_)))
  refine ej_loopP (fun d : Nat => d ≤ L.length ∧ ∀ d', d' < d → ¬ badD L d') (fun d => [(0, sv r L.length), (2, ptr b2), (4, ptr b4), (28, sv r L.length), (29, int L.length), (30, int d)]) (fun d => S w0 (cells b4 T_ref05_T (RT.cells (domsTo L d)) :: cells b2 T_ref05_T (RT.cells RT.none) :: l))
    (fun d => L.length - d) 0 ⟨by omega, fun _ h => absurd h (by omega)⟩ (le_of _ _ rfl) (fun w hw => hw) ?_
  intro d hd
  obtain ⟨hd, hgood⟩ := hd
  (repeat (first | refine el_pure rfl rfl rfl rfl ?_ | refine ej_seq ?_ | refine ej_region ?_ | refine el_nil ?_ | refine eq_seq ?_ | refine eq_calm ?_ | refine ej_true rfl ?_ | refine ej_false rfl ?_ | refine el_skip rfl rfl rfl ?_ | refine ej_ret ?_ | refine ej_skip ?_ | refine ej_exit ?_ | refine ej_block ?_ | refine eq_seq_ret ?_ | refine eq_seq_exit ?_ | refine eq_block ?_ | refine eq_block_exit ?_ | refine eq_block_ret ?_ | refine eq_block_exit_ne rfl ?_ | refine eq_back_ret ?_ | refine eq_back_exit ?_))
  refine ej_dec rfl (fun h3 => ?_) (fun h3 => ?_)
  · have hdl : d < L.length := by omega
    have hk := bad d hdl
    have hget := fun c hc => flat_get c hc L d hL.all hdl
    have hstep : domsTo L (d + 1) = mark d (L.getD d []) (domsTo L d) 64 := rfl
    unfold badD at hk
    have hok := domsTo_ok L d
    have hnb : (∀ c, c < 64 → clash d (L.getD d []) (domsTo L d) c = false) → any1 (L.getD d []) 64 = true → ¬ badD L d := by
      intro h1 h2 h3
      rcases h3 with ⟨c, hc, h4⟩ | h4
      · rw [h1 c hc] at h4; cases h4
      · rw [h2] at h4; cases h4
    generalize L.getD d [] = s at *
    generalize domsTo L d = t at *
    (repeat (first | refine el_pure rfl rfl rfl rfl ?_ | refine ej_seq ?_ | refine ej_region ?_ | refine el_nil ?_ | refine eq_seq ?_ | refine eq_calm ?_ | refine ej_true rfl ?_ | refine ej_false rfl ?_ | refine el_skip rfl rfl rfl ?_ | refine ej_ret ?_ | refine ej_skip ?_ | refine ej_exit ?_ | refine ej_block ?_ | refine eq_seq_ret ?_ | refine eq_seq_exit ?_ | refine eq_block ?_ | refine eq_block_exit ?_ | refine eq_block_ret ?_ | refine eq_block_exit_ne rfl ?_ | refine eq_back_ret ?_ | refine eq_back_exit ?_ | refine el_cons rfl (eo_lenv rfl rfl rfl rfl rfl rfl ?_) | refine el_cons rfl (eo_arith rfl rfl rfl rfl rfl rfl ⟨by omega, by omega⟩ ?_)))
    refine ej_loopP (fun c : Nat => c ≤ 64 ∧ ∀ c', c' < c → clash d s t c' = false) (fun c => [(0, sv r L.length), (2, ptr b2), (4, ptr b4), (28, sv r L.length), (29, int L.length), (30, int d), (6, int d), (7, .bool (any1 s c)), (33, int c)])
      (fun c => S w0 (cells b4 T_ref05_T (RT.cells (mark d s t c)) :: cells b2 T_ref05_T (RT.cells RT.none) :: l)) (fun c => 64 - c) 0 ⟨by omega, fun _ h => absurd h (by omega)⟩ (le_of _ _ rfl) (fun w hw => hw) ?_
    intro c hc
    obtain ⟨hc, hcl⟩ := hc
    (repeat (first | refine el_pure rfl rfl rfl rfl ?_ | refine ej_seq ?_ | refine ej_region ?_ | refine el_nil ?_ | refine eq_seq ?_ | refine eq_calm ?_ | refine ej_true rfl ?_ | refine ej_false rfl ?_ | refine el_skip rfl rfl rfl ?_ | refine ej_ret ?_ | refine ej_skip ?_ | refine ej_exit ?_ | refine ej_block ?_ | refine eq_seq_ret ?_ | refine eq_seq_exit ?_ | refine eq_block ?_ | refine eq_block_exit ?_ | refine eq_block_ret ?_ | refine eq_block_exit_ne rfl ?_ | refine eq_back_ret ?_ | refine eq_back_exit ?_))
    refine ej_dec rfl (fun h4 => ?_) (fun h4 => ?_)
    · have hc' : c < 64 := by omega
      have hv := hget c hc'
      have hm := mark_ok (d := d) (s := s) hok c
      have e1 : mark d s t (c + 1) = mark1 d s (mark d s t c) c := rfl
      have e2 : any1 s (c + 1) = (s.getD c false || any1 s c) := rfl
      have e3 : clash d s t c = (s.getD c false && decide (0 ≤ (mark d s t c).doms.getD c 0)) := rfl
      unfold mark1 at e1
      have hnext : clash d s t c = false → ∀ c', c' < c + 1 → clash d s t c' = false := fun h c' h' => by
        rcases Nat.lt_succ_iff_lt_or_eq.1 h' with h' | rfl
        · exact hcl c' h'
        · exact h
      generalize s.getD c false = v at *
      (repeat (first | refine el_pure rfl rfl rfl rfl ?_ | refine ej_seq ?_ | refine ej_region ?_ | refine el_nil ?_ | refine eq_seq ?_ | refine eq_calm ?_ | refine ej_true rfl ?_ | refine ej_false rfl ?_ | refine el_skip rfl rfl rfl ?_ | refine ej_ret ?_ | refine ej_skip ?_ | refine ej_exit ?_ | refine ej_block ?_ | refine eq_seq_ret ?_ | refine eq_seq_exit ?_ | refine eq_block ?_ | refine eq_block_exit ?_ | refine eq_block_ret ?_ | refine eq_block_exit_ne rfl ?_ | refine eq_back_ret ?_ | refine eq_back_exit ?_ | refine el_cons rfl (eo_lenv rfl rfl rfl rfl rfl rfl ?_) | refine el_cons rfl (eo_arith rfl rfl rfl rfl rfl rfl ⟨by omega, by omega⟩ ?_)))
      refine el_cons rfl (eo_idxr (i + 2) rfl rfl rfl rfl rfl rfl rfl rfl (h0' _ _) ⟨by omega, by omega⟩ ?_)
      refine el_cons rfl (eo_idxa rfl rfl rfl rfl rfl rfl rfl rfl ⟨by omega, by exact h4⟩ ?_)
      refine el_cons rfl (eo_ldr (i + 2) rfl rfl rfl rfl rfl rfl (h0' _ _) (v := .bool v) (by rw [← hv]; congr 1; simp) ?_)
      cases v with
      | false =>
        (repeat (first | refine el_pure rfl rfl rfl rfl ?_ | refine ej_seq ?_ | refine ej_region ?_ | refine el_nil ?_ | refine eq_seq ?_ | refine eq_calm ?_ | refine ej_true rfl ?_ | refine ej_false rfl ?_ | refine el_skip rfl rfl rfl ?_ | refine ej_ret ?_ | refine ej_skip ?_ | refine ej_exit ?_ | refine ej_block ?_ | refine eq_seq_ret ?_ | refine eq_seq_exit ?_ | refine eq_block ?_ | refine eq_block_exit ?_ | refine eq_block_ret ?_ | refine eq_block_exit_ne rfl ?_ | refine eq_back_ret ?_ | refine eq_back_exit ?_ | refine el_cons rfl (eo_lenv rfl rfl rfl rfl rfl rfl ?_) | refine el_cons rfl (eo_arith rfl rfl rfl rfl rfl rfl ⟨by omega, by omega⟩ ?_)))
        refine eq_backP (c + 1) ⟨by omega, hnext (by rw [e3]; rfl)⟩ (by omega) ?_ ?_
        · rw [e2]; exact le_of _ _ rfl
        · rw [e1]; exact fun w hw => hw
      | true =>
        have hdom := hm.dom hc'
        (repeat (first | refine el_pure rfl rfl rfl rfl ?_ | refine ej_seq ?_ | refine ej_region ?_ | refine el_nil ?_ | refine eq_seq ?_ | refine eq_calm ?_ | refine ej_true rfl ?_ | refine ej_false rfl ?_ | refine el_skip rfl rfl rfl ?_ | refine ej_ret ?_ | refine ej_skip ?_ | refine ej_exit ?_ | refine ej_block ?_ | refine eq_seq_ret ?_ | refine eq_seq_exit ?_ | refine eq_block ?_ | refine eq_block_exit ?_ | refine eq_block_ret ?_ | refine eq_block_exit_ne rfl ?_ | refine eq_back_ret ?_ | refine eq_back_exit ?_ | refine el_cons rfl (eo_lenv rfl rfl rfl rfl rfl rfl ?_) | refine el_cons rfl (eo_arith rfl rfl rfl rfl rfl rfl ⟨by omega, by omega⟩ ?_)))
        refine el_cons rfl (eo_idxa rfl rfl rfl rfl rfl rfl rfl rfl ⟨by omega, by exact h4⟩ ?_)
        refine el_cons rfl (eo_ld 0 rfl rfl rfl rfl rfl rfl rfl hdom ?_)
        (repeat (first | refine el_pure rfl rfl rfl rfl ?_ | refine ej_seq ?_ | refine ej_region ?_ | refine el_nil ?_ | refine eq_seq ?_ | refine eq_calm ?_ | refine ej_true rfl ?_ | refine ej_false rfl ?_ | refine el_skip rfl rfl rfl ?_ | refine ej_ret ?_ | refine ej_skip ?_ | refine ej_exit ?_ | refine ej_block ?_ | refine eq_seq_ret ?_ | refine eq_seq_exit ?_ | refine eq_block ?_ | refine eq_block_exit ?_ | refine eq_block_ret ?_ | refine eq_block_exit_ne rfl ?_ | refine eq_back_ret ?_ | refine eq_back_exit ?_))
        refine ej_dec rfl (fun h5 => ?_) (fun h5 => ?_)
        · (repeat (first | refine el_pure rfl rfl rfl rfl ?_ | refine ej_seq ?_ | refine ej_region ?_ | refine el_nil ?_ | refine eq_seq ?_ | refine eq_calm ?_ | refine ej_true rfl ?_ | refine ej_false rfl ?_ | refine el_skip rfl rfl rfl ?_ | refine ej_ret ?_ | refine ej_skip ?_ | refine ej_exit ?_ | refine ej_block ?_ | refine eq_seq_ret ?_ | refine eq_seq_exit ?_ | refine eq_block ?_ | refine eq_block_exit ?_ | refine eq_block_ret ?_ | refine eq_block_exit_ne rfl ?_ | refine eq_back_ret ?_ | refine eq_back_exit ?_ | refine el_cons rfl (eo_lenv rfl rfl rfl rfl rfl rfl ?_) | refine el_cons rfl (eo_arith rfl rfl rfl rfl rfl rfl ⟨by omega, by omega⟩ ?_)))
          refine el_cons rfl (eo_build (cs := RT.cells RT.none) rfl rfl rfl rfl rfl rfl rfl (by rw [RT.none, ← zero_T]; rfl) ?_)
          refine el_cons rfl (eo_stA 1 rfl rfl rfl rfl rfl RT.none_ok.len (RT.one _) rfl RT.none_ok.len ?_)
          (repeat (first | refine el_pure rfl rfl rfl rfl ?_ | refine ej_seq ?_ | refine ej_region ?_ | refine el_nil ?_ | refine eq_seq ?_ | refine eq_calm ?_ | refine ej_true rfl ?_ | refine ej_false rfl ?_ | refine el_skip rfl rfl rfl ?_ | refine ej_ret ?_ | refine ej_skip ?_ | refine ej_exit ?_ | refine ej_block ?_ | refine eq_seq_ret ?_ | refine eq_seq_exit ?_ | refine eq_block ?_ | refine eq_block_exit ?_ | refine eq_block_ret ?_ | refine eq_block_exit_ne rfl ?_ | refine eq_back_ret ?_ | refine eq_back_exit ?_ | refine el_cons rfl (eo_lenv rfl rfl rfl rfl rfl rfl ?_) | refine el_cons rfl (eo_arith rfl rfl rfl rfl rfl rfl ⟨by omega, by omega⟩ ?_)))
          refine eq_ret _ (rvs_cell 1 rfl rfl rfl rfl RT.none_ok.len (rvs_tmp rfl rvs_nil)) fun w hw => ⟨?_, hw.drop 2⟩
          have e : newE L = 8 := hk (.inl ⟨c, hc', by rw [e3, decide_eq_true h5]; rfl⟩)
          rw [newT, e, if_neg (by decide)]; rfl
        · have e4 : mark d s t (c + 1) = { mark d s t c with doms := (mark d s t c).doms.set c d, on := (mark d s t c).on.set c true } := e1
          generalize mark d s t c = u at *
          have hm2 : RT.Ok { u with doms := u.doms.set c d } := ⟨by simp [hm.doms], hm.on⟩
          (repeat (first | refine el_pure rfl rfl rfl rfl ?_ | refine ej_seq ?_ | refine ej_region ?_ | refine el_nil ?_ | refine eq_seq ?_ | refine eq_calm ?_ | refine ej_true rfl ?_ | refine ej_false rfl ?_ | refine el_skip rfl rfl rfl ?_ | refine ej_ret ?_ | refine ej_skip ?_ | refine ej_exit ?_ | refine ej_block ?_ | refine eq_seq_ret ?_ | refine eq_seq_exit ?_ | refine eq_block ?_ | refine eq_block_exit ?_ | refine eq_block_ret ?_ | refine eq_block_exit_ne rfl ?_ | refine eq_back_ret ?_ | refine eq_back_exit ?_ | refine el_cons rfl (eo_lenv rfl rfl rfl rfl rfl rfl ?_) | refine el_cons rfl (eo_arith rfl rfl rfl rfl rfl rfl ⟨by omega, by omega⟩ ?_)))
          refine el_cons rfl (eo_idxa rfl rfl rfl rfl rfl rfl rfl rfl ⟨by omega, by exact h4⟩ ?_)
          refine el_cons rfl (eo_stw 0 (RT.cells { u with doms := u.doms.set c d }) rfl rfl rfl rfl rfl rfl rfl rfl (by show 0 + 1 + (c : Int).toNat * 1 + 1 ≤ u.cells.length; rw [hm.len]; omega) (hm.setDom (show (c : Int).toNat < 64 by omega) d) ?_)
          (repeat (first | refine el_pure rfl rfl rfl rfl ?_ | refine ej_seq ?_ | refine ej_region ?_ | refine el_nil ?_ | refine eq_seq ?_ | refine eq_calm ?_ | refine ej_true rfl ?_ | refine ej_false rfl ?_ | refine el_skip rfl rfl rfl ?_ | refine ej_ret ?_ | refine ej_skip ?_ | refine ej_exit ?_ | refine ej_block ?_ | refine eq_seq_ret ?_ | refine eq_seq_exit ?_ | refine eq_block ?_ | refine eq_block_exit ?_ | refine eq_block_ret ?_ | refine eq_block_exit_ne rfl ?_ | refine eq_back_ret ?_ | refine eq_back_exit ?_ | refine el_cons rfl (eo_lenv rfl rfl rfl rfl rfl rfl ?_) | refine el_cons rfl (eo_arith rfl rfl rfl rfl rfl rfl ⟨by omega, by omega⟩ ?_)))
          refine el_cons rfl (eo_idxa rfl rfl rfl rfl rfl rfl rfl rfl ⟨by omega, by exact h4⟩ ?_)
          refine el_cons rfl (eo_stw 0 (RT.cells { u with doms := u.doms.set c d, on := u.on.set c true }) rfl rfl rfl rfl rfl rfl rfl rfl (by show 0 + 65 + (c : Int).toNat * 1 + 1 ≤ (RT.cells { u with doms := u.doms.set c d }).length; rw [hm2.len]; omega) (hm2.setOn c true) ?_)
          (repeat (first | refine el_pure rfl rfl rfl rfl ?_ | refine ej_seq ?_ | refine ej_region ?_ | refine el_nil ?_ | refine eq_seq ?_ | refine eq_calm ?_ | refine ej_true rfl ?_ | refine ej_false rfl ?_ | refine el_skip rfl rfl rfl ?_ | refine ej_ret ?_ | refine ej_skip ?_ | refine ej_exit ?_ | refine ej_block ?_ | refine eq_seq_ret ?_ | refine eq_seq_exit ?_ | refine eq_block ?_ | refine eq_block_exit ?_ | refine eq_block_ret ?_ | refine eq_block_exit_ne rfl ?_ | refine eq_back_ret ?_ | refine eq_back_exit ?_ | refine el_cons rfl (eo_lenv rfl rfl rfl rfl rfl rfl ?_) | refine el_cons rfl (eo_arith rfl rfl rfl rfl rfl rfl ⟨by omega, by omega⟩ ?_)))
          refine eq_backP (c + 1) ⟨by omega, hnext (by rw [e3, decide_eq_false h5]; rfl)⟩ (by omega) ?_ ?_
          · rw [e2]; exact le_of _ _ rfl
          · rw [e4]; exact fun w hw => hw
    · obtain rfl : c = 64 := by omega
      generalize any1 s 64 = v7 at *
      cases v7 with
      | true =>
        (repeat (first | refine el_pure rfl rfl rfl rfl ?_ | refine ej_seq ?_ | refine ej_region ?_ | refine el_nil ?_ | refine eq_seq ?_ | refine eq_calm ?_ | refine ej_true rfl ?_ | refine ej_false rfl ?_ | refine el_skip rfl rfl rfl ?_ | refine ej_ret ?_ | refine ej_skip ?_ | refine ej_exit ?_ | refine ej_block ?_ | refine eq_seq_ret ?_ | refine eq_seq_exit ?_ | refine eq_block ?_ | refine eq_block_exit ?_ | refine eq_block_ret ?_ | refine eq_block_exit_ne rfl ?_ | refine eq_back_ret ?_ | refine eq_back_exit ?_ | refine el_cons rfl (eo_lenv rfl rfl rfl rfl rfl rfl ?_) | refine el_cons rfl (eo_arith rfl rfl rfl rfl rfl rfl ⟨by omega, by omega⟩ ?_)))
        refine eq_backP (d + 1) ⟨by omega, fun d' h' => ?_⟩ (by omega) (le_of _ _ rfl) (fun w hw => by rw [hstep]; exact hw)
        rcases Nat.lt_succ_iff_lt_or_eq.1 h' with h' | rfl
        · exact hgood d' h'
        · exact hnb hcl rfl
      | false =>
        (repeat (first | refine el_pure rfl rfl rfl rfl ?_ | refine ej_seq ?_ | refine ej_region ?_ | refine el_nil ?_ | refine eq_seq ?_ | refine eq_calm ?_ | refine ej_true rfl ?_ | refine ej_false rfl ?_ | refine el_skip rfl rfl rfl ?_ | refine ej_ret ?_ | refine ej_skip ?_ | refine ej_exit ?_ | refine ej_block ?_ | refine eq_seq_ret ?_ | refine eq_seq_exit ?_ | refine eq_block ?_ | refine eq_block_exit ?_ | refine eq_block_ret ?_ | refine eq_block_exit_ne rfl ?_ | refine eq_back_ret ?_ | refine eq_back_exit ?_ | refine el_cons rfl (eo_lenv rfl rfl rfl rfl rfl rfl ?_) | refine el_cons rfl (eo_arith rfl rfl rfl rfl rfl rfl ⟨by omega, by omega⟩ ?_)))
        refine el_cons rfl (eo_build (cs := RT.cells RT.none) rfl rfl rfl rfl rfl rfl rfl (by rw [RT.none, ← zero_T]; rfl) ?_)
        refine el_cons rfl (eo_stA 1 rfl rfl rfl rfl rfl RT.none_ok.len (RT.one _) rfl RT.none_ok.len ?_)
        (repeat (first | refine el_pure rfl rfl rfl rfl ?_ | refine ej_seq ?_ | refine ej_region ?_ | refine el_nil ?_ | refine eq_seq ?_ | refine eq_calm ?_ | refine ej_true rfl ?_ | refine ej_false rfl ?_ | refine el_skip rfl rfl rfl ?_ | refine ej_ret ?_ | refine ej_skip ?_ | refine ej_exit ?_ | refine ej_block ?_ | refine eq_seq_ret ?_ | refine eq_seq_exit ?_ | refine eq_block ?_ | refine eq_block_exit ?_ | refine eq_block_ret ?_ | refine eq_block_exit_ne rfl ?_ | refine eq_back_ret ?_ | refine eq_back_exit ?_ | refine el_cons rfl (eo_lenv rfl rfl rfl rfl rfl rfl ?_) | refine el_cons rfl (eo_arith rfl rfl rfl rfl rfl rfl ⟨by omega, by omega⟩ ?_)))
        refine eq_ret _ (rvs_cell 1 rfl rfl rfl rfl RT.none_ok.len (rvs_tmp rfl rvs_nil)) fun w hw => ⟨?_, hw.drop 2⟩
        have e : newE L = 8 := hk (.inr rfl)
        rw [newT, e, if_neg (by decide)]; rfl
  · obtain rfl : d = L.length := by omega
    (repeat (first | refine el_pure rfl rfl rfl rfl ?_ | refine ej_seq ?_ | refine ej_region ?_ | refine el_nil ?_ | refine eq_seq ?_ | refine eq_calm ?_ | refine ej_true rfl ?_ | refine ej_false rfl ?_ | refine el_skip rfl rfl rfl ?_ | refine ej_ret ?_ | refine ej_skip ?_ | refine ej_exit ?_ | refine ej_block ?_ | refine eq_seq_ret ?_ | refine eq_seq_exit ?_ | refine eq_block ?_ | refine eq_block_exit ?_ | refine eq_block_ret ?_ | refine eq_block_exit_ne rfl ?_ | refine eq_back_ret ?_ | refine eq_back_exit ?_ | refine el_cons rfl (eo_lenv rfl rfl rfl rfl rfl rfl ?_) | refine el_cons rfl (eo_arith rfl rfl rfl rfl rfl rfl ⟨by omega, by omega⟩ ?_)))
    have hok := domsTo_ok L L.length
    refine el_cons rfl (eo_ldW 0 rfl rfl rfl rfl rfl rfl rfl hok.len ?_)
    refine el_cons rfl (eo_stA 1 rfl rfl rfl rfl rfl hok.len (RT.one _) rfl RT.none_ok.len ?_)
    (repeat (first | refine el_pure rfl rfl rfl rfl ?_ | refine ej_seq ?_ | refine ej_region ?_ | refine el_nil ?_ | refine eq_seq ?_ | refine eq_calm ?_ | refine ej_true rfl ?_ | refine ej_false rfl ?_ | refine el_skip rfl rfl rfl ?_ | refine ej_ret ?_ | refine ej_skip ?_ | refine ej_exit ?_ | refine ej_block ?_ | refine eq_seq_ret ?_ | refine eq_seq_exit ?_ | refine eq_block ?_ | refine eq_block_exit ?_ | refine eq_block_ret ?_ | refine eq_block_exit_ne rfl ?_ | refine eq_back_ret ?_ | refine eq_back_exit ?_ | refine el_cons rfl (eo_lenv rfl rfl rfl rfl rfl rfl ?_) | refine el_cons rfl (eo_arith rfl rfl rfl rfl rfl rfl ⟨by omega, by omega⟩ ?_)))
    refine eq_ret _ (rvs_cell 1 rfl rfl rfl rfl hok.len (rvs_tmp rfl rvs_nil)) fun w hw => ⟨?_, hw.drop 2⟩
    have e : newE L = 0 := by rw [newE, if_neg hn, if_neg (fun ⟨d, h1, h2⟩ => hgood d h1 h2)]
    rw [newT, e, if_pos rfl]; rfl

end Go.Proofs.Ytefahijlcmfpjaa
