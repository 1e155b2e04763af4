/- The document's topologies: what the reference's functions answer. -/
import Derived.Test.YtefahijlcmfpjaaRb
namespace Go.Proofs.Ytefahijlcmfpjaa
open Go Go.SE

variable {w0 : World} {l : List HP} {i j b : Nat} {r : Option (Nat × Nat)}

structure RT where
  many : Int
  doms : List Int
  on : List Bool
structure RT.Ok (t : RT) : Prop where
  doms : t.doms.length = 64
  on : t.on.length = 64
def RT.cells (t : RT) : List Value := int t.many :: (ints t.doms ++ bools t.on)
abbrev RT.val (t : RT) : Value := .agg t.cells.toArray
theorem RT.Ok.len {t : RT} (h : t.Ok) : t.cells.length = 129 := by simp [RT.cells, h.doms, h.on]
theorem RT.one (t : RT) : t.cells.all one = true := by
  rw [RT.cells, List.all_cons, List.all_append, all_ints, all_bools]; rfl
theorem RT.Ok.dom {t : RT} (h : t.Ok) {k : Nat} (hk : k < 64) : t.cells[0 + 1 + k * 1]? = some (int (t.doms.getD k 0)) := by
  have : k < t.doms.length := by rw [h.doms]; exact hk
  rw [show 0 + 1 + k * 1 = k + 1 by omega, RT.cells, List.getElem?_cons_succ, List.getElem?_append_left (by simpa using this)]
  simp [this, List.getD_eq_getElem?_getD]
theorem RT.Ok.onK {t : RT} (h : t.Ok) {k : Nat} (hk : k < 64) : t.cells[0 + 65 + k * 1]? = some (.bool (t.on.getD k false)) := by
  have : k < t.on.length := by rw [h.on]; exact hk
  rw [show 0 + 65 + k * 1 = (k + 64) + 1 by omega, RT.cells, List.getElem?_cons_succ, List.getElem?_append_right (by simp [h.doms])]
  simp [h.doms, this, List.getD_eq_getElem?_getD]
theorem RT.Ok.setOn {t : RT} (h : t.Ok) (k : Nat) (u : Bool) : splice t.cells (0 + 65 + k * 1) (Value.bool u).cells.toList = RT.cells { t with on := t.on.set k u } := by
  rw [show 0 + 65 + k * 1 = (k + 64) + 1 by omega]
  simp only [splice, Value.cells, RT.cells, List.set_cons_succ]
  rw [List.set_append_right _ _ (by simp [h.doms])]
  simp [h.doms, bools, List.map_set]
theorem RT.Ok.setDom {t : RT} (h : t.Ok) {k : Nat} (hk : k < 64) (u : Int) : splice t.cells (0 + 1 + k * 1) (Value.int .i64 u).cells.toList = RT.cells { t with doms := t.doms.set k u } := by
  rw [show 0 + 1 + k * 1 = k + 1 by omega]
  simp only [splice, Value.cells, RT.cells, List.set_cons_succ]
  rw [List.set_append_left _ _ (by simp [h.doms, hk])]
  simp [ints, List.map_set]

def RT.domE (t : RT) (c : Int) : Int := if core c ∧ 0 ≤ t.doms.getD c.toNat 0 then 0 else 2
def RT.dom (t : RT) (c : Int) : Int := if core c ∧ 0 ≤ t.doms.getD c.toNat 0 then t.doms.getD c.toNat 0 else 0
def RT.there (t : RT) (d : Int) : Prop := 0 ≤ d ∧ d < t.many
instance (t : RT) (d : Int) : Decidable (t.there d) := inferInstanceAs (Decidable (_ ∧ _))
def RT.coresS (t : RT) (d : Int) (on : Bool) : List Bool := t.doms.zipWith (fun o u => decide (o = d) && (!on || u)) t.on
def RT.cores (t : RT) (d : Int) (on : Bool) : List Bool := if t.there d then t.coresS d on else falses
def RT.coresE (t : RT) (d : Int) : Int := if t.there d then 0 else 5
def RT.upE (t : RT) (c : Int) : Int := if t.domE c ≠ 0 then 2 else if t.on.getD c.toNat false then 10 else 0
def RT.up (t : RT) (c : Int) : RT := if t.upE c = 0 then { t with on := t.on.set c.toNat true } else t
def RT.downE (t : RT) (c : Int) : Int := if t.domE c ≠ 0 then 2 else if t.on.getD c.toNat false = false then 10 else if (coresL (t.cores (t.dom c) true)).length = 1 then 9 else 0
def RT.down (t : RT) (c : Int) : RT := if t.downE c = 0 then { t with on := t.on.set c.toNat false } else t
def RT.checkE (t : RT) (d : Int) (s : List Bool) : Int := if t.coresE d ≠ 0 then 5 else if both (t.cores d false) s = falses then 8 else 0
def RT.eff (t : RT) (d : Int) (s : List Bool) : List Bool := if t.checkE d s ≠ 0 then falses else if both (t.cores d true) s = falses then t.cores d true else both (t.cores d true) s
theorem RT.Ok.coresS {t : RT} (h : t.Ok) (d : Int) (on : Bool) : (t.coresS d on).length = 64 := by simp [RT.coresS, h.doms, h.on]
theorem RT.Ok.cores {t : RT} (h : t.Ok) (d : Int) (on : Bool) : (t.cores d on).length = 64 := by
  unfold RT.cores; split
  · exact h.coresS d on
  · exact falses_length
theorem RT.Ok.up {t : RT} (h : t.Ok) (c : Int) : (t.up c).Ok := by
  unfold RT.up; split
  · exact ⟨h.doms, by simp [h.on]⟩
  · exact h
theorem RT.Ok.down {t : RT} (h : t.Ok) (c : Int) : (t.down c).Ok := by
  unfold RT.down; split
  · exact ⟨h.doms, by simp [h.on]⟩
  · exact h

theorem Domain_ref (t : RT) (c : Int) (h : t.Ok) : Does cx F_ref05_Domain [t.val, int c] (S w0 l) fun v w => v = .tuple #[int (t.dom c), int (t.domE c)] ∧ S w0 l w := by
  refine fn_enter (n := N_ref05_Domain) fn_ref05_Domain rfl rfl rfl ?_
  refine ej_seq (ej_region (el_cons rfl (eo_box rfl rfl rfl rfl fun b2 => ?_)))
  (repeat (first | refine el_pure rfl rfl rfl rfl ?_ | refine ej_seq ?_ | refine ej_region ?_ | refine el_nil ?_ | refine eq_seq ?_ | refine ej_true rfl ?_ | refine ej_false rfl ?_ | refine el_skip rfl rfl rfl ?_ | refine ej_ret ?_ | refine ej_skip ?_ | refine ej_exit ?_ | refine ej_block ?_ | refine eq_seq_ret ?_ | refine eq_seq_exit ?_ | refine eq_block ?_ | refine eq_block_exit ?_ | refine eq_block_ret ?_ | refine eq_block_exit_ne rfl ?_ | refine eq_back_ret ?_ | refine eq_back_exit ?_))
  refine el_cons rfl (eo_call1 rfl rfl rfl rfl rfl real_ref01_Core (Core_ref _ _) ?_)
  by_cases hc : core c
  · rw [decide_eq_true hc]
    have hk : c.toNat < 64 := by unfold core at hc; omega
    have hd := h.dom hk
    (repeat (first | refine el_pure rfl rfl rfl rfl ?_ | refine ej_seq ?_ | refine ej_region ?_ | refine el_nil ?_ | refine eq_seq ?_ | refine ej_true rfl ?_ | refine ej_false rfl ?_ | refine el_skip rfl rfl rfl ?_ | refine ej_ret ?_ | refine ej_skip ?_ | refine ej_exit ?_ | refine ej_block ?_ | refine eq_seq_ret ?_ | refine eq_seq_exit ?_ | refine eq_block ?_ | refine eq_block_exit ?_ | refine eq_block_ret ?_ | refine eq_block_exit_ne rfl ?_ | refine eq_back_ret ?_ | refine eq_back_exit ?_))
    refine el_cons rfl (eo_idxa rfl rfl rfl rfl rfl rfl rfl rfl hc ?_)
    refine el_cons rfl (eo_ld 0 rfl rfl rfl rfl rfl rfl rfl hd ?_)
    (repeat (first | refine el_pure rfl rfl rfl rfl ?_ | refine ej_seq ?_ | refine ej_region ?_ | refine el_nil ?_ | refine eq_seq ?_ | refine ej_true rfl ?_ | refine ej_false rfl ?_ | refine el_skip rfl rfl rfl ?_ | refine ej_ret ?_ | refine ej_skip ?_ | refine ej_exit ?_ | refine ej_block ?_ | refine eq_seq_ret ?_ | refine eq_seq_exit ?_ | refine eq_block ?_ | refine eq_block_exit ?_ | refine eq_block_ret ?_ | refine eq_block_exit_ne rfl ?_ | refine eq_back_ret ?_ | refine eq_back_exit ?_))
    refine ej_dec rfl (fun h1 => ?_) (fun h1 => ?_)
    · (repeat (first | refine el_pure rfl rfl rfl rfl ?_ | refine ej_seq ?_ | refine ej_region ?_ | refine el_nil ?_ | refine eq_seq ?_ | refine ej_true rfl ?_ | refine ej_false rfl ?_ | refine el_skip rfl rfl rfl ?_ | refine ej_ret ?_ | refine ej_skip ?_ | refine ej_exit ?_ | refine ej_block ?_ | refine eq_seq_ret ?_ | refine eq_seq_exit ?_ | refine eq_block ?_ | refine eq_block_exit ?_ | refine eq_block_ret ?_ | refine eq_block_exit_ne rfl ?_ | refine eq_back_ret ?_ | refine eq_back_exit ?_))
      refine eq_rett rfl fun w hw => ⟨?_, hw.erase 0⟩
      simp only [pack, RT.dom, RT.domE, if_neg (show ¬ (core c ∧ 0 ≤ t.doms.getD c.toNat 0) by intro h2; omega)]
    · (repeat (first | refine el_pure rfl rfl rfl rfl ?_ | refine ej_seq ?_ | refine ej_region ?_ | refine el_nil ?_ | refine eq_seq ?_ | refine ej_true rfl ?_ | refine ej_false rfl ?_ | refine el_skip rfl rfl rfl ?_ | refine ej_ret ?_ | refine ej_skip ?_ | refine ej_exit ?_ | refine ej_block ?_ | refine eq_seq_ret ?_ | refine eq_seq_exit ?_ | refine eq_block ?_ | refine eq_block_exit ?_ | refine eq_block_ret ?_ | refine eq_block_exit_ne rfl ?_ | refine eq_back_ret ?_ | refine eq_back_exit ?_))
      refine el_cons rfl (eo_idxa rfl rfl rfl rfl rfl rfl rfl rfl hc ?_)
      refine el_cons rfl (eo_ld 0 rfl rfl rfl rfl rfl rfl rfl hd ?_)
      (repeat (first | refine el_pure rfl rfl rfl rfl ?_ | refine ej_seq ?_ | refine ej_region ?_ | refine el_nil ?_ | refine eq_seq ?_ | refine ej_true rfl ?_ | refine ej_false rfl ?_ | refine el_skip rfl rfl rfl ?_ | refine ej_ret ?_ | refine ej_skip ?_ | refine ej_exit ?_ | refine ej_block ?_ | refine eq_seq_ret ?_ | refine eq_seq_exit ?_ | refine eq_block ?_ | refine eq_block_exit ?_ | refine eq_block_ret ?_ | refine eq_block_exit_ne rfl ?_ | refine eq_back_ret ?_ | refine eq_back_exit ?_))
      refine eq_rett rfl fun w hw => ⟨?_, hw.erase 0⟩
      simp only [pack, RT.dom, RT.domE, if_pos (show (core c ∧ 0 ≤ t.doms.getD c.toNat 0) from ⟨hc, by omega⟩)]
  · rw [decide_eq_false hc]
    (repeat (first | refine el_pure rfl rfl rfl rfl ?_ | refine ej_seq ?_ | refine ej_region ?_ | refine el_nil ?_ | refine eq_seq ?_ | refine ej_true rfl ?_ | refine ej_false rfl ?_ | refine el_skip rfl rfl rfl ?_ | refine ej_ret ?_ | refine ej_skip ?_ | refine ej_exit ?_ | refine ej_block ?_ | refine eq_seq_ret ?_ | refine eq_seq_exit ?_ | refine eq_block ?_ | refine eq_block_exit ?_ | refine eq_block_ret ?_ | refine eq_block_exit_ne rfl ?_ | refine eq_back_ret ?_ | refine eq_back_exit ?_))
    refine eq_rett rfl fun w hw => ⟨?_, hw.erase 0⟩
    simp only [pack, RT.dom, RT.domE, if_neg (show ¬ (core c ∧ 0 ≤ t.doms.getD c.toNat 0) by intro h2; exact hc h2.1)]

theorem Cores05_ref (t : RT) (d : Int) (on : Bool) (h : t.Ok) : Does cx F_ref05_Cores [t.val, int d, .bool on] (S w0 l) fun v w => v = .tuple #[setV (t.cores d on), int (t.coresE d)] ∧ S w0 l w := by
  refine fn_enter (n := N_ref05_Cores) fn_ref05_Cores rfl rfl rfl ?_
  refine ej_seq (ej_region (el_cons rfl (eo_box rfl rfl rfl rfl fun b3 => el_cons rfl (eo_alloc rfl rfl rfl rfl fun b6 => ?_))))
  (repeat (first | refine el_pure rfl rfl rfl rfl ?_ | refine ej_seq ?_ | refine ej_region ?_ | refine el_nil ?_ | refine eq_seq ?_ | refine ej_true rfl ?_ | refine ej_false rfl ?_ | refine el_skip rfl rfl rfl ?_ | refine ej_ret ?_ | refine ej_skip ?_ | refine ej_exit ?_ | refine ej_block ?_ | refine eq_seq_ret ?_ | refine eq_seq_exit ?_ | refine eq_block ?_ | refine eq_block_exit ?_ | refine eq_block_ret ?_ | refine eq_block_exit_ne rfl ?_ | refine eq_back_ret ?_ | refine eq_back_exit ?_))
  refine el_cons rfl (eo_buildA rfl rfl rfl rfl rfl rfl rfl rfl ?_)
  refine el_cons rfl (eo_alloc rfl rfl rfl rfl fun b8 => ?_)
  refine el_cons rfl (eo_stA 0 (vs := bools falses) rfl rfl rfl rfl rfl (by show (bools _).length = 64; simp [falses_length]) (all_bools _) rfl rfl ?_)
  refine el_imp (H' := S w0 (cells b8 T_ref01_Set (bools falses) :: cells b6 T_ref01_Set (bools falses) :: cells b3 T_ref05_T t.cells :: l)) (fun w hw => by rw [← rep_bool]; exact hw) ?_
  by_cases h0 : d < 0
  · (repeat (first | refine el_pure rfl rfl rfl rfl ?_ | refine ej_seq ?_ | refine ej_region ?_ | refine el_nil ?_ | refine eq_seq ?_ | refine ej_true rfl ?_ | refine ej_false rfl ?_ | refine el_skip rfl rfl rfl ?_ | refine ej_ret ?_ | refine ej_skip ?_ | refine ej_exit ?_ | refine ej_block ?_ | refine eq_seq_ret ?_ | refine eq_seq_exit ?_ | refine eq_block ?_ | refine eq_block_exit ?_ | refine eq_block_ret ?_ | refine eq_block_exit_ne rfl ?_ | refine eq_back_ret ?_ | refine eq_back_exit ?_))
    refine el_val 13 (u := .bool true) rfl (by simp [h0]) ?_
    (repeat (first | refine el_pure rfl rfl rfl rfl ?_ | refine ej_seq ?_ | refine ej_region ?_ | refine el_nil ?_ | refine eq_seq ?_ | refine ej_true rfl ?_ | refine ej_false rfl ?_ | refine el_skip rfl rfl rfl ?_ | refine ej_ret ?_ | refine ej_skip ?_ | refine ej_exit ?_ | refine ej_block ?_ | refine eq_seq_ret ?_ | refine eq_seq_exit ?_ | refine eq_block ?_ | refine eq_block_exit ?_ | refine eq_block_ret ?_ | refine eq_block_exit_ne rfl ?_ | refine eq_back_ret ?_ | refine eq_back_exit ?_))
    refine el_cons rfl (eo_ldW 0 rfl rfl rfl rfl rfl rfl rfl (by show (bools _).length = 64; simp [falses_length]) ?_)
    refine el_cons rfl (eo_stA 1 rfl rfl rfl rfl rfl (by show (bools _).length = 64; simp [falses_length]) (all_bools _) rfl (by show (bools _).length = 64; simp [falses_length]) ?_)
    (repeat (first | refine el_pure rfl rfl rfl rfl ?_ | refine ej_seq ?_ | refine ej_region ?_ | refine el_nil ?_ | refine eq_seq ?_ | refine ej_true rfl ?_ | refine ej_false rfl ?_ | refine el_skip rfl rfl rfl ?_ | refine ej_ret ?_ | refine ej_skip ?_ | refine ej_exit ?_ | refine ej_block ?_ | refine eq_seq_ret ?_ | refine eq_seq_exit ?_ | refine eq_block ?_ | refine eq_block_exit ?_ | refine eq_block_ret ?_ | refine eq_block_exit_ne rfl ?_ | refine eq_back_ret ?_ | refine eq_back_exit ?_))
    have ht : ¬ t.there d := fun h => by have := h.1; omega
    refine eq_ret _ (rvs_cell 1 rfl rfl rfl rfl (by show (bools _).length = 64; simp [falses_length]) (rvs_tmp rfl rvs_nil)) fun w hw => ⟨?_, hw.drop 3⟩
    simp only [pack, RT.cores, RT.coresE, if_neg ht]
  · (repeat (first | refine el_pure rfl rfl rfl rfl ?_ | refine ej_seq ?_ | refine ej_region ?_ | refine el_nil ?_ | refine eq_seq ?_ | refine ej_true rfl ?_ | refine ej_false rfl ?_ | refine el_skip rfl rfl rfl ?_ | refine ej_ret ?_ | refine ej_skip ?_ | refine ej_exit ?_ | refine ej_block ?_ | refine eq_seq_ret ?_ | refine eq_seq_exit ?_ | refine eq_block ?_ | refine eq_block_exit ?_ | refine eq_block_ret ?_ | refine eq_block_exit_ne rfl ?_ | refine eq_back_ret ?_ | refine eq_back_exit ?_))
    refine el_val 13 (u := .bool false) rfl (by simp; omega) ?_
    (repeat (first | refine el_pure rfl rfl rfl rfl ?_ | refine ej_seq ?_ | refine ej_region ?_ | refine el_nil ?_ | refine eq_seq ?_ | refine ej_true rfl ?_ | refine ej_false rfl ?_ | refine el_skip rfl rfl rfl ?_ | refine ej_ret ?_ | refine ej_skip ?_ | refine ej_exit ?_ | refine ej_block ?_ | refine eq_seq_ret ?_ | refine eq_seq_exit ?_ | refine eq_block ?_ | refine eq_block_exit ?_ | refine eq_block_ret ?_ | refine eq_block_exit_ne rfl ?_ | refine eq_back_ret ?_ | refine eq_back_exit ?_))
    refine el_cons rfl (eo_ld 2 rfl rfl rfl rfl rfl rfl rfl (v := int t.many) rfl ?_)
    (repeat (first | refine el_pure rfl rfl rfl rfl ?_ | refine ej_seq ?_ | refine ej_region ?_ | refine el_nil ?_ | refine eq_seq ?_ | refine ej_true rfl ?_ | refine ej_false rfl ?_ | refine el_skip rfl rfl rfl ?_ | refine ej_ret ?_ | refine ej_skip ?_ | refine ej_exit ?_ | refine ej_block ?_ | refine eq_seq_ret ?_ | refine eq_seq_exit ?_ | refine eq_block ?_ | refine eq_block_exit ?_ | refine eq_block_ret ?_ | refine eq_block_exit_ne rfl ?_ | refine eq_back_ret ?_ | refine eq_back_exit ?_))
    refine ej_dec rfl (fun h1 => ?_) (fun h1 => ?_)
    · (repeat (first | refine el_pure rfl rfl rfl rfl ?_ | refine ej_seq ?_ | refine ej_region ?_ | refine el_nil ?_ | refine eq_seq ?_ | refine ej_true rfl ?_ | refine ej_false rfl ?_ | refine el_skip rfl rfl rfl ?_ | refine ej_ret ?_ | refine ej_skip ?_ | refine ej_exit ?_ | refine ej_block ?_ | refine eq_seq_ret ?_ | refine eq_seq_exit ?_ | refine eq_block ?_ | refine eq_block_exit ?_ | refine eq_block_ret ?_ | refine eq_block_exit_ne rfl ?_ | refine eq_back_ret ?_ | refine eq_back_exit ?_))
      refine el_cons rfl (eo_ldW 0 rfl rfl rfl rfl rfl rfl rfl (by show (bools _).length = 64; simp [falses_length]) ?_)
      refine el_cons rfl (eo_stA 1 rfl rfl rfl rfl rfl (by show (bools _).length = 64; simp [falses_length]) (all_bools _) rfl (by show (bools _).length = 64; simp [falses_length]) ?_)
      (repeat (first | refine el_pure rfl rfl rfl rfl ?_ | refine ej_seq ?_ | refine ej_region ?_ | refine el_nil ?_ | refine eq_seq ?_ | refine ej_true rfl ?_ | refine ej_false rfl ?_ | refine el_skip rfl rfl rfl ?_ | refine ej_ret ?_ | refine ej_skip ?_ | refine ej_exit ?_ | refine ej_block ?_ | refine eq_seq_ret ?_ | refine eq_seq_exit ?_ | refine eq_block ?_ | refine eq_block_exit ?_ | refine eq_block_ret ?_ | refine eq_block_exit_ne rfl ?_ | refine eq_back_ret ?_ | refine eq_back_exit ?_))
      have ht : ¬ t.there d := fun h => by have := h.2; omega
      refine eq_ret _ (rvs_cell 1 rfl rfl rfl rfl (by show (bools _).length = 64; simp [falses_length]) (rvs_tmp rfl rvs_nil)) fun w hw => ⟨?_, hw.drop 3⟩
      simp only [pack, RT.cores, RT.coresE, if_neg ht]
    · have ht : t.there d := ⟨by omega, by omega⟩
      (repeat (first | refine el_pure rfl rfl rfl rfl ?_ | refine ej_seq ?_ | refine ej_region ?_ | refine el_nil ?_ | refine eq_seq ?_ | refine ej_true rfl ?_ | refine ej_false rfl ?_ | refine el_skip rfl rfl rfl ?_ | refine ej_ret ?_ | refine ej_skip ?_ | refine ej_exit ?_ | refine ej_block ?_ | refine eq_seq_ret ?_ | refine eq_seq_exit ?_ | refine eq_block ?_ | refine eq_block_exit ?_ | refine eq_block_ret ?_ | refine eq_block_exit_ne rfl ?_ | refine eq_back_ret ?_ | refine eq_back_exit ?_))
      have hlen : falses.length = (t.coresS d on).length := by rw [h.coresS, falses_length]
      refine ej_loopP (fun k : Nat => k ≤ 64) (fun k => [(1, int d), (2, .bool on), (3, ptr b3), (6, ptr b6), (8, ptr b8), (20, int k)])
        (fun k => S w0 (cells b8 T_ref01_Set (bools (mix (t.coresS d on) falses k)) :: cells b6 T_ref01_Set (bools falses) :: cells b3 T_ref05_T t.cells :: l)) (fun k => 64 - k) 0 (by omega) (le_of _ _ rfl) ?_ ?_
      · intro w hw
        rw [mix_zero]
        exact hw
      intro k hk
      (repeat (first | refine el_pure rfl rfl rfl rfl ?_ | refine ej_seq ?_ | refine ej_region ?_ | refine el_nil ?_ | refine eq_seq ?_ | refine ej_true rfl ?_ | refine ej_false rfl ?_ | refine el_skip rfl rfl rfl ?_ | refine ej_ret ?_ | refine ej_skip ?_ | refine ej_exit ?_ | refine ej_block ?_ | refine eq_seq_ret ?_ | refine eq_seq_exit ?_ | refine eq_block ?_ | refine eq_block_exit ?_ | refine eq_block_ret ?_ | refine eq_block_exit_ne rfl ?_ | refine eq_back_ret ?_ | refine eq_back_exit ?_))
      refine ej_dec rfl (fun h2 => ?_) (fun h2 => ?_)
      · have hk1 : k < 64 := by omega
        have hk' : k < (t.coresS d on).length := by rw [h.coresS]; omega
        have hk3 : (k : Int) < ((64 : Nat) : Int) := h2
        have ex : (k : Int).toNat = k := by omega
        have hd := h.dom hk1
        have ho := h.onK hk1
        have eb : (t.coresS d on)[k] = (decide (t.doms.getD k 0 = d) && (!on || t.on.getD k false)) := by
          have h1 : k < t.doms.length := by rw [h.doms]; exact hk1
          have h2 : k < t.on.length := by rw [h.on]; exact hk1
          simp [RT.coresS, List.getD_eq_getElem?_getD, h1, h2]
        have fin : ∀ c : Bool, c = (t.coresS d on)[k] → splice (bools (mix (t.coresS d on) falses k)) (0 + (k : Int).toNat * 1) (Value.bool c).cells.toList = bools (mix (t.coresS d on) falses (k + 1)) := by
          intro c hc
          rw [ex, hc, ← mix_set _ _ k hlen hk']
          simp [splice, Value.cells, bools, List.map_set]
        have hl : Nat.ble (0 + (k : Int).toNat * 1 + 1) (bools (mix (t.coresS d on) falses k)).length = true := Nat.ble_eq_true_of_le (by rw [ex, List.length_map, mix_length _ _ k hlen]; omega)
        rw [eb] at fin
        generalize t.doms.getD k 0 = vd at *
        generalize t.on.getD k false = vo at *
        (repeat (first | refine el_pure rfl rfl rfl rfl ?_ | refine ej_seq ?_ | refine ej_region ?_ | refine el_nil ?_ | refine eq_seq ?_ | refine ej_true rfl ?_ | refine ej_false rfl ?_ | refine el_skip rfl rfl rfl ?_ | refine ej_ret ?_ | refine ej_skip ?_ | refine ej_exit ?_ | refine ej_block ?_ | refine eq_seq_ret ?_ | refine eq_seq_exit ?_ | refine eq_block ?_ | refine eq_block_exit ?_ | refine eq_block_ret ?_ | refine eq_block_exit_ne rfl ?_ | refine eq_back_ret ?_ | refine eq_back_exit ?_))
        refine el_cons rfl (eo_idxa rfl rfl rfl rfl rfl rfl rfl rfl ⟨by omega, hk3⟩ ?_)
        refine el_cons rfl (eo_ld 2 rfl rfl rfl rfl rfl rfl rfl hd ?_)
        (repeat (first | refine el_pure rfl rfl rfl rfl ?_ | refine ej_seq ?_ | refine ej_region ?_ | refine el_nil ?_ | refine eq_seq ?_ | refine ej_true rfl ?_ | refine ej_false rfl ?_ | refine el_skip rfl rfl rfl ?_ | refine ej_ret ?_ | refine ej_skip ?_ | refine ej_exit ?_ | refine ej_block ?_ | refine eq_seq_ret ?_ | refine eq_seq_exit ?_ | refine eq_block ?_ | refine eq_block_exit ?_ | refine eq_block_ret ?_ | refine eq_block_exit_ne rfl ?_ | refine eq_back_ret ?_ | refine eq_back_exit ?_))
        by_cases hv : vd = d
        · refine el_val 30 (u := .bool true) rfl (by simp [hv]) ?_
          (repeat (first | refine el_pure rfl rfl rfl rfl ?_ | refine ej_seq ?_ | refine ej_region ?_ | refine el_nil ?_ | refine eq_seq ?_ | refine ej_true rfl ?_ | refine ej_false rfl ?_ | refine el_skip rfl rfl rfl ?_ | refine ej_ret ?_ | refine ej_skip ?_ | refine ej_exit ?_ | refine ej_block ?_ | refine eq_seq_ret ?_ | refine eq_seq_exit ?_ | refine eq_block ?_ | refine eq_block_exit ?_ | refine eq_block_ret ?_ | refine eq_block_exit_ne rfl ?_ | refine eq_back_ret ?_ | refine eq_back_exit ?_))
          cases on with
          | true =>
            (repeat (first | refine el_pure rfl rfl rfl rfl ?_ | refine ej_seq ?_ | refine ej_region ?_ | refine el_nil ?_ | refine eq_seq ?_ | refine ej_true rfl ?_ | refine ej_false rfl ?_ | refine el_skip rfl rfl rfl ?_ | refine ej_ret ?_ | refine ej_skip ?_ | refine ej_exit ?_ | refine ej_block ?_ | refine eq_seq_ret ?_ | refine eq_seq_exit ?_ | refine eq_block ?_ | refine eq_block_exit ?_ | refine eq_block_ret ?_ | refine eq_block_exit_ne rfl ?_ | refine eq_back_ret ?_ | refine eq_back_exit ?_))
            refine el_cons rfl (eo_idxa rfl rfl rfl rfl rfl rfl rfl rfl ⟨by omega, hk3⟩ ?_)
            refine el_cons rfl (eo_ld 2 rfl rfl rfl rfl rfl rfl rfl ho ?_)
            (repeat (first | refine el_pure rfl rfl rfl rfl ?_ | refine ej_seq ?_ | refine ej_region ?_ | refine el_nil ?_ | refine eq_seq ?_ | refine ej_true rfl ?_ | refine ej_false rfl ?_ | refine el_skip rfl rfl rfl ?_ | refine ej_ret ?_ | refine ej_skip ?_ | refine ej_exit ?_ | refine ej_block ?_ | refine eq_seq_ret ?_ | refine eq_seq_exit ?_ | refine eq_block ?_ | refine eq_block_exit ?_ | refine eq_block_ret ?_ | refine eq_block_exit_ne rfl ?_ | refine eq_back_ret ?_ | refine eq_back_exit ?_))
            refine el_cons rfl (eo_idxa rfl rfl rfl rfl rfl rfl rfl rfl ⟨by omega, hk3⟩ ?_)
            refine el_cons rfl (eo_st 0 rfl rfl rfl rfl rfl rfl rfl rfl hl ?_)
            rw [fin vo (by simp [hv])]
            (repeat (first | refine el_pure rfl rfl rfl rfl ?_ | refine ej_seq ?_ | refine ej_region ?_ | refine el_nil ?_ | refine eq_seq ?_ | refine ej_true rfl ?_ | refine ej_false rfl ?_ | refine el_skip rfl rfl rfl ?_ | refine ej_ret ?_ | refine ej_skip ?_ | refine ej_exit ?_ | refine ej_block ?_ | refine eq_seq_ret ?_ | refine eq_seq_exit ?_ | refine eq_block ?_ | refine eq_block_exit ?_ | refine eq_block_ret ?_ | refine eq_block_exit_ne rfl ?_ | refine eq_back_ret ?_ | refine eq_back_exit ?_))
            refine el_cons rfl (eo_arith rfl rfl rfl rfl rfl rfl ⟨by omega, by omega⟩ ?_)
            (repeat (first | refine el_pure rfl rfl rfl rfl ?_ | refine ej_seq ?_ | refine ej_region ?_ | refine el_nil ?_ | refine eq_seq ?_ | refine ej_true rfl ?_ | refine ej_false rfl ?_ | refine el_skip rfl rfl rfl ?_ | refine ej_ret ?_ | refine ej_skip ?_ | refine ej_exit ?_ | refine ej_block ?_ | refine eq_seq_ret ?_ | refine eq_seq_exit ?_ | refine eq_block ?_ | refine eq_block_exit ?_ | refine eq_block_ret ?_ | refine eq_block_exit_ne rfl ?_ | refine eq_back_ret ?_ | refine eq_back_exit ?_))
            exact eq_backP (k + 1) (by omega) (by omega) (le_of _ _ rfl) (fun _ h => h)
          | false =>
            (repeat (first | refine el_pure rfl rfl rfl rfl ?_ | refine ej_seq ?_ | refine ej_region ?_ | refine el_nil ?_ | refine eq_seq ?_ | refine ej_true rfl ?_ | refine ej_false rfl ?_ | refine el_skip rfl rfl rfl ?_ | refine ej_ret ?_ | refine ej_skip ?_ | refine ej_exit ?_ | refine ej_block ?_ | refine eq_seq_ret ?_ | refine eq_seq_exit ?_ | refine eq_block ?_ | refine eq_block_exit ?_ | refine eq_block_ret ?_ | refine eq_block_exit_ne rfl ?_ | refine eq_back_ret ?_ | refine eq_back_exit ?_))
            refine el_cons rfl (eo_idxa rfl rfl rfl rfl rfl rfl rfl rfl ⟨by omega, hk3⟩ ?_)
            refine el_cons rfl (eo_st 0 rfl rfl rfl rfl rfl rfl rfl rfl hl ?_)
            rw [fin true (by simp [hv])]
            (repeat (first | refine el_pure rfl rfl rfl rfl ?_ | refine ej_seq ?_ | refine ej_region ?_ | refine el_nil ?_ | refine eq_seq ?_ | refine ej_true rfl ?_ | refine ej_false rfl ?_ | refine el_skip rfl rfl rfl ?_ | refine ej_ret ?_ | refine ej_skip ?_ | refine ej_exit ?_ | refine ej_block ?_ | refine eq_seq_ret ?_ | refine eq_seq_exit ?_ | refine eq_block ?_ | refine eq_block_exit ?_ | refine eq_block_ret ?_ | refine eq_block_exit_ne rfl ?_ | refine eq_back_ret ?_ | refine eq_back_exit ?_))
            refine el_cons rfl (eo_arith rfl rfl rfl rfl rfl rfl ⟨by omega, by omega⟩ ?_)
            (repeat (first | refine el_pure rfl rfl rfl rfl ?_ | refine ej_seq ?_ | refine ej_region ?_ | refine el_nil ?_ | refine eq_seq ?_ | refine ej_true rfl ?_ | refine ej_false rfl ?_ | refine el_skip rfl rfl rfl ?_ | refine ej_ret ?_ | refine ej_skip ?_ | refine ej_exit ?_ | refine ej_block ?_ | refine eq_seq_ret ?_ | refine eq_seq_exit ?_ | refine eq_block ?_ | refine eq_block_exit ?_ | refine eq_block_ret ?_ | refine eq_block_exit_ne rfl ?_ | refine eq_back_ret ?_ | refine eq_back_exit ?_))
            exact eq_backP (k + 1) (by omega) (by omega) (le_of _ _ rfl) (fun _ h => h)
        · refine el_val 30 (u := .bool false) rfl (by simp [hv]) ?_
          (repeat (first | refine el_pure rfl rfl rfl rfl ?_ | refine ej_seq ?_ | refine ej_region ?_ | refine el_nil ?_ | refine eq_seq ?_ | refine ej_true rfl ?_ | refine ej_false rfl ?_ | refine el_skip rfl rfl rfl ?_ | refine ej_ret ?_ | refine ej_skip ?_ | refine ej_exit ?_ | refine ej_block ?_ | refine eq_seq_ret ?_ | refine eq_seq_exit ?_ | refine eq_block ?_ | refine eq_block_exit ?_ | refine eq_block_ret ?_ | refine eq_block_exit_ne rfl ?_ | refine eq_back_ret ?_ | refine eq_back_exit ?_))
          refine el_cons rfl (eo_idxa rfl rfl rfl rfl rfl rfl rfl rfl ⟨by omega, hk3⟩ ?_)
          refine el_cons rfl (eo_st 0 rfl rfl rfl rfl rfl rfl rfl rfl hl ?_)
          rw [fin false (by simp [hv])]
          (repeat (first | refine el_pure rfl rfl rfl rfl ?_ | refine ej_seq ?_ | refine ej_region ?_ | refine el_nil ?_ | refine eq_seq ?_ | refine ej_true rfl ?_ | refine ej_false rfl ?_ | refine el_skip rfl rfl rfl ?_ | refine ej_ret ?_ | refine ej_skip ?_ | refine ej_exit ?_ | refine ej_block ?_ | refine eq_seq_ret ?_ | refine eq_seq_exit ?_ | refine eq_block ?_ | refine eq_block_exit ?_ | refine eq_block_ret ?_ | refine eq_block_exit_ne rfl ?_ | refine eq_back_ret ?_ | refine eq_back_exit ?_))
          refine el_cons rfl (eo_arith rfl rfl rfl rfl rfl rfl ⟨by omega, by omega⟩ ?_)
          (repeat (first | refine el_pure rfl rfl rfl rfl ?_ | refine ej_seq ?_ | refine ej_region ?_ | refine el_nil ?_ | refine eq_seq ?_ | refine ej_true rfl ?_ | refine ej_false rfl ?_ | refine el_skip rfl rfl rfl ?_ | refine ej_ret ?_ | refine ej_skip ?_ | refine ej_exit ?_ | refine ej_block ?_ | refine eq_seq_ret ?_ | refine eq_seq_exit ?_ | refine eq_block ?_ | refine eq_block_exit ?_ | refine eq_block_ret ?_ | refine eq_block_exit_ne rfl ?_ | refine eq_back_ret ?_ | refine eq_back_exit ?_))
          exact eq_backP (k + 1) (by omega) (by omega) (le_of _ _ rfl) (fun _ h => h)
      · obtain rfl : k = 64 := by omega
        rw [show mix (t.coresS d on) falses 64 = t.coresS d on from by
          have := mix_all (t.coresS d on) falses hlen
          rwa [h.coresS] at this]
        (repeat (first | refine el_pure rfl rfl rfl rfl ?_ | refine ej_seq ?_ | refine ej_region ?_ | refine el_nil ?_ | refine eq_seq ?_ | refine ej_true rfl ?_ | refine ej_false rfl ?_ | refine el_skip rfl rfl rfl ?_ | refine ej_ret ?_ | refine ej_skip ?_ | refine ej_exit ?_ | refine ej_block ?_ | refine eq_seq_ret ?_ | refine eq_seq_exit ?_ | refine eq_block ?_ | refine eq_block_exit ?_ | refine eq_block_ret ?_ | refine eq_block_exit_ne rfl ?_ | refine eq_back_ret ?_ | refine eq_back_exit ?_))
        refine el_cons rfl (eo_ldW 0 rfl rfl rfl rfl rfl rfl rfl (by show (bools _).length = 64; simp [h.coresS]) ?_)
        refine el_cons rfl (eo_stA 1 rfl rfl rfl rfl rfl (by show (bools _).length = 64; simp [h.coresS]) (all_bools _) rfl (by show (bools _).length = 64; simp [falses_length]) ?_)
        (repeat (first | refine el_pure rfl rfl rfl rfl ?_ | refine ej_seq ?_ | refine ej_region ?_ | refine el_nil ?_ | refine eq_seq ?_ | refine ej_true rfl ?_ | refine ej_false rfl ?_ | refine el_skip rfl rfl rfl ?_ | refine ej_ret ?_ | refine ej_skip ?_ | refine ej_exit ?_ | refine ej_block ?_ | refine eq_seq_ret ?_ | refine eq_seq_exit ?_ | refine eq_block ?_ | refine eq_block_exit ?_ | refine eq_block_ret ?_ | refine eq_block_exit_ne rfl ?_ | refine eq_back_ret ?_ | refine eq_back_exit ?_))
        refine eq_ret _ (rvs_cell 1 rfl rfl rfl rfl (by show (bools _).length = 64; simp [h.coresS]) (rvs_tmp rfl rvs_nil)) fun w hw => ⟨?_, hw.drop 3⟩
        simp only [pack, RT.cores, RT.coresE, if_pos ht]

end Go.Proofs.Ytefahijlcmfpjaa
