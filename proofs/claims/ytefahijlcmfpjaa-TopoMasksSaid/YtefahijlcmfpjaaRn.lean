/- The laws: TopoPlays, TopoCopies. -/
import Derived.Test.YtefahijlcmfpjaaRm
namespace Go.Proofs.Ytefahijlcmfpjaa
open Go Go.SE

variable {w0 : World} {l : List HP} {i j b : Nat} {r : Option (Nat × Nat)} {T : Topo} {t : RT}

def doing (ds : List Doing) : List Value := (ds.map fun a => a.cells).flatten
theorem doing_get : ∀ (ds : List Doing) (k : Nat), k < ds.length → ∃ a, ds[k]? = some a ∧ (doing ds)[k * 2]? = some (int a.core) ∧ (doing ds)[k * 2 + 1]? = some (.bool a.up) := by
  intro ds
  induction ds with
  | nil => intro k h; simp at h
  | cons a ds ih =>
    intro k h
    cases k with
    | zero => exact ⟨a, rfl, rfl, rfl⟩
    | succ k =>
      obtain ⟨a', h1, h2, h3⟩ := ih k (by simpa using h)
      refine ⟨a', by simpa using h1, ?_, ?_⟩
      · rw [Nat.succ_mul]; exact h2
      · rw [Nat.succ_mul]; exact h3
/-- what a law is told to do -/
structure Told (w0 : World) (l : List HP) (i : Nat) (a : Option Addr) (ds : List Doing) : Prop where
  sl : Sl w0 2 a (doing ds) ds.length
  old : l[i]? = some (old w0)
theorem Told.at {a : Option Addr} {ds : List Doing} (_h : Told w0 l i a ds) {k : Nat} (hk : k < ds.length) : ∃ x, ds[k]? = some x ∧ ∀ q, q < 2 → (doing ds)[k * 2 + q]? = x.cells[q]? := by
  obtain ⟨x, h1, h2, h3⟩ := doing_get ds k hk
  refine ⟨x, h1, fun q hq => ?_⟩
  rcases (by omega : q = 0 ∨ q = 1) with rfl | rfl
  · exact h2
  · exact h3

theorem one_doing (x : Doing) : x.cells.all one = true := rfl

/-- told, one behind the other -/
def Topo.steps (T : Topo) (ds : List Doing) : Topo := ds.foldl Topo.step T
def RT.steps (t : RT) (ds : List Doing) : RT := ds.foldl RT.step t
theorem Rel.steps : ∀ (ds : List Doing) {T : Topo} {t : RT}, Rel T t → Rel (T.steps ds) (t.steps ds)
  | [], _, _, h => h
  | a :: ds, _, _, h => Rel.steps ds (h.step a)
theorem step_doms (T : Topo) (a : Doing) : (T.step a).doms = T.doms := by
  unfold Topo.step Topo.up Topo.down
  split
  · split
    · rfl
    · split <;> rfl
  · split <;> rfl
theorem steps_doms (T : Topo) : ∀ (ds : List Doing), (T.steps ds).doms = T.doms := by
  intro ds
  induction ds generalizing T with
  | nil => rfl
  | cons a ds ih => rw [Topo.steps, List.foldl_cons]; exact (ih (T.step a)).trans (step_doms T a)
theorem steps_snoc (T : Topo) (ds : List Doing) (k : Nat) {x : Doing} (h : ds[k]? = some x) : T.steps (ds.take (k + 1)) = (T.steps (ds.take k)).step x := by
  have hk := (List.getElem?_eq_some_iff.1 h)
  obtain ⟨hlt, rfl⟩ := hk
  rw [List.take_succ_eq_append_getElem hlt, Topo.steps, List.foldl_append]; rfl
theorem rsteps_snoc (t : RT) (ds : List Doing) (k : Nat) {x : Doing} (h : ds[k]? = some x) : t.steps (ds.take (k + 1)) = (t.steps (ds.take k)).step x := by
  have hk := (List.getElem?_eq_some_iff.1 h)
  obtain ⟨hlt, rfl⟩ := hk
  rw [List.take_succ_eq_append_getElem hlt, RT.steps, List.foldl_append]; rfl
theorem Rel.online_ne (h : Rel T t) {d : Nat} (hd : d < T.doms.length) : T.online d ≠ 0 := by
  have := h.live d hd
  simpa [Topo.online, Topo.cores, Topo.there, hd] using this

set_option maxHeartbeats 3200000 in
theorem Plays_any {a a2 : Option Addr} {c c2 : Nat} (xs : List Nat) (ds : List Doing) (hM : Masks w0 l i a xs) (hA : Told w0 l i a2 ds) : Does cx F_law05_TopoPlays [.slice a xs.length c, .slice a2 ds.length c2] (S w0 l) fun v w => v = .bool true ∧ S w0 l w := by
  have hfits := hM.fits
  refine fn_enter (n := N_law05_TopoPlays) fn_law05_TopoPlays rfl rfl rfl ?_
  (repeat (first | refine el_pure rfl rfl rfl rfl ?_ | refine ej_seq ?_ | refine ej_region ?_ | refine el_nil ?_ | refine eq_seq ?_ | refine eq_calm ?_ | refine ej_true rfl ?_ | refine ej_false rfl ?_ | refine el_skip rfl rfl rfl ?_ | refine ej_ret ?_ | refine ej_skip ?_ | refine ej_exit ?_ | refine ej_block ?_ | refine eq_seq_ret ?_ | refine eq_seq_exit ?_ | refine eq_block ?_ | refine eq_block_exit ?_ | refine eq_block_ret ?_ | refine eq_block_exit_ne rfl ?_ | refine eq_back_ret ?_ | refine eq_back_exit ?_))
  refine el_cons rfl (eo_call1 rfl rfl rfl rfl rfl real_law05_awake awake_any ?_)
  (repeat (first | refine el_pure rfl rfl rfl rfl ?_ | refine ej_seq ?_ | refine ej_region ?_ | refine el_nil ?_ | refine eq_seq ?_ | refine eq_calm ?_ | refine ej_true rfl ?_ | refine ej_false rfl ?_ | refine el_skip rfl rfl rfl ?_ | refine ej_ret ?_ | refine ej_skip ?_ | refine ej_exit ?_ | refine ej_block ?_ | refine eq_seq_ret ?_ | refine eq_seq_exit ?_ | refine eq_block ?_ | refine eq_block_exit ?_ | refine eq_block_ret ?_ | refine eq_block_exit_ne rfl ?_ | refine eq_back_ret ?_ | refine eq_back_exit ?_ | refine el_cons rfl (eo_lenv rfl rfl rfl rfl rfl rfl ?_) | refine el_cons rfl (eo_arith rfl rfl rfl rfl rfl rfl ⟨by omega, by omega⟩ ?_)))
  refine ej_dec rfl (fun h1 => ?_) (fun h1 => ?_)
  · (repeat (first | refine el_pure rfl rfl rfl rfl ?_ | refine ej_seq ?_ | refine ej_region ?_ | refine el_nil ?_ | refine eq_seq ?_ | refine eq_calm ?_ | refine ej_true rfl ?_ | refine ej_false rfl ?_ | refine el_skip rfl rfl rfl ?_ | refine ej_ret ?_ | refine ej_skip ?_ | refine ej_exit ?_ | refine ej_block ?_ | refine eq_seq_ret ?_ | refine eq_seq_exit ?_ | refine eq_block ?_ | refine eq_block_exit ?_ | refine eq_block_ret ?_ | refine eq_block_exit_ne rfl ?_ | refine eq_back_ret ?_ | refine eq_back_exit ?_))
    refine el_cons rfl (eo_call1 rfl rfl rfl rfl rfl real_law05_awake awake_any ?_)
    (repeat (first | refine el_pure rfl rfl rfl rfl ?_ | refine ej_seq ?_ | refine ej_region ?_ | refine el_nil ?_ | refine eq_seq ?_ | refine eq_calm ?_ | refine ej_true rfl ?_ | refine ej_false rfl ?_ | refine el_skip rfl rfl rfl ?_ | refine ej_ret ?_ | refine ej_skip ?_ | refine ej_exit ?_ | refine ej_block ?_ | refine eq_seq_ret ?_ | refine eq_seq_exit ?_ | refine eq_block ?_ | refine eq_block_exit ?_ | refine eq_block_ret ?_ | refine eq_block_exit_ne rfl ?_ | refine eq_back_ret ?_ | refine eq_back_exit ?_))
    exact eq_rett rfl fun w hw => ⟨rfl, hw⟩
  have h40 : ds.length ≤ 40 := by omega
  (repeat (first | refine el_pure rfl rfl rfl rfl ?_ | refine ej_seq ?_ | refine ej_region ?_ | refine el_nil ?_ | refine eq_seq ?_ | refine eq_calm ?_ | refine ej_true rfl ?_ | refine ej_false rfl ?_ | refine el_skip rfl rfl rfl ?_ | refine ej_ret ?_ | refine ej_skip ?_ | refine ej_exit ?_ | refine ej_block ?_ | refine eq_seq_ret ?_ | refine eq_seq_exit ?_ | refine eq_block ?_ | refine eq_block_exit ?_ | refine eq_block_ret ?_ | refine eq_block_exit_ne rfl ?_ | refine eq_back_ret ?_ | refine eq_back_exit ?_))
  refine el_cons rfl (eo_call2 rfl rfl rfl rfl rfl real_law05_Open (Open_any xs hM) (fun x h0 => ?_) (fun t h0 => ?_))
  · obtain ⟨bt, rt⟩ := x
    obtain ⟨_, h0⟩ := h0
    have hR := new_T hM.lt h0
    generalize newT (bitsLs xs) = t at *
    generalize topoT xs = T at *
    have hok := hR.okR
    (repeat (first | refine el_pure rfl rfl rfl rfl ?_ | refine ej_seq ?_ | refine ej_region ?_ | refine el_nil ?_ | refine eq_seq ?_ | refine eq_calm ?_ | refine ej_true rfl ?_ | refine ej_false rfl ?_ | refine el_skip rfl rfl rfl ?_ | refine ej_ret ?_ | refine ej_skip ?_ | refine ej_exit ?_ | refine ej_block ?_ | refine eq_seq_ret ?_ | refine eq_seq_exit ?_ | refine eq_block ?_ | refine eq_block_exit ?_ | refine eq_block_ret ?_ | refine eq_block_exit_ne rfl ?_ | refine eq_back_ret ?_ | refine eq_back_exit ?_))
    refine el_cons rfl (eo_alloc rfl rfl rfl rfl fun b6 => ?_)
    (repeat (first | refine el_pure rfl rfl rfl rfl ?_ | refine ej_seq ?_ | refine ej_region ?_ | refine el_nil ?_ | refine eq_seq ?_ | refine eq_calm ?_ | refine ej_true rfl ?_ | refine ej_false rfl ?_ | refine el_skip rfl rfl rfl ?_ | refine ej_ret ?_ | refine ej_skip ?_ | refine ej_exit ?_ | refine ej_block ?_ | refine eq_seq_ret ?_ | refine eq_seq_exit ?_ | refine eq_block ?_ | refine eq_block_exit ?_ | refine eq_block_ret ?_ | refine eq_block_exit_ne rfl ?_ | refine eq_back_ret ?_ | refine eq_back_exit ?_))
    refine el_cons rfl (eo_stA 0 rfl rfl rfl rfl rfl hok.len (RT.one _) rfl rfl ?_)
    (repeat (first | refine el_pure rfl rfl rfl rfl ?_ | refine ej_seq ?_ | refine ej_region ?_ | refine el_nil ?_ | refine eq_seq ?_ | refine eq_calm ?_ | refine ej_true rfl ?_ | refine ej_false rfl ?_ | refine el_skip rfl rfl rfl ?_ | refine ej_ret ?_ | refine ej_skip ?_ | refine ej_exit ?_ | refine ej_block ?_ | refine eq_seq_ret ?_ | refine eq_seq_exit ?_ | refine eq_block ?_ | refine eq_block_exit ?_ | refine eq_block_ret ?_ | refine eq_block_exit_ne rfl ?_ | refine eq_back_ret ?_ | refine eq_back_exit ?_ | refine el_cons rfl (eo_lenv rfl rfl rfl rfl rfl rfl ?_) | refine el_cons rfl (eo_arith rfl rfl rfl rfl rfl rfl ⟨by omega, by omega⟩ ?_)))
    refine ej_loopP (fun k : Nat => k ≤ ds.length) (fun k => [(0, .slice a xs.length c), (5, ptr bt), (6, ptr b6), (31, .slice a2 ds.length c2), (32, int ds.length), (33, int k)])
      (fun k => S w0 (cells b6 T_ref05_T (t.steps (ds.take k)).cells :: laid bt rt (T.steps (ds.take k)) l)) (fun k => ds.length - k) 0 (Nat.zero_le _) (le_of _ _ rfl) (fun w hw => hw) ?_
    intro k hk
    (repeat (first | refine el_pure rfl rfl rfl rfl ?_ | refine ej_seq ?_ | refine ej_region ?_ | refine el_nil ?_ | refine eq_seq ?_ | refine eq_calm ?_ | refine ej_true rfl ?_ | refine ej_false rfl ?_ | refine el_skip rfl rfl rfl ?_ | refine ej_ret ?_ | refine ej_skip ?_ | refine ej_exit ?_ | refine ej_block ?_ | refine eq_seq_ret ?_ | refine eq_seq_exit ?_ | refine eq_block ?_ | refine eq_block_exit ?_ | refine eq_block_ret ?_ | refine eq_block_exit_ne rfl ?_ | refine eq_back_ret ?_ | refine eq_back_exit ?_))
    refine ej_dec rfl (fun h => ?_) (fun h => ?_)
    · have hkl : k < ds.length := by omega
      obtain ⟨x, hx, hxs⟩ := hA.at hkl
      have hRk := hR.steps (ds.take k)
      have e1 := steps_snoc T ds k hx
      have e2 := rsteps_snoc t ds k hx
      generalize T.steps (ds.take k) = Tk at *
      generalize t.steps (ds.take k) = tk at *
      have hRn := hRk.step x
      (repeat (first | refine el_pure rfl rfl rfl rfl ?_ | refine ej_seq ?_ | refine ej_region ?_ | refine el_nil ?_ | refine eq_seq ?_ | refine eq_calm ?_ | refine ej_true rfl ?_ | refine ej_false rfl ?_ | refine el_skip rfl rfl rfl ?_ | refine ej_ret ?_ | refine ej_skip ?_ | refine ej_exit ?_ | refine ej_block ?_ | refine eq_seq_ret ?_ | refine eq_seq_exit ?_ | refine eq_block ?_ | refine eq_block_exit ?_ | refine eq_block_ret ?_ | refine eq_block_exit_ne rfl ?_ | refine eq_back_ret ?_ | refine eq_back_exit ?_ | refine el_cons rfl (eo_lenv rfl rfl rfl rfl rfl rfl ?_) | refine el_cons rfl (eo_arith rfl rfl rfl rfl rfl rfl ⟨by omega, by omega⟩ ?_)))
      refine el_cons rfl (eo_idxo rfl rfl rfl rfl rfl rfl rfl rfl rfl hA.sl ⟨by omega, h⟩ ?_)
      refine el_cons rfl (eo_ldoA (i + 3) (k * 2) rfl rfl rfl ?_ rfl rfl hA.old hA.sl rfl hxs ?_)
      · show some _ = _; simp
      refine el_cons rfl (eo_alloc rfl rfl rfl rfl fun b9 => ?_)
      refine el_cons rfl (eo_stA 0 rfl rfl rfl rfl rfl rfl (one_doing x) rfl rfl ?_)
      (repeat (first | refine el_pure rfl rfl rfl rfl ?_ | refine ej_seq ?_ | refine ej_region ?_ | refine el_nil ?_ | refine eq_seq ?_ | refine eq_calm ?_ | refine ej_true rfl ?_ | refine ej_false rfl ?_ | refine el_skip rfl rfl rfl ?_ | refine ej_ret ?_ | refine ej_skip ?_ | refine ej_exit ?_ | refine ej_block ?_ | refine eq_seq_ret ?_ | refine eq_seq_exit ?_ | refine eq_block ?_ | refine eq_block_exit ?_ | refine eq_block_ret ?_ | refine eq_block_exit_ne rfl ?_ | refine eq_back_ret ?_ | refine eq_back_exit ?_))
      refine el_cons rfl (eo_ldW 1 rfl rfl rfl rfl rfl rfl rfl hRk.okR.len ?_)
      refine el_cons rfl (eo_ldW 0 rfl rfl rfl rfl rfl rfl rfl rfl ?_)
      refine el_cons rfl (eo_call1 rfl rfl rfl rfl rfl real_law05_do (do_any (i := 2) (j := 3) x ⟨rfl, rfl⟩ hRk) ?_)
      have hdoms : (Tk.step x).doms = Tk.doms := step_doms Tk x
      refine el_imp (H' := S w0 (cells b9 T_law05_Act x.cells :: cells b6 T_ref05_T tk.cells :: laid bt rt (Tk.step x) l)) (fun w hw => by rw [laid, hdoms]; rw [topoSet, hdoms] at hw; exact hw) ?_
      rw [← e1, ← e2] at *
      have hlive := fun d => hRn.online_ne (d := d)
      have hmany := hRn.many
      have hfew := hRn.okT.few
      generalize hTn : T.steps (ds.take (k + 1)) = Tn at *
      generalize htn : t.steps (ds.take (k + 1)) = tn at *
      (repeat (first | refine el_pure rfl rfl rfl rfl ?_ | refine ej_seq ?_ | refine ej_region ?_ | refine el_nil ?_ | refine eq_seq ?_ | refine eq_calm ?_ | refine ej_true rfl ?_ | refine ej_false rfl ?_ | refine el_skip rfl rfl rfl ?_ | refine ej_ret ?_ | refine ej_skip ?_ | refine ej_exit ?_ | refine ej_block ?_ | refine eq_seq_ret ?_ | refine eq_seq_exit ?_ | refine eq_block ?_ | refine eq_block_exit ?_ | refine eq_block_ret ?_ | refine eq_block_exit_ne rfl ?_ | refine eq_back_ret ?_ | refine eq_back_exit ?_))
      refine el_cons rfl (eo_alloc rfl rfl rfl rfl fun b10 => ?_)
      (repeat (first | refine el_pure rfl rfl rfl rfl ?_ | refine ej_seq ?_ | refine ej_region ?_ | refine el_nil ?_ | refine eq_seq ?_ | refine eq_calm ?_ | refine ej_true rfl ?_ | refine ej_false rfl ?_ | refine el_skip rfl rfl rfl ?_ | refine ej_ret ?_ | refine ej_skip ?_ | refine ej_exit ?_ | refine ej_block ?_ | refine eq_seq_ret ?_ | refine eq_seq_exit ?_ | refine eq_block ?_ | refine eq_block_exit ?_ | refine eq_block_ret ?_ | refine eq_block_exit_ne rfl ?_ | refine eq_back_ret ?_ | refine eq_back_exit ?_))
      refine el_cons rfl (eo_stA 0 rfl rfl rfl rfl rfl hRn.okR.len (RT.one _) rfl rfl ?_)
      (repeat (first | refine el_pure rfl rfl rfl rfl ?_ | refine ej_seq ?_ | refine ej_region ?_ | refine el_nil ?_ | refine eq_seq ?_ | refine eq_calm ?_ | refine ej_true rfl ?_ | refine ej_false rfl ?_ | refine el_skip rfl rfl rfl ?_ | refine ej_ret ?_ | refine ej_skip ?_ | refine ej_exit ?_ | refine ej_block ?_ | refine eq_seq_ret ?_ | refine eq_seq_exit ?_ | refine eq_block ?_ | refine eq_block_exit ?_ | refine eq_block_ret ?_ | refine eq_block_exit_ne rfl ?_ | refine eq_back_ret ?_ | refine eq_back_exit ?_))
      refine el_cons rfl (eo_ldW 0 rfl rfl rfl rfl rfl rfl rfl hRn.okR.len ?_)
      refine el_cons rfl (eo_stA 2 rfl rfl rfl rfl rfl hRn.okR.len (RT.one _) rfl hRk.okR.len ?_)
      (repeat (first | refine el_pure rfl rfl rfl rfl ?_ | refine ej_seq ?_ | refine ej_region ?_ | refine el_nil ?_ | refine eq_seq ?_ | refine eq_calm ?_ | refine ej_true rfl ?_ | refine ej_false rfl ?_ | refine el_skip rfl rfl rfl ?_ | refine ej_ret ?_ | refine ej_skip ?_ | refine ej_exit ?_ | refine ej_block ?_ | refine eq_seq_ret ?_ | refine eq_seq_exit ?_ | refine eq_block ?_ | refine eq_block_exit ?_ | refine eq_block_ret ?_ | refine eq_block_exit_ne rfl ?_ | refine eq_back_ret ?_ | refine eq_back_exit ?_))
      refine el_cons rfl (eo_ldW 2 rfl rfl rfl rfl rfl rfl rfl hRn.okR.len ?_)
      refine el_cons rfl (eo_call1 rfl rfl rfl rfl rfl real_law05_Is (Is_any (i := 3) (j := 4) ⟨rfl, rfl⟩ hRn) ?_)
      (repeat (first | refine el_pure rfl rfl rfl rfl ?_ | refine ej_seq ?_ | refine ej_region ?_ | refine el_nil ?_ | refine eq_seq ?_ | refine eq_calm ?_ | refine ej_true rfl ?_ | refine ej_false rfl ?_ | refine el_skip rfl rfl rfl ?_ | refine ej_ret ?_ | refine ej_skip ?_ | refine ej_exit ?_ | refine ej_block ?_ | refine eq_seq_ret ?_ | refine eq_seq_exit ?_ | refine eq_block ?_ | refine eq_block_exit ?_ | refine eq_block_ret ?_ | refine eq_block_exit_ne rfl ?_ | refine eq_back_ret ?_ | refine eq_back_exit ?_))
      refine el_cons rfl (eo_ld 2 rfl rfl rfl rfl rfl rfl rfl rfl ?_)
      (repeat (first | refine el_pure rfl rfl rfl rfl ?_ | refine ej_seq ?_ | refine ej_region ?_ | refine el_nil ?_ | refine eq_seq ?_ | refine eq_calm ?_ | refine ej_true rfl ?_ | refine ej_false rfl ?_ | refine el_skip rfl rfl rfl ?_ | refine ej_ret ?_ | refine ej_skip ?_ | refine ej_exit ?_ | refine ej_block ?_ | refine eq_seq_ret ?_ | refine eq_seq_exit ?_ | refine eq_block ?_ | refine eq_block_exit ?_ | refine eq_block_ret ?_ | refine eq_block_exit_ne rfl ?_ | refine eq_back_ret ?_ | refine eq_back_exit ?_))
      refine ej_loopP (fun d : Nat => d ≤ Tn.doms.length) (fun d => [(0, .slice a xs.length c), (5, ptr bt), (6, ptr b6), (31, .slice a2 ds.length c2), (32, int ds.length), (33, int k), (54, int tn.many), (55, int d)])
        (fun d => S w0 (cells b10 T_ref05_T tn.cells :: cells b9 T_law05_Act x.cells :: cells b6 T_ref05_T tn.cells :: laid bt rt Tn l)) (fun d => Tn.doms.length - d) 0 (Nat.zero_le _) (le_of _ _ rfl) (fun w hw => hw) ?_
      intro d hd
      (repeat (first | refine el_pure rfl rfl rfl rfl ?_ | refine ej_seq ?_ | refine ej_region ?_ | refine el_nil ?_ | refine eq_seq ?_ | refine eq_calm ?_ | refine ej_true rfl ?_ | refine ej_false rfl ?_ | refine el_skip rfl rfl rfl ?_ | refine ej_ret ?_ | refine ej_skip ?_ | refine ej_exit ?_ | refine ej_block ?_ | refine eq_seq_ret ?_ | refine eq_seq_exit ?_ | refine eq_block ?_ | refine eq_block_exit ?_ | refine eq_block_ret ?_ | refine eq_block_exit_ne rfl ?_ | refine eq_back_ret ?_ | refine eq_back_exit ?_))
      refine ej_dec rfl (fun h4 => ?_) (fun h4 => ?_)
      · rw [hmany] at h4
        have hne := hlive d (by omega)
        (repeat (first | refine el_pure rfl rfl rfl rfl ?_ | refine ej_seq ?_ | refine ej_region ?_ | refine el_nil ?_ | refine eq_seq ?_ | refine eq_calm ?_ | refine ej_true rfl ?_ | refine ej_false rfl ?_ | refine el_skip rfl rfl rfl ?_ | refine ej_ret ?_ | refine ej_skip ?_ | refine ej_exit ?_ | refine ej_block ?_ | refine eq_seq_ret ?_ | refine eq_seq_exit ?_ | refine eq_block ?_ | refine eq_block_exit ?_ | refine eq_block_ret ?_ | refine eq_block_exit_ne rfl ?_ | refine eq_back_ret ?_ | refine eq_back_exit ?_))
        refine el_cons rfl (eo_call1 rfl rfl rfl rfl rfl real_topo_Topo_Online (Online_any (i := 3) (j := 4) d ⟨rfl, rfl⟩ hRn.okT) ?_)
        (repeat (first | refine el_pure rfl rfl rfl rfl ?_ | refine ej_seq ?_ | refine ej_region ?_ | refine el_nil ?_ | refine eq_seq ?_ | refine eq_calm ?_ | refine ej_true rfl ?_ | refine ej_false rfl ?_ | refine el_skip rfl rfl rfl ?_ | refine ej_ret ?_ | refine ej_skip ?_ | refine ej_exit ?_ | refine ej_block ?_ | refine eq_seq_ret ?_ | refine eq_seq_exit ?_ | refine eq_block ?_ | refine eq_block_exit ?_ | refine eq_block_ret ?_ | refine eq_block_exit_ne rfl ?_ | refine eq_back_ret ?_ | refine eq_back_exit ?_))
        refine ej_dec rfl (fun h5 => absurd h5 (by omega)) (fun _ => ?_)
        (repeat (first | refine el_pure rfl rfl rfl rfl ?_ | refine ej_seq ?_ | refine ej_region ?_ | refine el_nil ?_ | refine eq_seq ?_ | refine eq_calm ?_ | refine ej_true rfl ?_ | refine ej_false rfl ?_ | refine el_skip rfl rfl rfl ?_ | refine ej_ret ?_ | refine ej_skip ?_ | refine ej_exit ?_ | refine ej_block ?_ | refine eq_seq_ret ?_ | refine eq_seq_exit ?_ | refine eq_block ?_ | refine eq_block_exit ?_ | refine eq_block_ret ?_ | refine eq_block_exit_ne rfl ?_ | refine eq_back_ret ?_ | refine eq_back_exit ?_ | refine el_cons rfl (eo_lenv rfl rfl rfl rfl rfl rfl ?_) | refine el_cons rfl (eo_arith rfl rfl rfl rfl rfl rfl ⟨by omega, by omega⟩ ?_)))
        exact eq_backP (d + 1) (by omega) (by omega) (le_of _ _ rfl) fun w hw => hw
      · (repeat (first | refine el_pure rfl rfl rfl rfl ?_ | refine ej_seq ?_ | refine ej_region ?_ | refine el_nil ?_ | refine eq_seq ?_ | refine eq_calm ?_ | refine ej_true rfl ?_ | refine ej_false rfl ?_ | refine el_skip rfl rfl rfl ?_ | refine ej_ret ?_ | refine ej_skip ?_ | refine ej_exit ?_ | refine ej_block ?_ | refine eq_seq_ret ?_ | refine eq_seq_exit ?_ | refine eq_block ?_ | refine eq_block_exit ?_ | refine eq_block_ret ?_ | refine eq_block_exit_ne rfl ?_ | refine eq_back_ret ?_ | refine eq_back_exit ?_ | refine el_cons rfl (eo_lenv rfl rfl rfl rfl rfl rfl ?_) | refine el_cons rfl (eo_arith rfl rfl rfl rfl rfl rfl ⟨by omega, by omega⟩ ?_)))
        refine eq_backP (k + 1) (by omega) (by omega) (le_of _ _ rfl) fun w hw => ?_
        rw [hTn, htn]; exact hw.drop 2
    · (repeat (first | refine el_pure rfl rfl rfl rfl ?_ | refine ej_seq ?_ | refine ej_region ?_ | refine el_nil ?_ | refine eq_seq ?_ | refine eq_calm ?_ | refine ej_true rfl ?_ | refine ej_false rfl ?_ | refine el_skip rfl rfl rfl ?_ | refine ej_ret ?_ | refine ej_skip ?_ | refine ej_exit ?_ | refine ej_block ?_ | refine eq_seq_ret ?_ | refine eq_seq_exit ?_ | refine eq_block ?_ | refine eq_block_exit ?_ | refine eq_block_ret ?_ | refine eq_block_exit_ne rfl ?_ | refine eq_back_ret ?_ | refine eq_back_exit ?_))
      exact eq_rett rfl fun w hw => ⟨rfl, hw.drop 3⟩
  · (repeat (first | refine el_pure rfl rfl rfl rfl ?_ | refine ej_seq ?_ | refine ej_region ?_ | refine el_nil ?_ | refine eq_seq ?_ | refine eq_calm ?_ | refine ej_true rfl ?_ | refine ej_false rfl ?_ | refine el_skip rfl rfl rfl ?_ | refine ej_ret ?_ | refine ej_skip ?_ | refine ej_exit ?_ | refine ej_block ?_ | refine eq_seq_ret ?_ | refine eq_seq_exit ?_ | refine eq_block ?_ | refine eq_block_exit ?_ | refine eq_block_ret ?_ | refine eq_block_exit_ne rfl ?_ | refine eq_back_ret ?_ | refine eq_back_exit ?_))
    refine el_cons rfl (eo_alloc rfl rfl rfl rfl fun b6 => ?_)
    (repeat (first | refine el_pure rfl rfl rfl rfl ?_ | refine ej_seq ?_ | refine ej_region ?_ | refine el_nil ?_ | refine eq_seq ?_ | refine eq_calm ?_ | refine ej_true rfl ?_ | refine ej_false rfl ?_ | refine el_skip rfl rfl rfl ?_ | refine ej_ret ?_ | refine ej_skip ?_ | refine ej_exit ?_ | refine ej_block ?_ | refine eq_seq_ret ?_ | refine eq_seq_exit ?_ | refine eq_block ?_ | refine eq_block_exit ?_ | refine eq_block_ret ?_ | refine eq_block_exit_ne rfl ?_ | refine eq_back_ret ?_ | refine eq_back_exit ?_))
    refine el_cons rfl (eo_stA 0 rfl rfl rfl rfl rfl h0.1.len (RT.one _) rfl rfl ?_)
    (repeat (first | refine el_pure rfl rfl rfl rfl ?_ | refine ej_seq ?_ | refine ej_region ?_ | refine el_nil ?_ | refine eq_seq ?_ | refine eq_calm ?_ | refine ej_true rfl ?_ | refine ej_false rfl ?_ | refine el_skip rfl rfl rfl ?_ | refine ej_ret ?_ | refine ej_skip ?_ | refine ej_exit ?_ | refine ej_block ?_ | refine eq_seq_ret ?_ | refine eq_seq_exit ?_ | refine eq_block ?_ | refine eq_block_exit ?_ | refine eq_block_ret ?_ | refine eq_block_exit_ne rfl ?_ | refine eq_back_ret ?_ | refine eq_back_exit ?_))
    exact eq_rett rfl fun w hw => ⟨rfl, hw.drop 1⟩

end Go.Proofs.Ytefahijlcmfpjaa
